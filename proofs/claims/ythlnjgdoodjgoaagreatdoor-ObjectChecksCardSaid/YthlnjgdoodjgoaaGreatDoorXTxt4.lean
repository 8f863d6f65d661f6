/- strings.ContainsAny for the four bytes that no ident bears. -/
import Derived.Test.YthlnjgdoodjgoaaGreatDoorXTxt2
import Derived.Test.YthlnjgdoodjgoaaGreatDoorXTxt3
set_option linter.unusedSimpArgs false
set_option linter.unusedVariables false
open List renaming any_cons → Yur, any_eq_true → Yuy, append_assoc → Ysw, append_nil → Yuh, cons_append → Yr7, contains_eq_mem → Ytj, contains_iff_mem → Yuz, drop_eq_getElem_cons → Yt7, drop_left' → Yu0, drop_of_length_le → Yt6, getElem_mem → Yu4, length_append → Ysv, length_cons → Ysk, length_drop → Ysc, length_nil → Yth, length_replicate → Yul, length_take → Ysb, mem_cons → Ytd, nil_append → Ytw, take_left' → Yu1, take_of_length_le → Ysu, take_zero → Yu5
open Nat renaming le_refl → Yr4, sub_zero → Ys5
open Int renaming cast_ofNat_Int → Yuk, natCast_add → Yuj, tdiv_eq_ediv_of_nonneg → Yu2, tmod_eq_emod_of_nonneg → Yu3
open Bool renaming and_eq_true → Ysj, and_false → Yuv, and_true → Ys3, eq_iff_iff → Yux, false_and → Yuq, false_or → Yup, not_false → Yug, not_true → Yuf, or_eq_true → Ys6, true_and → Yuo
open Option renaming getD_some → Ytc, map_some → Yr9
open Nat renaming reduceEqDiff → A9, reduceAdd → B0, reduceSub → B1, reduceMul → B2, reduceDiv → B3, reduceMod → B4, reduceBEq → B5, reduceLeDiff → B6, reduceLT → B7
open Int renaming reduceEq → B8, reduceNe → B9, reduceLT → C0, reduceLE → C1, reduceBEq → C2, reduceBNe → C3, reduceToNat → C4, reduceAdd → C5, reduceSub → C6, reduceMul → C7, reduceNeg → A2
namespace Cod
open Go
set_option maxRecDepth 100000
theorem Yc3 {r:Int} (h0:128≤r) (h1:r≤1114111):2≤(Zav r).length∧(Zav r).length≤4∧128≤bat (Zav r) ((Zav r).length-1):=by
  unfold Zav Utf8.encode Utf8.runeError
  simp only []
  generalize hc:(if Utf8.valid r=true then r.toNat else 65533)=c
  have hc0:128≤c:=by
    rw [←hc];split
    · omega
    · omega
  rw [if_neg (by omega)]
  split
  · refine ⟨by simp,by simp,?_⟩
    simp [bat]
    omega
  · split
    · refine ⟨by simp,by simp,?_⟩
      simp [bat]
      omega
    · refine ⟨by simp,by simp,?_⟩
      simp [bat]
      omega
theorem Zwc:S E0 F.A7 [.str [0,10,60,62],.int .i32 65533] []=some (.int .i64 (-1),[]):=Zde.2 ⟨300,by kernel_rfl⟩
theorem Zlj {r:Int} (h0:0≤r) (h1:r<128):S E0 F.A7 [.str [0,10,60,62],.int .i32 r] []=some (.int .i64 (I0 [0,10,60,62] (byt r)),[]):=by
  rw [Zbn Zbi rfl rfl]
  have h2:IntKind.u8.wrap r=r:=by rw [Zcp];omega
  simp -dsimp (disch:=first|omega|(simp only [A3]<;>omega)|fail) only [L.A7,go_sem,reduceIte,reduceCtorEq,A9,B0,B1,B2,B3,B4,B5,B6,B7,B8,B9,C0,C1,C2,C3,C4,C5,C6,C7,A2,K9 h0,K9 h1,h2,Zbj]
theorem Zwd {r:Int} (h0:128≤r) (h1:r≤1114111):S E0 F.A7 [.str [0,10,60,62],.int .i32 r] []=some (.int .i64 (-1),[]):=by
  by_cases he:r=65533
  · subst he;exact Zwc
  · have h2:¬ r<128:=by omega
    have h3:(0:Int)≤r:=by omega
    rw [Zbn Zbi rfl rfl]
    have hvv:S E0 F.K8 [.int .i32 r] []=some (.bool (decide (r<55296)||decide (57343<r)),[]):=by rw [Zpd h0,K9 h1,Ys3]
    cases hv:(decide (r<55296)||decide (57343<r)) with
    | false=>simp -dsimp (disch:=first|omega|(simp only [A3]<;>omega)|fail) only [L.A7,go_sem,reduceIte,reduceCtorEq,A9,B0,B1,B2,B3,B4,B5,B6,B7,B8,B9,C0,C1,C2,C3,C4,C5,C6,C7,A2,K9 h3,Zas h2,Zdx he,hvv,hv]
    | true =>
      obtain ⟨e1,e2,e3⟩:=Yc3 h0 h1
      simp -dsimp (disch:=first|omega|(simp only [A3]<;>omega)|fail) only [L.A7,go_sem,reduceIte,reduceCtorEq,A9,B0,B1,B2,B3,B4,B5,B6,B7,B8,B9,C0,C1,C2,C3,C4,C5,C6,C7,A2,K9 h3,Zas h2,Zdx he,hvv,hv]
      rw [G8 L.A7.x1.eq_1]
      have hb:=O4 (Zav r) ((Zav r).length-1)
      have hno:∀ l:List UInt8,(∀ c∈l,c.toNat<128)→I0 l (byt (bat (Zav r) ((Zav r).length-1))) = -1:=by
        intro l hl
        unfold I0
        rw [if_neg]
        intro hm
        have:=hl _ hm
        have h5:((byt (bat (Zav r) ((Zav r).length-1))).toNat:Int)=bat (Zav r) ((Zav r).length-1):=by
          have:=Znv hb.1 hb.2
          simp only [AV.int.injEq,true_and] at this
          exact this.symm
        omega
      have b4:=hno [60,62] (by simp)
      have b5:=hno [62] (by simp)
      have b6:=hno [] (by simp)
      have hk:(Zav r).length=2∨(Zav r).length=3∨(Zav r).length=4:=by omega
      rcases hk with e4|e4|e4<;>rw [e4] at e3 b4 b5 b6<;>simp only [Nat.reduceSub] at e3 b4 b5 b6
      · have b1:bat [0,10,60,62] 1=10:=rfl
        have b2:((((10:UInt8).toNat:Nat):Int) != bat (Zav r) 1)=true:=Zm6 (by show (10:Int)≠_;omega)
        have b3:(((2:Nat):Int)-1).toNat=1:=rfl
        have b7:List.drop (((2:Nat):Int)-1+1).toNat ([0,10,60,62]:List UInt8)=[60,62]:=rfl
        simp -dsimp (disch:=first|omega|(simp only [A3]<;>omega)|fail) only [go_sem,reduceIte,reduceCtorEq,A9,B0,B1,B2,B3,B4,B5,B6,B7,B8,B9,C0,C1,C2,C3,C4,C5,C6,C7,A2,L.A7.r2,e4,b1,b2,b3,Zbj,E3,E2,D5,b7,b4]
      · have b1:bat [0,10,60,62] 2=60:=rfl
        have b2:((((60:UInt8).toNat:Nat):Int) != bat (Zav r) 2)=true:=Zm6 (by show (60:Int)≠_;omega)
        have b3:(((3:Nat):Int)-1).toNat=2:=rfl
        have b7:List.drop (((3:Nat):Int)-1+1).toNat ([0,10,60,62]:List UInt8)=[62]:=rfl
        simp -dsimp (disch:=first|omega|(simp only [A3]<;>omega)|fail) only [go_sem,reduceIte,reduceCtorEq,A9,B0,B1,B2,B3,B4,B5,B6,B7,B8,B9,C0,C1,C2,C3,C4,C5,C6,C7,A2,L.A7.r2,e4,b1,b2,b3,Zbj,E3,E2,D5,b7,b5]
      · have b1:bat [0,10,60,62] 3=62:=rfl
        have b2:((((62:UInt8).toNat:Nat):Int) != bat (Zav r) 3)=true:=Zm6 (by show (62:Int)≠_;omega)
        have b3:(((4:Nat):Int)-1).toNat=3:=rfl
        have b7:List.drop (((4:Nat):Int)-1+1).toNat ([0,10,60,62]:List UInt8)=[]:=rfl
        simp -dsimp (disch:=first|omega|(simp only [A3]<;>omega)|fail) only [go_sem,reduceIte,reduceCtorEq,A9,B0,B1,B2,B3,B4,B5,B6,B7,B8,B9,C0,C1,C2,C3,C4,C5,C6,C7,A2,L.A7.r2,e4,b1,b2,b3,Zbj,E3,E2,D5,b7,b6]
def Zdn (b:UInt8):Bool:=b==0||(b==10||(b==60||b==62))
theorem Ykr:∀ n:Nat,n<256→decide (0≤I0 [0,10,60,62] (UInt8.ofNat n))=Zdn (UInt8.ofNat n):=by decide +kernel
theorem Yks (b:UInt8):(0≤I0 [0,10,60,62] b)↔Zdn b=true:=by
  have:=Ykr b.toNat b.toNat_lt
  rw [UInt8.ofNat_toNat] at this
  rw [←this,decide_eq_true_eq]
theorem Yql:∀ n:Nat,n<256→128≤n→Zdn (UInt8.ofNat n)=false:=by decide +kernel
theorem Yc4 {s:List UInt8} (hs:s.length≤1000000):∀ (m p:Nat),p+m≤s.length→s.length≤p+m→∃ i:Int,((0≤i)↔(s.drop p).any Zdn=true) ∧
    X E0 [.tmp 4] (.c L.A6.x1::.lp [1,45] L.A6.x1::.blk 2::.c L.A6.r2::[]) ⟨[(1,.str [0,10,60,62]),(45,.it (.s 1000000 0) 0)],[(.s 1000000 0,⟨0,true,true,true,[.itr s p]⟩)]⟩=some (.int .i64 i,[]):=by
  intro m
  induction m using Nat.strongRecOn with
  | _ m ih =>
    intro p h1 h2
    rw [G8 L.A6.x1.eq_1]
    by_cases hp:p<s.length
    · have hd:s.drop p=s.getD p 0::s.drop (p+1):=by
        rw [Yt7 hp];simp [hp]
      rcases Zmd hp with ⟨e1,e2,e3⟩|⟨e1,e2,e3,e4,e5⟩
      · cases hbad:Zdn (s.getD p 0) with
        | true =>
          have h3:=(Yks (byt (bat s p))).2 (by rw [Zbk];exact hbad)
          refine ⟨p,⟨fun _=>by rw [hd,Yur,hbad];rfl,fun _=>by omega⟩,?_⟩
          simp -dsimp (disch:=first|omega|(simp only [A3]<;>omega)|fail) only [go_sem,reduceIte,reduceCtorEq,A9,B0,B1,B2,B3,B4,B5,B6,B7,B8,B9,C0,C1,C2,C3,C4,C5,C6,C7,A2,hp,e2,e3,Zlj (O4 s p).1 e1,K9 h3]
        | false =>
          have h3:¬ 0≤I0 [0,10,60,62] (byt (bat s p)):=fun h=>by rw [Yks,Zbk,hbad] at h;cases h
          obtain ⟨i,h4,h5⟩:=ih (m-1) (by omega) (p+1) (by omega) (by omega)
          refine ⟨i,by rw [h4,hd,Yur,hbad,Yup],?_⟩
          rw [←h5]
          simp -dsimp (disch:=first|omega|(simp only [A3]<;>omega)|fail) only [go_sem,reduceIte,reduceCtorEq,A9,B0,B1,B2,B3,B4,B5,B6,B7,B8,B9,C0,C1,C2,C3,C4,C5,C6,C7,A2,hp,e2,e3,Zlj (O4 s p).1 e1,Zas h3]
      · have hw:p+(Zat s p).2≤s.length:=by
          have:=(e5 (p+(Zat s p).2-1) (by omega) (by omega)).1
          omega
        obtain ⟨i,h4,h5⟩:=ih (m-(Zat s p).2) (by omega) (p+(Zat s p).2) (by omega) (by omega)
        refine ⟨i,?_,?_⟩
        · rw [h4]
          have:∀ w,p+w≤s.length→(∀ j,p≤j→j<p+w→j<s.length∧128≤bat s j)→(s.drop p).any Zdn=(s.drop (p+w)).any Zdn:=by
            intro w
            induction w with
            | zero=>intro _ _;rfl
            | succ w ihw =>
              intro hw1 hw2
              rw [ihw (by omega) (fun j j1 j2=>hw2 j j1 (by omega)),Yt7 (by omega:p+w<s.length),Yur]
              have hh:=(hw2 (p+w) (by omega) (by omega)).2
              have:Zdn s[p+w]=false:=by
                unfold bat at hh
                rw [List.getD_eq_getElem?_getD,List.getElem?_eq_getElem (by omega),Ytc] at hh
                have h9:=Yql s[p+w].toNat (UInt8.toNat_lt _) (by omega)
                rwa [UInt8.ofNat_toNat] at h9
              rw [this,Yup]
              rfl
          rw [this _ hw e5]
        · rw [←h5]
          have h6:=Zwd (r:=((Zat s p).1:Int)) (by omega) (by omega)
          simp -dsimp (disch:=first|omega|(simp only [A3]<;>omega)|fail) only [go_sem,reduceIte,reduceCtorEq,A9,B0,B1,B2,B3,B4,B5,B6,B7,B8,B9,C0,C1,C2,C3,C4,C5,C6,C7,A2,hp,h6]
    · refine ⟨-1,⟨fun h=>by omega,fun h=>by rw [Yt6 (by omega)] at h;simp at h⟩,?_⟩
      simp -dsimp (disch:=first|omega|(simp only [A3]<;>omega)|fail) only [go_sem,reduceIte,reduceCtorEq,A9,B0,B1,B2,B3,B4,B5,B6,B7,B8,B9,C0,C1,C2,C3,C4,C5,C6,C7,A2,hp,L.A6.r2]
def Ziz:List AV:=(List.range 256).map fun i=>.bool (i==0||(i==10||(i==60||i==62)))
theorem Yqm:S E0 F.P7 [.str [0,10,60,62]] []=some (.tup [.agg Ziz,.bool true],[]):=Zde.2 ⟨300,by kernel_rfl⟩
theorem Ykt:∀ n:Nat,n<256→Ziz[n]? = some (.bool (Zdn (UInt8.ofNat n))):=by
  intro n hn
  simp only [Ziz,List.getElem?_map,List.getElem?_range hn,Yr9,Zdn]
  have:∀ n:Nat,n<256→(n==0||(n==10||(n==60||n==62)))=(UInt8.ofNat n==0||(UInt8.ofNat n==10||(UInt8.ofNat n==60||UInt8.ofNat n==62))):=by decide +kernel
  rw [this n hn]
theorem Zbz:flats Ziz=true:=by kernel_rfl
theorem Zb8:Ziz.length=256:=by simp [Ziz]
theorem Yqn {b:Int} (h0:0≤b) (h1:b<256):Ziz[b.toNat]? = some (.bool (Zdn (byt b))):=Ykt b.toNat (by omega)
theorem Zrs:leadss Ziz=false:=by kernel_rfl
theorem Zrt:refsOfs Ziz=[]:=by kernel_rfl
theorem Zru (f:Site→Nat→Option (Site × Nat)):rens f Ziz=Ziz:=rens_flats Ziz Zbz
theorem Zmk:K4 Ziz=true:=by kernel_rfl
theorem Zlk {x:Site} {b:Int} (h0:0≤b) (h1:b<256):S E0 F.M9 [.ref (.up x) 0 0,.int .u8 b] [(.up x,⟨0,true,true,true,Ziz⟩)]=some (.bool (Zdn (byt b)),[(.up x,⟨0,true,true,true,Ziz⟩)]):=by
  rw [Zbn Zgl rfl rfl]
  simp -dsimp (disch:=first|omega|(simp only [A3]<;>omega)|fail) only [L.M9,go_sem,reduceIte,reduceCtorEq,A9,B0,B1,B2,B3,B4,B5,B6,B7,B8,B9,C0,C1,C2,C3,C4,C5,C6,C7,A2,Zb8,Zbz,Zrs,Zrt,Zru,Zmk,Yqn h0 h1]
theorem Yc5 {s:List UInt8} (hs:s.length≤1000000):∀ (m p:Nat),p+m=s.length→∃ i:Int,((0≤i)↔(s.drop p).any Zdn=true) ∧
    X E0 [.tmp 4] (.c L.A6.x0::.lp [0,6,8] L.A6.x0::.blk 0::.c L.A6.r0::.c L.A6.r1::[]) ⟨[(0,.str s),(6,.ref (.s 1000000 0) 0 0),(8,.int .i64 p)],[(.s 1000000 0,⟨0,true,true,true,Ziz⟩)]⟩=some (.int .i64 i,[]):=by
  intro m
  induction m with
  | zero =>
    intro p h
    refine ⟨-1,⟨fun h=>by omega,fun h=>by rw [Yt6 (by omega)] at h;simp at h⟩,?_⟩
    rw [G8 L.A6.x0.eq_1]
    simp -dsimp (disch:=first|omega|(simp only [A3]<;>omega)|fail) only [go_sem,reduceIte,reduceCtorEq,A9,B0,B1,B2,B3,B4,B5,B6,B7,B8,B9,C0,C1,C2,C3,C4,C5,C6,C7,A2,Zb8,Zbz,Zrs,Zrt,Zru,Zmk,L.A6.r0]
  | succ m ih =>
    intro p h
    have hp:p<s.length:=by omega
    have hd:s.drop p=s.getD p 0::s.drop (p+1):=by
      rw [Yt7 hp];simp [hp]
    obtain ⟨b0,b1⟩:=O4 s p
    cases hbad:Zdn (s.getD p 0) with
    | true =>
      have h3:Zdn (byt (bat s p))=true:=by rw [Zbk];exact hbad
      refine ⟨p,⟨fun _=>by rw [hd,Yur,hbad];rfl,fun _=>by omega⟩,?_⟩
      rw [G8 L.A6.x0.eq_1]
      simp -dsimp (disch:=first|omega|(simp only [A3]<;>omega)|fail) only [go_sem,reduceIte,reduceCtorEq,A9,B0,B1,B2,B3,B4,B5,B6,B7,B8,B9,C0,C1,C2,C3,C4,C5,C6,C7,A2,Zb8,Zbz,Zrs,Zrt,Zru,Zmk,Zlk b0 b1,h3]
    | false =>
      have h3:Zdn (byt (bat s p))=false:=by rw [Zbk];exact hbad
      obtain ⟨i,h4,h5⟩:=ih (p+1) (by omega)
      refine ⟨i,by rw [h4,hd,Yur,hbad,Yup],?_⟩
      rw [←h5,G8 L.A6.x0.eq_1]
      simp -dsimp (disch:=first|omega|(simp only [A3]<;>omega)|fail) only [go_sem,reduceIte,reduceCtorEq,A9,B0,B1,B2,B3,B4,B5,B6,B7,B8,B9,C0,C1,C2,C3,C4,C5,C6,C7,A2,Zb8,Zbz,Zrs,Zrt,Zru,Zmk,Zlk b0 b1,h3]
      rfl
theorem Yqo {s:List UInt8} (hs:s.length≤1000000):∃ i:Int,((0≤i)↔s.any Zdn=true)∧S E0 F.A6 [.str s,.str [0,10,60,62]] []=some (.int .i64 i,[]):=by
  rw [Zbn Zgk rfl rfl]
  have e0:(([0,10,60,62]:List UInt8) == [])=false:=rfl
  by_cases h8:8<s.length
  · obtain ⟨i,h1,h2⟩:=Yc5 hs s.length 0 (by omega)
    refine ⟨i,by simpa using h1,?_⟩
    rw [←h2]
    have h9:decide (8<(s.length:Int))=true:=by simp;omega
    simp -dsimp (disch:=first|omega|(simp only [A3]<;>omega)|fail) only [L.A6,go_sem,reduceIte,reduceCtorEq,A9,B0,B1,B2,B3,B4,B5,B6,B7,B8,B9,C0,C1,C2,C3,C4,C5,C6,C7,A2,Zb8,Zbz,Zrs,Zrt,Zru,Zmk,e0,Zmf,h9,Yqm]
    rfl
  · obtain ⟨i,h1,h2⟩:=Yc4 hs s.length 0 (by omega) (by omega)
    refine ⟨i,by simpa using h1,?_⟩
    rw [←h2]
    have h9:decide (8<(s.length:Int))=false:=by simp;omega
    simp -dsimp (disch:=first|omega|(simp only [A3]<;>omega)|fail) only [L.A6,go_sem,reduceIte,reduceCtorEq,A9,B0,B1,B2,B3,B4,B5,B6,B7,B8,B9,C0,C1,C2,C3,C4,C5,C6,C7,A2,Zb8,Zbz,Zrs,Zrt,Zru,Zmk,e0,Zmf,h9,L.A6.r1]
theorem Zwe {s:List UInt8} (hs:s.length≤1000000):S E0 F.J5 [.str s,.str [0,10,60,62]] []=some (.bool (s.any Zdn),[]):=by
  rw [Zbn Zgi rfl rfl]
  obtain ⟨i,h1,h2⟩:=Yqo hs
  have h3:decide (0≤i)=s.any Zdn:=by
    cases h:s.any Zdn with
    | true=>simp [h1.2 h]
    | false=>rw [decide_eq_false_iff_not,h1,h];simp
  simp -dsimp (disch:=first|omega|(simp only [A3]<;>omega)|fail) only [L.J5,go_sem,reduceIte,reduceCtorEq,A9,B0,B1,B2,B3,B4,B5,B6,B7,B8,B9,C0,C1,C2,C3,C4,C5,C6,C7,A2,h2,h3]
end Cod
namespace Cod
open Go
theorem Zll {s:List UInt8} (hs:s.length≤1000000):S E F.J5 [.str s,.str [0,10,60,62]] []=some (.bool (s.any Zdn),[]):=M5 ext0 (Zwe hs)
theorem Yku (s:List UInt8):s.any Zdn=(s.contains 0||(s.contains 10||(s.contains 60||s.contains 62))):=by
  rw [Yux]
  simp only [Yuy,Zdn,Ys6,beq_iff_eq,Yuz]
  constructor
  · rintro ⟨b,hb,h|h|h|h⟩<;>subst h<;>simp [hb]
  · rintro (h|h|h|h)
    · exact ⟨_,h,.inl rfl⟩
    · exact ⟨_,h,.inr (.inl rfl)⟩
    · exact ⟨_,h,.inr (.inr (.inl rfl))⟩
    · exact ⟨_,h,.inr (.inr (.inr rfl))⟩
theorem Zrv (s:List UInt8):Z0 s=(decide (s.length≤100) && !s.any Zdn):=by
  unfold Z0
  rw [Yku]
  simp only [Bool.not_or]
theorem Yc6 {i:Idt}:S E F.F5 [.agg i.cells] []=some (.bool (D7 i),[]):=by
  rw [S_of Zu5 rfl rfl]
  unfold D7
  rw [Zrv,Zrv]
  by_cases l0:100<i.name.length
  · simp -dsimp (disch:=first|omega|(simp only [A3]<;>omega)|fail) only [L.F5,L.F5.x0,go_sem,reduceIte,reduceCtorEq,A9,B0,B1,B2,B3,B4,B5,B6,B7,B8,B9,C0,C1,C2,C3,C4,C5,C6,C7,A2,Idt.cells,l0]
  · have h0:=Zll (s:=i.name) (by omega)
    have l0':i.name.length≤100:=by omega
    cases c0:i.name.any Zdn
    · by_cases l1:100<i.email.length
      · simp -dsimp (disch:=first|omega|(simp only [A3]<;>omega)|fail) only [L.F5,L.F5.x0,go_sem,reduceIte,reduceCtorEq,A9,B0,B1,B2,B3,B4,B5,B6,B7,B8,B9,C0,C1,C2,C3,C4,C5,C6,C7,A2,Idt.cells,l0,l0',l1,h0,c0,Yuv,Yuq]
      · have h1:=Zll (s:=i.email) (by omega)
        have l1':i.email.length≤100:=by omega
        cases c1:i.email.any Zdn
        · have e1:decide (-1440<i.zone)=decide (-1439≤i.zone):=by rw [decide_eq_decide];omega
          have e2:decide (i.zone<1440)=decide (i.zone≤1439):=by rw [decide_eq_decide];omega
          by_cases t0:0≤i.time
          · by_cases t1:i.time≤1099511627776
            · by_cases z0 : -1439≤i.zone
              · by_cases z1:i.zone≤1439<;>simp -dsimp (disch:=first|omega|(simp only [A3]<;>omega)|fail) only [L.F5,L.F5.x0,L.F5.r0,go_sem,reduceIte,reduceCtorEq,A9,B0,B1,B2,B3,B4,B5,B6,B7,B8,B9,C0,C1,C2,C3,C4,C5,C6,C7,A2,Idt.cells,l0,l0',l1,l1',h0,c0,h1,c1,t0,t1,z0,z1,decide_true,decide_false,Yug,Ys3,Yuo]
              · simp -dsimp (disch:=first|omega|(simp only [A3]<;>omega)|fail) only [L.F5,L.F5.x0,L.F5.r0,go_sem,reduceIte,reduceCtorEq,A9,B0,B1,B2,B3,B4,B5,B6,B7,B8,B9,C0,C1,C2,C3,C4,C5,C6,C7,A2,Idt.cells,l0,l0',l1,l1',h0,c0,h1,c1,t0,t1,z0,decide_true,decide_false,Yug,Ys3,Yuo,Yuq]
            · simp -dsimp (disch:=first|omega|(simp only [A3]<;>omega)|fail) only [L.F5,L.F5.x0,L.F5.r0,go_sem,reduceIte,reduceCtorEq,A9,B0,B1,B2,B3,B4,B5,B6,B7,B8,B9,C0,C1,C2,C3,C4,C5,C6,C7,A2,Idt.cells,l0,l0',l1,l1',h0,c0,h1,c1,t0,t1,decide_true,decide_false,Yug,Ys3,Yuo,Yuq]
          · simp -dsimp (disch:=first|omega|(simp only [A3]<;>omega)|fail) only [L.F5,L.F5.x0,L.F5.r0,go_sem,reduceIte,reduceCtorEq,A9,B0,B1,B2,B3,B4,B5,B6,B7,B8,B9,C0,C1,C2,C3,C4,C5,C6,C7,A2,Idt.cells,l0,l0',l1,l1',h0,c0,h1,c1,t0,decide_true,decide_false,Yug,Ys3,Yuo,Yuq]
        · simp -dsimp (disch:=first|omega|(simp only [A3]<;>omega)|fail) only [L.F5,L.F5.x0,go_sem,reduceIte,reduceCtorEq,A9,B0,B1,B2,B3,B4,B5,B6,B7,B8,B9,C0,C1,C2,C3,C4,C5,C6,C7,A2,Idt.cells,l0,l0',l1,l1',h0,c0,h1,c1,Yuf,Yuv,Yuq]
    · simp -dsimp (disch:=first|omega|(simp only [A3]<;>omega)|fail) only [L.F5,L.F5.x0,go_sem,reduceIte,reduceCtorEq,A9,B0,B1,B2,B3,B4,B5,B6,B7,B8,B9,C0,C1,C2,C3,C4,C5,C6,C7,A2,Idt.cells,l0,l0',h0,c0,Yuf,Yuv,Yuq]
end Cod
namespace Cod
open Go
theorem Znc:∀ n:Nat,n<1440→(Lib.itoa (10000+(n:Int)/60*100+(n:Int)%60)).drop 1=two ((n:Int)/60)++two ((n:Int)%60)∧(Lib.itoa (10000+(n:Int)/60*100+(n:Int)%60)).length=5:=by
  intro n hn
  have e:(10000+(n:Int)/60*100+(n:Int)%60)=((10000+n/60*100+n%60:Nat):Int):=by omega
  rw [e]
  have h1:n/60<24:=by omega
  have h2:n%60<60:=by omega
  rw [Lib.itoa_nonneg]
  generalize ha:n/60=a at *
  generalize hb:n%60=b at *
  have d:Lib.decDigits (10000+a*100+b)=[49,UInt8.ofNat (48+a/10),UInt8.ofNat (48+a%10),UInt8.ofNat (48+b/10),UInt8.ofNat (48+b%10)]:=by
    rw [Lib.decDigits,dif_neg (by omega),Lib.decDigits,dif_neg (by omega),Lib.decDigits,dif_neg (by omega),Lib.decDigits,dif_neg (by omega),Lib.decDigits,dif_pos (by omega)]
    rw [show (10000+a*100+b)/10/10/10/10=1 by omega,show (10000+a*100+b)/10/10/10%10=a/10 by omega,show (10000+a*100+b)/10/10%10=a%10 by omega,show (10000+a*100+b)/10%10=b/10 by omega,show (10000+a*100+b)%10=b%10 by omega]
    rfl
  rw [d]
  refine ⟨?_,rfl⟩
  unfold two byt
  rw [show (48+((n:Int)/60)/10).toNat=48+a/10 by omega,show (48+((n:Int)/60)%10).toNat=48+a%10 by omega,show (48+((n:Int)%60)/10).toNat=48+b/10 by omega,show (48+((n:Int)%60)%10).toNat=48+b%10 by omega]
  rfl
theorem idt_0 (i:Idt):i.cells[0]? = some (.str i.name):=rfl
theorem idt_1 (i:Idt):i.cells[1]? = some (.str i.email):=rfl
theorem idt_2 (i:Idt):i.cells[2]? = some (.int .i64 i.time):=rfl
theorem idt_3 (i:Idt):i.cells[3]? = some (.int .i64 i.zone):=rfl
theorem Zh1 {i:Idt}:S E F.L6 [.agg i.cells] []=some (Z0w i,[]):=by
  have h0:=Yc6 (i:=i)
  rw [S_of Zum rfl rfl]
  unfold Z0w
  cases h:D7 i
  · simp -dsimp (disch:=first|omega|(simp only [A3,E6]<;>omega)|fail) only [L.L6,go_sem,reduceIte,reduceCtorEq,A9,B0,B1,B2,B3,B4,B5,B6,B7,B8,B9,C0,C1,C2,C3,C4,C5,C6,C7,A2,h0,h,Yug]
  · obtain ⟨p0,p1,t0,t1,z0,z1⟩:=(R7 i).1 h
    have hi:=Zo8 (n:=i.time) (by omega)
    have hl:=Lib.itoa_length_le i.time (by omega) (by omega)
    have hn:=Zaq p0
    have he:=Zaq p1
    by_cases hz:i.zone<0
    · obtain ⟨m,hm⟩:∃ m:Nat,-i.zone=m:=⟨(-i.zone).toNat,by omega⟩
      have hj:=Zo8 (n:=10000+(m:Int)/60*100+(m:Int)%60) (by omega)
      obtain ⟨d1,d2⟩:=Znc m (by omega)
      have d3:sub (Lib.itoa (10000+(m:Int)/60*100+(m:Int)%60)) 1 4=two ((m:Int)/60)++two ((m:Int)%60):=by
        unfold sub;rw [d1];rfl
      simp -dsimp (disch:=first|omega|(simp only [A3,E6]<;>omega)|fail) only [L.L6,go_sem,reduceIte,reduceCtorEq,A9,B0,B1,B2,B3,B4,B5,B6,B7,B8,B9,C0,C1,C2,C3,C4,C5,C6,C7,A2,h0,h,Yuf,idt_0,idt_1,idt_2,idt_3,hi,hz,Int.zero_sub,hm,S6,U9,hj,d2,d3]
      simp only [H1,Zbr,hz,if_true,hm,Ysw,Yr7,Ytw]
    · obtain ⟨m,hm⟩:∃ m:Nat,i.zone=m:=⟨i.zone.toNat,by omega⟩
      have hj:=Zo8 (n:=10000+(m:Int)/60*100+(m:Int)%60) (by omega)
      obtain ⟨d1,d2⟩:=Znc m (by omega)
      have d3:sub (Lib.itoa (10000+(m:Int)/60*100+(m:Int)%60)) 1 4=two ((m:Int)/60)++two ((m:Int)%60):=by
        unfold sub;rw [d1];rfl
      have hz2:¬ (m:Int)<0:=by omega
      simp -dsimp (disch:=first|omega|(simp only [A3,E6]<;>omega)|fail) only [L.L6,go_sem,reduceIte,reduceCtorEq,A9,B0,B1,B2,B3,B4,B5,B6,B7,B8,B9,C0,C1,C2,C3,C4,C5,C6,C7,A2,h0,h,Yuf,idt_0,idt_1,idt_2,idt_3,hi,hz2,hm,S6,U9,hj,d2,d3]
      simp only [H1,Zbr,hm,hz2,if_false,Ysw,Yr7,Ytw]
end Cod
namespace Cod
open Go
theorem Z5v {s:List UInt8} (hs:s.length≤1000000000000):∃ a b c d ok,S E F.H6 [.str s] []=some (.tup [.agg [.str a,.str b,.str c,.str d],.bool ok],[])∧c.length≤1000000000000∧d.length≤1000000000000:=by
  have hsub:∀ (l:List UInt8) (a n:Nat),(sub l a n).length≤l.length:=by
    intro l a n;unfold sub;rw [Ysb,Ysc];omega
  rcases Znb s 32 s.length with h|⟨i,h,hi,_⟩
  · exact ⟨[],[],[],[],false,cut_a hs h,by simp,by simp⟩
  · have hr:=hsub s 0 i
    have hz:=hsub s (i+1) (s.length-(i+1))
    rcases Znb (sub s 0 i) 32 (sub s 0 i).length with h1|⟨j,h1,hj,_⟩
    · exact ⟨[],[],[],_,false,cut_b hs h hi rfl rfl h1,by simp,by omega⟩
    · have hq:=hsub (sub s 0 i) (j+1) ((sub s 0 i).length-(j+1))
      by_cases h2:Lib.lastIndex (sub (sub s 0 i) 0 j) [32,60]<0∨Zf1 (sub (sub s 0 i) 0 j) [62]=false
      · exact ⟨[],[],_,_,false,cut_c hs h hi rfl rfl h1 hj rfl rfl h2,by omega,by omega⟩
      · have h3:¬ Lib.lastIndex (sub (sub s 0 i) 0 j) [32,60]<0:=fun x=>h2 (.inl x)
        have h4:Zf1 (sub (sub s 0 i) 0 j) [62]=true:=by
          cases hb:Zf1 (sub (sub s 0 i) 0 j) [62]
          · exact absurd (.inr hb) h2
          · rfl
        rcases Z5u (sub (sub s 0 i) 0 j) with h5|⟨k,h5⟩
        · exact absurd h5 h3
        · exact ⟨_,_,_,_,true,cut_d hs h hi rfl rfl h1 hj rfl rfl h5 (Yc2 h5 h4) h4,by omega,by omega⟩
theorem Zwf {a b:List UInt8}:sub (a++b) 0 a.length=a:=by unfold sub;simp
theorem Z0z {a b:List UInt8} {x:UInt8} {n m:Nat} (hn:n=a.length+1) (hm:m=b.length):sub (a++x::b) n m=b:=by
  subst hn hm;unfold sub;rw [show a++x::b=(a++[x])++b by simp,Yu0 (by simp),List.take_length]
theorem Zf2 {s:List UInt8} (h:Z0 s=true):0∉s∧10∉s∧60∉s∧62∉s:=by
  unfold Z0 at h
  simp only [Ysj,Bool.not_eq_true',Ytj,decide_eq_false_iff_not] at h
  exact ⟨h.2.1,h.2.2.1,h.2.2.2.1,h.2.2.2.2⟩
def Z3 (z:Int):Int:=if z<0 then -z else z
theorem Zh2 (z:Int):Zbr z=(if z<0 then 45 else 43)::(two (Z3 z/60)++two (Z3 z%60)):=rfl
theorem Zgw {z:Int} (h0 : -1439≤z) (h1:z≤1439):0≤Z3 z∧Z3 z<1440:=by unfold Z3;split<;>omega
theorem Yc7 {z:Int} (h0 : -1439≤z) (h1:z≤1439):32∉Zbr z:=by
  obtain ⟨a0,a1⟩:=Zgw h0 h1
  rw [Zh2]
  have:=Zwb (Z73 (a:=Z3 z/60) (b:=Z3 z%60) (by omega) (by omega) (by omega) (by omega)).1 (x:=32) (by unfold Zct;decide)
  simp only [Ytd,not_or]
  refine ⟨?_,this⟩
  split<;>decide
theorem Zpl (z:Int):(Zbr z).length=5:=rfl
theorem Zn2 (i:Idt):H1 i=(i.name++[32,60]++(i.email++[62])++32::Lib.itoa i.time)++32::Zbr i.zone:=by
  unfold H1;simp
theorem Zan {i:Idt} (h:D7 i=true):(H1 i).length≤1000:=by
  obtain ⟨p0,p1,t0,t1,z0,z1⟩:=(R7 i).1 h
  have hl:=Lib.itoa_length_le i.time (by omega) (by omega)
  have hn:=Zaq p0
  have he:=Zaq p1
  unfold H1
  simp only [Ysv,Ysk,Yth,Zpl]
  omega
theorem Z5w {i:Idt} (h:D7 i=true):S E F.H6 [.str (H1 i)] []=some (.tup [.agg [.str i.name,.str i.email,.str (Lib.itoa i.time),.str (Zbr i.zone)],.bool true],[]):=by
  obtain ⟨p0,p1,t0,t1,z0,z1⟩:=(R7 i).1 h
  have hs:=Zan h
  obtain ⟨d0,_,_⟩:=Zli t0
  have m1:=Zwb d0 (x:=32) (by unfold Zct;decide)
  have m2:=Yc7 z0 z1
  obtain ⟨_,_,e60,_⟩:=Zf2 p1
  have m3:60∉i.email++[62]:=by simp [e60]
  have hend:Zf1 (i.name++[32,60]++(i.email++[62])) [62]=true:=by
    rw [ends1]
    refine ⟨by simp,?_⟩
    rw [←Ysw]
    simp
  have hlen:(i.name++[32,60]++(i.email++[62])).length=i.name.length+2+(i.email.length+1):=by simp only [Ysv,Ysk,Yth]
  have:=cut_d (s:=H1 i) (i:=(i.name++[32,60]++(i.email++[62])++32::Lib.itoa i.time).length) (r:=i.name++[32,60]++(i.email++[62])++32::Lib.itoa i.time) (z:=Zbr i.zone) (j:=(i.name++[32,60]++(i.email++[62])).length) (q:=i.name++[32,60]++(i.email++[62])) (t:=Lib.itoa i.time) (k:=i.name.length)
    (by omega) (by rw [Zn2];exact Zrr m2) (by rw [Zn2];simp) (by rw [Zn2];exact Zwf) (by rw [Zn2];exact Z0z rfl (by simp only [Ysv,Ysk];omega))
    (Zrr m1) (by simp) Zwf (Z0z rfl (by simp only [Ysv,Ysk];omega)) (Ykq m3) (by rw [hlen];omega) hend
  rw [this]
  have e1:sub (i.name++[32,60]++(i.email++[62])) 0 i.name.length=i.name:=by rw [Ysw];exact Zwf
  have e2:sub (i.name++[32,60]++(i.email++[62])) (i.name.length+2) ((i.name++[32,60]++(i.email++[62])).length-1-(i.name.length+2))=i.email:=by
    rw [hlen,show i.name.length+2+(i.email.length+1)-1-(i.name.length+2)=i.email.length by omega]
    unfold sub
    rw [Yu0 (by simp),Yu1 rfl]
  rw [e1,e2]
theorem Z5x {s:List UInt8} {v:Int} (h:Lib.atoiAll s=.ok v) : -9223372036854775808≤v∧v<9223372036854775808:=by
  unfold Lib.atoiAll at h
  split at h
  · cases h
  · dsimp only at h
    split at h
    · cases h
    · cases h
    · split at h
      · cases h
      · split at h
        · cases h
        · cases h
          split<;>omega
def Zbs:List AV:=[.str [],.str [],.int .i64 0,.int .i64 0]
def Ze1:AV:=.tup [.agg Zbs,.int .i64 4]
theorem Zwg {i:Idt} (h:D7 i=true):S E F.I6 [.str (H1 i)] []=some (.tup [.agg i.cells,.int .i64 0],[]):=by
  obtain ⟨p0,p1,t0,t1,z0,z1⟩:=(R7 i).1 h
  obtain ⟨a0,a1⟩:=Zgw z0 z1
  have hs:=Zan h
  have hc:=Z5w h
  have hl:=Lib.itoa_length_le i.time (by omega) (by omega)
  obtain ⟨d0,d1,d2⟩:=Zli t0
  have ht:=Zvu (s:=Lib.itoa i.time) (by omega)
  rw [show Zi2 (Lib.itoa i.time)=.tup [.int .i64 i.time,.nili] by unfold Zi2;rw [Z0x d2 d0 (by omega)];simp only [d1]] at ht
  obtain ⟨q0,q1⟩:=Z73 (a:=Z3 i.zone/60) (b:=Z3 i.zone%60) (by omega) (by omega) (by omega) (by omega)
  have hz:=Zvu (s:=two (Z3 i.zone/60)++two (Z3 i.zone%60)) (by simp only [two,Ysv,Ysk,Yth];omega)
  rw [show Zi2 (two (Z3 i.zone/60)++two (Z3 i.zone%60))=.tup [.int .i64 (Z3 i.zone/60*100+Z3 i.zone%60),.nili] by unfold Zi2;rw [Z0x (by simp [two]) q0 (by omega)];simp only [q1]] at hz
  have e3:sub (Zbr i.zone) 1 4=two (Z3 i.zone/60)++two (Z3 i.zone%60):=rfl
  have e4:=Zpl i.zone
  have hp:S E F.L6 [.agg [.str i.name,.str i.email,.int .i64 i.time,.int .i64 i.zone]] []=some (.tup [.str (H1 i),.int .i64 0],[]):=by
    have hp:=Zh1 (i:=i)
    unfold Z0w at hp
    rw [if_pos h] at hp
    exact hp
  have e5:(Z3 i.zone/60*100+Z3 i.zone%60)/100*60+(Z3 i.zone/60*100+Z3 i.zone%60)%100=Z3 i.zone:=by omega
  have e7:(H1 i != H1 i)=false:=by simp
  rw [S_of Zkv rfl rfl]
  by_cases hn:i.zone<0
  · have hz2:Z3 i.zone = - i.zone:=by unfold Z3;rw [if_pos hn]
    have hb:bat (Zbr i.zone) 0=45:=by rw [Zh2,if_pos hn];rfl
    have e6:0-Z3 i.zone=i.zone:=by omega
    simp -dsimp (disch:=first|omega|(simp only [A3,E6]<;>omega)|fail) only [L.I6,go_sem,reduceIte,reduceCtorEq,A9,B0,B1,B2,B3,B4,B5,B6,B7,B8,B9,C0,C1,C2,C3,C4,C5,C6,C7,A2,hc,ht,hz,e3,e4,S6,U9,e5,hb,e6,hp,e7,Idt.cells]
  · have hz2:Z3 i.zone=i.zone:=by unfold Z3;rw [if_neg hn]
    have hb:bat (Zbr i.zone) 0=43:=by rw [Zh2,if_neg hn];rfl
    rw [hz2] at hz e3 e5
    simp -dsimp (disch:=first|omega|(simp only [A3,E6]<;>omega)|fail) only [L.I6,go_sem,reduceIte,reduceCtorEq,A9,B0,B1,B2,B3,B4,B5,B6,B7,B8,B9,C0,C1,C2,C3,C4,C5,C6,C7,A2,hc,ht,hz,e3,e4,S6,U9,e5,hb,hp,e7,Idt.cells]
theorem Zjn (s:List UInt8):(∃ v,Lib.atoiAll s=.ok v∧Zi2 s=.tup [.int .i64 v,.nili] ∧ -9223372036854775808≤v∧v<9223372036854775808)∨∃ v T,Zi2 s=.tup [.int .i64 v,.ifc T .junk]:=by
  unfold Zi2
  split
  · rename_i v h
    left;exact ⟨v,h,rfl,Z5x h⟩
  · right;exact ⟨_,_,rfl⟩
  · right;exact ⟨_,_,rfl⟩
theorem Yqp {z:Int} (h0 : -9223372036854775808≤z) (h1:z<9223372036854775808):∃ q r,z.tdiv 100=q∧z.tmod 100=r ∧ -92233720368547758≤q∧q≤92233720368547758 ∧ -100<r∧r<100:=by
  by_cases h:0≤z
  · exact ⟨_,_,rfl,rfl,by rw [Yu2 h];omega,by rw [Yu2 h];omega,by rw [Yu3 h];omega,by rw [Yu3 h];omega⟩
  · obtain ⟨y,rfl⟩:∃ y,z = -y:=⟨-z,by omega⟩
    rw [Int.neg_tdiv,Int.neg_tmod]
    exact ⟨_,_,rfl,rfl,by rw [Yu2 (by omega)];omega,by rw [Yu2 (by omega)];omega,by rw [Yu3 (by omega)];omega,by rw [Yu3 (by omega)];omega⟩
theorem Ykv {s:List UInt8} (h:∀ i,D7 i=true→H1 i≠s) (a b:List UInt8) (t z:Int):∃ p e,S E F.L6 [.agg [.str a,.str b,.int .i64 t,.int .i64 z]] []=some (.tup [.str p,.int .i64 e],[])∧(e=3∨e=0∧(p==s)=false):=by
  have hp:=Zh1 (i:=⟨a,b,t,z⟩)
  unfold Z0w at hp
  by_cases hi:D7 ⟨a,b,t,z⟩=true
  · rw [if_pos hi] at hp
    exact ⟨_,_,hp,.inr ⟨rfl,by simpa using h _ hi⟩⟩
  · rw [if_neg hi] at hp
    exact ⟨_,_,hp,.inl rfl⟩
theorem Z00 {s:List UInt8} (hs:s.length≤1000000000000) (h:∀ i,D7 i=true→H1 i≠s):S E F.I6 [.str s] []=some (Ze1,[]):=by
  obtain ⟨a,b,c,d,ok,hc,lc,ld⟩:=Z5v hs
  rw [S_of Zkv rfl rfl]
  cases ok
  · simp -dsimp (disch:=first|omega|(simp only [A3,E6]<;>omega)|fail) only [L.I6,go_sem,reduceIte,reduceCtorEq,A9,B0,B1,B2,B3,B4,B5,B6,B7,B8,B9,C0,C1,C2,C3,C4,C5,C6,C7,A2,hc,Ze1,Zbs]
  · by_cases hd:d.length=5
    · have ht:=Zvu (s:=c) (by omega)
      have hsl:(sub d 1 4).length≤4:=by unfold sub;rw [Ysb];omega
      have hz:=Zvu (s:=sub d 1 4) (by omega)
      rcases Zjn c with ⟨t,_,e1,_⟩|⟨t,T1,e1⟩
      · rcases Zjn (sub d 1 4) with ⟨z,_,e2,z0,z1⟩|⟨z,T2,e2⟩
        · obtain ⟨q,r,hq,hr,q0,q1,r0,r1⟩:=Yqp z0 z1
          rw [e1] at ht
          rw [e2] at hz
          by_cases hb:bat d 0=45
          · obtain ⟨p,e,hp,hpe⟩:=Ykv h a b t (0-(q*60+r))
            rcases hpe with rfl|⟨rfl,hne⟩
            · simp -dsimp (disch:=first|omega|(simp only [A3,E6]<;>omega)|fail) only [L.I6,go_sem,reduceIte,reduceCtorEq,A9,B0,B1,B2,B3,B4,B5,B6,B7,B8,B9,C0,C1,C2,C3,C4,C5,C6,C7,A2,hc,ht,hz,hd,hq,hr,hb,hp,Ze1,Zbs]
            · simp -dsimp (disch:=first|omega|(simp only [A3,E6]<;>omega)|fail) only [L.I6,go_sem,reduceIte,reduceCtorEq,A9,B0,B1,B2,B3,B4,B5,B6,B7,B8,B9,C0,C1,C2,C3,C4,C5,C6,C7,A2,hc,ht,hz,hd,hq,hr,hb,hp,hne,Ze1,Zbs]
          · obtain ⟨p,e,hp,hpe⟩:=Ykv h a b t (q*60+r)
            rcases hpe with rfl|⟨rfl,hne⟩
            · simp -dsimp (disch:=first|omega|(simp only [A3,E6]<;>omega)|fail) only [L.I6,go_sem,reduceIte,reduceCtorEq,A9,B0,B1,B2,B3,B4,B5,B6,B7,B8,B9,C0,C1,C2,C3,C4,C5,C6,C7,A2,hc,ht,hz,hd,hq,hr,hb,hp,Ze1,Zbs]
            · simp -dsimp (disch:=first|omega|(simp only [A3,E6]<;>omega)|fail) only [L.I6,go_sem,reduceIte,reduceCtorEq,A9,B0,B1,B2,B3,B4,B5,B6,B7,B8,B9,C0,C1,C2,C3,C4,C5,C6,C7,A2,hc,ht,hz,hd,hq,hr,hb,hp,hne,Ze1,Zbs]
        · rw [e1] at ht
          rw [e2] at hz
          simp -dsimp (disch:=first|omega|(simp only [A3,E6]<;>omega)|fail) only [L.I6,go_sem,reduceIte,reduceCtorEq,A9,B0,B1,B2,B3,B4,B5,B6,B7,B8,B9,C0,C1,C2,C3,C4,C5,C6,C7,A2,hc,ht,hz,hd,Ze1,Zbs]
      · rw [e1] at ht
        rcases Zjn (sub d 1 4) with ⟨z,_,e2,z0,z1⟩|⟨z,T2,e2⟩
        · rw [e2] at hz
          simp -dsimp (disch:=first|omega|(simp only [A3,E6]<;>omega)|fail) only [L.I6,go_sem,reduceIte,reduceCtorEq,A9,B0,B1,B2,B3,B4,B5,B6,B7,B8,B9,C0,C1,C2,C3,C4,C5,C6,C7,A2,hc,ht,hz,hd,Ze1,Zbs]
        · rw [e2] at hz
          simp -dsimp (disch:=first|omega|(simp only [A3,E6]<;>omega)|fail) only [L.I6,go_sem,reduceIte,reduceCtorEq,A9,B0,B1,B2,B3,B4,B5,B6,B7,B8,B9,C0,C1,C2,C3,C4,C5,C6,C7,A2,hc,ht,hz,hd,Ze1,Zbs]
    · simp -dsimp (disch:=first|omega|(simp only [A3,E6]<;>omega)|fail) only [L.I6,go_sem,reduceIte,reduceCtorEq,A9,B0,B1,B2,B3,B4,B5,B6,B7,B8,B9,C0,C1,C2,C3,C4,C5,C6,C7,A2,hc,hd,Ze1,Zbs]
end Cod
namespace Cod
open Go
def scn (s:List UInt8) (c:UInt8):Nat→Nat→Nat
  | 0,i=>i
  | m+1,i=>if s.getD i 0=c then i else scn s c m (i+1)
theorem Ykw (s:List UInt8) (c:UInt8):∀ m i,i≤scn s c m i∧scn s c m i≤i+m:=by
  intro m
  induction m with
  | zero=>intro i;simp [scn]
  | succ m ih =>
    intro i
    unfold scn
    split
    · omega
    · have:=ih (i+1);omega
theorem Z74 (s:List UInt8) (c:UInt8):∀ m i,scn s c m i<i+m→s.getD (scn s c m i) 0=c:=by
  intro m
  induction m with
  | zero=>intro i h;simp [scn] at h
  | succ m ih =>
    intro i h
    unfold scn at h ⊢
    split
    · rename_i h1;exact h1
    · rename_i h1
      rw [if_neg h1] at h
      exact ih (i+1) (by omega)
theorem Ykx (s:List UInt8) (c:UInt8) (k:Nat) (hk:s.getD k 0=c):∀ m i,i≤k→k<i+m→(∀ j,i≤j→j<k→s.getD j 0≠c)→scn s c m i=k:=by
  intro m
  induction m with
  | zero=>intro i h1 h2;omega
  | succ m ih =>
    intro i h1 h2 h3
    unfold scn
    by_cases h:i=k
    · rw [h,if_pos hk]
    · rw [if_neg (h3 i (Yr4 _) (by omega))]
      exact ih (i+1) (by omega) (by omega) (fun j a b=>h3 j (by omega) b)
def σD:A5:=[(.s 1000000 0,⟨0,true,true,true,[.str [],.str [],.int .i64 0,.int .i64 0]⟩)]
theorem dp_l0 (k:List It) {s:List UInt8} {n:Int} (hs:s.length≤1000000000000):∀ (m i:Nat),i+m=s.length →
    X E [.cell 2 (some 4),.tmp 3] (.c L.D2.x0::.lp [0,2,4,5] L.D2.x0::.blk 0::k) ⟨[(0,.str s),(2,.ref (.s 1000000 0) 0 0),(4,.int .i64 n),(5,.int .i64 i)],σD⟩ =
    X E [.cell 2 (some 4),.tmp 3] k ⟨[(0,.str s),(2,.ref (.s 1000000 0) 0 0),(4,.int .i64 n),(5,.int .i64 (scn s 60 m i)),(21,.bool false)],σD⟩:=by
  intro m
  induction m with
  | zero =>
    intro i hi
    rw [G8 L.D2.x0.eq_1,scn]
    simp -dsimp (disch:=first|omega|(simp only [A3,E6]<;>omega)|fail) only [go_sem,reduceIte,reduceCtorEq,A9,B0,B1,B2,B3,B4,B5,B6,B7,B8,B9,C0,C1,C2,C3,C4,C5,C6,C7,A2,σD]
  | succ m ih =>
    intro i hi
    have hp:i<s.length:=by omega
    rw [G8 L.D2.x0.eq_1,scn]
    by_cases hc:s.getD i 0=60
    · rw [if_pos hc]
      have hb:(bat s i != 60)=false:=Yi7 (by unfold bat;rw [hc];rfl)
      simp -dsimp (disch:=first|omega|(simp only [A3,E6]<;>omega)|fail) only [go_sem,reduceIte,reduceCtorEq,A9,B0,B1,B2,B3,B4,B5,B6,B7,B8,B9,C0,C1,C2,C3,C4,C5,C6,C7,A2,hp,hb,σD]
    · rw [if_neg hc,←ih (i+1) (by omega)]
      have hb:(bat s i != 60)=true:=Zm6 (fun h=>hc (UInt8.toNat_inj.1 (by unfold bat at h;show (s.getD i 0).toNat=60;omega)))
      simp -dsimp (disch:=first|omega|(simp only [A3,E6]<;>omega)|fail) only [go_sem,reduceIte,reduceCtorEq,A9,B0,B1,B2,B3,B4,B5,B6,B7,B8,B9,C0,C1,C2,C3,C4,C5,C6,C7,A2,hp,hb,σD]
      rfl
theorem dp_l1 (k:List It) {s:List UInt8} {n a:Int} (hs:s.length≤1000000000000):∀ (m i:Nat),i+m=s.length →
    X E [.cell 2 (some 4),.tmp 3] (.c L.D2.x1::.lp [0,2,4,5,6] L.D2.x1::.blk 2::k) ⟨[(0,.str s),(2,.ref (.s 1000000 0) 0 0),(4,.int .i64 n),(5,.int .i64 a),(6,.int .i64 i)],σD⟩ =
    X E [.cell 2 (some 4),.tmp 3] k ⟨[(0,.str s),(2,.ref (.s 1000000 0) 0 0),(4,.int .i64 n),(5,.int .i64 a),(6,.int .i64 (scn s 62 m i)),(34,.bool false)],σD⟩:=by
  intro m
  induction m with
  | zero =>
    intro i hi
    rw [G8 L.D2.x1.eq_1,scn]
    simp -dsimp (disch:=first|omega|(simp only [A3,E6]<;>omega)|fail) only [go_sem,reduceIte,reduceCtorEq,A9,B0,B1,B2,B3,B4,B5,B6,B7,B8,B9,C0,C1,C2,C3,C4,C5,C6,C7,A2,σD]
  | succ m ih =>
    intro i hi
    have hp:i<s.length:=by omega
    rw [G8 L.D2.x1.eq_1,scn]
    by_cases hc:s.getD i 0=62
    · rw [if_pos hc]
      have hb:(bat s i != 62)=false:=Yi7 (by unfold bat;rw [hc];rfl)
      simp -dsimp (disch:=first|omega|(simp only [A3,E6]<;>omega)|fail) only [go_sem,reduceIte,reduceCtorEq,A9,B0,B1,B2,B3,B4,B5,B6,B7,B8,B9,C0,C1,C2,C3,C4,C5,C6,C7,A2,hp,hb,σD]
    · rw [if_neg hc,←ih (i+1) (by omega)]
      have hb:(bat s i != 62)=true:=Zm6 (fun h=>hc (UInt8.toNat_inj.1 (by unfold bat at h;show (s.getD i 0).toNat=62;omega)))
      simp -dsimp (disch:=first|omega|(simp only [A3,E6]<;>omega)|fail) only [go_sem,reduceIte,reduceCtorEq,A9,B0,B1,B2,B3,B4,B5,B6,B7,B8,B9,C0,C1,C2,C3,C4,C5,C6,C7,A2,hp,hb,σD]
      rfl
theorem Z5y:∀ (l:List UInt8) (v:Int),0≤v → -1≤Zpi l v∧Zpi l v<(v+1)*10^l.length:=by
  intro l
  induction l with
  | nil=>intro v h;simp only [Zpi,Yth,Int.pow_zero];omega
  | cons c r ih =>
    intro v h
    unfold Zpi
    have hpos:(0:Int)<10^r.length:=Int.pow_pos (by omega)
    split
    · refine ⟨by omega,?_⟩
      have:(0:Int)<(v+1)*10^(c::r).length:=Int.mul_pos (by omega) (Int.pow_pos (by omega))
      omega
    · rename_i hc
      obtain ⟨h1,h2⟩:=ih (10*v+(c.toNat-48)) (by omega)
      refine ⟨h1,Int.lt_of_lt_of_le h2 ?_⟩
      rw [Ysk,Int.pow_succ,Int.mul_comm (10^r.length) 10,←Int.mul_assoc]
      exact Int.mul_le_mul_of_nonneg_right (by omega) (Int.le_of_lt hpos)
theorem Z5z (l:List UInt8) : -1≤Zpj l∧Zpj l<10000000000000:=by
  unfold Zpj
  split
  · omega
  · rename_i h
    obtain ⟨h1,h2⟩:=Z5y l 0 (by omega)
    refine ⟨h1,?_⟩
    have h3:(10:Int)^l.length≤10^13:=by exact_mod_cast Nat.pow_le_pow_right (by omega) (by omega)
    have h4:(10:Int)^13=10000000000000:=by decide
    omega
def Zjo (s:List UInt8):Int:=Zpj (s.drop (s.length-6+2))
def Zit (s:List UInt8):Int:=if s.getD (s.length-6+1) 0=45 then 0-(Zjo s/100*60+Zjo s%100) else Zjo s/100*60+Zjo s%100
def Q4 (s:List UInt8):Nat:=scn s 60 s.length 0
def Zao (s:List UInt8):Nat:=scn s 62 (s.length-Q4 s) (Q4 s)
def Zg4 (s:List UInt8):Idt:=⟨s.take (Q4 s-1),sub s (Q4 s+1) (Zao s-(Q4 s+1)),Zpj (sub s (Zao s+2) (s.length-6-(Zao s+2))),Zit s⟩
def Zdy (s:List UInt8):Bool:=decide (6≤s.length∧1≤Q4 s∧Zao s+2+6≤s.length∧0≤Zjo s)&&(D7 (Zg4 s)&&decide (H1 (Zg4 s)=s))
theorem Znd {s:List UInt8} (hs:s.length≤1000000000000):S E F.D2 [.str s] []=some (if Zdy s=true then .tup [.agg (Zg4 s).cells,.int .i64 0] else Ze1,[]):=by
  have h0:=dp_l0 [.c L.D2.r0] (n:=(s.length:Int)-6) hs s.length 0 (by omega)
  have ha:=Ykw s 60 s.length 0
  have h1:=dp_l1 [.c L.D2.r1] (n:=(s.length:Int)-6) (a:=Q4 s) hs (s.length-Q4 s) (Q4 s) (by unfold Q4;omega)
  have hb:=Ykw s 62 (s.length-Q4 s) (Q4 s)
  have hah:Q4 s<s.length→s.getD (Q4 s) 0=60:=fun h=>Z74 s 60 s.length 0 (by unfold Q4 at h;omega)
  have hbh:Zao s<s.length→s.getD (Zao s) 0=62:=fun h=>Z74 s 62 (s.length-Q4 s) (Q4 s) (by unfold Zao at h;omega)
  simp only [Yuk] at h0
  change X E _ _ _=X E _ _ ⟨[_,_,_,(5,.int .i64 (Q4 s)),_],_⟩ at h0
  change X E _ _ _=X E _ _ ⟨[_,_,_,_,(6,.int .i64 (Zao s)),_],_⟩ at h1
  change Q4 s≤Zao s∧Zao s≤_ at hb
  change 0≤Q4 s∧Q4 s≤_ at ha
  unfold σD at h0 h1
  have hx:S E F.D2 [.str s] []=X E [.cell 2 (some 4),.tmp 3] [.c L.D2.r1] ⟨[(0,.str s),(2,.ref (.s 1000000 0) 0 0),(4,.int .i64 ((s.length:Int)-6)),(5,.int .i64 (Q4 s)),(6,.int .i64 (Zao s)),(34,.bool false)],[(.s 1000000 0,⟨0,true,true,true,[.str [],.str [],.int .i64 0,.int .i64 0]⟩)]⟩:=by
    rw [S_of Zt4 rfl rfl]
    simp -dsimp (disch:=first|omega|(simp only [A3,E6]<;>omega)|fail) only [L.D2,go_sem,reduceIte,reduceCtorEq,A9,B0,B1,B2,B3,B4,B5,B6,B7,B8,B9,C0,C1,C2,C3,C4,C5,C6,C7,A2]
    rw [h0]
    simp -dsimp (disch:=first|omega|(simp only [A3,E6]<;>omega)|fail) only [L.D2.r0,go_sem,reduceIte,reduceCtorEq,A9,B0,B1,B2,B3,B4,B5,B6,B7,B8,B9,C0,C1,C2,C3,C4,C5,C6,C7,A2]
    rw [h1]
  rw [hx]
  clear hx h0 h1
  by_cases c1:6≤s.length
  · by_cases c2:1≤Q4 s
    · by_cases c3:Zao s+2+6≤s.length
      · have hz:S E F.G7 [.str (s.drop (s.length-6+2))] []=some (.int .i64 (Zjo s),[]):=Zro
        have e1:((s.length:Int)-6+2).toNat=s.length-6+2:=by omega
        have e2:sub s (s.length-6+2) (s.length-(s.length-6+2))=s.drop (s.length-6+2):=D5 (by omega)
        by_cases c4:0≤Zjo s
        · have hlt:Q4 s<s.length:=by omega
          have hne:Q4 s≠Zao s:=by
            intro h
            have a1:=hah hlt
            have a2:=hbh (by omega)
            rw [h,a2] at a1
            cases a1
          have e3:((s.length:Int)-6+1).toNat=s.length-6+1:=by omega
          have e4:((Q4 s:Int)-1).toNat=Q4 s-1:=by omega
          have e5:((Q4 s:Int)+1).toNat=Q4 s+1:=by omega
          have e6:((Zao s:Int)+2).toNat=Zao s+2:=by omega
          have e7:((s.length:Int)-6).toNat=s.length-6:=by omega
          have hn:S E F.G7 [.str (sub s (Zao s+2) (s.length-6-(Zao s+2)))] []=some (.int .i64 (Zpj (sub s (Zao s+2) (s.length-6-(Zao s+2)))),[]):=Zro
          obtain ⟨z0,z1⟩:=Z5z (s.drop (s.length-6+2))
          change -1≤Zjo s at z0
          change Zjo s<_ at z1
          have hsub:∀ (a n:Nat),(sub s a n).length≤s.length:=by
            intro a n;unfold sub;rw [Ysb,Ysc];omega
          have hid:=Zis (i:=Zg4 s) (by have:=hsub 0 (Q4 s-1);exact Nat.le_trans this hs) (by have:=hsub (Q4 s+1) (Zao s-(Q4 s+1));exact Nat.le_trans this hs)
          have hb45:(bat s (s.length-6+1)==45)=decide (s.getD (s.length-6+1) 0=45):=by
            by_cases h:s.getD (s.length-6+1) 0=45
            · rw [decide_eq_true h];unfold bat;rw [h];rfl
            · rw [decide_eq_false h];exact Zdx (fun h2=>h (UInt8.toNat_inj.1 (by unfold bat at h2;show (s.getD (s.length-6+1) 0).toNat=45;omega)))
          have hcell:∀ w,Zit s=w→(Zg4 s).cells=[.str (sub s 0 (Q4 s-1)),.str (sub s (Q4 s+1) (Zao s-(Q4 s+1))),.int .i64 (Zpj (sub s (Zao s+2) (s.length-6-(Zao s+2)))),.int .i64 w]:=by
            intro w hw;rw [←hw];rfl
          have eOK:Zdy s=(D7 (Zg4 s)&&decide (H1 (Zg4 s)=s)):=by unfold Zdy;simp [c1,c2,c3,c4]
          rw [eOK]
          by_cases hm:s.getD (s.length-6+1) 0=45
          · have hw:=hcell (0-(Zjo s/100*60+Zjo s%100)) (by unfold Zit;rw [if_pos hm])
            rw [decide_eq_true hm] at hb45
            rw [hw] at hid
            cases ho:D7 (Zg4 s)
            · rw [ho] at hid
              simp -dsimp (disch:=first|omega|(simp only [A3,E6]<;>omega)|fail) only [L.D2.r1,go_sem,reduceIte,reduceCtorEq,A9,B0,B1,B2,B3,B4,B5,B6,B7,B8,B9,C0,C1,C2,C3,C4,C5,C6,C7,A2,Ze1,Zbs,e1,e2,e3,e4,e5,e6,e7,hz,S6,U9,hb45,hn,Ys5,hid,Yuq]
            · rw [ho] at hid
              have hp:=Zlh ho
              rw [hw] at hp
              by_cases he:H1 (Zg4 s)=s
              · have he2:(H1 (Zg4 s)==s)=true:=by simp [he]
                simp -dsimp (disch:=first|omega|(simp only [A3,E6]<;>omega)|fail) only [L.D2.r1,go_sem,reduceIte,reduceCtorEq,A9,B0,B1,B2,B3,B4,B5,B6,B7,B8,B9,C0,C1,C2,C3,C4,C5,C6,C7,A2,Ze1,Zbs,e1,e2,e3,e4,e5,e6,e7,hz,S6,U9,hb45,hn,Ys5,hid,hp,he2,decide_eq_true he,Yuo,hw]
              · have he2:(H1 (Zg4 s)==s)=false:=by simp [he]
                simp -dsimp (disch:=first|omega|(simp only [A3,E6]<;>omega)|fail) only [L.D2.r1,go_sem,reduceIte,reduceCtorEq,A9,B0,B1,B2,B3,B4,B5,B6,B7,B8,B9,C0,C1,C2,C3,C4,C5,C6,C7,A2,Ze1,Zbs,e1,e2,e3,e4,e5,e6,e7,hz,S6,U9,hb45,hn,Ys5,hid,hp,he2,decide_eq_false he,Yuo]
          · have hw:=hcell (Zjo s/100*60+Zjo s%100) (by unfold Zit;rw [if_neg hm])
            rw [decide_eq_false hm] at hb45
            rw [hw] at hid
            cases ho:D7 (Zg4 s)
            · rw [ho] at hid
              simp -dsimp (disch:=first|omega|(simp only [A3,E6]<;>omega)|fail) only [L.D2.r1,go_sem,reduceIte,reduceCtorEq,A9,B0,B1,B2,B3,B4,B5,B6,B7,B8,B9,C0,C1,C2,C3,C4,C5,C6,C7,A2,Ze1,Zbs,e1,e2,e3,e4,e5,e6,e7,hz,S6,U9,hb45,hn,Ys5,hid,Yuq]
            · rw [ho] at hid
              have hp:=Zlh ho
              rw [hw] at hp
              by_cases he:H1 (Zg4 s)=s
              · have he2:(H1 (Zg4 s)==s)=true:=by simp [he]
                simp -dsimp (disch:=first|omega|(simp only [A3,E6]<;>omega)|fail) only [L.D2.r1,go_sem,reduceIte,reduceCtorEq,A9,B0,B1,B2,B3,B4,B5,B6,B7,B8,B9,C0,C1,C2,C3,C4,C5,C6,C7,A2,Ze1,Zbs,e1,e2,e3,e4,e5,e6,e7,hz,S6,U9,hb45,hn,Ys5,hid,hp,he2,decide_eq_true he,Yuo,hw]
              · have he2:(H1 (Zg4 s)==s)=false:=by simp [he]
                simp -dsimp (disch:=first|omega|(simp only [A3,E6]<;>omega)|fail) only [L.D2.r1,go_sem,reduceIte,reduceCtorEq,A9,B0,B1,B2,B3,B4,B5,B6,B7,B8,B9,C0,C1,C2,C3,C4,C5,C6,C7,A2,Ze1,Zbs,e1,e2,e3,e4,e5,e6,e7,hz,S6,U9,hb45,hn,Ys5,hid,hp,he2,decide_eq_false he,Yuo]
        · have e:Zdy s=false:=by unfold Zdy;simp [c4]
          rw [e]
          simp -dsimp (disch:=first|omega|(simp only [A3,E6]<;>omega)|fail) only [L.D2.r1,go_sem,reduceIte,reduceCtorEq,A9,B0,B1,B2,B3,B4,B5,B6,B7,B8,B9,C0,C1,C2,C3,C4,C5,C6,C7,A2,Ze1,Zbs,e1,e2,hz]
      · have e:Zdy s=false:=by unfold Zdy;simp [c3]
        rw [e]
        simp -dsimp (disch:=first|omega|(simp only [A3,E6]<;>omega)|fail) only [L.D2.r1,go_sem,reduceIte,reduceCtorEq,A9,B0,B1,B2,B3,B4,B5,B6,B7,B8,B9,C0,C1,C2,C3,C4,C5,C6,C7,A2,Ze1,Zbs]
    · have e:Zdy s=false:=by unfold Zdy;simp [c2]
      rw [e]
      simp -dsimp (disch:=first|omega|(simp only [A3,E6]<;>omega)|fail) only [L.D2.r1,go_sem,reduceIte,reduceCtorEq,A9,B0,B1,B2,B3,B4,B5,B6,B7,B8,B9,C0,C1,C2,C3,C4,C5,C6,C7,A2,Ze1,Zbs]
  · have e:Zdy s=false:=by unfold Zdy;simp [c1]
    rw [e]
    simp -dsimp (disch:=first|omega|(simp only [A3,E6]<;>omega)|fail) only [L.D2.r1,go_sem,reduceIte,reduceCtorEq,A9,B0,B1,B2,B3,B4,B5,B6,B7,B8,B9,C0,C1,C2,C3,C4,C5,C6,C7,A2,Ze1,Zbs]
end Cod
namespace Cod
open Go
theorem Z50:∀ (k u:Nat),u<10^(k+1)→Lib.nDigits u≤k+1:=by
  intro k
  induction k with
  | zero=>intro u h;rw [Lib.nDigits_small (by simpa using h)];exact Yr4 _
  | succ k ih =>
    intro u h
    by_cases h1:u<10
    · rw [Lib.nDigits_small h1];omega
    · rw [Lib.nDigits_big h1]
      have:=ih (u/10) (by rw [Nat.pow_succ] at h;omega)
      omega
theorem Z51 {t:Int} (h0:0≤t) (h1:t≤1099511627776):(Lib.itoa t).length≤13:=by
  obtain ⟨u,rfl⟩:∃ u:Nat,t=u:=⟨t.toNat,by omega⟩
  rw [Lib.itoa_nonneg,Lib.decDigits_length]
  have hp:(10:Nat)^(12+1)=10000000000000:=by decide
  exact Z50 12 u (by omega)
theorem Zpm {a b:List UInt8} {j:Nat} (h:j<a.length):(a++b).getD j 0=a.getD j 0:=by
  rw [List.getD_eq_getElem?_getD,List.getElem?_append_left h,←List.getD_eq_getElem?_getD]
theorem Zjp {a b:List UInt8} {j k:Nat} (h:j=a.length+k):(a++b).getD j 0=b.getD k 0:=by
  rw [List.getD_eq_getElem?_getD,List.getElem?_append_right (by omega),show j-a.length=k by omega,←List.getD_eq_getElem?_getD]
theorem Z75 {a:List UInt8} {c:UInt8} {j:Nat} (h:c∉a) (hj:j<a.length):a.getD j 0≠c:=by
  intro e
  apply h
  rw [List.getD_eq_getElem?_getD,List.getElem?_eq_getElem hj] at e
  rw [←e]
  exact Yu4 _
section
variable (i:Idt)
def pA:List UInt8:=i.name++[32]
def pB:List UInt8:=pA i++60::i.email
def pC:List UInt8:=pB i++[62,32]
def pD:List UInt8:=pC i++Lib.itoa i.time
theorem pA_len:(pA i).length=i.name.length+1:=by simp [pA]
theorem Yky:(pB i).length=i.name.length+2+i.email.length:=by simp [pB,pA];omega
theorem Ykz:(pC i).length=i.name.length+4+i.email.length:=by simp [pC,Yky];omega
theorem Yk0:(pD i).length=i.name.length+4+i.email.length+(Lib.itoa i.time).length:=by simp [pD,Ykz]
theorem Yk1:H1 i=pA i++60::(i.email++[62,32]++Lib.itoa i.time++[32]++Zbr i.zone):=by simp [H1,pA]
theorem put_b:H1 i=pB i++62::([32]++Lib.itoa i.time++[32]++Zbr i.zone):=by simp [H1,pB,pA]
theorem put_c:H1 i=pC i++(Lib.itoa i.time++([32]++Zbr i.zone)):=by simp [H1,pC,pB,pA]
theorem Yk2:H1 i=pD i++32::Zbr i.zone:=by simp [H1,pD,pC,pB,pA]
theorem put_e:H1 i=(pD i++[32])++Zbr i.zone:=by simp [Yk2]
theorem put_f:H1 i=(pD i++[32,(if i.zone<0 then 45 else 43)])++(two (Z3 i.zone/60)++two (Z3 i.zone%60)):=by simp [Yk2,Zh2]
theorem Yqq:(H1 i).length=i.name.length+4+i.email.length+(Lib.itoa i.time).length+6:=by rw [Yk2,Ysv,Yk0,Ysk,Zpl]
end
theorem Zlm {i:Idt} (h:D7 i=true):Zg4 (H1 i)=i∧Zdy (H1 i)=true:=by
  obtain ⟨p0,p1,t0,t1,z0,z1⟩:=(R7 i).1 h
  obtain ⟨a0,a1⟩:=Zgw z0 z1
  obtain ⟨_,_,n60,n62⟩:=Zf2 p0
  obtain ⟨_,_,e60,e62⟩:=Zf2 p1
  obtain ⟨d0,d1,d2⟩:=Zli t0
  have hl:=Yqq i
  have h13:=Z51 t0 t1
  have hA:=pA_len i
  have hB:=Yky i
  have hC:=Ykz i
  have hD:=Yk0 i
  have hat:Q4 (H1 i)=i.name.length+1:=by
    unfold Q4
    apply Ykx
    · rw [Yk1,Zjp (k:=0) (by omega)];rfl
    · omega
    · omega
    · intro j _ hj
      rw [Yk1,Zpm (by omega)]
      exact Z75 (by simp [pA,n60]) (by omega)
  have hto:Zao (H1 i)=i.name.length+2+i.email.length:=by
    unfold Zao
    rw [hat]
    apply Ykx
    · rw [put_b,Zjp (k:=0) (by omega)];rfl
    · omega
    · omega
    · intro j _ hj
      rw [put_b,Zpm (by omega)]
      exact Z75 (by simp [pB,pA,n62,e62]) (by omega)
  obtain ⟨q0,q1⟩:=Z73 (a:=Z3 i.zone/60) (b:=Z3 i.zone%60) (by omega) (by omega) (by omega) (by omega)
  have hz:Zjo (H1 i)=Z3 i.zone/60*100+Z3 i.zone%60:=by
    unfold Zjo
    rw [hl,put_f,Yu0 (by rw [Ysv,hD,Ysk,Ysk,Yth];omega)]
    rw [Z0y (by simp [two]) (by simp [two]) q0,q1]
  have hzone:Zit (H1 i)=i.zone:=by
    unfold Zit
    rw [hz,show (Z3 i.zone/60*100+Z3 i.zone%60)/100*60+(Z3 i.zone/60*100+Z3 i.zone%60)%100=Z3 i.zone by omega]
    have hb:(H1 i).getD ((H1 i).length-6+1) 0=if i.zone<0 then 45 else 43:=by
      rw [put_e,Zjp (k:=0) (by rw [←put_e,hl,Ysv,hD,Ysk,Yth];omega)];rfl
    rw [hb]
    unfold Z3
    by_cases hn:i.zone<0
    · rw [if_pos hn,if_pos hn,if_pos rfl];omega
    · rw [if_neg hn,if_neg hn,if_neg (by decide)]
  have hI:Zg4 (H1 i)=i:=by
    unfold Zg4
    rw [hat,hto,hzone]
    have e1:(H1 i).take (i.name.length+1-1)=i.name:=by
      rw [Yk1,pA,Nat.add_sub_cancel,Ysw];exact Yu1 rfl
    have e2:sub (H1 i) (i.name.length+1+1) (i.name.length+2+i.email.length-(i.name.length+1+1))=i.email:=by
      unfold sub
      rw [show i.name.length+2+i.email.length-(i.name.length+1+1)=i.email.length by omega]
      rw [show H1 i=(pA i++[60])++(i.email++([62,32]++Lib.itoa i.time++[32]++Zbr i.zone)) by simp [H1,pA],Yu0 (by rw [Ysv,hA];rfl),Yu1 rfl]
    have e3:sub (H1 i) (i.name.length+2+i.email.length+2) ((H1 i).length-6-(i.name.length+2+i.email.length+2))=Lib.itoa i.time:=by
      unfold sub
      rw [hl,put_c,Yu0 (by omega),Yu1 (by omega)]
    rw [e1,e2,e3,Z0y d2 h13 d0,d1]
  refine ⟨hI,?_⟩
  unfold Zdy
  rw [hI,h,hat,hto,hz,hl]
  simp only [Yuo,Ysj,decide_eq_true_eq,and_true]
  omega
theorem doc_no {s:List UInt8} (h:∀ i,D7 i=true→H1 i≠s):Zdy s=false:=by
  cases hd:Zdy s with
  | false=>rfl
  | true =>
    unfold Zdy at hd
    simp only [Ysj,decide_eq_true_eq] at hd
    exact absurd hd.2.2 (h _ hd.2.1)
theorem Zwh {i:Idt} (h:D7 i=true):S E F.D2 [.str (H1 i)] []=some (.tup [.agg i.cells,.int .i64 0],[]):=by
  obtain ⟨h1,h2⟩:=Zlm h
  rw [Znd (by have:=Zan h;omega),h1,h2]
  rfl
theorem Zwi {s:List UInt8} (hs:s.length≤1000000000000) (h:∀ i,D7 i=true→H1 i≠s):S E F.D2 [.str s] []=some (Ze1,[]):=by
  rw [Znd hs,doc_no h]
  rfl
theorem Zne (s:List UInt8):(∃ i,D7 i=true∧H1 i=s)∨∀ i,D7 i=true→H1 i≠s:=by
  by_cases h:∃ i,D7 i=true∧H1 i=s
  · exact .inl h
  · exact .inr fun i hi he=>h ⟨i,hi,he⟩
end Cod
namespace Cod
open Go
set_option maxRecDepth 100000
theorem Zwj:S E0 F.A7 [.str [0,10],.int .i32 65533] []=some (.int .i64 (-1),[]):=Zde.2 ⟨300,by kernel_rfl⟩
theorem Zln {r:Int} (h0:0≤r) (h1:r<128):S E0 F.A7 [.str [0,10],.int .i32 r] []=some (.int .i64 (I0 [0,10] (byt r)),[]):=by
  rw [Zbn Zbi rfl rfl]
  have h2:IntKind.u8.wrap r=r:=by rw [Zcp];omega
  simp -dsimp (disch:=first|omega|(simp only [A3]<;>omega)|fail) only [L.A7,go_sem,reduceIte,reduceCtorEq,A9,B0,B1,B2,B3,B4,B5,B6,B7,B8,B9,C0,C1,C2,C3,C4,C5,C6,C7,A2,K9 h0,K9 h1,h2,Zbj]
theorem Zwk {r:Int} (h0:128≤r) (h1:r≤1114111):S E0 F.A7 [.str [0,10],.int .i32 r] []=some (.int .i64 (-1),[]):=by
  by_cases he:r=65533
  · subst he;exact Zwj
  · have h2:¬ r<128:=by omega
    have h3:(0:Int)≤r:=by omega
    rw [Zbn Zbi rfl rfl]
    have hvv:S E0 F.K8 [.int .i32 r] []=some (.bool (decide (r<55296)||decide (57343<r)),[]):=by rw [Zpd h0,K9 h1,Ys3]
    cases hv:(decide (r<55296)||decide (57343<r)) with
    | false=>simp -dsimp (disch:=first|omega|(simp only [A3]<;>omega)|fail) only [L.A7,go_sem,reduceIte,reduceCtorEq,A9,B0,B1,B2,B3,B4,B5,B6,B7,B8,B9,C0,C1,C2,C3,C4,C5,C6,C7,A2,K9 h3,Zas h2,Zdx he,hvv,hv]
    | true =>
      obtain ⟨e1,e2,e3⟩:=Z0n h0 h1
      simp -dsimp (disch:=first|omega|(simp only [A3]<;>omega)|fail) only [L.A7,go_sem,reduceIte,reduceCtorEq,A9,B0,B1,B2,B3,B4,B5,B6,B7,B8,B9,C0,C1,C2,C3,C4,C5,C6,C7,A2,K9 h3,Zas h2,Zdx he,hvv,hv]
      rw [G8 L.A7.x1.eq_1]
      by_cases e4:(Zav r).length=2
      · have e5:=e3 e4
        have b1:bat [0,10] 1=10:=rfl
        have b2:((((10:UInt8).toNat:Nat):Int) != bat (Zav r) 1)=true:=Zm6 (by show (10:Int)≠_;omega)
        have b3:(((2:Nat):Int)-1).toNat=1:=rfl
        have b4:I0 ([0,10].drop (((2:Nat):Int)-1+1).toNat) (byt (bat (Zav r) 1)) = -1:=rfl
        have b5:I0 [] (byt (bat (Zav r) 1)) = -1:=rfl
        simp -dsimp (disch:=first|omega|(simp only [A3]<;>omega)|fail) only [go_sem,reduceIte,reduceCtorEq,A9,B0,B1,B2,B3,B4,B5,B6,B7,B8,B9,C0,C1,C2,C3,C4,C5,C6,C7,A2,L.A7.r2,e4,b1,b2,b3,Zbj,E3,E2,D5,b4,b5,List.drop_nil]
      · simp -dsimp (disch:=first|omega|(simp only [A3]<;>omega)|fail) only [go_sem,reduceIte,reduceCtorEq,A9,B0,B1,B2,B3,B4,B5,B6,B7,B8,B9,C0,C1,C2,C3,C4,C5,C6,C7,A2,L.A7.r2]
def Zdt (b:UInt8):Bool:=b==0||b==10
theorem Yk3:∀ n:Nat,n<256→decide (0≤I0 [0,10] (UInt8.ofNat n))=Zdt (UInt8.ofNat n):=by decide +kernel
theorem Yk4 (b:UInt8):(0≤I0 [0,10] b)↔Zdt b=true:=by
  have:=Yk3 b.toNat b.toNat_lt
  rw [UInt8.ofNat_toNat] at this
  rw [←this,decide_eq_true_eq]
theorem Yqr:∀ n:Nat,n<256→128≤n→Zdt (UInt8.ofNat n)=false:=by decide +kernel
theorem Yc8 {s:List UInt8} (hs:s.length≤1000000):∀ (m p:Nat),p+m≤s.length→s.length≤p+m→∃ i:Int,((0≤i)↔(s.drop p).any Zdt=true) ∧
    X E0 [.tmp 4] (.c L.A6.x1::.lp [1,45] L.A6.x1::.blk 2::.c L.A6.r2::[]) ⟨[(1,.str [0,10]),(45,.it (.s 1000000 0) 0)],[(.s 1000000 0,⟨0,true,true,true,[.itr s p]⟩)]⟩=some (.int .i64 i,[]):=by
  intro m
  induction m using Nat.strongRecOn with
  | _ m ih =>
    intro p h1 h2
    rw [G8 L.A6.x1.eq_1]
    by_cases hp:p<s.length
    · have hd:s.drop p=s.getD p 0::s.drop (p+1):=by
        rw [Yt7 hp];simp [hp]
      rcases Zmd hp with ⟨e1,e2,e3⟩|⟨e1,e2,e3,e4,e5⟩
      · cases hbad:Zdt (s.getD p 0) with
        | true =>
          have h3:=(Yk4 (byt (bat s p))).2 (by rw [Zbk];exact hbad)
          refine ⟨p,⟨fun _=>by rw [hd,Yur,hbad];rfl,fun _=>by omega⟩,?_⟩
          simp -dsimp (disch:=first|omega|(simp only [A3]<;>omega)|fail) only [go_sem,reduceIte,reduceCtorEq,A9,B0,B1,B2,B3,B4,B5,B6,B7,B8,B9,C0,C1,C2,C3,C4,C5,C6,C7,A2,hp,e2,e3,Zln (O4 s p).1 e1,K9 h3]
        | false =>
          have h3:¬ 0≤I0 [0,10] (byt (bat s p)):=fun h=>by rw [Yk4,Zbk,hbad] at h;cases h
          obtain ⟨i,h4,h5⟩:=ih (m-1) (by omega) (p+1) (by omega) (by omega)
          refine ⟨i,by rw [h4,hd,Yur,hbad,Yup],?_⟩
          rw [←h5]
          simp -dsimp (disch:=first|omega|(simp only [A3]<;>omega)|fail) only [go_sem,reduceIte,reduceCtorEq,A9,B0,B1,B2,B3,B4,B5,B6,B7,B8,B9,C0,C1,C2,C3,C4,C5,C6,C7,A2,hp,e2,e3,Zln (O4 s p).1 e1,Zas h3]
      · have hw:p+(Zat s p).2≤s.length:=by
          have:=(e5 (p+(Zat s p).2-1) (by omega) (by omega)).1
          omega
        obtain ⟨i,h4,h5⟩:=ih (m-(Zat s p).2) (by omega) (p+(Zat s p).2) (by omega) (by omega)
        refine ⟨i,?_,?_⟩
        · rw [h4]
          have:∀ w,p+w≤s.length→(∀ j,p≤j→j<p+w→j<s.length∧128≤bat s j)→(s.drop p).any Zdt=(s.drop (p+w)).any Zdt:=by
            intro w
            induction w with
            | zero=>intro _ _;rfl
            | succ w ihw =>
              intro hw1 hw2
              rw [ihw (by omega) (fun j j1 j2=>hw2 j j1 (by omega)),Yt7 (by omega:p+w<s.length),Yur]
              have hh:=(hw2 (p+w) (by omega) (by omega)).2
              have:Zdt s[p+w]=false:=by
                unfold bat at hh
                rw [List.getD_eq_getElem?_getD,List.getElem?_eq_getElem (by omega),Ytc] at hh
                have h9:=Yqr s[p+w].toNat (UInt8.toNat_lt _) (by omega)
                rwa [UInt8.ofNat_toNat] at h9
              rw [this,Yup]
              rfl
          rw [this _ hw e5]
        · rw [←h5]
          have h6:=Zwk (r:=((Zat s p).1:Int)) (by omega) (by omega)
          simp -dsimp (disch:=first|omega|(simp only [A3]<;>omega)|fail) only [go_sem,reduceIte,reduceCtorEq,A9,B0,B1,B2,B3,B4,B5,B6,B7,B8,B9,C0,C1,C2,C3,C4,C5,C6,C7,A2,hp,h6]
    · refine ⟨-1,⟨fun h=>by omega,fun h=>by rw [Yt6 (by omega)] at h;simp at h⟩,?_⟩
      simp -dsimp (disch:=first|omega|(simp only [A3]<;>omega)|fail) only [go_sem,reduceIte,reduceCtorEq,A9,B0,B1,B2,B3,B4,B5,B6,B7,B8,B9,C0,C1,C2,C3,C4,C5,C6,C7,A2,hp,L.A6.r2]
def Zi0:List AV:=(List.range 256).map fun i=>.bool (i==0||i==10)
theorem Yqs:S E0 F.P7 [.str [0,10]] []=some (.tup [.agg Zi0,.bool true],[]):=Zde.2 ⟨300,by kernel_rfl⟩
theorem Yk5:∀ n:Nat,n<256→Zi0[n]? = some (.bool (Zdt (UInt8.ofNat n))):=by
  intro n hn
  simp only [Zi0,List.getElem?_map,List.getElem?_range hn,Yr9,Zdt]
  have:∀ n:Nat,n<256→(n==0||n==10)=(UInt8.ofNat n==0||UInt8.ofNat n==10):=by decide +kernel
  rw [this n hn]
theorem Zb0:flats Zi0=true:=by kernel_rfl
theorem Zb9:Zi0.length=256:=by simp [Zi0]
theorem Yqt {b:Int} (h0:0≤b) (h1:b<256):Zi0[b.toNat]? = some (.bool (Zdt (byt b))):=Yk5 b.toNat (by omega)
theorem Zrw:leadss Zi0=false:=by kernel_rfl
theorem Zrx:refsOfs Zi0=[]:=by kernel_rfl
theorem Zry (f:Site→Nat→Option (Site × Nat)):rens f Zi0=Zi0:=rens_flats Zi0 Zb0
theorem Zml:K4 Zi0=true:=by kernel_rfl
theorem Zlo {x:Site} {b:Int} (h0:0≤b) (h1:b<256):S E0 F.M9 [.ref (.up x) 0 0,.int .u8 b] [(.up x,⟨0,true,true,true,Zi0⟩)]=some (.bool (Zdt (byt b)),[(.up x,⟨0,true,true,true,Zi0⟩)]):=by
  rw [Zbn Zgl rfl rfl]
  simp -dsimp (disch:=first|omega|(simp only [A3]<;>omega)|fail) only [L.M9,go_sem,reduceIte,reduceCtorEq,A9,B0,B1,B2,B3,B4,B5,B6,B7,B8,B9,C0,C1,C2,C3,C4,C5,C6,C7,A2,Zb9,Zb0,Zrw,Zrx,Zry,Zml,Yqt h0 h1]
theorem Yc9 {s:List UInt8} (hs:s.length≤1000000):∀ (m p:Nat),p+m=s.length→∃ i:Int,((0≤i)↔(s.drop p).any Zdt=true) ∧
    X E0 [.tmp 4] (.c L.A6.x0::.lp [0,6,8] L.A6.x0::.blk 0::.c L.A6.r0::.c L.A6.r1::[]) ⟨[(0,.str s),(6,.ref (.s 1000000 0) 0 0),(8,.int .i64 p)],[(.s 1000000 0,⟨0,true,true,true,Zi0⟩)]⟩=some (.int .i64 i,[]):=by
  intro m
  induction m with
  | zero =>
    intro p h
    refine ⟨-1,⟨fun h=>by omega,fun h=>by rw [Yt6 (by omega)] at h;simp at h⟩,?_⟩
    rw [G8 L.A6.x0.eq_1]
    simp -dsimp (disch:=first|omega|(simp only [A3]<;>omega)|fail) only [go_sem,reduceIte,reduceCtorEq,A9,B0,B1,B2,B3,B4,B5,B6,B7,B8,B9,C0,C1,C2,C3,C4,C5,C6,C7,A2,Zb9,Zb0,Zrw,Zrx,Zry,Zml,L.A6.r0]
  | succ m ih =>
    intro p h
    have hp:p<s.length:=by omega
    have hd:s.drop p=s.getD p 0::s.drop (p+1):=by
      rw [Yt7 hp];simp [hp]
    obtain ⟨b0,b1⟩:=O4 s p
    cases hbad:Zdt (s.getD p 0) with
    | true =>
      have h3:Zdt (byt (bat s p))=true:=by rw [Zbk];exact hbad
      refine ⟨p,⟨fun _=>by rw [hd,Yur,hbad];rfl,fun _=>by omega⟩,?_⟩
      rw [G8 L.A6.x0.eq_1]
      simp -dsimp (disch:=first|omega|(simp only [A3]<;>omega)|fail) only [go_sem,reduceIte,reduceCtorEq,A9,B0,B1,B2,B3,B4,B5,B6,B7,B8,B9,C0,C1,C2,C3,C4,C5,C6,C7,A2,Zb9,Zb0,Zrw,Zrx,Zry,Zml,Zlo b0 b1,h3]
    | false =>
      have h3:Zdt (byt (bat s p))=false:=by rw [Zbk];exact hbad
      obtain ⟨i,h4,h5⟩:=ih (p+1) (by omega)
      refine ⟨i,by rw [h4,hd,Yur,hbad,Yup],?_⟩
      rw [←h5,G8 L.A6.x0.eq_1]
      simp -dsimp (disch:=first|omega|(simp only [A3]<;>omega)|fail) only [go_sem,reduceIte,reduceCtorEq,A9,B0,B1,B2,B3,B4,B5,B6,B7,B8,B9,C0,C1,C2,C3,C4,C5,C6,C7,A2,Zb9,Zb0,Zrw,Zrx,Zry,Zml,Zlo b0 b1,h3]
      rfl
theorem Yqu {s:List UInt8} (hs:s.length≤1000000):∃ i:Int,((0≤i)↔s.any Zdt=true)∧S E0 F.A6 [.str s,.str [0,10]] []=some (.int .i64 i,[]):=by
  rw [Zbn Zgk rfl rfl]
  have e0:(([0,10]:List UInt8) == [])=false:=rfl
  by_cases h8:8<s.length
  · obtain ⟨i,h1,h2⟩:=Yc9 hs s.length 0 (by omega)
    refine ⟨i,by simpa using h1,?_⟩
    rw [←h2]
    have h9:decide (8<(s.length:Int))=true:=by simp;omega
    simp -dsimp (disch:=first|omega|(simp only [A3]<;>omega)|fail) only [L.A6,go_sem,reduceIte,reduceCtorEq,A9,B0,B1,B2,B3,B4,B5,B6,B7,B8,B9,C0,C1,C2,C3,C4,C5,C6,C7,A2,Zb9,Zb0,Zrw,Zrx,Zry,Zml,e0,Zmf,h9,Yqs]
    rfl
  · obtain ⟨i,h1,h2⟩:=Yc8 hs s.length 0 (by omega) (by omega)
    refine ⟨i,by simpa using h1,?_⟩
    rw [←h2]
    have h9:decide (8<(s.length:Int))=false:=by simp;omega
    simp -dsimp (disch:=first|omega|(simp only [A3]<;>omega)|fail) only [L.A6,go_sem,reduceIte,reduceCtorEq,A9,B0,B1,B2,B3,B4,B5,B6,B7,B8,B9,C0,C1,C2,C3,C4,C5,C6,C7,A2,Zb9,Zb0,Zrw,Zrx,Zry,Zml,e0,Zmf,h9,L.A6.r1]
theorem Zwl {s:List UInt8} (hs:s.length≤1000000):S E0 F.J5 [.str s,.str [0,10]] []=some (.bool (s.any Zdt),[]):=by
  rw [Zbn Zgi rfl rfl]
  obtain ⟨i,h1,h2⟩:=Yqu hs
  have h3:decide (0≤i)=s.any Zdt:=by
    cases h:s.any Zdt with
    | true=>simp [h1.2 h]
    | false=>rw [decide_eq_false_iff_not,h1,h];simp
  simp -dsimp (disch:=first|omega|(simp only [A3]<;>omega)|fail) only [L.J5,go_sem,reduceIte,reduceCtorEq,A9,B0,B1,B2,B3,B4,B5,B6,B7,B8,B9,C0,C1,C2,C3,C4,C5,C6,C7,A2,h2,h3]
end Cod
namespace Cod
open Go
structure Lbl where
  tgt:List UInt8
  kind:Int
  name:List UInt8
  who:Idt
  msg:List UInt8
  htgt:tgt.length=32
def Lbl.cells (l:Lbl):List AV:=A0 l.tgt++[.int .i64 l.kind,.str l.name,.str l.who.name,.str l.who.email,.int .i64 l.who.time,.int .i64 l.who.zone,.str l.msg]
theorem Ziu (l:Lbl):(A0 l.tgt).length=32:=by rw [D9,l.htgt]
theorem Zn3 (l:Lbl):l.cells.length=39:=by unfold Lbl.cells;rw [Ysv,Ziu];rfl
theorem Zrz (l:Lbl):flats l.cells=true:=by unfold Lbl.cells;rw [Zd0,Zae];rfl
theorem Yk6 (f:Site→Nat→Option (Site × Nat)) (l:Lbl):rens f l.cells=l.cells:=rens_flats _ (Zrz l)
theorem Yk7 (l:Lbl):refsOfs l.cells=[]:=by unfold Lbl.cells;rw [Zla,Zah];rfl
theorem Yda (l:Lbl):K4 l.cells=true:=by unfold Lbl.cells;rw [Zk8,Zaf];rfl
theorem Ydb (l:Lbl):leadss l.cells=false:=by unfold Lbl.cells;rw [Zk9,Zag];rfl
theorem Yqv (l:Lbl):sub l.cells 0 39=l.cells:=Zex (by rw [Zn3];exact Yr4 _)
theorem Zwm (l:Lbl) (i:Nat):l.cells[32+i]? = [AV.int .i64 l.kind,.str l.name,.str l.who.name,.str l.who.email,.int .i64 l.who.time,.int .i64 l.who.zone,.str l.msg][i]? := by
  unfold Lbl.cells
  rw [List.getElem?_append_right (by rw [Ziu];omega),Ziu,Nat.add_sub_cancel_left]
theorem lbl_32 (l:Lbl):l.cells[32]? = some (.int .i64 l.kind):=Zwm l 0
theorem lbl_33 (l:Lbl):l.cells[33]? = some (.str l.name):=Zwm l 1
theorem lbl_38 (l:Lbl):l.cells[38]? = some (.str l.msg):=Zwm l 6
theorem Yqw (l:Lbl):sub l.cells 0 32=A0 l.tgt:=by
  unfold sub Lbl.cells
  rw [List.drop_zero]
  exact Yu1 (Ziu l)
theorem Yqx (l:Lbl):sub l.cells 34 4=l.who.cells:=by
  unfold sub Lbl.cells
  rw [List.drop_append,Ziu,Yt6 (by rw [Ziu];omega)]
  rfl
attribute [go_sem] Zn3 Zrz Yk6 Yk7 Yda Ydb Yqv lbl_32 lbl_33 lbl_38 Yqw Yqx
def Zwn:List UInt8:=[111,98,106,101,99,116]
def Zwo:List UInt8:=[116,121,112,101]
def Zwp:List UInt8:=[116,97,103]
def Zwq:List UInt8:=[116,97,103,103,101,114]
def Ze6 (s:List UInt8):Int:=Y7 [if decide (65536<(s.length:Int))=true then 2 else 0,if s.contains 0=true then 4 else 0]
def Zdo (s:List UInt8):Bool:=s == []||(decide (100<(s.length:Int))||s.any Zdt)
def Ze2 (l:Lbl):Int:=Y7 [Y3 l.kind,Ze6 l.msg,if Zdo l.name=true then 3 else 0,if D7 l.who=true then 0 else 3]
def Zf3 (l:Lbl):List UInt8:=Zwn++[32]++M0 l.tgt++[10]++Zwo++[32]++M1 l.kind++[10]++Zwp++[32]++l.name++[10]++Zwq++[32]++H1 l.who++[10,10]++l.msg
def Zr0 (p:List UInt8) (l:Lbl):Prop:=Ze2 l=0∧Zf3 l=p
theorem Z01 (l:Lbl):Zf3 l=Zwn++32::(M0 l.tgt++10::(Zwo++32::(M1 l.kind++10::(Zwp++32::(l.name++10::(Zwq++32::(H1 l.who++10::(10::l.msg)))))))):=by
  unfold Zf3
  simp only [Ysw,Yr7,Ytw]
theorem Z52:∀ (l:List Int) (w:Int),l.foldl Ze4 w=0→w=0∧∀ e∈l,e=0:=by
  intro l
  induction l with
  | nil=>intro w h;exact ⟨h,fun e he=>by simp at he⟩
  | cons a l ih =>
    intro w h
    obtain ⟨h1,h2⟩:=ih _ h
    unfold Ze4 at h1
    split at h1
    · rename_i hc;exact absurd h1 hc.1
    · rename_i hc
      subst h1
      have ha:a=0:=by
        apply Classical.byContradiction
        intro hn
        exact hc ⟨hn,.inl rfl⟩
      refine ⟨rfl,fun e he=>?_⟩
      rcases List.mem_cons.1 he with rfl|he
      · exact ha
      · exact h2 e he
theorem Zep {l:List Int} (h:Y7 l=0):∀ e∈l,e=0:=(Z52 l 0 h).2
theorem Z02 (s:List UInt8):s.any Zdt=(s.contains 0||s.contains 10):=by
  rw [Yux]
  simp only [Yuy,Zdt,Ys6,beq_iff_eq,Yuz]
  constructor
  · rintro ⟨b,hb,h|h⟩<;>subst h<;>simp [hb]
  · rintro (h|h)
    · exact ⟨_,h,.inl rfl⟩
    · exact ⟨_,h,.inr rfl⟩
theorem Ydc {z:Int} (h0 : -1439≤z) (h1:z≤1439):(10:UInt8)∉Zbr z:=by
  obtain ⟨a0,a1⟩:=Zgw h0 h1
  rw [Zh2]
  have:=Zwb (Z73 (a:=Z3 z/60) (b:=Z3 z%60) (by omega) (by omega) (by omega) (by omega)).1 (x:=10) (by unfold Zct;decide)
  simp only [Ytd,not_or]
  refine ⟨?_,this⟩
  split<;>decide
theorem Zh3 {i:Idt} (h:D7 i=true):(10:UInt8)∉H1 i:=by
  obtain ⟨p0,p1,t0,t1,z0,z1⟩:=(R7 i).1 h
  obtain ⟨d0,_,_⟩:=Zli t0
  have m1:=Zwb d0 (x:=10) (by unfold Zct;decide)
  have m2:=Ydc z0 z1
  have n0:=(Zf2 p0).2.1
  have n1:=(Zf2 p1).2.1
  unfold H1
  simp only [List.mem_append,Ytd,not_or,List.not_mem_nil,not_false_eq_true,and_true]
  exact ⟨⟨⟨⟨⟨⟨n0,by decide⟩,n1⟩,by decide⟩,m1⟩,by decide⟩,m2⟩
theorem Zr1 (k:Int):(10:UInt8)∉M1 k:=by
  unfold M1;split<;>(try split)<;>(try split)<;>(try split)<;>decide
theorem Ziv {l:Lbl} (h:Ze2 l=0):M1 l.kind≠[]∧l.msg.length≤65536∧(10:UInt8)∉l.name∧l.name.length≤100∧l.name≠[]∧D7 l.who=true:=by
  have h0:=Zep h
  have h1:=h0 _ (by simp:Y3 l.kind∈_)
  have h2:=h0 _ (by simp:Ze6 l.msg∈_)
  have h3:=h0 (if Zdo l.name=true then 3 else 0) (by simp)
  have h4:=h0 (if D7 l.who=true then 0 else 3) (by simp)
  refine ⟨?_,?_,?_⟩
  · intro hc
    unfold Y3 at h1
    rw [hc] at h1
    simp at h1
  · have h5:=Zep h2 (if decide (65536<(l.msg.length:Int))=true then 2 else 0) (by simp)
    by_cases hm:65536<(l.msg.length:Int)
    · rw [if_pos (by simpa using hm)] at h5;omega
    · omega
  · have h6:Zdo l.name=false:=by
      cases hb:Zdo l.name with
      | false=>rfl
      | true=>rw [hb] at h3;simp at h3
    have h7:D7 l.who=true:=by
      cases hb:D7 l.who with
      | true=>rfl
      | false=>rw [hb] at h4;simp at h4
    unfold Zdo at h6
    rw [Z02] at h6
    simp only [Bool.or_eq_false_iff,decide_eq_false_iff_not,beq_eq_false_iff_ne,Ytj] at h6
    refine ⟨h6.2.2.2,by omega,h6.1,h7⟩
theorem Zwr {k:Int} (h:M1 k≠[]):k=1∨k=2∨k=3∨k=4:=by
  apply Classical.byContradiction
  intro hn
  apply h
  unfold M1
  rw [if_neg (by omega),if_neg (by omega),if_neg (by omega),if_neg (by omega)]
theorem Z03 {l:Lbl} (h:Ze2 l=0):(Zf3 l).length≤70000:=by
  obtain ⟨_,h2,_,h4,_,h6⟩:=Ziv h
  have:=Zan h6
  have:=Zf0 l.kind
  have e:=V1 l.tgt
  rw [l.htgt] at e
  unfold Zf3 Zwn Zwo Zwp Zwq
  simp only [Ysv,Ysk,Yth,e]
  omega
def Zh4 (s:List UInt8):Int:=if (M1 1==s)=true then 1 else if (M1 2==s)=true then 2 else if (M1 3==s)=true then 3 else if (M1 4==s)=true then 4 else 0
theorem Z53 {k:Int} (h:M1 k≠[]):Zh4 (M1 k)=k:=by
  rcases Zwr h with rfl|rfl|rfl|rfl<;>decide
end Cod
namespace Cod
open Go
def Zgx:List UInt8:=[97,117,116,104,111,114]
def Zg5:List UInt8:=[99,111,109,109,105,116,116,101,114]
def Znn:List UInt8:=[116,114,101,101]
def Z04:List UInt8:=[112,97,114,101,110,116]
structure Snap where
  tree:List UInt8
  par:List Id32
  aut:Idt
  com:Idt
  msg:List UInt8
  ht:tree.length=32
def snR (t:List UInt8) (v:AV) (a c:Idt) (m:List UInt8):List AV:=A0 t++[v,.str a.name,.str a.email,.int .i64 a.time,.int .i64 a.zone,.str c.name,.str c.email,.int .i64 c.time,.int .i64 c.zone,.str m]
def Snap.cells (s:Snap):List AV:=snR s.tree (.lst (ids s.par) s.par.length) s.aut s.com s.msg
section
variable {t m:List UInt8} {v:AV} {a c:Idt}
theorem Zws (h:t.length=32):(snR t v a c m).length=42:=by unfold snR;rw [Ysv,D9,h];rfl
theorem sn_32 (h:t.length=32):(snR t v a c m)[32]? = some v:=Zq6 (j:=0) (by rw [D9,h])
theorem sn_41 (h:t.length=32):(snR t v a c m)[41]? = some (.str m):=Zq6 (j:=9) (by rw [D9,h])
theorem Yqy (h:t.length=32):sub (snR t v a c m) 0 32=A0 t:=Yjo (by rw [D9,h])
theorem sn_aut (h:t.length=32):sub (snR t v a c m) 33 4=a.cells:=by
  unfold snR
  rw [Zq7 (j:=1) (by rw [D9,h])];rfl
theorem sn_com (h:t.length=32):sub (snR t v a c m) 37 4=c.cells:=by
  unfold snR
  rw [Zq7 (j:=5) (by rw [D9,h])];rfl
theorem sn_sub (h:t.length=32):sub (snR t v a c m) 0 42=snR t v a c m:=Zex (by rw [Zws h];exact Yr4 _)
theorem Yk8:flats (snR t v a c m)=N9 v:=by
  unfold snR;rw [Zd0,Zae,Yuo,flats,show flats [.str a.name,.str a.email,.int .i64 a.time,.int .i64 a.zone,.str c.name,.str c.email,.int .i64 c.time,.int .i64 c.zone,.str m]=true from rfl,Ys3]
theorem Yk9:K4 (snR t v a c m)=V3 v:=by
  unfold snR;rw [Zk8,Zaf,Yuo,K4,show K4 [.str a.name,.str a.email,.int .i64 a.time,.int .i64 a.zone,.str c.name,.str c.email,.int .i64 c.time,.int .i64 c.zone,.str m]=true from rfl,Ys3]
theorem Yla:leadss (snR t v a c m)=U3 v:=by
  unfold snR;rw [Zk9,Zag,Yup,leadss,show leadss [.str a.name,.str a.email,.int .i64 a.time,.int .i64 a.zone,.str c.name,.str c.email,.int .i64 c.time,.int .i64 c.zone,.str m]=false from rfl,Bool.or_false]
theorem Yqz:refsOfs (snR t v a c m)=Zar v:=by
  unfold snR;rw [Zla,Zah,Ytw,refsOfs,show refsOfs [.str a.name,.str a.email,.int .i64 a.time,.int .i64 a.zone,.str c.name,.str c.email,.int .i64 c.time,.int .i64 c.zone,.str m]=[] from rfl,Yuh]
theorem Z05 (f:Site→Nat→Option (Site × Nat)):∀ xs ys:List AV,rens f (xs++ys)=rens f xs++rens f ys:=by
  intro xs
  induction xs with
  | nil=>intro ys;simp [rens]
  | cons x xs ih=>intro ys;rw [Yr7,rens,rens,ih];rfl
theorem Yq0 (f:Site→Nat→Option (Site × Nat)):rens f (snR t v a c m)=snR t (ren f v) a c m:=by
  unfold snR;rw [Z05,Zgm];rfl
theorem sn_o0 (h:t.length=32) {d:List UInt8} (hd:d.length=32):over (snR t v a c m) 0 (A0 d)=snR d v a c m:=by
  unfold snR over
  rw [Yu5,Ytw,Nat.zero_add,D9,hd,Yu0 (by rw [D9,h])]
theorem sn_o32 (h:t.length=32) {x:AV}:over (snR t v a c m) 32 [x]=snR t x a c m:=by
  unfold snR;rw [Za6 (j:=0) (by rw [D9,h])];rfl
theorem sn_o33 (h:t.length=32) {x:Idt}:over (snR t v a c m) 33 x.cells=snR t v x c m:=by
  unfold snR;rw [Za6 (j:=1) (by rw [D9,h])];rfl
theorem sn_o37 (h:t.length=32) {x:Idt}:over (snR t v a c m) 37 x.cells=snR t v a x m:=by
  unfold snR;rw [Za6 (j:=5) (by rw [D9,h])];rfl
theorem sn_o41 (h:t.length=32) {x:List UInt8}:over (snR t v a c m) 41 [.str x]=snR t v a c x:=by
  unfold snR;rw [Za6 (j:=9) (by rw [D9,h])];rfl
theorem Yq1 {t' m':List UInt8} {v':AV} {a' c':Idt} (h:t.length=32) (h':t'.length=32):over (snR t v a c m) 0 (snR t' v' a' c' m')=snR t' v' a' c' m':=by
  unfold over;exact Zij (by rw [Zws h,Zws h'])
theorem Yq2 {α:Type} (x:Acc α):x.bind .ret=x:=by
  induction x with
  | get s k ih =>
    show Acc.get s (fun e=>(k e).bind .ret)=_
    rw [show (fun e=>(k e).bind .ret)=k from funext ih]
  | _=>rfl
theorem Z06:∀ (l:List UInt8) (r:List AV),views (A0 l++r)=(views r).bindW (fun p=>.ret (A0 l++p.1,p.2)) ⟨⟩:=by
  intro l
  induction l with
  | nil =>
    intro r
    exact (Yq2 (views r)).symm
  | cons b l ih =>
    intro r
    rw [U2,Yr7,Zjd,ih,Zqz,Zqy,Zhm]
    rfl
theorem Ydd {α β:Type} {x:Acc α} {f g : α→Acc β} (h:f=g) {w:Wit f} {w':Wit g}:x.bindW f w=x.bindW g w':=by subst h;rfl
theorem Ylb:views (snR t v a c m)=(Zai v).bindW (fun p=>.ret (snR t p.1 a c m,p.2)) ⟨⟩:=by
  unfold snR
  rw [Z06,Zjd,Zhm]
  refine Ydd (funext fun p=>?_)
  show Acc.ret (A0 t++[p.1,.str a.name,.str a.email,.int .i64 a.time,.int .i64 a.zone,.str c.name,.str c.email,.int .i64 c.time,.int .i64 c.zone,.str m],p.2++([]:List Site))=_
  rw [Yuh]
end
attribute [go_sem] Zws sn_32 sn_41 Yqy sn_aut sn_com sn_sub Yk8 Yk9 Yla Yqz Yq0 sn_o0 sn_o32 sn_o33 sn_o37 sn_o41 Yq1 Ylb
def Zca:List UInt8:=List.replicate 32 0
theorem S1:Zca.length=32:=by simp [Zca]
def G2:Idt:=⟨[],[],0,0⟩
theorem sn0a:M6 (zer (.int .u8 0) 32) [.nils,.str [],.str [],.int .i64 0,.int .i64 0,.str [],.str [],.int .i64 0,.int .i64 0,.str []]=snR Zca .nils G2 G2 []:=rfl
theorem sn0b:A0 (List.replicate 32 0)++[.nils,.str [],.str [],.int .i64 0,.int .i64 0,.str [],.str [],.int .i64 0,.int .i64 0,.str []]=snR Zca .nils G2 G2 []:=rfl
attribute [go_sem] sn0a sn0b S1
def Zc7 (l:List Id32):List UInt8:=l.flatMap fun d=>Z04++[32]++M0 d.b++[10]
theorem Ze3:Zc7 []=[]:=rfl
theorem Zc8 (d:Id32) (l:List Id32):Zc7 (d::l)=Z04++32::(M0 d.b++10::Zc7 l):=by simp [Zc7]
theorem Yde (l:List Id32) (d:Id32):Zc7 (l++[d])=Zc7 l++(Z04++[32]++M0 d.b++[10]):=by simp [Zc7]
theorem Zpn (l:List Id32):(Zc7 l).length=72*l.length:=by
  induction l with
  | nil=>rfl
  | cons d l ih=>rw [Zc8,Ysv,Ysk,Ysv,Ysk,ih,V1,d.h,Ysk];show 6+_=_;omega
def Zfn (s:Snap):Int:=Y7 [if decide (16<(s.par.length:Int))=true then 2 else 0,Ze6 s.msg,if D7 s.aut=true then 0 else 3,if D7 s.com=true then 0 else 3]
def Zbt (s:Snap):List UInt8:=Znn++[32]++M0 s.tree++[10]++Zc7 s.par++(Zgx++[32]++H1 s.aut++[10]++Zg5++[32]++H1 s.com++[10,10]++s.msg)
def Zr2 (p:List UInt8) (s:Snap):Prop:=Zfn s=0∧Zbt s=p
theorem Z07 (s:Snap):Zbt s=Znn++32::(M0 s.tree++10::(Zc7 s.par++(Zgx++32::(H1 s.aut++10::(Zg5++32::(H1 s.com++10::(10::s.msg))))))):=by
  unfold Zbt
  simp only [Ysw,Yr7,Ytw]
theorem Ylc {m:List UInt8} (h:Ze6 m=0):m.length≤65536:=by
  have h5:=Zep h (if decide (65536<(m.length:Int))=true then 2 else 0) (by simp)
  by_cases hm:65536<(m.length:Int)
  · rw [if_pos (by simpa using hm)] at h5;omega
  · omega
theorem Zpo {i:Idt} (h:(if D7 i=true then (0:Int) else 3)=0):D7 i=true:=by
  cases hb:D7 i with
  | true=>rfl
  | false=>rw [hb] at h;simp at h
theorem Zgy {s:Snap} (h:Zfn s=0):s.par.length≤16∧s.msg.length≤65536∧D7 s.aut=true∧D7 s.com=true:=by
  have h0:=Zep h
  have h1:=h0 (if decide (16<(s.par.length:Int))=true then 2 else 0) (by simp)
  have h2:=h0 _ (by simp:Ze6 s.msg∈_)
  have h3:=h0 (if D7 s.aut=true then 0 else 3) (by simp)
  have h4:=h0 (if D7 s.com=true then 0 else 3) (by simp)
  refine ⟨?_,Ylc h2,Zpo h3,Zpo h4⟩
  by_cases hm:16<(s.par.length:Int)
  · rw [if_pos (by simpa using hm)] at h1;omega
  · omega
theorem Z08 {s:Snap} (h:Zfn s=0):(Zbt s).length≤80000:=by
  obtain ⟨h1,h2,h3,h4⟩:=Zgy h
  have a:=Zan h3
  have b:=Zan h4
  have c:=Zpn s.par
  have e:=V1 s.tree
  rw [s.ht] at e
  unfold Zbt Znn Zgx Zg5
  simp only [Ysv,Ysk,Yth,e,c]
  omega
end Cod
namespace Cod
open Go
theorem Zwt (s:List UInt8):Lib.contains s [0]=s.contains 0:=by
  unfold Lib.contains
  rw [Yux,decide_eq_true_eq,Yuz]
  rcases Lib.index_spec s [0] with ⟨h1,h2⟩|⟨i,h1,h2,h3,_⟩
  · rw [h1]
    refine ⟨fun h=>by omega,fun h=>?_⟩
    obtain ⟨j,hj,he⟩:=List.getElem_of_mem h
    have h4:=h2 j (by omega)
    unfold Lib.occAt at h4
    rw [Yt7 hj,he] at h4
    simp [List.isPrefixOf] at h4
  · rw [h1]
    refine ⟨fun _=>?_,fun _=>by omega⟩
    have hr:=Lib.occAt_room h3
    have hi:i<s.length:=by
      rcases hr with hr|hr
      · simp at hr;omega
      · cases hr
    unfold Lib.occAt at h3
    rw [Yt7 hi] at h3
    simp [List.isPrefixOf] at h3
    rw [h3]
    exact Yu4 hi
theorem Zpp {s:List UInt8} (hs:s.length≤1000000000):S E F.X4 [.str s] []=some (.int .i64 (Ze6 s),[]):=by
  have h1:=Z45 (s:=s) (t:=[0]) (by omega)
  rw [Zwt] at h1
  have w1:S E F.E4 [.bool (decide (65536<(s.length:Int))),.int .i64 2] []=some (.int .i64 (if decide (65536<(s.length:Int))=true then 2 else 0),[]):=R4
  have w2:S E F.E4 [.bool (s.contains 0),.int .i64 4] []=some (.int .i64 (if s.contains 0=true then 4 else 0),[]):=R4
  unfold Ze6
  generalize (if decide (65536<(s.length:Int))=true then (2:Int) else 0)=a at *
  generalize (if s.contains 0=true then (4:Int) else 0)=b at *
  have hd:S E F.F2 [.lst [.int .i64 a,.int .i64 b] 2] []=some (.int .i64 (Y7 [a,b]),[]):=Zir
  rw [S_of Ztz rfl rfl]
  simp -dsimp (disch:=first|omega|(simp only [A3]<;>omega)|fail) only [L.X4,go_sem,reduceIte,reduceCtorEq,A9,B0,B1,B2,B3,B4,B5,B6,B7,B8,B9,C0,C1,C2,C3,C4,C5,C6,C7,A2,h1,w1,w2,hd]
theorem Znf {s:List UInt8} (hs:s.length≤1000000000):S E F.T4 [.str s] []=some (.int .i64 (Ze6 s),[]):=by
  have h1:=Zek (s:=s) (by omega) (c:=0) (by omega) (by omega)
  rw [show byt 0=0 from rfl] at h1
  have w1:S E F.I8 [.bool (decide (65536<(s.length:Int))),.int .i64 2] []=some (.int .i64 (if decide (65536<(s.length:Int))=true then 2 else 0),[]):=Zhz
  have w2:S E F.I8 [.bool (s.contains 0),.int .i64 4] []=some (.int .i64 (if s.contains 0=true then 4 else 0),[]):=Zhz
  unfold Ze6
  generalize (if decide (65536<(s.length:Int))=true then (2:Int) else 0)=a at *
  generalize (if s.contains 0=true then (4:Int) else 0)=b at *
  have hd:S E F.G4 [.lst [.int .i64 a,.int .i64 b] 2] []=some (.int .i64 (Y7 [a,b]),[]):=Zjm
  rw [S_of Zup rfl rfl]
  simp -dsimp (disch:=first|omega|(simp only [A3]<;>omega)|fail) only [L.T4,go_sem,reduceIte,reduceCtorEq,A9,B0,B1,B2,B3,B4,B5,B6,B7,B8,B9,C0,C1,C2,C3,C4,C5,C6,C7,A2,h1,w1,w2,hd]
theorem Z09:∀ n:Nat,n<16→bat [48,49,50,51,52,53,54,55,56,57,97,98,99,100,101,102] n=((Zgv n).toNat:Int):=by decide
theorem snoc2 (l:List UInt8) (a b:UInt8):A0 l++[AV.int .u8 (a.toNat:Int),.int .u8 (b.toNat:Int)]=A0 (l++[a,b]):=by simp [A0]
theorem Z76 (l:List UInt8) (i:Nat):bat l i=((l.getD i 0).toNat:Int):=rfl
theorem Yq3 {id:List UInt8} (hid:id.length=32):∀ (m i:Nat),i+m=32 →
    X E [.tmp 2] (.c L.L1.x0::.lp [3,6,7] L.L1.x0::.blk 0::[.c L.L1.r0]) ⟨[(3,.buf (.s 1000000 0) 0 0 (M0 (id.take i)).length 1),(6,.agg (A0 id)),(7,.int .i64 i)],[(.s 1000000 0,⟨0,true,true,false,A0 (M0 (id.take i))⟩)]⟩=some (.str (M0 id),[]):=by
  intro m
  induction m with
  | zero =>
    intro i hi
    obtain rfl:i=32:=by omega
    rw [G8 L.L1.x0.eq_1]
    have ht:id.take 32=id:=Ysu (by omega)
    rw [ht]
    have hl:(M0 id).length=64:=by rw [V1,hid]
    simp -dsimp (disch:=first|omega|(simp only [A3]<;>omega)|fail) only [go_sem,reduceIte,reduceCtorEq,A9,B0,B1,B2,B3,B4,B5,B6,B7,B8,B9,C0,C1,C2,C3,C4,C5,C6,C7,A2,BYs,L.L1.r0]
  | succ m ih =>
    intro i hi
    have hlt:i<32:=by omega
    have h1:=ih (i+1) (by omega)
    simp only [Yuj,Yuk] at h1
    rw [Zq5 (by omega),Ycj,Ysv] at h1
    have hl:(M0 (id.take i)).length=2*i:=by rw [V1,Ysb];omega
    have e2:∀ a b:UInt8,[a,b].length=2:=fun _ _=>rfl
    rw [e2] at h1
    have hb:=(id.getD i 0).toNat_lt
    have e0:bat id i=((id.getD i 0).toNat:Int):=rfl
    generalize id.getD i 0=x at *
    have q1:(x.toNat:Int).tdiv 16=((x.toNat/16:Nat):Int):=by rw [S6 (by omega)];omega
    have q2:(x.toNat:Int).tmod 16=((x.toNat%16:Nat):Int):=by rw [U9 (by omega)];omega
    have d1:=Z09 (x.toNat/16) (by omega)
    have d2:=Z09 (x.toNat%16) (by omega)
    have w1:(((x.toNat/16:Nat):Int)%256).toNat=x.toNat/16:=by omega
    have w2:(((x.toNat%16:Nat):Int)%256).toNat=x.toNat%16:=by omega
    rw [G8 L.L1.x0.eq_1,←h1]
    simp -dsimp (disch:=first|omega|(simp only [A3]<;>omega)|fail) only [go_sem,reduceIte,reduceCtorEq,A9,B0,B1,B2,B3,B4,B5,B6,B7,B8,B9,C0,C1,C2,C3,C4,C5,C6,C7,A2,BYs,e0,q1,q2,w1,w2,d1,d2,snoc2]
theorem Zwu {id:List UInt8} (hid:id.length=32):S E F.L1 [.agg (A0 id)] []=some (.str (M0 id),[]):=by
  have h:=Yq3 hid 32 0 (by omega)
  simp only [Yuk,Yu5,show M0 []=[] from rfl,Yth,show A0 []=[] from rfl] at h
  rw [S_of Zur rfl rfl]
  simp -dsimp (disch:=first|omega|(simp only [A3]<;>omega)|fail) only [L.L1,go_sem,reduceIte,reduceCtorEq,A9,B0,B1,B2,B3,B4,B5,B6,B7,B8,B9,C0,C1,C2,C3,C4,C5,C6,C7,A2,BYs,h]
def fil (id:List UInt8) (k:Nat):List UInt8:=id.take k++List.replicate (32-k) 0
theorem Yq4 {id:List UInt8} {k:Nat} (hid:id.length=32) (hk:k≤32):(fil id k).length=32:=by unfold fil;rw [Ysv,Ysb,Yul];omega
theorem Z77 {id:List UInt8} {k:Nat} (hid:id.length=32) (hk:k<32):(fil id k).set k (id.getD k 0)=fil id (k+1):=by
  unfold fil
  have hl:(id.take k).length=k:=by rw [Ysb];omega
  rw [List.set_append_right (h:=by omega),hl,Nat.sub_self,Zq5 (by omega),Ysw]
  congr 1
  rw [show 32-k=(32-(k+1))+1 by omega,List.replicate_succ]
  rfl
theorem undig:∀ n:Nat,n<16→I0 [48,49,50,51,52,53,54,55,56,57,97,98,99,100,101,102] (Zgv n)=(n:Int):=by decide
theorem Ydf:∀ n:Nat,n<256→(-1≤I0 [48,49,50,51,52,53,54,55,56,57,97,98,99,100,101,102] (UInt8.ofNat n)∧I0 [48,49,50,51,52,53,54,55,56,57,97,98,99,100,101,102] (UInt8.ofNat n)<16):=by decide +kernel
theorem Zr3 {l:List UInt8} {c:Int}:S E F.N0 [.str l,.int .u8 c] []=some (.int .i64 (I0 l (byt c)),[]):=M5 ext0 Zbj
def Z54:List UInt8:=[48,49,50,51,52,53,54,55,56,57,97,98,99,100,101,102]
theorem nib:∀ a:Nat,a<16→∀ b:Nat,b<16→IntKind.u8.wrap (ior .i64 (Z3t .i64 (a:Int) 4) (b:Int))=((16*a+b:Nat):Int):=by decide +kernel
theorem Zr4 (b:UInt8) : -1≤I0 Z54 b∧I0 Z54 b<16:=by
  have:=Ydf b.toNat b.toNat_lt
  rwa [UInt8.ofNat_toNat] at this
theorem Z78 {id:List UInt8} (hid:id.length=32):fil id 32=id:=by
  unfold fil
  rw [Ysu (by omega)]
  simp
theorem sp_l0 {s:List UInt8} (hs:s.length=64):∀ (m i:Nat) (d:List UInt8),i+m=32→d.length=32→∃ d' e,d'.length=32∧(e=0∨e=4) ∧
    X E [.cell 2 (some 32),.tmp 3] (.c L.L7.x0::.lp [0,2,4,12] L.L7.x0::.blk 0::[.c L.L7.r0]) ⟨[(0,.str s),(2,.ref (.s 1000000 0) 0 0),(4,.ref (.s 1000000 1) 0 0),(12,.int .i64 i)],[(.s 1000000 0,⟨0,true,true,true,A0 (List.replicate 32 0)⟩),(.s 1000000 1,⟨0,true,true,true,A0 d⟩)]⟩=some (.tup [.agg (A0 d'),.int .i64 e],[]) ∧
    ∀ id,id.length=32→s=M0 id→d=fil id i→d'=id∧e=0:=by
  intro m
  induction m with
  | zero =>
    intro i d hi hd
    obtain rfl:i=32:=by omega
    refine ⟨d,0,hd,.inl rfl,?_,fun id h1 h2 h3=>⟨by rw [h3,Z78 h1],rfl⟩⟩
    rw [G8 L.L7.x0.eq_1]
    simp -dsimp (disch:=first|omega|(simp only [A3]<;>omega)|fail) only [go_sem,reduceIte,reduceCtorEq,A9,B0,B1,B2,B3,B4,B5,B6,B7,B8,B9,C0,C1,C2,C3,C4,C5,C6,C7,A2,BYs,L.L7.r0,Yul,hd]
  | succ m ih =>
    intro i d hi hd
    have hlt:i<32:=by omega
    obtain ⟨a0,a1⟩:=Zr4 (s.getD (2*i) 0)
    obtain ⟨b0,b1⟩:=Zr4 (s.getD (2*i+1) 0)
    have c1:=Zr3 (l:=Z54) (c:=bat s (2*i))
    have c2:=Zr3 (l:=Z54) (c:=bat s (2*i+1))
    rw [Zbk] at c1 c2
    have e1:((2:Int)*(i:Int)).toNat=2*i:=by omega
    have e2:((2:Int)*(i:Int)+1).toNat=2*i+1:=by omega
    have yes:∀ id,id.length=32→s=M0 id→I0 Z54 (s.getD (2*i) 0)=(((id.getD i 0).toNat/16:Nat):Int)∧I0 Z54 (s.getD (2*i+1) 0)=(((id.getD i 0).toNat%16:Nat):Int):=by
      intro id h1 h2
      have:=(id.getD i 0).toNat_lt
      obtain ⟨g1,g2⟩:=Zz7 (id:=id) (i:=i) (by omega)
      rw [h2,g1,g2]
      exact ⟨undig _ (by omega),undig _ (by omega)⟩
    unfold Z54 at *
    generalize I0 [48,49,50,51,52,53,54,55,56,57,97,98,99,100,101,102] (s.getD (2*i) 0)=A at *
    generalize I0 [48,49,50,51,52,53,54,55,56,57,97,98,99,100,101,102] (s.getD (2*i+1) 0)=B at *
    rw [G8 L.L7.x0.eq_1]
    by_cases hA:A<0
    · refine ⟨List.replicate 32 0,4,by simp,.inr rfl,?_,fun id h1 h2 _=>?_⟩
      · simp -dsimp (disch:=first|omega|(simp only [A3]<;>omega)|fail) only [go_sem,reduceIte,reduceCtorEq,A9,B0,B1,B2,B3,B4,B5,B6,B7,B8,B9,C0,C1,C2,C3,C4,C5,C6,C7,A2,BYs,e1,e2,c1,c2,hA,Yul,hd]
      · have:=(yes id h1 h2).1;omega
    · by_cases hB:B<0
      · refine ⟨List.replicate 32 0,4,by simp,.inr rfl,?_,fun id h1 h2 _=>?_⟩
        · simp -dsimp (disch:=first|omega|(simp only [A3]<;>omega)|fail) only [go_sem,reduceIte,reduceCtorEq,A9,B0,B1,B2,B3,B4,B5,B6,B7,B8,B9,C0,C1,C2,C3,C4,C5,C6,C7,A2,BYs,e1,e2,c1,c2,hA,hB,Yul,hd]
        · have:=(yes id h1 h2).2;omega
      · obtain ⟨a,rfl⟩:∃ a:Nat,A=a:=⟨A.toNat,by omega⟩
        obtain ⟨b,rfl⟩:∃ b:Nat,B=b:=⟨B.toNat,by omega⟩
        have hn:=nib a (by omega) b (by omega)
        obtain ⟨d',e,h1,h2,h3,h4⟩:=ih (i+1) (d.set i (UInt8.ofNat (16*a+b))) (by omega) (by rw [List.length_set];exact hd)
        simp only [Yuj,Yuk] at h3
        refine ⟨d',e,h1,h2,?_,fun id g1 g2 g3=>h4 id g1 g2 ?_⟩
        · rw [←h3]
          simp -dsimp (disch:=first|omega|(simp only [A3]<;>omega)|fail) only [go_sem,reduceIte,reduceCtorEq,A9,B0,B1,B2,B3,B4,B5,B6,B7,B8,B9,C0,C1,C2,C3,C4,C5,C6,C7,A2,BYs,e1,e2,c1,c2,hA,hB,hn,Yul,hd]
        · obtain ⟨y1,y2⟩:=yes id g1 g2
          have:=(id.getD i 0).toNat_lt
          have hx:UInt8.ofNat (16*a+b)=id.getD i 0:=by
            have:16*a+b=(id.getD i 0).toNat:=by omega
            rw [this]
            rw [UInt8.ofNat_toNat]
          rw [hx,g3,Z77 g1 hlt]
theorem Ydg {s:List UInt8} (hs:s.length≤1000000000):∃ d e,d.length=32∧(e=0∨e=4)∧S E F.L7 [.str s] []=some (.tup [.agg (A0 d),.int .i64 e],[])∧∀ id,id.length=32→s=M0 id→d=id∧e=0:=by
  by_cases hl:s.length=64
  · obtain ⟨d,e,h1,h2,h3,h4⟩:=sp_l0 hl 32 0 (List.replicate 32 0) (by omega) (by simp)
    simp only [Yuk] at h3
    refine ⟨d,e,h1,h2,?_,fun id g1 g2=>h4 id g1 g2 (by unfold fil;simp)⟩
    rw [S_of Zku rfl rfl]
    simp -dsimp (disch:=first|omega|(simp only [A3]<;>omega)|fail) only [L.L7,go_sem,reduceIte,reduceCtorEq,A9,B0,B1,B2,B3,B4,B5,B6,B7,B8,B9,C0,C1,C2,C3,C4,C5,C6,C7,A2,BYs,hl,h3]
  · refine ⟨List.replicate 32 0,4,by simp,.inr rfl,?_,fun id g1 g2=>?_⟩
    · rw [S_of Zku rfl rfl]
      simp -dsimp (disch:=first|omega|(simp only [A3]<;>omega)|fail) only [L.L7,go_sem,reduceIte,reduceCtorEq,A9,B0,B1,B2,B3,B4,B5,B6,B7,B8,B9,C0,C1,C2,C3,C4,C5,C6,C7,A2,BYs,hl,Yul]
    · exact absurd (by rw [g2,V1];omega) hl
end Cod

/- strings.IndexAny, as names uses it. -/
import Derived.RangeFuncKeeps
import Derived.RangeFuncLeaves
import Derived.RangeFuncCalls
import Derived.Shelf.Abstract
import Derived.WalkKit
import Derived.OwnWalkIn
import Derived.TacticsInMore
import Derived.LoopNIn
import Derived.LoopIn
import Derived.RangeFuncNested
import Derived.Test.YtabccggcfcppgaaGreatDoorRows
import Derived.Test.YtabccggcfcppgaaGreatDoorXTxt1
import Derived.Test.YtabccggcfcppgaaGreatDoorXLit3
import Derived.Test.YtabccggcfcppgaaGreatDoorXShelf1
import Derived.Test.YtabccggcfcppgaaGreatDoorXCod1
set_option linter.unusedSimpArgs false
set_option linter.unusedVariables false
open List renaming all_append → Yhu, any_cons → Yhp, append_toArray → Yhj, cons_append → Yfm, contains_cons → Yhr, drop_eq_getElem_cons → Yho, drop_of_length_le → Yhq, idxOf_cons → Yhn, length_append → Yf9, length_cons → Yf0, length_drop → Yfr, length_nil → Ygy, length_set → Yhv, length_singleton → Yhx, mem_append → Yhw, mem_singleton → Yf2, nil_append → Yhc, push_toArray → Yhi, size_toArray → Yfs
open Nat renaming div_eq_of_lt → Yh3, le_refl → Yfj, lt_of_lt_of_le → Yfl, lt_or_ge → Yfn, min_eq_left → Yhd, min_eq_right → Yh2
open Int renaming cast_ofNat_Int → Yhz, emod_eq_of_lt → Yh0, eq_ofNat_of_zero_le → Yh4, natCast_add → Yhy, natCast_pow → Yh1
open Bool renaming and_eq_true → Yfz, and_false → Yhs, and_true → Ygi, false_or → Yhl, not_false → Yht
open Array renaming replicate_succ → Yhg, replicate_zero → Yhh
open Nat renaming reduceEqDiff → E2, reduceAdd → E3, reduceSub → E4, reduceMul → E5, reduceDiv → E6, reduceMod → E7, reduceBEq → E8, reduceLeDiff → E9, reduceLT → F0
open Int renaming reduceEq → F1, reduceNe → F2, reduceLT → F3, reduceLE → F4, reduceBEq → F5, reduceBNe → F6, reduceToNat → F7, reduceAdd → F8, reduceSub → F9, reduceMul → G0, reduceNeg → B2
namespace Cod
open Go
set_option maxRecDepth 100000
def Zlj (b0 a1 a2 a3:Nat) (c1 c2 c3:Bool):Nat × Nat :=
  if b0<0x80 then (b0,1)
  else if b0/32==6&&c1 then (if b0%32*64+a1%64 ≥ 0x80 then (b0%32*64+a1%64,2) else (65533,1))
  else if b0/16==14&&c1&&c2 then
    (if b0%16*4096+a1%64*64+a2%64 ≥ 0x800&&Utf8.valid ((b0%16*4096+a1%64*64+a2%64:Nat):Int) then (b0%16*4096+a1%64*64+a2%64,3) else (65533,1))
  else if b0/8==30&&c1&&c2&&c3 then
    (if b0%8*262144+a1%64*4096+a2%64*64+a3%64 ≥ 0x10000&&Utf8.valid ((b0%8*262144+a1%64*4096+a2%64*64+a3%64:Nat):Int) then (b0%8*262144+a1%64*4096+a2%64*64+a3%64,4) else (65533,1))
  else (65533,1)
theorem Z86 {b0 a1 a2 a3:Nat} {c1 c2 c3:Bool} (h:b0<128):Zlj b0 a1 a2 a3 c1 c2 c3=(b0,1):=by unfold Zlj;rw [if_pos h]
theorem Z2z {b0 a1 a2 a3:Nat} {c1 c2 c3:Bool} (h:128≤b0) (h2:b0<256):128≤(Zlj b0 a1 a2 a3 c1 c2 c3).1∧(Zlj b0 a1 a2 a3 c1 c2 c3).1≤1114111 ∧
    ((Zlj b0 a1 a2 a3 c1 c2 c3).2=1∨((Zlj b0 a1 a2 a3 c1 c2 c3).2=2∧c1=true)∨((Zlj b0 a1 a2 a3 c1 c2 c3).2=3∧c1=true∧c2=true)∨((Zlj b0 a1 a2 a3 c1 c2 c3).2=4∧c1=true∧c2=true∧c3=true)):=by
  unfold Zlj
  rw [if_neg (by omega)]
  split
  · rename_i h3
    simp only [Yfz] at h3
    split
    · exact ⟨by assumption,by omega,.inr (.inl ⟨rfl,h3.2⟩)⟩
    · exact ⟨by omega,by omega,.inl rfl⟩
  · split
    · rename_i h3
      simp only [Yfz] at h3
      split
      · rename_i h4
        simp only [Yfz,decide_eq_true_eq] at h4
        exact ⟨by omega,by omega,.inr (.inr (.inl ⟨rfl,h3.1.2,h3.2⟩))⟩
      · exact ⟨by omega,by omega,.inl rfl⟩
    · split
      · rename_i h3
        simp only [Yfz] at h3
        split
        · rename_i h4
          simp only [Yfz,decide_eq_true_eq,Utf8.valid,Bool.or_eq_true] at h4
          exact ⟨by omega,by omega,.inr (.inr (.inr ⟨rfl,h3.1.1.2,h3.1.2,h3.2⟩))⟩
        · exact ⟨by omega,by omega,.inl rfl⟩
      · exact ⟨by omega,by omega,.inl rfl⟩
theorem Z20 {l:List UInt8} {p:Nat} (h:p<l.length) :
    (bat l p<128∧(((Zbb l p).1:Nat):Int)=bat l p∧(Zbb l p).2=1) ∨
    (128≤bat l p∧128≤(Zbb l p).1∧(Zbb l p).1≤1114111∧1≤(Zbb l p).2∧∀ j,p≤j→j<p+(Zbb l p).2→j<l.length∧128≤bat l j):=by
  have hs:(⟨l.toArray⟩:ByteArray).size=l.length:=by simp [ByteArray.size]
  have h0:((⟨l.toArray⟩:ByteArray).get! (p+0)).toNat=(l.getD p 0).toNat:=Zwq h
  have hc:∀ k,(decide (p+k<(⟨l.toArray⟩:ByteArray).size)&&((⟨l.toArray⟩:ByteArray).get! (p+k)).toNat/64==2)=true→p+k<l.length∧128≤bat l (p+k):=by
    intro k hk
    simp only [Yfz,decide_eq_true_eq,beq_iff_eq,hs] at hk
    refine ⟨hk.1,?_⟩
    have:=Zwq hk.1
    unfold bat
    omega
  have e:Zbb l p=Zlj ((⟨l.toArray⟩:ByteArray).get! (p+0)).toNat ((⟨l.toArray⟩:ByteArray).get! (p+1)).toNat ((⟨l.toArray⟩:ByteArray).get! (p+2)).toNat ((⟨l.toArray⟩:ByteArray).get! (p+3)).toNat
    (decide (p+1<(⟨l.toArray⟩:ByteArray).size)&&((⟨l.toArray⟩:ByteArray).get! (p+1)).toNat/64==2) (decide (p+2<(⟨l.toArray⟩:ByteArray).size)&&((⟨l.toArray⟩:ByteArray).get! (p+2)).toNat/64==2)
    (decide (p+3<(⟨l.toArray⟩:ByteArray).size)&&((⟨l.toArray⟩:ByteArray).get! (p+3)).toNat/64==2):=rfl
  have k1:=hc 1
  have k2:=hc 2
  have k3:=hc 3
  rw [h0] at e
  generalize (decide (p+1<(⟨l.toArray⟩:ByteArray).size)&&((⟨l.toArray⟩:ByteArray).get! (p+1)).toNat/64==2)=c1 at e k1
  generalize (decide (p+2<(⟨l.toArray⟩:ByteArray).size)&&((⟨l.toArray⟩:ByteArray).get! (p+2)).toNat/64==2)=c2 at e k2
  generalize (decide (p+3<(⟨l.toArray⟩:ByteArray).size)&&((⟨l.toArray⟩:ByteArray).get! (p+3)).toNat/64==2)=c3 at e k3
  generalize ((⟨l.toArray⟩:ByteArray).get! (p+1)).toNat=a1 at e
  generalize ((⟨l.toArray⟩:ByteArray).get! (p+2)).toNat=a2 at e
  generalize ((⟨l.toArray⟩:ByteArray).get! (p+3)).toNat=a3 at e
  have hlt:=(l.getD p 0).toNat_lt
  by_cases hb:bat l p<128
  · refine .inl ⟨hb,?_⟩
    unfold bat at hb ⊢
    rw [e,Z86 (by omega)]
    exact ⟨rfl,rfl⟩
  · have hb':=hb
    unfold bat at hb
    obtain ⟨h1,h2,h3⟩:=Z2z (a1:=a1) (a2:=a2) (a3:=a3) (c1:=c1) (c2:=c2) (c3:=c3) (b0:=(l.getD p 0).toNat) (by omega) hlt
    rw [←e] at h1 h2 h3
    refine .inr ⟨by omega,h1,h2,by omega,fun j j1 j2=>?_⟩
    have:j=p∨j=p+1∨j=p+2∨j=p+3:=by omega
    rcases this with rfl|rfl|rfl|rfl
    · exact ⟨h,by omega⟩
    · exact k1 (by rcases h3 with h3|h3|h3|h3<;>first|omega|exact h3.2|exact h3.2.1)
    · exact k2 (by rcases h3 with h3|h3|h3|h3<;>first|omega|exact h3.2.2|exact h3.2.2.1)
    · exact k3 (by rcases h3 with h3|h3|h3|h3<;>first|omega|exact h3.2.2.2)
theorem Z87 {r:Int} (h0:128≤r) (h1:r≤1114111):2≤(Zi7 r).length∧(Zi7 r).length≤4∧((Zi7 r).length=2→128≤bat (Zi7 r) 1):=by
  unfold Zi7 Utf8.encode Utf8.runeError
  simp only []
  generalize hc:(if Utf8.valid r=true then r.toNat else 65533)=c
  have hc0:128≤c:=by
    rw [←hc];split
    · omega
    · omega
  rw [if_neg (by omega)]
  split
  · refine ⟨by simp,by simp,fun _=>?_⟩
    simp [bat]
    omega
  · split<;>simp
theorem Z88 {r:Int} (h0:128≤r):S E0 F.M6 [.int .i32 r] []=some (.bool (decide (r<55296)||(decide (57343<r)&&decide (r≤1114111))),[]):=by
  rw [Zbl Zop rfl rfl]
  by_cases h1:r<55296
  · simp -dsimp (disch:=first|omega|(simp only [B0]<;>omega)|fail) only [L.M6,go_sem,reduceIte,reduceCtorEq,E2,E3,E4,E5,E6,E7,E8,E9,F0,F1,F2,F3,F4,F5,F6,F7,F8,F9,G0,B2,N4 h1]
  · by_cases h2:57343<r
    · by_cases h3:r≤1114111
      · simp -dsimp (disch:=first|omega|(simp only [B0]<;>omega)|fail) only [L.M6,go_sem,reduceIte,reduceCtorEq,E2,E3,E4,E5,E6,E7,E8,E9,F0,F1,F2,F3,F4,F5,F6,F7,F8,F9,G0,B2,Zat h1,N4 h2,N4 h3]
      · simp -dsimp (disch:=first|omega|(simp only [B0]<;>omega)|fail) only [L.M6,go_sem,reduceIte,reduceCtorEq,E2,E3,E4,E5,E6,E7,E8,E9,F0,F1,F2,F3,F4,F5,F6,F7,F8,F9,G0,B2,Zat h1,N4 h2,Zat h3]
    · simp -dsimp (disch:=first|omega|(simp only [B0]<;>omega)|fail) only [L.M6,go_sem,reduceIte,reduceCtorEq,E2,E3,E4,E5,E6,E7,E8,E9,F0,F1,F2,F3,F4,F5,F6,F7,F8,F9,G0,B2,Zat h1,Zat h2]
theorem Zme {l:List UInt8} {c:Int}:S E0 F.P7 [.str l,.int .u8 c] []=some (.int .i64 (O6 l (byt c)),[]):=by
  rw [Zbl Zoe rfl rfl]
  have h:S E0 F.K6 [.str l,.int .u8 c] []=some (.int .i64 (O6 l (byt c)),[]):=by
    rw [Zbl Zg2 rfl rfl]
    simp -dsimp (disch:=first|omega|(simp only [B0]<;>omega)|fail) only [L.K6,go_sem,reduceIte,reduceCtorEq,E2,E3,E4,E5,E6,E7,E8,E9,F0,F1,F2,F3,F4,F5,F6,F7,F8,F9,G0,B2,Zsc]
  simp -dsimp (disch:=first|omega|(simp only [B0]<;>omega)|fail) only [L.P7,go_sem,reduceIte,reduceCtorEq,E2,E3,E4,E5,E6,E7,E8,E9,F0,F1,F2,F3,F4,F5,F6,F7,F8,F9,G0,B2,h]
theorem Zsh:S E0 F.B6 [.str [47,0],.int .i32 65533] []=some (.int .i64 (-1),[]):=Zel.2 ⟨60,by kernel_rfl⟩
theorem Zi1 {r:Int} (h0:0≤r) (h1:r<128):S E0 F.B6 [.str [47,0],.int .i32 r] []=some (.int .i64 (O6 [47,0] (byt r)),[]):=by
  rw [Zbl Zg3 rfl rfl]
  have h2:IntKind.u8.wrap r=r:=by rw [Zha];omega
  simp -dsimp (disch:=first|omega|(simp only [B0]<;>omega)|fail) only [L.B6,go_sem,reduceIte,reduceCtorEq,E2,E3,E4,E5,E6,E7,E8,E9,F0,F1,F2,F3,F4,F5,F6,F7,F8,F9,G0,B2,N4 h0,N4 h1,h2,Zme]
theorem Zpd {r:Int} (h0:128≤r) (h1:r≤1114111):S E0 F.B6 [.str [47,0],.int .i32 r] []=some (.int .i64 (-1),[]):=by
  by_cases he:r=65533
  · subst he;exact Zsh
  · have h2:¬ r<128:=by omega
    have h3:(0:Int)≤r:=by omega
    rw [Zbl Zg3 rfl rfl]
    have hvv:S E0 F.M6 [.int .i32 r] []=some (.bool (decide (r<55296)||decide (57343<r)),[]):=by rw [Z88 h0,N4 h1,Ygi]
    cases hv:(decide (r<55296)||decide (57343<r)) with
    | false=>simp -dsimp (disch:=first|omega|(simp only [B0]<;>omega)|fail) only [L.B6,go_sem,reduceIte,reduceCtorEq,E2,E3,E4,E5,E6,E7,E8,E9,F0,F1,F2,F3,F4,F5,F6,F7,F8,F9,G0,B2,N4 h3,Zat h2,Ziz he,hvv,hv]
    | true =>
      obtain ⟨e1,e2,e3⟩:=Z87 h0 h1
      simp -dsimp (disch:=first|omega|(simp only [B0]<;>omega)|fail) only [L.B6,go_sem,reduceIte,reduceCtorEq,E2,E3,E4,E5,E6,E7,E8,E9,F0,F1,F2,F3,F4,F5,F6,F7,F8,F9,G0,B2,N4 h3,Zat h2,Ziz he,hvv,hv]
      rw [K1 L.B6.x1.eq_1]
      by_cases e4:(Zi7 r).length=2
      · have e5:=e3 e4
        have b1:bat [47,0] 1=0:=rfl
        have b2:((((0:UInt8).toNat:Nat):Int) != bat (Zi7 r) 1)=true:=bne_t (by show (0:Int)≠_;omega)
        have b3:(((2:Nat):Int)-1).toNat=1:=rfl
        have b4:O6 ([47,0].drop (((2:Nat):Int)-1+1).toNat) (byt (bat (Zi7 r) 1)) = -1:=rfl
        have b5:O6 [] (byt (bat (Zi7 r) 1)) = -1:=rfl
        simp -dsimp (disch:=first|omega|(simp only [B0]<;>omega)|fail) only [go_sem,reduceIte,reduceCtorEq,E2,E3,E4,E5,E6,E7,E8,E9,F0,F1,F2,F3,F4,F5,F6,F7,F8,F9,G0,B2,L.B6.r2,e4,b1,b2,b3,Zme,C4,C3,C2,b4,b5,List.drop_nil]
      · simp -dsimp (disch:=first|omega|(simp only [B0]<;>omega)|fail) only [go_sem,reduceIte,reduceCtorEq,E2,E3,E4,E5,E6,E7,E8,E9,F0,F1,F2,F3,F4,F5,F6,F7,F8,F9,G0,B2,L.B6.r2]
def Zcs (b:UInt8):Bool:=b==47||b==0
theorem Z89 (b:UInt8):(0≤O6 [47,0] b)↔Zcs b=true:=by
  unfold O6 Zcs
  by_cases h1:b=47
  · subst h1;simp
  · by_cases h2:b=0
    · subst h2;simp [Yhn]
    · simp [h1,h2]
theorem Zjn (l:List UInt8) (i:Nat):byt (bat l i)=l.getD i 0:=by
  unfold byt bat
  rw [Int.toNat_natCast,UInt8.ofNat_toNat]
theorem Z9a {s:List UInt8} (hs:s.length≤1000000):∀ (m p:Nat),p+m≤s.length→s.length≤p+m→∃ i:Int,((0≤i)↔(s.drop p).any Zcs=true) ∧
    X E0 [.tmp 4] (.c L.C0.x1::.lp [1,45] L.C0.x1::.blk 2::.c L.C0.r2::[]) ⟨[(1,.str [47,0]),(45,.it (.s 1000000 0) 0)],[(.s 1000000 0,⟨0,true,true,true,[.itr s p]⟩)]⟩=some (.int .i64 i,[]):=by
  intro m
  induction m using Nat.strongRecOn with
  | _ m ih =>
    intro p h1 h2
    rw [K1 L.C0.x1.eq_1]
    by_cases hp:p<s.length
    · have hd:s.drop p=s.getD p 0::s.drop (p+1):=by
        rw [Yho hp];simp [hp]
      rcases Z20 hp with ⟨e1,e2,e3⟩|⟨e1,e2,e3,e4,e5⟩
      · cases hbad:Zcs (s.getD p 0) with
        | true =>
          have h3:=(Z89 (byt (bat s p))).2 (by rw [Zjn];exact hbad)
          refine ⟨p,⟨fun _=>by rw [hd,Yhp,hbad];rfl,fun _=>by omega⟩,?_⟩
          simp -dsimp (disch:=first|omega|(simp only [B0]<;>omega)|fail) only [go_sem,reduceIte,reduceCtorEq,E2,E3,E4,E5,E6,E7,E8,E9,F0,F1,F2,F3,F4,F5,F6,F7,F8,F9,G0,B2,hp,e2,e3,Zi1 (Zfw s p).1 e1,N4 h3]
        | false =>
          have h3:¬ 0≤O6 [47,0] (byt (bat s p)):=fun h=>by rw [Z89,Zjn,hbad] at h;cases h
          obtain ⟨i,h4,h5⟩:=ih (m-1) (by omega) (p+1) (by omega) (by omega)
          refine ⟨i,by rw [h4,hd,Yhp,hbad,Yhl],?_⟩
          rw [←h5]
          simp -dsimp (disch:=first|omega|(simp only [B0]<;>omega)|fail) only [go_sem,reduceIte,reduceCtorEq,E2,E3,E4,E5,E6,E7,E8,E9,F0,F1,F2,F3,F4,F5,F6,F7,F8,F9,G0,B2,hp,e2,e3,Zi1 (Zfw s p).1 e1,Zat h3]
      · have hw:p+(Zbb s p).2≤s.length:=by
          have:=(e5 (p+(Zbb s p).2-1) (by omega) (by omega)).1
          omega
        obtain ⟨i,h4,h5⟩:=ih (m-(Zbb s p).2) (by omega) (p+(Zbb s p).2) (by omega) (by omega)
        refine ⟨i,?_,?_⟩
        · rw [h4]
          have:∀ w,p+w≤s.length→(∀ j,p≤j→j<p+w→j<s.length∧128≤bat s j)→(s.drop p).any Zcs=(s.drop (p+w)).any Zcs:=by
            intro w
            induction w with
            | zero=>intro _ _;rfl
            | succ w ihw =>
              intro hw1 hw2
              rw [ihw (by omega) (fun j j1 j2=>hw2 j j1 (by omega)),Yho (by omega:p+w<s.length),Yhp]
              have hh:=(hw2 (p+w) (by omega) (by omega)).2
              have:Zcs s[p+w]=false:=by
                unfold bat at hh
                rw [List.getD_eq_getElem?_getD,List.getElem?_eq_getElem (by omega),Option.getD_some] at hh
                unfold Zcs
                rw [Bool.or_eq_false_iff,beq_eq_false_iff_ne,beq_eq_false_iff_ne]
                constructor<;>(intro hx;rw [hx] at hh;simp at hh)
              rw [this,Yhl]
              rfl
          rw [this _ hw e5]
        · rw [←h5]
          have h6:=Zpd (r:=((Zbb s p).1:Int)) (by omega) (by omega)
          simp -dsimp (disch:=first|omega|(simp only [B0]<;>omega)|fail) only [go_sem,reduceIte,reduceCtorEq,E2,E3,E4,E5,E6,E7,E8,E9,F0,F1,F2,F3,F4,F5,F6,F7,F8,F9,G0,B2,hp,h6]
    · refine ⟨-1,⟨fun h=>by omega,fun h=>by rw [Yhq (by omega)] at h;simp at h⟩,?_⟩
      simp -dsimp (disch:=first|omega|(simp only [B0]<;>omega)|fail) only [go_sem,reduceIte,reduceCtorEq,E2,E3,E4,E5,E6,E7,E8,E9,F0,F1,F2,F3,F4,F5,F6,F7,F8,F9,G0,B2,hp,L.C0.r2]
def Zf1:List AV:=(List.range 256).map fun i=>.bool (i==47||i==0)
theorem go_set:S E0 F.P8 [.str [47,0]] []=some (.tup [.agg Zf1,.bool true],[]):=Zel.2 ⟨60,by kernel_rfl⟩
theorem Z9b:∀ n:Nat,n<256→Zf1[n]? = some (.bool (Zcs (UInt8.ofNat n))):=by
  intro n hn
  simp only [Zf1,List.getElem?_map,List.getElem?_range hn,Option.map_some,Zcs]
  have:∀ n:Nat,n<256→(n==47||n==0)=(UInt8.ofNat n==47||UInt8.ofNat n==0):=by decide +kernel
  rw [this n hn]
theorem Z5:flats Zf1=true:=by kernel_rfl
theorem Zad:Zf1.length=256:=by simp [Zf1]
end Cod
namespace Cod
open Go
set_option maxRecDepth 100000
theorem Yd5 {b:Int} (h0:0≤b) (h1:b<256):Zf1[b.toNat]? = some (.bool (Zcs (byt b))):=Z9b b.toNat (by omega)
theorem Zmf:leadss Zf1=false:=by kernel_rfl
theorem Zmg:refsOfs Zf1=[]:=by kernel_rfl
theorem Zmh (f:Site→Nat→Option (Site × Nat)):rens f Zf1=Zf1:=rens_flats Zf1 Z5
theorem Zh8:T7 Zf1=true:=by kernel_rfl
theorem Zi2 {x:Site} {b:Int} (h0:0≤b) (h1:b<256):S E0 F.S3 [.ref (.up x) 0 0,.int .u8 b] [(.up x,⟨0,true,true,true,Zf1⟩)]=some (.bool (Zcs (byt b)),[(.up x,⟨0,true,true,true,Zf1⟩)]):=by
  rw [Zbl Zok rfl rfl]
  simp -dsimp (disch:=first|omega|(simp only [B0]<;>omega)|fail) only [L.S3,go_sem,reduceIte,reduceCtorEq,E2,E3,E4,E5,E6,E7,E8,E9,F0,F1,F2,F3,F4,F5,F6,F7,F8,F9,G0,B2,Zad,Z5,Zmf,Zmg,Zmh,Zh8,Yd5 h0 h1]
theorem Z9c {s:List UInt8} (hs:s.length≤1000000):∀ (m p:Nat),p+m=s.length→∃ i:Int,((0≤i)↔(s.drop p).any Zcs=true) ∧
    X E0 [.tmp 4] (.c L.C0.x0::.lp [0,6,8] L.C0.x0::.blk 0::.c L.C0.r0::.c L.C0.r1::[]) ⟨[(0,.str s),(6,.ref (.s 1000000 0) 0 0),(8,.int .i64 p)],[(.s 1000000 0,⟨0,true,true,true,Zf1⟩)]⟩=some (.int .i64 i,[]):=by
  intro m
  induction m with
  | zero =>
    intro p h
    refine ⟨-1,⟨fun h=>by omega,fun h=>by rw [Yhq (by omega)] at h;simp at h⟩,?_⟩
    rw [K1 L.C0.x0.eq_1]
    simp -dsimp (disch:=first|omega|(simp only [B0]<;>omega)|fail) only [go_sem,reduceIte,reduceCtorEq,E2,E3,E4,E5,E6,E7,E8,E9,F0,F1,F2,F3,F4,F5,F6,F7,F8,F9,G0,B2,Zad,Z5,Zmf,Zmg,Zmh,Zh8,L.C0.r0]
  | succ m ih =>
    intro p h
    have hp:p<s.length:=by omega
    have hd:s.drop p=s.getD p 0::s.drop (p+1):=by
      rw [Yho hp];simp [hp]
    obtain ⟨b0,b1⟩:=Zfw s p
    cases hbad:Zcs (s.getD p 0) with
    | true =>
      have h3:Zcs (byt (bat s p))=true:=by rw [Zjn];exact hbad
      refine ⟨p,⟨fun _=>by rw [hd,Yhp,hbad];rfl,fun _=>by omega⟩,?_⟩
      rw [K1 L.C0.x0.eq_1]
      simp -dsimp (disch:=first|omega|(simp only [B0]<;>omega)|fail) only [go_sem,reduceIte,reduceCtorEq,E2,E3,E4,E5,E6,E7,E8,E9,F0,F1,F2,F3,F4,F5,F6,F7,F8,F9,G0,B2,Zad,Z5,Zmf,Zmg,Zmh,Zh8,Zi2 b0 b1,h3]
    | false =>
      have h3:Zcs (byt (bat s p))=false:=by rw [Zjn];exact hbad
      obtain ⟨i,h4,h5⟩:=ih (p+1) (by omega)
      refine ⟨i,by rw [h4,hd,Yhp,hbad,Yhl],?_⟩
      rw [←h5,K1 L.C0.x0.eq_1]
      simp -dsimp (disch:=first|omega|(simp only [B0]<;>omega)|fail) only [go_sem,reduceIte,reduceCtorEq,E2,E3,E4,E5,E6,E7,E8,E9,F0,F1,F2,F3,F4,F5,F6,F7,F8,F9,G0,B2,Zad,Z5,Zmf,Zmg,Zmh,Zh8,Zi2 b0 b1,h3]
      rfl
theorem Z9d {n:Int}:S E0 F.S2 [.int .i64 n] []=some (.bool (decide (8<n)),[]):=by
  rw [Zbl Zoj rfl rfl]
  simp -dsimp (disch:=first|omega|(simp only [B0]<;>omega)|fail) only [L.S2,go_sem,reduceIte,reduceCtorEq,E2,E3,E4,E5,E6,E7,E8,E9,F0,F1,F2,F3,F4,F5,F6,F7,F8,F9,G0,B2]
theorem go_any {s:List UInt8} (hs:s.length≤1000000):∃ i:Int,((0≤i)↔s.any Zcs=true)∧S E0 F.C0 [.str s,.str [47,0]] []=some (.int .i64 i,[]):=by
  rw [Zbl Zof rfl rfl]
  have e0:(([47,0]:List UInt8) == [])=false:=rfl
  by_cases h8:8<s.length
  · obtain ⟨i,h1,h2⟩:=Z9c hs s.length 0 (by omega)
    refine ⟨i,by simpa using h1,?_⟩
    rw [←h2]
    have h9:decide (8<(s.length:Int))=true:=by simp;omega
    simp -dsimp (disch:=first|omega|(simp only [B0]<;>omega)|fail) only [L.C0,go_sem,reduceIte,reduceCtorEq,E2,E3,E4,E5,E6,E7,E8,E9,F0,F1,F2,F3,F4,F5,F6,F7,F8,F9,G0,B2,Zad,Z5,Zmf,Zmg,Zmh,Zh8,e0,Z9d,h9,go_set]
    rfl
  · obtain ⟨i,h1,h2⟩:=Z9a hs s.length 0 (by omega) (by omega)
    refine ⟨i,by simpa using h1,?_⟩
    rw [←h2]
    have h9:decide (8<(s.length:Int))=false:=by simp;omega
    simp -dsimp (disch:=first|omega|(simp only [B0]<;>omega)|fail) only [L.C0,go_sem,reduceIte,reduceCtorEq,E2,E3,E4,E5,E6,E7,E8,E9,F0,F1,F2,F3,F4,F5,F6,F7,F8,F9,G0,B2,Zad,Z5,Zmf,Zmg,Zmh,Zh8,e0,Z9d,h9,L.C0.r1]
theorem Zhg {s:List UInt8} (hs:s.length≤1000000):S E0 F.R9 [.str s,.str [47,0]] []=some (.bool (s.any Zcs),[]):=by
  rw [Zbl Zn9 rfl rfl]
  obtain ⟨i,h1,h2⟩:=go_any hs
  have h3:decide (0≤i)=s.any Zcs:=by
    cases h:s.any Zcs with
    | true=>simp [h1.2 h]
    | false=>rw [decide_eq_false_iff_not,h1,h];simp
  simp -dsimp (disch:=first|omega|(simp only [B0]<;>omega)|fail) only [L.R9,go_sem,reduceIte,reduceCtorEq,E2,E3,E4,E5,E6,E7,E8,E9,F0,F1,F2,F3,F4,F5,F6,F7,F8,F9,G0,B2,h2,h3]
theorem Zsi {s:List UInt8} (hs:s.length=4) (h:Zhc s=true):bat s 1<128∧bat s 2<128:=by
  rw [←Zyk hs] at h
  simp only [Zsf,Yfz,decide_eq_true_eq] at h
  exact ⟨h.2.1.1,h.2.2.1.1⟩
theorem Yd6 (s:List UInt8):s.any Zcs=(s.contains 47||s.contains 0):=by
  induction s with
  | nil=>rfl
  | cons b s ih =>
    rw [Yhp,ih,Yhr,Yhr]
    unfold Zcs
    rw [show (47==b)=(b==47) from Bool.beq_comm,show (0==b)=(b==0) from Bool.beq_comm]
    cases (b==47)<;>cases (b==0)<;>cases s.contains 47<;>cases s.contains 0<;>rfl
theorem Z21 {s:List UInt8} (h:s.length≠4):Zhc s=false:=by
  unfold Zhc
  split
  · exact absurd rfl h
  · rfl
theorem Yd7 {s:List UInt8} (hs:s.length≤1000000):S E0 F.N9 [.str s] []=some (.bool (Zau s),[]):=by
  rw [Zbl Zoh rfl rfl]
  cases c1:(s == []) with
  | true =>
    have:Zau s=false:=by rw [eq_of_beq c1];rfl
    rw [this]
    simp -dsimp (disch:=first|omega|(simp only [B0]<;>omega)|fail) only [L.N9,go_sem,reduceIte,reduceCtorEq,E2,E3,E4,E5,E6,E7,E8,E9,F0,F1,F2,F3,F4,F5,F6,F7,F8,F9,G0,B2,c1]
  | false =>
  cases c2:(s == [46]) with
  | true =>
    have:Zau s=false:=by rw [eq_of_beq c2];rfl
    rw [this]
    simp -dsimp (disch:=first|omega|(simp only [B0]<;>omega)|fail) only [L.N9,go_sem,reduceIte,reduceCtorEq,E2,E3,E4,E5,E6,E7,E8,E9,F0,F1,F2,F3,F4,F5,F6,F7,F8,F9,G0,B2,c1,c2]
  | false =>
  cases c3:(s == [46,46]) with
  | true =>
    have:Zau s=false:=by rw [eq_of_beq c3];rfl
    rw [this]
    simp -dsimp (disch:=first|omega|(simp only [B0]<;>omega)|fail) only [L.N9,go_sem,reduceIte,reduceCtorEq,E2,E3,E4,E5,E6,E7,E8,E9,F0,F1,F2,F3,F4,F5,F6,F7,F8,F9,G0,B2,c1,c2,c3]
  | false =>
  have hl:1≤s.length:=by
    cases s with
    | nil=>simp at c1
    | cons b s=>simp
  by_cases c4:100<s.length
  · have:Zau s=false:=by
      unfold Zau
      rw [show decide (s.length≤100)=false from Zat (by omega)]
      simp
    have c4':decide (100<(s.length:Int))=true:=N4 (by omega)
    rw [this]
    simp -dsimp (disch:=first|omega|(simp only [B0]<;>omega)|fail) only [L.N9,go_sem,reduceIte,reduceCtorEq,E2,E3,E4,E5,E6,E7,E8,E9,F0,F1,F2,F3,F4,F5,F6,F7,F8,F9,G0,B2,c1,c2,c3,c4']
  · have c4':decide (100<(s.length:Int))=false:=Zat (by omega)
    have hn:Zau s=(!(s.any Zcs) && !Zhc s):=by
      unfold Zau
      rw [Yd6,show decide (s.length≤100)=true from N4 (by omega),show decide (1≤s.length)=true from N4 hl,show (s != [46])=true by simp [bne,c2],show (s != [46,46])=true by simp [bne,c3]]
      cases s.contains 47<;>cases s.contains 0<;>cases Zhc s<;>rfl
    by_cases c5:s.length=4
    · have c5':((s.length:Int)==4)=true:=Zr3 (by omega)
      have hf:=Yd4 c5
      rw [Zyk c5] at hf
      cases hg:Zhc s with
      | true =>
        obtain ⟨g1,g2⟩:=Zsi c5 hg
        rw [hg] at hf
        rw [hn,hg]
        simp -dsimp (disch:=first|omega|(simp only [B0]<;>omega)|fail) only [L.N9,go_sem,reduceIte,reduceCtorEq,E2,E3,E4,E5,E6,E7,E8,E9,F0,F1,F2,F3,F4,F5,F6,F7,F8,F9,G0,B2,c1,c2,c3,c4',c5',hf,N4 g1,N4 g2,Bool.not_true,Yhs]
      | false =>
        rw [hg] at hf
        rw [hn,hg]
        simp -dsimp (disch:=first|omega|(simp only [B0]<;>omega)|fail) only [L.N9,go_sem,reduceIte,reduceCtorEq,E2,E3,E4,E5,E6,E7,E8,E9,F0,F1,F2,F3,F4,F5,F6,F7,F8,F9,G0,B2,c1,c2,c3,c4',c5',hf,Zhg hs,Yht,Ygi]
    · have c5':((s.length:Int)==4)=false:=Ziz (by omega)
      rw [hn,Z21 c5]
      simp -dsimp (disch:=first|omega|(simp only [B0]<;>omega)|fail) only [L.N9,go_sem,reduceIte,reduceCtorEq,E2,E3,E4,E5,E6,E7,E8,E9,F0,F1,F2,F3,F4,F5,F6,F7,F8,F9,G0,B2,c1,c2,c3,c4',c5',Zhg hs,Yht,Ygi]
end Cod
namespace Cod
open Go
set_option maxRecDepth 100000
theorem Z9e {s:List UInt8}:S E0 F.S1 [.str s,.str [47]] []=some (.int .i64 (O6 s 47),[]):=by
  have h:S E0 F.K7 [.str s,.str [47]] []=some (.int .i64 (O6 s 47),[]):=by
    have h1:S E0 F.K6 [.str s,.int .u8 47] []=some (.int .i64 (O6 s 47),[]):=by
      rw [Zbl Zg2 rfl rfl]
      simp -dsimp (disch:=first|omega|(simp only [B0]<;>omega)|fail) only [L.K6,go_sem,reduceIte,reduceCtorEq,E2,E3,E4,E5,E6,E7,E8,E9,F0,F1,F2,F3,F4,F5,F6,F7,F8,F9,G0,B2,Zsc]
      rfl
    rw [Zbl Zoo rfl rfl]
    have b0:bat [47] 0=47:=rfl
    cases hs:(([47]:List UInt8)==s) with
    | true =>
      have:=eq_of_beq hs
      subst this
      simp -dsimp (disch:=first|omega|(simp only [B0]<;>omega)|fail) only [L.K7,go_sem,reduceIte,reduceCtorEq,E2,E3,E4,E5,E6,E7,E8,E9,F0,F1,F2,F3,F4,F5,F6,F7,F8,F9,G0,B2,hs]
      rfl
    | false =>
      have h1':S E0 F.K6 [.str s,.int .u8 (((47:UInt8).toNat:Nat):Int)] []=some (.int .i64 (O6 s 47),[]):=h1
      simp -dsimp (disch:=first|omega|(simp only [B0]<;>omega)|fail) only [L.K7,go_sem,reduceIte,reduceCtorEq,E2,E3,E4,E5,E6,E7,E8,E9,F0,F1,F2,F3,F4,F5,F6,F7,F8,F9,G0,B2,hs,h1',b0]
  rw [Zbl Zoi rfl rfl]
  simp -dsimp (disch:=first|omega|(simp only [B0]<;>omega)|fail) only [L.S1,go_sem,reduceIte,reduceCtorEq,E2,E3,E4,E5,E6,E7,E8,E9,F0,F1,F2,F3,F4,F5,F6,F7,F8,F9,G0,B2,h]
theorem Z9f {s:List UInt8}:S E0 F.U7 [.str s,.str [47]] []=some (.clo F.K0 [.ref (.r 0) 0 0,.ref (.r 1) 0 0,.ref (.r 2) 0 0],
    [(.r 0,⟨0,true,true,true,[.str [47]]⟩),(.r 1,⟨0,true,true,true,[.str s]⟩),(.r 2,⟨0,true,true,true,[.int .i64 0]⟩)]):=by
  have h:S E0 F.S4 [.str s,.str [47],.int .i64 0] []=some (.clo F.K0 [.ref (.r 0) 0 0,.ref (.r 1) 0 0,.ref (.r 2) 0 0],
    [(.r 0,⟨0,true,true,true,[.str [47]]⟩),(.r 1,⟨0,true,true,true,[.str s]⟩),(.r 2,⟨0,true,true,true,[.int .i64 0]⟩)]):=by
    rw [Zbl Zom rfl rfl]
    simp -dsimp (disch:=first|omega|(simp only [B0]<;>omega)|fail) only [L.S4,go_sem,reduceIte,reduceCtorEq,E2,E3,E4,E5,E6,E7,E8,E9,F0,F1,F2,F3,F4,F5,F6,F7,F8,F9,G0,B2]
  rw [Zbl Zog rfl rfl]
  simp -dsimp (disch:=first|omega|(simp only [B0]<;>omega)|fail) only [L.U7,go_sem,reduceIte,reduceCtorEq,E2,E3,E4,E5,E6,E7,E8,E9,F0,F1,F2,F3,F4,F5,F6,F7,F8,F9,G0,B2,h]
end Cod
namespace Cod
open Go Go.RowKit Go.Proofs Go.Shelf
set_option maxRecDepth 100000
attribute [local go_sem] Oper.semAt_some
theorem Zmi {s:List UInt8} {W:World} (hW:Zcr W):Calls Tryz.prog 248 #[.string ⟨s.toArray⟩,.string ⟨#[47]⟩] W (fun e W'=>e=.returned (.int .i64 (O6 s 47))∧Below W.heap.size W W') :=
  Zkq Tryz.func248 (by rfl) (by kernel_rfl) (Z9e (s:=s)) hW (vs:=[.string ⟨s.toArray⟩,.string ⟨#[47]⟩]) (fun c=>by simp [VRL,VR]) (fun c z hz=>by simpa [VR] using hz)
theorem Zkr {s:List UInt8} (hs:s.length≤1000000) {W:World} (hW:Zcr W):Calls Tryz.prog 240 #[.string ⟨s.toArray⟩] W (fun e W'=>e=.returned (.bool (Zau s))∧Below W.heap.size W W') :=
  Zkq Tryz.func240 (by rfl) (by kernel_rfl) (Yd7 hs) hW (vs:=[.string ⟨s.toArray⟩]) (fun c=>by simp [VRL,VR]) (fun c z hz=>by simpa [VR] using hz)
theorem Zwr {σ:A2} {La:Lay} {W w:World} {E:Env} {O:Nat→Prop} {L0:Lay} {σ0:A2} (h:Rel E w O σ0 L0 σ La W) (h0:∀ b,¬ inS σ0 L0 b) {k:Nat} {x:AV} {y:Value} (he:A8 σ (.r k)=some ⟨0,true,true,true,[x]⟩) (hv:VR (ctx σ La W) (.ref (.r k) 0 0) y) (hx:R1 x=true) :
    ∃ b o v,La (.r k)=some (b,o)∧y=.pointer (some ⟨b,o,none⟩)∧w.heap.size≤b∧W.cell? ⟨b,o,none⟩=some v∧VR (ctx σ La W) x v∧W.frozen? ⟨b,o,none⟩=false:=by
  obtain ⟨b,o,h1,h2,h3,h4⟩:=Zdg h.store hv he rfl rfl
  simp only [VRC] at h4
  obtain ⟨⟨v,h5,h6⟩,_⟩:=h4
  refine ⟨b,o,v,h1,h2,?_,h5,h6,?_⟩
  · exact (h.src b ⟨_,_,_,he,rfl,h1⟩).resolve_left (h0 b)
  · obtain ⟨cs,el,fr,f1,f2,f3⟩:=h3
    simp only [World.frozen?,f1]
    have:o<cs.size:=by
      simp only [Yf0,Ygy] at f2;omega
    rcases f3 with f3|f3
    · simp;omega
    · simp;omega
def Yd8 (n0:Nat) (s:List UInt8) (W':World) (p0 p1 p2:Addr):Prop :=
  n0≤p0.block∧n0≤p1.block∧n0≤p2.block∧p0.block≠p1.block∧p2.block≠p1.block∧W'.cell? p0=some (.string ⟨#[47]⟩)∧W'.cell? p1=some (.string ⟨s.toArray⟩)∧W'.cell? p2=some (.int .i64 0)∧W'.frozen? p1=false
theorem Zsj {s:List UInt8} {W:World} (hW:Zcr W):Calls Tryz.prog 239 #[.string ⟨s.toArray⟩,.string ⟨#[47]⟩] W (fun e W'=>∃ b0 b1 b2 o0 o1 o2,e=.returned (.func (.func 307) #[] #[.pointer (some ⟨b0,o0,none⟩),.pointer (some ⟨b1,o1,none⟩),.pointer (some ⟨b2,o2,none⟩)]) ∧
    Below W.heap.size W W'∧Yd8 W.heap.size s W' ⟨b0,o0,none⟩ ⟨b1,o1,none⟩ ⟨b2,o2,none⟩):=by
  refine (Zec Tryz.func239 (by rfl) (by kernel_rfl) (Zd2 Zmd Zyi (Z9f (s:=s)) LaE hW.rel (vs:=[.string ⟨s.toArray⟩,.string ⟨#[47]⟩]) (by simp [VRL,VR]))).mono ?_
  rintro e W' ⟨z,rfl,La',h1,h2⟩
  rw [VR] at h2
  obtain ⟨vs,rfl,h2⟩:=h2
  simp only [VRL] at h2
  obtain ⟨y0,r0,hr0,v0,y1,r1,hr1,v1,y2,r2,hr2,v2,hr3⟩:=h2
  have h0:∀ b,¬ inS [] LaE b:=fun b ⟨s,e,o,he,_⟩=>by simp [A8] at he
  obtain ⟨b0,o0,x0,a1,rfl,a2,a3,a4,_⟩:=Zwr h1 h0 (k:=0) rfl v0 rfl
  obtain ⟨b1,o1,x1,c1,rfl,c2,c3,c4,c5⟩:=Zwr h1 h0 (k:=1) rfl v1 rfl
  obtain ⟨b2,o2,x2,d1,rfl,d2,d3,d4,_⟩:=Zwr h1 h0 (k:=2) rfl v2 rfl
  simp only [VR] at a4 c4 d4
  subst a4 c4 d4
  refine ⟨b0,b1,b2,o0,o1,o2,?_,Zkp h1.keep,a2,c2,d2,?_,?_,a3,c3,d3,c5⟩
  · have:vs = #[.pointer (some ⟨b0,o0,none⟩),.pointer (some ⟨b1,o1,none⟩),.pointer (some ⟨b2,o2,none⟩)]:=by
      apply Array.ext'
      rw [hr0,hr1,hr2,hr3]
    rw [this];rfl
  · intro hb
    simp only at hb
    subst hb
    have:=h1.store.apart (.r 0) (.r 1) _ _ b0 o0 o1 rfl rfl rfl rfl a1 c1
    cases this
  · intro hb
    simp only at hb
    subst hb
    have:=h1.store.apart (.r 2) (.r 1) _ _ b2 o2 o1 rfl rfl rfl rfl d1 c1
    cases this
end Cod
namespace Cod
open Go Go.RowKit Go.Proofs Go.Shelf
set_option maxRecDepth 100000
attribute [local go_sem] Oper.semAt_some
structure PathJ (J:List (List UInt8)→World→Prop) (p0 p1 p2:Addr):Prop where
  start:∀ pre W,J pre W→Zcr W
  c0:∀ pre W,J pre W→W.cell? p0=some (.string ⟨#[47]⟩)
  c2:∀ pre W,J pre W→W.cell? p2=some (.int .i64 0)
  f1:∀ pre W,J pre W→W.frozen? p1=false
  below:∀ pre W W',J pre W→Below W.heap.size W W'→J pre W'
  set:∀ pre W v,J pre W→(W.cell? p1).isSome=true→J pre (W.setCell p1 v)
theorem Zks:∀ {s:List UInt8},(47:UInt8)∉s→parts s=[s]:=by
  intro s
  induction s with
  | nil=>intro _;rfl
  | cons c s ih =>
    intro h
    simp only [List.mem_cons,not_or] at h
    have hc:¬ c=47:=fun e=>h.1 e.symm
    rw [parts,if_neg hc,ih h.2]
theorem Z9g:∀ {s:List UInt8},(47:UInt8)∈s→parts s=s.take (s.idxOf 47)::parts (s.drop (s.idxOf 47+1)):=by
  intro s
  induction s with
  | nil=>intro h;simp at h
  | cons c s ih =>
    intro h
    by_cases hc:c=47
    · subst hc;rw [parts,if_pos rfl];simp
    · have hm:(47:UInt8)∈s:=by
        rcases List.mem_cons.1 h with h|h
        · exact absurd h.symm hc
        · exact h
      have hi:(c::s).idxOf 47=s.idxOf 47+1:=by
        rw [Yhn,beq_eq_false_iff_ne.2 hc];rfl
      rw [parts,if_neg hc,ih hm,hi]
      simp
theorem Zpe (l:List UInt8) (k:Nat):(⟨l.toArray⟩:ByteArray).extract 0 k=⟨(l.take k).toArray⟩:=by rw [Zdv];rfl
theorem Zhh (l:List UInt8) (k:Nat):(⟨l.toArray⟩:ByteArray).extract k l.length=⟨(l.drop k).toArray⟩:=by rw [Zdv,C2 (by omega)]
def Z9h (W:World) (p:Addr):Nat:=match W.cell? p with|some (.string b)=>b.size|_=>0
set_option maxHeartbeats 2000000 in
theorem Yd9 (l b0 o0 b1 o1 b2 o2:Nat) (J Jx:List (List UInt8)→World→Prop) (hJ:PathJ J ⟨b0,o0,none⟩ ⟨b1,o1,none⟩ ⟨b2,o2,none⟩)
    (hY:∀ pre x W s,J pre W→W.cell? ⟨b1,o1,none⟩=some (.string ⟨List.toArray s⟩)→x.length≤1000000→YieldAt Fence.wide 2 Tryz.prog l #[.string ⟨List.toArray x⟩] W fun e W' =>
      (e=.returned (.bool true)∧J (pre++[x]) W'∧W'.cell? ⟨b1,o1,none⟩=some (.string ⟨List.toArray s⟩))∨(e=.returned (.bool false)∧Jx (pre++[x]) W'))
    (W:World) (s:List UInt8) (hs:s.length≤1000000) (hc:W.cell? ⟨b1,o1,none⟩=some (.string ⟨s.toArray⟩)) (h0:J [] W) :
    CallsIn Fence.wide 3 Tryz.prog 307 #[.func (.yield l) #[] #[],.pointer (some ⟨b0,o0,none⟩),.pointer (some ⟨b1,o1,none⟩),.pointer (some ⟨b2,o2,none⟩)] W fun e W'=>(∃ v,e=.returned v) ∧
      (J (parts s) W'∨(∃ pre,pre <+: parts s∧Jx pre W')):=by
  refine callsIn_of_wp Tryz.func307 rfl trivial ?_ rfl
  simp only [Tryz.ntmps307,Yfs,Yf0,Ygy,Nat.reduceAdd,Nat.reduceSub,Yhg,Yhh,Yhi,Yhj,Yhc,Yfm]
  have hc0:=hJ.c0 _ _ h0
  gi_wp2
  gi_loopw [7] (fun p wr=>∃ (pre:List (List UInt8)) (r:List UInt8),parts s=pre++parts r∧r.length≤1000000∧wr.cell? ⟨b1,o1,none⟩=some (.string ⟨r.toArray⟩)∧J pre wr)
    (fun p wr=>Z9h wr ⟨b1,o1,none⟩)
  case atStart=>exact ⟨[],s,rfl,hs,hc,h0⟩
  case round =>
    obtain ⟨pre,r,hp,hr,hcr,hJr⟩:=hrel
    have hk0:=hJ.c0 _ _ hJr
    have hk2:=hJ.c2 _ _ hJr
    have hf1:=hJ.f1 _ _ hJr
    have hlt1:b1<wr.heap.size:=by
      rcases Yfn b1 wr.heap.size with h|h
      · exact h
      · simp [World.cell?,Array.getElem?_eq_none h] at hcr
    have hlt0:b0<wr.heap.size:=by
      rcases Yfn b0 wr.heap.size with h|h
      · exact h
      · simp [World.cell?,Array.getElem?_eq_none h] at hk0
    have hlt2:b2<wr.heap.size:=by
      rcases Yfn b2 wr.heap.size with h|h
      · exact h
      · simp [World.cell?,Array.getElem?_eq_none h] at hk2
    by_cases hm:(47:UInt8)∈r
    · obtain ⟨k,hk⟩:∃ k,r.idxOf 47=k:=⟨_,rfl⟩
      have hkl:k<r.length:=by rw [←hk];exact List.idxOf_lt_length_iff.2 hm
      have hidx:O6 r 47=(k:Int):=by unfold O6;rw [if_pos hm,hk]
      have hpa:=Z9g hm
      rw [hk] at hpa
      gi_wp2_with (refine ⟨trivial,?_⟩;gi_at_call 248;refine (callsIn_wide.2 (Zmi (s:=r) (hJ.start _ _ hJr))).mono ?_;rw [hidx];rintro e W1 ⟨rfl,hb1⟩;have hc1:=(hb1.cell (p:=⟨b1,o1,none⟩) hlt1).trans hcr;have hc0':=(hb1.cell (p:=⟨b0,o0,none⟩) hlt0).trans hk0;have hc2':=(hb1.cell (p:=⟨b2,o2,none⟩) hlt2).trans hk2;have hJ1:=hJ.below _ _ _ hJr hb1;have hf1':=hJ.f1 _ _ hJ1;obtain ⟨fn,tmps,assign,body,hy,hR⟩:=hY pre (r.take k) W1 r hJ1 hc1 (by simp;omega);rw [←Zpe r k] at hy)
      refine hR.mono ?_
      rintro e W3 (⟨rfl,hJ3,hc3⟩|⟨rfl,hJx3⟩)
      · have h30:=hJ.c0 _ _ hJ3
        have h3f:=hJ.f1 _ _ hJ3
        gi_wp2
        go_roundw
        case rel=>exact ⟨pre++[r.take k],r.drop (k+1),by rw [hp,hpa];simp,by rw [Yfr];omega,by rw [World.cell?_setCell_same' _ _ _ (by rw [hc3];rfl),Zhh],hJ.set _ _ _ hJ3 (by rw [hc3];rfl)⟩
        case measure =>
          unfold Z9h
          rw [World.cell?_setCell_same' _ _ _ (by rw [hc3];rfl),hcr,Zhh]
          simp only [ByteArray.size,Yfs,Yfr]
          omega
      · gi_wp2
        refine bodyPost_ret (results_none rfl _ _ _) rfl ?_
        exact ⟨⟨_,rfl⟩,.inr ⟨_,by rw [hp,hpa];exact ⟨parts (r.drop (k+1)),by simp⟩,hJx3⟩⟩
    · have hidx:O6 r 47 = -1:=by unfold O6;rw [if_neg hm]
      gi_wp2_with (refine ⟨trivial,?_⟩;gi_at_call 248;refine (callsIn_wide.2 (Zmi (s:=r) (hJ.start _ _ hJr))).mono ?_;rw [hidx];rintro e W1 ⟨rfl,hb1⟩;have hc1:=(hb1.cell (p:=⟨b1,o1,none⟩) hlt1).trans hcr;have hJ1:=hJ.below _ _ _ hJr hb1;obtain ⟨fn,tmps,assign,body,hy,hR⟩:=hY pre r W1 r hJ1 hc1 hr)
      refine hR.mono ?_
      rintro e W3 (⟨rfl,hJ3,hc3⟩|⟨rfl,hJx3⟩)
      · gi_wp2
        go_end0
        exact ⟨⟨_,rfl⟩,.inl (by rw [hp,Zks hm];exact hJ3)⟩
      · gi_wp2
        go_end0
        exact ⟨⟨_,rfl⟩,.inr ⟨_,by rw [hp,Zks hm];exact ⟨[],by simp⟩,hJx3⟩⟩
end Cod
namespace Cod
open Go Go.RowKit Go.Proofs Go.Shelf
set_option maxRecDepth 100000
attribute [local go_sem] Oper.semAt_some
structure PI (w:World) (p0 p1 p2:Addr) (pre:List (List UInt8)) (W:World):Prop where
  all:pre.all Zau=true
  bel:Below w.heap.size w W
  cB:W.cell? ⟨w.heap.size,0,none⟩=some (.bool false)
  fB:W.frozen? ⟨w.heap.size,0,none⟩=false
  c0:W.cell? p0=some (.string ⟨#[47]⟩)
  c1:(W.cell? p1).isSome=true
  c2:W.cell? p2=some (.int .i64 0)
  f1:W.frozen? p1=false
theorem Zdb {W:World} {p:Addr} {v:Value} (h:W.cell? p=some v):p.block<W.heap.size:=by
  obtain ⟨o,ho,_⟩:=cells_of_cell h
  exact (Array.getElem?_eq_some_iff.1 ho).1
section
variable {w W W':World} {p0 p1 p2:Addr} {pre:List (List UInt8)}
theorem PI.below (h:PI w p0 p1 p2 pre W) (hb:Below W.heap.size W W'):PI w p0 p1 p2 pre W':=by
  obtain ⟨v,hv⟩:=Option.isSome_iff_exists.1 h.c1
  exact ⟨h.all,h.bel.trans ⟨hb.os,hb.tape,hb.output,hb.size,fun k hk=>hb.block k (Yfl hk h.bel.size)⟩,(hb.cell (Zdb h.cB)).trans h.cB,(hb.frozen (Zdb h.cB)).trans h.fB,
    (hb.cell (Zdb h.c0)).trans h.c0,by rw [hb.cell (Zdb hv)];exact h.c1,(hb.cell (Zdb h.c2)).trans h.c2,(hb.frozen (Zdb hv)).trans h.f1⟩
theorem PI.put (h:PI w p0 p1 p2 pre W) {l:Nat} {o o':Obj} (hl:W.heap[l]? = some o) (ho:o.isCells=false) (hn:w.heap.size≤l):PI w p0 p1 p2 pre (W.putObj l o'):=by
  obtain ⟨v,hv⟩:=Option.isSome_iff_exists.1 h.c1
  have hg:=grownBy_putObj' W l o'
  have hr:∀ r,some l=some r→∃ o:Obj,W.heap[r]? = some o∧o.isCells=false:=fun r e=>by cases e;exact ⟨o,hl,ho⟩
  exact ⟨h.all,h.bel.grown hg h.bel.size (fun k e=>by cases e;exact hn),cell_kept h.cB hg hr,(frozen_kept h.cB hg hr).trans h.fB,cell_kept h.c0 hg hr,by rw [cell_kept hv hg hr];rfl,cell_kept h.c2 hg hr,(frozen_kept hv hg hr).trans h.f1⟩
theorem PI.set (h:PI w p0 p1 p2 pre W) (v:Value) (n0:w.heap.size<p1.block) (h0:p0.block≠p1.block) (h2:p2.block≠p1.block):PI w p0 p1 p2 pre (W.setCell p1 v):=by
  refine ⟨h.all,h.bel.setCell (Nat.le_of_lt n0) v,?_,?_,?_,?_,?_,?_⟩
  · rw [World.cell?_setCell_other _ _ _ _ (fun e=>by have:=congrArg Addr.block e;simp at this;omega)];exact h.cB
  · rw [World.frozen?_setCell];exact h.fB
  · rw [World.cell?_setCell_other _ _ _ _ (fun e=>h0 (by rw [e]))];exact h.c0
  · rw [World.cell?_setCell_same' _ _ _ h.c1];rfl
  · rw [World.cell?_setCell_other _ _ _ _ (fun e=>h2 (by rw [e]))];exact h.c2
  · rw [World.frozen?_setCell];exact h.f1
theorem PI.start (h:PI w p0 p1 p2 pre W) (hw:Zcr w):Zcr W:=hw.below h.bel
end
theorem Zws {F:Fence} {n:Nat} {P:Program} {g:Operand} {ps:Array Tmp} {assign body:Code} {Q:Exit→Act→World→Prop} {a:Act} {w:World} (hro:F.round=none) (h1:1≤n) {gf:Nat} {lb:Array Value}
    (hg:a.eval g=.func (.func gf) #[] lb) (hFg:F.fn gf) (eg:∀ args w,(callFunc gf args).run P w=.ok (.enter gf args) w)
    (h:∀ fn,F.fn fn→∀ rec:LoopState→Option Code→Loop,(rec=fun st pe => { state:=st,pending:=pe,fn,tmps:=a.tmps,params:=ps,assign,body,defers:=w.heap.size })→∀ W1,W1=(w.alloc (.deferred (some []))).alloc (.loop (rec .ready none)) →
      CallsIn F (n-1) P gf (#[.func (.yield (w.heap.size+1)) #[] #[]]++lb) W1 (rangePost F n P (w.heap.size+1) Q { a with defers:=[{ target:=.collected w.heap.size,args := #[] }]++a.defers })) :
    (Code.rangeFunc g ps assign body).wpIn F n P Q a w:=by
  refine wpIn_rangeFunc ?_
  intro fn hfn
  rw [hro]
  obtain ⟨rec,hrec⟩:∃ rec:LoopState→Option Code→Loop,rec=fun st pe => { state:=st,pending:=pe,fn,tmps:=a.tmps,params:=ps,assign,body,defers:=w.heap.size }:=⟨_,rfl⟩
  obtain ⟨W1,hW1⟩:∃ W1,W1=(w.alloc (.deferred (some []))).alloc (.loop (rec .ready none)):=⟨_,rfl⟩
  have hcall:=h fn hfn rec hrec W1 hW1
  have hent:(Instr.enterLoop fn a.tmps ps assign body none).run P w=.ok (w.heap.size+1,[{ target:=.collected w.heap.size,args := #[] }]) W1:=by rw [hW1,hrec];exact run_enterLoop_outer _ _ _ _ _
  clear hW1 h
  refine ⟨w.heap.size+1,[{ target:=.collected w.heap.size,args := #[] }],W1,{ target:=.fn (.func gf) lb,args := #[.func (.yield (w.heap.size+1)) #[] #[]] },W1,gf,
    #[.func (.yield (w.heap.size+1)) #[] #[]]++lb,W1,?_,?_,?_,?_,fun _=>h1,?_⟩
  · exact hent
  · simp only [resolve,hg]
    simp [go_sem]
  · intro f' hf';simp [Target.leads] at hf';subst hf';exact hFg
  · simp [invoke,go_sem,eg]
  · exact hcall
set_option maxHeartbeats 4000000 in
theorem Yea {s:List UInt8} {w:World} (hW:Zcr w):CallsIn Fence.wide 4 Tryz.prog 179 #[.string ⟨s.toArray⟩] w (fun e W'=>e=.returned (.bool (Zed s))∧Below w.heap.size w W'):=by
  refine callsIn_of_wp_marks Tryz.func179 rfl trivial ?_ rfl
  simp only [Tryz.ntmps179,Yfs,Yf0,Ygy,Nat.reduceAdd,Nat.reduceSub,Yhg,Yhh,Yhi,Yhj,Yhc,Yfm]
  have hB:(w.alloc (.cells #[.bool false] 4)).cell? ⟨w.heap.size,0,none⟩=some (.bool false)∧(w.alloc (.cells #[.bool false] 4)).frozen? ⟨w.heap.size,0,none⟩=false:=by
    have:=heap_alloc_new w (.cells #[.bool false] 4)
    constructor
    · simp only [World.cell?,this];rfl
    · simp only [World.frozen?,this];simp
  have hA:Below w.heap.size w (w.alloc (.cells #[.bool false] 4)):=(Below.refl _ w).alloc (Yfj _) _
  by_cases hl:s.length≤200
  · have hW1:Zcr (w.alloc (.cells #[.bool false] 4)):=hW.below hA
    gi_wp2_with (refine ⟨trivial,?_⟩;gi_at_call 239;refine (callsIn_wide.2 (Zsj (s:=s) hW1)).mono ?_;rintro e W1 ⟨b0,b1,b2,o0,o1,o2,rfl,hb1,hsp⟩)
    obtain ⟨n0,n1,n2,d0,d2,c0,c1,c2,f1⟩:=hsp
    simp only [World.size_alloc] at hb1 n0 n1 n2 d0 d2
    have hI1:PI w ⟨b0,o0,none⟩ ⟨b1,o1,none⟩ ⟨b2,o2,none⟩ [] W1 :=
      ⟨rfl,hA.trans ⟨hb1.os,hb1.tape,hb1.output,hb1.size,fun k hk=>hb1.block k (by omega)⟩,(hb1.cell (p:=⟨w.heap.size,0,none⟩) (by simp)).trans hB.1,(hb1.frozen (p:=⟨w.heap.size,0,none⟩) (by simp)).trans hB.2,c0,by rw [c1];rfl,c2,f1⟩
    refine Zws rfl (by omega) (gf:=307) rfl trivial (enters_of Tryz.func307 (by kernel_rfl) rfl) ?_
    intro fn hfn rec hrec W3 hW3
    obtain ⟨D,hD⟩:∃ D,W1.heap.size=D:=⟨_,rfl⟩
    have hnD:w.heap.size≤D:=by rw [←hD];exact hI1.bel.size
    have hD3:W3.heap[D]? = some (.deferred (some [])):=by
      rw [hW3,←hD]
      exact (Below.heap_alloc _ _ _ (by simp)).trans (World.alloc_heap_new _ _)
    have hL3:W3.heap[D+1]? = some (.loop (rec .ready none)):=by
      rw [hW3,←hD]
      have:=World.alloc_heap_new (W1.alloc (.deferred (some []))) (.loop (rec .ready none))
      rwa [World.size_alloc] at this
    have hb13:Below W1.heap.size W1 W3:=by rw [hW3];exact ((Below.refl _ W1).alloc (Yfj _) _).alloc (by simp) _
    have hI3:=hI1.below hb13
    have hc3:W3.cell? ⟨b1,o1,none⟩=some (.string ⟨s.toArray⟩):=(hb13.cell (Zdb c1)).trans c1
    rw [hD]
    refine (Yd9 (D+1) b0 o0 b1 o1 b2 o2
      (fun pre W=>PI w ⟨b0,o0,none⟩ ⟨b1,o1,none⟩ ⟨b2,o2,none⟩ pre W∧W.heap[D+1]? = some (.loop (rec .ready none))∧W.heap[D]? = some (.deferred (some [])))
      (fun pre W=>pre.all Zau=false∧Below w.heap.size w W∧W.cell? ⟨w.heap.size,0,none⟩=some (.bool false)∧W.heap[D+1]? = some (.loop (rec .done (some .ret)))∧W.heap[D]? = some (.deferred (some [])))
      ⟨fun pre W h=>h.1.start hW,fun pre W h=>h.1.c0,fun pre W h=>h.1.c2,fun pre W h=>h.1.f1,
        fun pre W W' h hb=>⟨h.1.below hb,(hb.block _ (Array.getElem?_eq_some_iff.1 h.2.1).1).trans h.2.1,(hb.block _ (Array.getElem?_eq_some_iff.1 h.2.2).1).trans h.2.2⟩,
        fun pre W v h hs=>⟨h.1.set v n1 d0 d2,?_,?_⟩⟩ ?_ W3 s (by omega) hc3 ⟨hI3,hL3,hD3⟩).mono ?_
    · exact (KeepsOthers.setCell W _ v).same _ _ h.2.1 rfl
    · exact (KeepsOthers.setCell W _ v).same _ _ h.2.2 rfl
    · rintro pre x W s' ⟨hI,hL,hK⟩ hc hx
      have hy:=run_yield (P:=Tryz.prog) (args := #[.string ⟨x.toArray⟩]) hL (by rw [hrec];rfl)
      rw [hrec] at hy
      refine ⟨fn,_,_,_,hy,roundIn_of_wpIn trivial ?_⟩
      gi_wp2
      refine ⟨_,run_beginRound hL (by rw [hrec]),?_⟩
      obtain ⟨Wb,hWb⟩:∃ Wb,W.putObj (D+1) (.loop { rec .ready none with state:=.busy })=Wb:=⟨_,rfl⟩
      have hIb:PI w ⟨b0,o0,none⟩ ⟨b1,o1,none⟩ ⟨b2,o2,none⟩ pre Wb:=by rw [←hWb];exact hI.put hL rfl (by omega)
      have hLb:Wb.heap[D+1]? = some (.loop { rec .ready none with state:=.busy }):=by rw [←hWb];exact World.putObj_heap_same (Array.getElem?_eq_some_iff.1 hL).1
      have hKb:Wb.heap[D]? = some (.deferred (some [])):=by rw [←hWb];exact (World.putObj_heap_other (by omega)).trans hK
      have hcb:Wb.cell? ⟨b1,o1,none⟩=some (.string ⟨s'.toArray⟩):=by rw [←hWb];exact cell_kept hc (grownBy_putObj' W _ _) (fun r e=>by cases e;exact ⟨_,hL,rfl⟩)
      rw [hWb]
      clear hWb
      have hfin:∀ (jump:Option Code) (W3:World),W3.heap[D+1]? = some (.loop { rec .ready none with state:=.busy }) →
          (Instr.endRound (D+1) jump).run Tryz.prog W3=.ok (.bool jump.isNone) (W3.putObj (D+1) (.loop (rec (if jump.isNone then .ready else .done) jump))):=fun jump W3 h3=>by
        have:=run_endRound (P:=Tryz.prog) jump h3
        rw [hrec] at this ⊢
        exact this
      cases hn:Zau x with
      | true =>
        gi_wp2_with (refine ⟨trivial,?_⟩;gi_at_call 240;refine (CallsIn.inRound (D+1) (callsIn_wide.2 (Zkr hx (hIb.start hW)))).mono ?_;rw [hn];rintro e W' ⟨rfl,hb'⟩;have hI':=hIb.below hb';have hcB':=hI'.cB;have hfB':=hI'.fB)
        have hL':=(hb'.block _ (Array.getElem?_eq_some_iff.1 hLb).1).trans hLb
        have hK':=(hb'.block _ (Array.getElem?_eq_some_iff.1 hKb).1).trans hKb
        have hc':=(hb'.cell (Zdb hcb)).trans hcb
        refine ⟨_,_,hfin none _ hL',.inl ⟨rfl,⟨?_,World.putObj_heap_same (Array.getElem?_eq_some_iff.1 hL').1,(World.putObj_heap_other (by omega)).trans hK'⟩,cell_kept hc' (grownBy_putObj' W' _ _) (fun r e=>by cases e;exact ⟨_,hL',rfl⟩)⟩⟩
        have h2:=hI'.put hL' rfl (by omega) (o':=.loop (rec .ready none))
        exact ⟨by rw [Yhu,h2.all];simp [hn],h2.bel,h2.cB,h2.fB,h2.c0,h2.c1,h2.c2,h2.f1⟩
      | false =>
        gi_wp2_with (refine ⟨trivial,?_⟩;gi_at_call 240;refine (CallsIn.inRound (D+1) (callsIn_wide.2 (Zkr hx (hIb.start hW)))).mono ?_;rw [hn];rintro e W' ⟨rfl,hb'⟩;have hI':=hIb.below hb';have hcB':=hI'.cB;have hfB':=hI'.fB)
        have hL':=(hb'.block _ (Array.getElem?_eq_some_iff.1 hLb).1).trans hLb
        have hK':=(hb'.block _ (Array.getElem?_eq_some_iff.1 hKb).1).trans hKb
        have hL2:=(KeepsOthers.setCell W' ⟨w.heap.size,0,none⟩ (.bool false)).same _ _ hL' rfl
        have hK2:=(KeepsOthers.setCell W' ⟨w.heap.size,0,none⟩ (.bool false)).same _ _ hK' rfl
        have hc2':(W'.setCell ⟨w.heap.size,0,none⟩ (.bool false)).cell? ⟨w.heap.size,0,none⟩=some (.bool false):=World.cell?_setCell_same' _ _ _ (by rw [hcB'];rfl)
        have hbel2:=hI'.bel.setCell (p:=⟨w.heap.size,0,none⟩) (Yfj _) (.bool false)
        refine ⟨_,_,hfin (some .ret) _ hL2,.inr ⟨rfl,by rw [Yhu];simp [hn],?_,cell_kept hc2' (grownBy_putObj' _ _ _) (fun r e=>by cases e;exact ⟨_,hL2,rfl⟩),World.putObj_heap_same (Array.getElem?_eq_some_iff.1 hL2).1,(World.putObj_heap_other (by omega)).trans hK2⟩⟩
        exact hbel2.grown (grownBy_putObj' _ _ _) hbel2.size (fun k e=>by cases e;omega)
    · rintro e W' ⟨⟨v,rfl⟩,(⟨hI,hL,hK⟩|⟨pre,hpre,hbad,hbel,hcB,hL,hK⟩)⟩
      · obtain ⟨W4,hrun,hI4,hK4⟩:∃ W4,(Instr.endLoop (D+1)).run Tryz.prog W'=.ok none W4∧PI w ⟨b0,o0,none⟩ ⟨b1,o1,none⟩ ⟨b2,o2,none⟩ (parts s) W4∧W4.heap[D]? = some (.deferred (some [])):=by
          have:=run_endLoop (P:=Tryz.prog) hL (by rw [hrec];simp)
          exact ⟨_,by rw [hrec] at this;exact this,hI.put hL rfl (by omega),(World.putObj_heap_other (by omega)).trans hK⟩
        refine ⟨none,W4,hrun,?_⟩
        have hcB:=hI4.cB
        have hfB:=hI4.fB
        have hpo:Zed s=true:=by unfold Zed;rw [N4 hl,hI.all];rfl
        gi_wp2
        have hK5:=(KeepsOthers.setCell W4 ⟨w.heap.size,0,none⟩ (.bool true)).same D _ hK4 rfl
        have hc5:=cell_kept (World.cell?_setCell_same' W4 ⟨w.heap.size,0,none⟩ (.bool true) (by rw [hcB];rfl)) (grownBy_putObj' _ D (.deferred none)) (fun r e=>by cases e;exact ⟨_,hK5,rfl⟩)
        have hb5:=(hI4.bel.setCell (p:=⟨w.heap.size,0,none⟩) (Yfj _) (.bool true))
        refine ⟨by simp,.inl ⟨_,_,rfl,run_takeDeferred hK5,.bool true,?_,by rw [hpo],hb5.grown (grownBy_putObj' _ _ _) hb5.size (fun k e=>by cases e;omega)⟩⟩
        simp [results,Tryz.f179,go_sem,hc5]
      · obtain ⟨W4,hrun,hc4,hb4,hK4⟩:∃ W4,(Instr.endLoop (D+1)).run Tryz.prog W'=.ok (some .ret) W4∧W4.cell? ⟨w.heap.size,0,none⟩=some (.bool false)∧Below w.heap.size w W4∧W4.heap[D]? = some (.deferred (some [])):=by
          have:=run_endLoop (P:=Tryz.prog) hL (by rw [hrec];simp)
          exact ⟨_,by rw [hrec] at this;exact this,cell_kept hcB (grownBy_putObj' W' _ _) (fun r e=>by cases e;exact ⟨_,hL,rfl⟩),hbel.grown (grownBy_putObj' W' _ _) hbel.size (fun k e=>by cases e;omega),(World.putObj_heap_other (by omega)).trans hK⟩
        refine ⟨some .ret,W4,hrun,?_⟩
        have hpo:Zed s=false:=by
          unfold Zed
          have:(parts s).all Zau=false:=by
            obtain ⟨r,hr⟩:=hpre
            rw [←hr,Yhu,hbad];rfl
          rw [this,Yhs]
        gi_wp2
        have hc5:=cell_kept hc4 (grownBy_putObj' _ D (.deferred none)) (fun r e=>by cases e;exact ⟨_,hK4,rfl⟩)
        refine ⟨by simp,.inl ⟨_,_,rfl,run_takeDeferred hK4,.bool false,?_,by rw [hpo],hb4.grown (grownBy_putObj' _ _ _) hb4.size (fun k e=>by cases e;omega)⟩⟩
        simp [results,Tryz.f179,go_sem,hc5]
  · gi_wp2
    have hpo:Zed s=false:=by unfold Zed;rw [Zat hl];rfl
    refine ⟨.bool false,?_,by rw [hpo],hA⟩
    simp [results,Tryz.f179,go_sem,hB.1]
theorem Yeb {E:Env} (hE:E.glob=Zav):Zko Tryz.prog E F.Zga Z8z:=by
  intro args v vs La w hg hv hr
  unfold Z8z at hg
  split at hg
  · rename_i s
    cases hg
    simp only [VRL,VR] at hv
    obtain ⟨x,r,rfl,rfl,rfl⟩:=hv
    refine ⟨.bool (Zed s),fun c=>by simp [VR],?_⟩
    refine Zab Tryz.func179 (by rfl) (by kernel_rfl) (Calls.mono (callsIn_wide.1 (Yea (s:=s) (Z84 hE hr))) ?_)
    rintro e w' ⟨rfl,hb⟩
    exact ⟨_,rfl,rfl,hb⟩
  · cases hg
end Cod
namespace Cod
open Go Go.RowKit Go.Proofs Go.Shelf
set_option maxRecDepth 100000
theorem Yec {E:Env} (hE:E.glob=Zav):∀ p∈Zdo,Zi0 Tryz.prog E p.1 p.2:=by
  unfold Zdo
  exact List.forall_mem_cons.2 ⟨Zhf (Yeb hE),Zyh hE⟩
end Cod
namespace Cod
open Go Go.Proofs Go.Proofs.YtabccggcfcppgaaGreatDoor
set_option maxRecDepth 100000
theorem Zsk {α β:Type} [BEq α] [LawfulBEq α] {a : α} {b : β}:∀ {l:List (α × β)},l.lookup a=some b→(a,b)∈l:=by
  intro l
  induction l with
  | nil=>intro h;simp at h
  | cons x l ih =>
    intro h
    rw [List.lookup_cons] at h
    split at h
    · rename_i he
      rw [beq_iff_eq] at he
      cases h
      rw [he];exact List.mem_cons_self
    · exact List.mem_cons_of_mem _ (ih h)
theorem own:ownKnob Tryz.prog.godebug=none:=by kernel_rfl
theorem Yed:laidOutB Tryz.prog=true:=by kernel_rfl
theorem Z22:Tryz.prog.underlying 4=some .bool:=Tryz.underlying4
mutual
theorem Zdc {H:Type}:∀ d:DataW H,Rows.uptoBulk d=P1 d
  | .lit (.string _)=>by simp [Rows.uptoBulk,P1]
  | .lit (.bool _)=>by simp [Rows.uptoBulk,P1]
  | .lit (.int _ _)=>by simp [Rows.uptoBulk,P1]
  | .lit (.float _ _)=>by simp [Rows.uptoBulk,P1]
  | .lit .nil=>by simp [Rows.uptoBulk,P1]
  | .nil=>by simp [Rows.uptoBulk,P1]
  | .ptr d=>by simp [Rows.uptoBulk,P1,Zdc d]
  | .slice a b=>by simp [Rows.uptoBulk,P1,bulkAll_eq a,bulkAll_eq b]
  | .agg a=>by simp [Rows.uptoBulk,P1,bulkAll_eq a]
  | .iface _ d=>by simp [Rows.uptoBulk,P1,Zdc d]
  | .map l=>by simp [Rows.uptoBulk,P1,bulkEntries_eq l]
  | .held _=>by simp [Rows.uptoBulk,P1]
theorem bulkAll_eq {H:Type}:∀ l:List (DataW H),Rows.uptoBulkAll l=dbulkAll l
  | []=>by simp [Rows.uptoBulkAll,dbulkAll]
  | d::r=>by simp [Rows.uptoBulkAll,dbulkAll,Zdc d,bulkAll_eq r]
theorem bulkEntries_eq {H:Type}:∀ l:List (Lit × DataW H),Rows.uptoBulkEntries l=dbulkEntries l
  | []=>by simp [Rows.uptoBulkEntries,dbulkEntries]
  | d::r=>by simp [Rows.uptoBulkEntries,dbulkEntries,bulkEntry_eq d,bulkEntries_eq r]
theorem bulkEntry_eq {H:Type}:∀ x:Lit × DataW H,Rows.uptoBulkEntry x=dbulkEntry x
  | (.string _,d)=>by simp [Rows.uptoBulkEntry,dbulkEntry,Zdc d]
  | (.bool _,d)=>by simp [Rows.uptoBulkEntry,dbulkEntry,Zdc d]
  | (.int _ _,d)=>by simp [Rows.uptoBulkEntry,dbulkEntry,Zdc d]
  | (.float _ _,d)=>by simp [Rows.uptoBulkEntry,dbulkEntry,Zdc d]
  | (.nil,d)=>by simp [Rows.uptoBulkEntry,dbulkEntry,Zdc d]
end
def Z9i:List Int:=Zo8.map fun x=>(x.toNat:Int)
theorem kWords:C7 Zo8=Z9i.map fun z=>AV.int .u32 z:=by kernel_rfl
theorem kLaid:(Rows.laid_codicil_sha_k:DataW Unit)=Lib.tabData .u32 Z9i:=by kernel_rfl
theorem gK:Tryz.prog.globalNamed "codicil/sha.k" = some G.Zrw:=by kernel_rfl
theorem Yee {W:World} {l:List (String × DataW Unit)} (h:laidMetH Tryz.prog l W) (hm:("codicil/sha.k",Rows.laid_codicil_sha_k)∈l):GV (ctx [] La0 W) G.Zrw (C7 Zo8):=by
  rw [kWords]
  exact Zg8 (Zda (n:=64) h (kLaid▸hm) gK (by kernel_rfl) (t:=242) (e:=41) (by kernel_rfl) (by kernel_rfl) (by kernel_rfl) (by kernel_rfl)) gK (by simp [Z9i,Zo8])
def Z9j:List Int:=ordI.map fun z:Nat=>(z:Int)
theorem oWords:(ordI.map fun z:Nat=>AV.int .i64 (z:Int))=Z9j.map fun z=>AV.int .i64 z:=by kernel_rfl
theorem oLaid:(Rows.laid_codicil_inflate_order:DataW Unit)=Lib.tabData .i64 Z9j:=by kernel_rfl
theorem gO:Tryz.prog.globalNamed "codicil/inflate.order" = some G.Zcb:=by kernel_rfl
theorem Yef {W:World} {l:List (String × DataW Unit)} (h:laidMetH Tryz.prog l W) (hm:("codicil/inflate.order",Rows.laid_codicil_inflate_order)∈l):GV (ctx [] La0 W) G.Zcb (ordI.map fun z:Nat=>AV.int .i64 (z:Int)):=by
  rw [oWords]
  exact Zg8 (Zda (n:=19) h (oLaid▸hm) gO (by kernel_rfl) (t:=353) (e:=3) (by kernel_rfl) (by kernel_rfl) (by kernel_rfl) (by kernel_rfl)) gO (by simp [Z9j,ordI])
theorem Z9k:(Rows.laid_unicode_asciiFold:DataW Unit)=Lib.tabData .u16 Zjl:=by kernel_rfl
theorem gF:Tryz.prog.globalNamed "unicode.asciiFold" = some G.Zcd:=by kernel_rfl
theorem Z9l {W:World} {l:List (String × DataW Unit)} (h:laidMetH Tryz.prog l W) (hm:("unicode.asciiFold",Rows.laid_unicode_asciiFold)∈l):GV (ctx [] La0 W) G.Zcd (Zjl.map fun z=>.int .u16 z) :=
  Zg8 (Zda (n:=128) h (Z9k▸hm) gF (by kernel_rfl) (t:=366) (e:=216) (by kernel_rfl) (by kernel_rfl) (by kernel_rfl) (by kernel_rfl)) gF (by simp [Zjl])
theorem Yeg:(Rows.laid_internal_strconv_uint64pow10:DataW Unit)=Lib.tabData .u64 Lib.pow10Tab:=by kernel_rfl
theorem gP:Tryz.prog.globalNamed "internal/strconv.uint64pow10" = some G.Zcc:=by kernel_rfl
theorem Yeh {W:World} {l:List (String × DataW Unit)} (h:laidMetH Tryz.prog l W) (hm:("internal/strconv.uint64pow10",Rows.laid_internal_strconv_uint64pow10)∈l):GV (ctx [] La0 W) G.Zcc (Lib.pow10Tab.map fun z=>.int .u64 z) :=
  Zg8 (Zda (n:=20) h (Yeg▸hm) gP (by kernel_rfl) (t:=361) (e:=108) (by kernel_rfl) (by kernel_rfl) (by kernel_rfl) (by kernel_rfl)) gP (by simp [Lib.pow10Tab])
theorem Yei {W:World} (h:W.ShapedOpen Tryz.prog):GV (ctx [] La0 W) G.X9 [.any (some .i64)] :=
  Zwj h (of_decide_eq_true (by kernel_rfl)) (by kernel_rfl) (Go.Proofs.cell_of_shapedOpen_int (zero := #[.int .i64 0]) (t:=3) h (of_decide_eq_true (by kernel_rfl)) (by kernel_rfl) rfl (by kernel_rfl) (by kernel_rfl) Tryz.underlying3)
theorem Yej {W:World} (h:∀ p∈Zjm,GV (ctx [] La0 W) p.1 p.2):Zki E W:=by
  intro n
  show GV _ n (Zav n)
  unfold Zav
  cases hl:Zjm.lookup n with
  | none=>exact Z2s
  | some l=>exact h _ (Zsk hl)
theorem Yek {W:World} {l:List (String × DataW Unit)} (h:laidMetH Tryz.prog l W) (hs:W.ShapedOpen Tryz.prog) (ho:("codicil/inflate.order",Rows.laid_codicil_inflate_order)∈l) (hk:("codicil/sha.k",Rows.laid_codicil_sha_k)∈l) (hf:("unicode.asciiFold",Rows.laid_unicode_asciiFold)∈l) (hp:("internal/strconv.uint64pow10",Rows.laid_internal_strconv_uint64pow10)∈l):Zki E W:=by
  refine Yej ?_
  unfold Zjm
  refine List.forall_mem_cons.2 ⟨Yef h ho,?_⟩
  refine List.forall_mem_cons.2 ⟨Yee h hk,?_⟩
  refine List.forall_mem_cons.2 ⟨Z9l h hf,?_⟩
  refine List.forall_mem_cons.2 ⟨Yeh h hp,?_⟩
  refine List.forall_mem_cons.2 ⟨Yei hs,?_⟩
  exact fun p h=>nomatch h
end Cod
namespace Cod
open Go
def B7 (l:List Int):List AV:=l.map (.int .i64)
theorem A1 (l:List Int):(B7 l).length=l.length:=by simp [B7]
structure MapOK (seen:List (List UInt8)) (ks:List (List UInt8)) (vs:List Int):Prop where
  len:vs.length=ks.length
  mem:∀ n,n∈ks↔n∈seen
  pos:∀ v∈vs,1≤v∧v≤seen.length
theorem MapOK.nil:MapOK [] [] []:=⟨rfl,fun _=>Iff.rfl,fun v h=>by simp at h⟩
theorem MapOK.old {seen ks:List (List UInt8)} {vs:List Int} (h:MapOK seen ks vs) {n:List UInt8} (hn:n∈ks):∃ v,vs[ks.idxOf n]? = some v∧1≤v∧v≤seen.length∧MapOK (seen++[n]) ks (vs.set (ks.idxOf n) (v+1)):=by
  have hi:ks.idxOf n<vs.length:=by rw [h.len];exact List.idxOf_lt_length_of_mem hn
  obtain ⟨v,hv⟩:∃ v,vs[ks.idxOf n]? = some v:=⟨_,List.getElem?_eq_getElem hi⟩
  obtain ⟨p1,p2⟩:=h.pos v (List.mem_of_getElem? hv)
  refine ⟨v,hv,p1,p2,⟨by rw [Yhv];exact h.len,?_,?_⟩⟩
  · intro m
    rw [h.mem,Yhw,Yf2]
    constructor
    · exact .inl
    · rintro (h1|h1)
      · exact h1
      · rw [h1];exact (h.mem n).1 hn
  · intro x hx
    rw [Yf9,Yhx]
    rcases List.mem_or_eq_of_mem_set hx with h1|h1
    · have:=h.pos x h1;omega
    · omega
theorem MapOK.new {seen ks:List (List UInt8)} {vs:List Int} (h:MapOK seen ks vs) {n:List UInt8} (hn:n∉ks):MapOK (seen++[n]) (ks++[n]) (vs++[1]):=by
  refine ⟨by simp [h.len],?_,?_⟩
  · intro m
    simp only [Yhw,Yf2,h.mem]
  · intro x hx
    rw [Yf9,Yhx]
    rcases List.mem_append.1 hx with h1|h1
    · have:=h.pos x h1;omega
    · rw [List.mem_singleton.1 h1];omega
end Cod
namespace Cod
open Go
theorem Zyl {E E':Env} (h:E'.glob=E.glob) (sl loc:List (Nat × AV)):evR E' sl loc=evR E sl loc:=by
  funext x;cases x<;>simp [evR,h]
theorem Zym {E E':Env} (h:E'.glob=E.glob) (c:M9) (sl:List (Nat × AV)) (o:LOper) (r:RS):opR E' c sl o r=opR E c sl o r:=by
  unfold opR;rw [Zyl h]
theorem Zwt {E E':Env} (h:E'.glob=E.glob) (c:M9) (sl:List (Nat × AV)) (o:LOper) (r:RS):R0 E' c sl o r=R0 E c sl o r:=by
  unfold R0;rw [Zyl h]
theorem Z9m {E E':Env} (h:E'.glob=E.glob) (c:M9) (sl:List (Nat × AV)):∀ (os:List LOper) (r:RS),O8 E' c sl os r=O8 E c sl os r:=by
  intro os
  induction os with
  | nil=>intro r;rfl
  | cons o os ih=>intro r;simp only [O8,Zym h,ih]
theorem Zsl {E E':Env} (h:E'.glob=E.glob) (c:M9) (sl:List (Nat × AV)):∀ (os:List LOper) (r:RS),N0 E' c sl os r=N0 E c sl os r:=by
  intro os
  induction os with
  | nil=>intro r;rfl
  | cons o os ih=>intro r;simp only [N0,Zym h,Zwt h,ih]
theorem ev_env {E E':Env} (h:E'.glob=E.glob) (sl:List (Nat × AV)) (x:LO):ev E' sl x=ev E sl x:=by
  cases x<;>simp [ev,h]
theorem Zkt {E E':Env} (h:E'.glob=E.glob) (c:M9) (st:St) (k:List It):move E' c st k=move E c st k:=by
  unfold move
  simp only [ev_env h,Z9m h,Zsl h]
structure Ext (E E':Env):Prop where
  glob:E'.glob=E.glob
  fn:E'.fn=E.fn
  known:∀ f h,E.known f=some h→E'.known f=some h
  none:∀ f,E.known f=none→E'.known f=none∨E.fn f=none
theorem Z9n {E E':Env} (h:Ext E E'):∀ n,(∀ fn k st r,Y8 E n fn k st=some r→Y8 E' n fn k st=some r)∧LeC (acall E n) (acall E' n):=by
  intro n
  induction n with
  | zero=>exact ⟨fun fn k st r h=>by simp [Y8] at h,fun f a σ r h=>by simp [acall] at h⟩
  | succ n ih =>
    obtain ⟨ih1,ih2⟩:=ih
    constructor
    · intro fn k st r hx
      rw [Y8] at hx ⊢
      rw [Zkt h.glob]
      cases hm:move E (acall E n) st k with
      | go k' st'=>rw [hm] at hx;rw [V3 ih2 (by simp) hm];exact ih1 _ _ _ _ hx
      | done=>rw [hm] at hx;rw [V3 ih2 (by simp) hm];exact hx
      | stuck=>rw [hm] at hx;cases hx
    · intro f a σ r hx
      rw [acall] at hx ⊢
      cases hk:E.known f with
      | some g=>rw [hk] at hx;rw [h.known f g hk];exact hx
      | none =>
        rw [hk] at hx
        cases hf:E.fn f with
        | none=>rw [hf] at hx;cases hx
        | some fn =>
          have hk':E'.known f=Option.none:=(h.none f hk).resolve_right (by rw [hf];simp)
          rw [hk',h.fn,hf]
          rw [hf] at hx;simp only [] at hx ⊢
          cases hb:(a.length==fn.np)<;>rw [hb] at hx<;>simp only [cond_true,cond_false] at hx ⊢
          · cases hx
          · exact ih1 _ _ _ _ hx
theorem S_ext {E E':Env} (h:Ext E E') {f:Nat} {a:List AV} {σ:A2} {r:AV × A2} (hx:S E f a σ=some r):S E' f a σ=some r:=by
  obtain ⟨n,hn⟩:=Zel.1 hx
  exact Zel.2 ⟨n,(Z9n h n).2 _ _ _ _ hn⟩
end Cod
namespace Cod
open Go
end Cod
namespace Cod
open Go
def lst2 (w e:Int):Int:=if e≠0∧(w=0∨e<w) then e else w
def minE (l:List Int):Int:=l.foldl lst2 0
theorem Zhi {b:Bool} {e:Int}:S E F.J7 [.bool b,.int .i64 e] []=some (.int .i64 (if b then e else 0),[]):=by
  rw [L4 Zn6 rfl rfl]
  cases b<;>simp -dsimp (disch:=first|omega|(simp only [B0,A1]<;>omega)|fail) only [L.J7,go_sem,reduceIte,reduceCtorEq,E2,E3,E4,E5,E6,E7,E8,E9,F0,F1,F2,F3,F4,F5,F6,F7,F8,F9,G0,B2]
theorem Z9o {l:List Int} {i:Nat} (h:i<l.length):(B7 l)[i]? = some (.int .i64 (l.getD i 0)):=by
  unfold B7
  rw [List.getElem?_map,List.getElem?_eq_getElem h]
  simp [List.getD,h]
theorem Z6:∀ l:List Int,flats (B7 l)=true:=by
  intro l;induction l with
  | nil=>rfl
  | cons a l ih=>show flats (.int .i64 a::B7 l)=true;simp [flats,M1,ih]
theorem Y2:∀ l:List Int,refsOfs (B7 l)=[]:=by
  intro l;induction l with
  | nil=>rfl
  | cons a l ih=>show refsOfs (.int .i64 a::B7 l)=[];simp [refsOfs,V6,ih]
theorem Zcj (f:Site→Nat→Option (Site × Nat)):∀ l:List Int,rens f (B7 l)=B7 l:=fun l=>rens_flats _ (Z6 l)
theorem Z9p {l:List Int} (hl:l.length≤1000000):∀ (m i:Nat) (w:Int),i+m=l.length →
    X E [.tmp 2] (.c L.G3.x0::.lp [3,6,7,8] L.G3.x0::.blk 0::[.c L.G3.r0]) ⟨[(3,.int .i64 w),(6,.lst (B7 l) l.length),(7,.int .i64 l.length),(8,.int .i64 i)],[]⟩=some (.int .i64 ((l.drop i).foldl lst2 w),[]):=by
  intro m
  induction m with
  | zero =>
    intro i w h
    obtain rfl:i=l.length:=by omega
    rw [K1 L.G3.x0.eq_1,List.drop_length]
    simp -dsimp (disch:=first|omega|(simp only [B0,A1]<;>omega)|fail) only [go_sem,reduceIte,reduceCtorEq,E2,E3,E4,E5,E6,E7,E8,E9,F0,F1,F2,F3,F4,F5,F6,F7,F8,F9,G0,B2,L.G3.r0,Z6,Y2,Zcj]
    rfl
  | succ m ih =>
    intro i w h
    have hlt:i<l.length:=by omega
    have h1:=ih (i+1) (lst2 w (l.getD i 0)) (by omega)
    simp only [Yhy,Yhz] at h1
    have hg:=Z9o hlt
    rw [K1 L.G3.x0.eq_1,Yho hlt,List.foldl_cons,show l[i]=l.getD i 0 by simp [List.getD,hlt]]
    generalize l.getD i 0=e at *
    unfold lst2 at h1 ⊢
    by_cases e0:e=0
    · subst e0
      rw [if_neg (by simp)] at h1 ⊢
      simp -dsimp (disch:=first|omega|(simp only [B0,A1]<;>omega)|fail) only [go_sem,reduceIte,reduceCtorEq,E2,E3,E4,E5,E6,E7,E8,E9,F0,F1,F2,F3,F4,F5,F6,F7,F8,F9,G0,B2,Z6,Y2,Zcj,hg,h1]
    · by_cases w0:w=0
      · subst w0
        rw [if_pos (by simp [e0])] at h1 ⊢
        simp -dsimp (disch:=first|omega|(simp only [B0,A1]<;>omega)|fail) only [go_sem,reduceIte,reduceCtorEq,E2,E3,E4,E5,E6,E7,E8,E9,F0,F1,F2,F3,F4,F5,F6,F7,F8,F9,G0,B2,Z6,Y2,Zcj,hg,h1,e0]
      · by_cases lt:e<w
        · rw [if_pos (by simp [e0,lt])] at h1 ⊢
          simp -dsimp (disch:=first|omega|(simp only [B0,A1]<;>omega)|fail) only [go_sem,reduceIte,reduceCtorEq,E2,E3,E4,E5,E6,E7,E8,E9,F0,F1,F2,F3,F4,F5,F6,F7,F8,F9,G0,B2,Z6,Y2,Zcj,hg,h1,e0,w0,lt]
        · rw [if_neg (by simp [e0,lt,w0])] at h1 ⊢
          simp -dsimp (disch:=first|omega|(simp only [B0,A1]<;>omega)|fail) only [go_sem,reduceIte,reduceCtorEq,E2,E3,E4,E5,E6,E7,E8,E9,F0,F1,F2,F3,F4,F5,F6,F7,F8,F9,G0,B2,Z6,Y2,Zcj,hg,h1,e0,w0,lt]
theorem Z9q {l:List Int} (hl:l.length≤1000000):S E F.G3 [.lst (B7 l) l.length] []=some (.int .i64 (minE l),[]):=by
  have h:=Z9p hl l.length 0 0 (by omega)
  simp only [Yhz,List.drop_zero] at h
  rw [L4 Zn5 rfl rfl]
  simp -dsimp (disch:=first|omega|(simp only [B0,A1]<;>omega)|fail) only [L.G3,go_sem,reduceIte,reduceCtorEq,E2,E3,E4,E5,E6,E7,E8,E9,F0,F1,F2,F3,F4,F5,F6,F7,F8,F9,G0,B2,Z6,Y2,Zcj,h]
  rfl
end Cod
namespace Cod
open Go
theorem Zeg (x:Int):IntKind.u32.wrap x=x%4294967296:=by
  simp only [IntKind.wrap,IntKind.signed,IntKind.bits]
  simp
theorem Zeh (a:BitVec 32):BitVec.ofInt 32 (a.toNat:Int)=a:=by
  apply BitVec.eq_of_toNat_eq
  rw [BitVec.toNat_ofInt]
  have:=a.isLt
  omega
theorem Zei (a:BitVec 32):(a.toNat:Int)<4294967296:=by have:=a.isLt;omega
theorem w_add (a b:BitVec 32):I4 .add (W a) (W b)=some (W (a+b)):=by
  simp only [W,Zx5,Zeg,BitVec.toNat_add]
  simp
theorem w_and (a b:BitVec 32):I4 .and (W a) (W b)=some (W (a &&& b)):=by
  rw [W,W,Zx6,Zh5]
  show some (AV.int .u32 (IntKind.u32.wrap (((BitVec.ofInt 32 (a.toNat:Int)) &&& (BitVec.ofInt 32 (b.toNat:Int))).toNat:Int)))=some (AV.int .u32 ((a &&& b).toNat:Int))
  rw [Zeh,Zeh,Zeg,Yh0 (by omega) (Zei _)]
theorem w_or (a b:BitVec 32):I4 .or (W a) (W b)=some (W (a ||| b)):=by
  rw [W,W,Z7g,ior]
  show some (AV.int .u32 (IntKind.u32.wrap (((BitVec.ofInt 32 (a.toNat:Int)) ||| (BitVec.ofInt 32 (b.toNat:Int))).toNat:Int)))=some (AV.int .u32 ((a ||| b).toNat:Int))
  rw [Zeh,Zeh,Zeg,Yh0 (by omega) (Zei _)]
theorem w_xor (a b:BitVec 32):I4 .xor (W a) (W b)=some (W (a ^^^ b)):=by
  rw [W,W,Zx7,ixor]
  show some (AV.int .u32 (IntKind.u32.wrap (((BitVec.ofInt 32 (a.toNat:Int)) ^^^ (BitVec.ofInt 32 (b.toNat:Int))).toNat:Int)))=some (AV.int .u32 ((a ^^^ b).toNat:Int))
  rw [Zeh,Zeh,Zeg,Yh0 (by omega) (Zei _)]
theorem w_not (a:BitVec 32):Zmx .xor (W a)=some (W (~~~a)):=by
  rw [W,Z7s,Zvb]
  show some (AV.int .u32 (IntKind.u32.wrap (((BitVec.allOnes 32) ^^^ (BitVec.ofInt 32 (a.toNat:Int))).toNat:Int)))=some (AV.int .u32 ((~~~a).toNat:Int))
  rw [Zeh,BitVec.allOnes_xor,Zeg,Yh0 (by omega) (Zei _)]
theorem w_shl' (a:BitVec 32) (k:IntKind) (n:Nat):I4 .shl (W a) (.int k (n:Int))=some (W (a <<< n)):=by
  rw [W,Zx8 (by omega),Zcy]
  show some (AV.int .u32 (IntKind.u32.wrap ((a.toNat:Int)*2^(Nat.min n 32))))=some (AV.int .u32 ((a <<< n).toNat:Int))
  rw [Zeg,BitVec.toNat_shiftLeft,Nat.shiftLeft_eq]
  by_cases h:n≤32
  · rw [show Nat.min n 32=n from Yhd h,Int.natCast_emod,Int.natCast_mul,Yh1]
    rfl
  · rw [show Nat.min n 32=32 from Yh2 (by omega)]
    obtain ⟨m,rfl⟩:∃ m,n=32+m:=⟨n-32,by omega⟩
    have h1:a.toNat*2^(32+m)%2^32=0:=by
      rw [Nat.pow_add,←Nat.mul_assoc,Nat.mul_right_comm]
      exact Nat.mul_mod_left _ _
    rw [h1]
    have h2:(a.toNat:Int)*2^32%4294967296=0:=by omega
    rw [h2];rfl
theorem w_shr' (a:BitVec 32) (k:IntKind) (n:Nat):I4 .shr (W a) (.int k (n:Int))=some (W (a >>> n)):=by
  rw [W,Zx9 (by omega),Zcq]
  show some (AV.int .u32 ((a.toNat:Int).fdiv (2^(Nat.min n 32))))=some (AV.int .u32 ((a >>> n).toNat:Int))
  rw [BitVec.toNat_ushiftRight,Nat.shiftRight_eq_div_pow]
  have key:∀ m:Nat,((a.toNat:Int)).fdiv (2^m)=((a.toNat/2^m:Nat):Int):=by
    intro m
    rw [Int.fdiv_eq_ediv_of_nonneg _ (Int.le_of_lt (Int.pow_pos (by omega))),Int.natCast_ediv,Yh1]
    rfl
  rw [key]
  by_cases h:n≤32
  · rw [show Nat.min n 32=n from Yhd h]
  · rw [show Nat.min n 32=32 from Yh2 (by omega)]
    have h1:a.toNat/2^32=0:=Yh3 a.isLt
    have h2:a.toNat/2^n=0:=Yh3 (Yfl a.isLt (Nat.pow_le_pow_right (by omega) (by omega)))
    rw [h1,h2]
theorem w_shl (a:BitVec 32) (k:IntKind) (n:Int) (h:0≤n):I4 .shl (W a) (.int k n)=some (W (a <<< n.toNat)):=by
  obtain ⟨m,rfl⟩:=Yh4 h
  rw [w_shl'];rfl
theorem w_shr (a:BitVec 32) (k:IntKind) (n:Int) (h:0≤n):I4 .shr (W a) (.int k n)=some (W (a >>> n.toNat)):=by
  obtain ⟨m,rfl⟩:=Yh4 h
  rw [w_shr'];rfl
theorem Z23 (n:Nat):zer (.int .u32 0) n=C7 (List.replicate n 0):=by simp [zer,C7,W]
theorem Zsm (l:List (BitVec 32)):flats (C7 l)=true:=by
  induction l with
  | nil=>rfl
  | cons x l ih=>simpa [C7,flats,M1,W] using ih
theorem Zsn (l:List (BitVec 32)):T7 (C7 l)=true:=by
  induction l with
  | nil=>rfl
  | cons x l ih=>simpa [C7,T7,R1,W] using ih
theorem Zpf (l:List (BitVec 32)):leadss (C7 l)=false:=by
  induction l with
  | nil=>rfl
  | cons x l ih=>simpa [C7,leadss,leads,W] using ih
theorem Zpg (l:List (BitVec 32)):refsOfs (C7 l)=[]:=by
  induction l with
  | nil=>rfl
  | cons x l ih=>simpa [C7,refsOfs,V6,W] using ih
theorem Zwu (f:Site→Nat→Option (Site × Nat)) (l:List (BitVec 32)):rens f (C7 l)=C7 l:=by
  induction l with
  | nil=>rfl
  | cons x l ih=>simpa [C7,rens,ren,W] using ih
theorem Z24 {l:List (BitVec 32)} {i:Nat} (h:i<l.length):(C7 l)[i]? = some (W (l.getD i 0)):=by simp [C7,h]
theorem Zwv {l:List (BitVec 32)} {i:Nat} {x:BitVec 32} (h:i<l.length):over (C7 l) i [W x]=C7 (l.set i x):=by
  unfold over C7
  rw [Yhx,List.map_set,List.set_eq_take_append_cons_drop,if_pos (by simpa using h)]
  simp
theorem Zww (l:List (BitVec 32)) (n:Nat):(C7 l).take n=C7 (l.take n):=by simp [C7,List.map_take]
theorem Zwx (l:List (BitVec 32)) (n:Nat):(C7 l).drop n=C7 (l.drop n):=by simp [C7,List.map_drop]
theorem Z25 (l:List (BitVec 32)) (i n:Nat):sub (C7 l) i n=C7 (sub l i n):=by simp [sub,C7,List.map_drop,List.map_take]
theorem Zph {l m:List (BitVec 32)} (h:m.length=l.length):over (C7 l) 0 (C7 m)=C7 m:=by
  unfold over;exact Zyd (by rw [Zce,Zce,h])
theorem hard_W (x:BitVec 32):R1 (W x)=true:=rfl
theorem flat_W (x:BitVec 32):M1 (W x)=true:=rfl
theorem Z9r (x:BitVec 32):V6 (W x)=[]:=rfl
theorem Yel (x:BitVec 32):leads (W x)=false:=rfl
theorem ren_W (f:Site→Nat→Option (Site × Nat)) (x:BitVec 32):ren f (W x)=W x:=rfl
theorem view_W (x:BitVec 32):Zbc (W x)=.ret (W x,[]):=rfl
theorem Yem (x:BitVec 32):V4 (W x)=.ret (W x,[]):=rfl
theorem Z9s (x:BitVec 32):J4 (W x)=some [W x]:=rfl
def bw (l:List UInt8) (i:Nat):BitVec 32:=BitVec.ofNat 32 (l.getD i 0).toNat
theorem cvi_bw (l:List UInt8) (i:Nat):Zmz .u32 (.int .u8 (bat l i))=.ret (W (bw l i),[]):=by
  have h:=(l.getD i 0).toNat_lt
  have:IntKind.u32.wrap (bat l i)=((bw l i).toNat:Int):=by
    rw [Zeg];unfold bat bw
    rw [BitVec.toNat_ofNat]
    omega
  rw [Zkf,this];rfl
def wb (x:BitVec 32):UInt8:=UInt8.ofNat x.toNat
theorem cvi_wb (x:BitVec 32):Zmz .u8 (W x)=.ret (.int .u8 ((wb x).toNat:Int),[]):=by
  have:IntKind.u8.wrap (x.toNat:Int)=((wb x).toNat:Int):=by
    rw [Zha];unfold wb
    simp
  rw [W,Zkf,this]
theorem WDs:(∀ (l:List (BitVec 32)) (n:Nat),(C7 l).take n=C7 (l.take n))∧(∀ (l:List (BitVec 32)) (n:Nat),(C7 l).drop n=C7 (l.drop n))∧(∀ (l:List (BitVec 32)) (i n:Nat),sub (C7 l) i n=C7 (sub l i n))∧(∀ l m:List (BitVec 32),m.length=l.length→over (C7 l) 0 (C7 m)=C7 m)∧(∀ n:Nat,zer (.int .u32 0) n=C7 (List.replicate n 0))∧(∀ a b:BitVec 32,I4 .add (W a) (W b)=some (W (a+b)))∧(∀ a b:BitVec 32,I4 .and (W a) (W b)=some (W (a &&& b)))∧(∀ a b:BitVec 32,I4 .or (W a) (W b)=some (W (a ||| b)))∧(∀ a b:BitVec 32,I4 .xor (W a) (W b)=some (W (a ^^^ b)))∧(∀ a:BitVec 32,Zmx .xor (W a)=some (W (~~~a)))∧(∀ (a:BitVec 32) (k:IntKind) (n:Int),0≤n→I4 .shl (W a) (.int k n)=some (W (a <<< n.toNat)))∧(∀ (a:BitVec 32) (k:IntKind) (n:Int),0≤n→I4 .shr (W a) (.int k n)=some (W (a >>> n.toNat)))∧(∀ l:List (BitVec 32),flats (C7 l)=true)∧(∀ l:List (BitVec 32),T7 (C7 l)=true)∧(∀ l:List (BitVec 32),leadss (C7 l)=false)∧(∀ l:List (BitVec 32),refsOfs (C7 l)=[])∧(∀ (f:Site→Nat→Option (Site × Nat)) (l:List (BitVec 32)),rens f (C7 l)=C7 l)∧(∀ l:List (BitVec 32),(C7 l).length=l.length)∧(∀ (l:List (BitVec 32)) (i:Nat),i<l.length→(C7 l)[i]? = some (W (l.getD i 0)))∧(∀ (l:List (BitVec 32)) (i:Nat) (x:BitVec 32),i<l.length→over (C7 l) i [W x]=C7 (l.set i x))∧(∀ x:BitVec 32,R1 (W x)=true)∧(∀ x:BitVec 32,M1 (W x)=true)∧(∀ x:BitVec 32,V6 (W x)=[])∧(∀ x:BitVec 32,leads (W x)=false)∧(∀ (f:Site→Nat→Option (Site × Nat)) (x:BitVec 32),ren f (W x)=W x)∧(∀ x:BitVec 32,Zbc (W x)=.ret (W x,[]))∧(∀ x:BitVec 32,V4 (W x)=.ret (W x,[]))∧(∀ x:BitVec 32,J4 (W x)=some [W x])∧(∀ (l:List UInt8) (i:Nat),Zmz .u32 (.int .u8 (bat l i))=.ret (W (bw l i),[]))∧(∀ x:BitVec 32,Zmz .u8 (W x)=.ret (.int .u8 ((wb x).toNat:Int),[])) :=
  ⟨Zww,Zwx,Z25,fun _ _ h=>Zph h,Z23,w_add,w_and,w_or,w_xor,w_not,w_shl,w_shr,Zsm,Zsn,Zpf,Zpg,Zwu,Zce,fun _ _ h=>Z24 h,fun _ _ _ h=>Zwv h,hard_W,flat_W,Z9r,Yel,ren_W,view_W,Yem,Z9s,cvi_bw,cvi_wb⟩
end Cod
namespace Cod
open Go
def Zcz (x:BitVec 32) (n:Nat):BitVec 32:=x >>> n ||| x <<< (32-n)
theorem Zdh {x:BitVec 32} {k:Int} {n:Nat} (hn:n≤32) (hk:Zh5 .u64 (IntKind.u64.wrap k) 31=((32-n:Nat):Int)) :
    S E F.C9 [W x,.int .i64 k] []=some (W (Zcz x n),[]):=by
  have h1:IntKind.u64.wrap (32-((32-n:Nat):Int))=(n:Int):=by
    simp only [IntKind.wrap,IntKind.signed,IntKind.bits]
    simp
    omega
  rw [L4 Zoc rfl rfl]
  simp (disch:=omega) only [L.C9,go_sem,reduceIte,reduceCtorEq,E2,E3,E4,E5,E6,E7,E8,E9,F0,F1,F2,F3,F4,F5,F6,F7,F8,F9,G0,B2,WDs,hk,h1]
  rw [Zcz,BitVec.or_comm]
theorem rot_7 {x:BitVec 32}:S E F.C9 [W x,.int .i64 (-7)] []=some (W (Zcz x 7),[]):=Zdh (by omega) (by decide)
theorem rot_18 {x:BitVec 32}:S E F.C9 [W x,.int .i64 (-18)] []=some (W (Zcz x 18),[]):=Zdh (by omega) (by decide)
theorem rot_17 {x:BitVec 32}:S E F.C9 [W x,.int .i64 (-17)] []=some (W (Zcz x 17),[]):=Zdh (by omega) (by decide)
theorem rot_19 {x:BitVec 32}:S E F.C9 [W x,.int .i64 (-19)] []=some (W (Zcz x 19),[]):=Zdh (by omega) (by decide)
theorem rot_6 {x:BitVec 32}:S E F.C9 [W x,.int .i64 (-6)] []=some (W (Zcz x 6),[]):=Zdh (by omega) (by decide)
theorem rot_11 {x:BitVec 32}:S E F.C9 [W x,.int .i64 (-11)] []=some (W (Zcz x 11),[]):=Zdh (by omega) (by decide)
theorem rot_25 {x:BitVec 32}:S E F.C9 [W x,.int .i64 (-25)] []=some (W (Zcz x 25),[]):=Zdh (by omega) (by decide)
theorem rot_2 {x:BitVec 32}:S E F.C9 [W x,.int .i64 (-2)] []=some (W (Zcz x 2),[]):=Zdh (by omega) (by decide)
theorem rot_13 {x:BitVec 32}:S E F.C9 [W x,.int .i64 (-13)] []=some (W (Zcz x 13),[]):=Zdh (by omega) (by decide)
theorem rot_22 {x:BitVec 32}:S E F.C9 [W x,.int .i64 (-22)] []=some (W (Zcz x 22),[]):=Zdh (by omega) (by decide)
def word4 (b:List UInt8) (i:Nat):BitVec 32:=bw b (4*i) <<< 24 ||| bw b (4*i+1) <<< 16 ||| bw b (4*i+2) <<< 8 ||| bw b (4*i+3)
def Zi3 (b:List UInt8):Nat→Nat→List (BitVec 32)→List (BitVec 32)
  | 0,_,ws=>ws
  | m+1,i,ws=>Zi3 b m (i+1) (ws.set i (word4 b i))
def sig0 (x:BitVec 32):BitVec 32:=Zcz x 7 ^^^ Zcz x 18 ^^^ x >>> 3
def sig1 (y:BitVec 32):BitVec 32:=Zcz y 17 ^^^ Zcz y 19 ^^^ y >>> 10
def sched (ws:List (BitVec 32)) (i:Nat):BitVec 32:=ws.getD (i-16) 0+sig0 (ws.getD (i-15) 0)+ws.getD (i-7) 0+sig1 (ws.getD (i-2) 0)
def Zku:Nat→Nat→List (BitVec 32)→List (BitVec 32)
  | 0,_,ws=>ws
  | m+1,i,ws=>Zku m (i+1) (ws.set i (sched ws i))
theorem Zhj (b:List UInt8):∀ m i ws,(Zi3 b m i ws).length=ws.length:=by
  intro m
  induction m with
  | zero=>intro i ws;rfl
  | succ m ih=>intro i ws;simp [Zi3,ih]
theorem Zpi:∀ m i ws,(Zku m i ws).length=ws.length:=by
  intro m
  induction m with
  | zero=>intro i ws;rfl
  | succ m ih=>intro i ws;simp [Zku,ih]
theorem Z9t {h:List (BitVec 32)} {b:List UInt8} (hh:h.length=8) (hb:b.length=64) (k:List It):∀ (m i:Nat) (ws:List (BitVec 32)),i+m=16→ws.length=64 →
    X E [.cell 4 (some 8)] (.c L.C5.x0::.lp [2,3,4,5,23] L.C5.x0::.blk 0::k) ⟨[(2,.ref (.s 1000000 0) 0 0),(3,.ref (.s 1000000 1) 0 0),(4,.ref (.s 1000000 2) 0 0),(5,.ref (.s 1000000 3) 0 0),(23,.int .i64 i)],[(.s 1000000 0,⟨0,true,true,true,C7 h⟩),(.s 1000000 1,⟨0,true,true,true,A0 b⟩),(.s 1000000 2,⟨0,true,true,true,C7 (List.replicate 8 0)⟩),(.s 1000000 3,⟨0,true,true,true,C7 ws⟩)]⟩=X E [.cell 4 (some 8)] k ⟨[(2,.ref (.s 1000000 0) 0 0),(3,.ref (.s 1000000 1) 0 0),(4,.ref (.s 1000000 2) 0 0),(5,.ref (.s 1000000 3) 0 0),(23,.int .i64 16),(24,.bool false)],[(.s 1000000 0,⟨0,true,true,true,C7 h⟩),(.s 1000000 1,⟨0,true,true,true,A0 b⟩),(.s 1000000 2,⟨0,true,true,true,C7 (List.replicate 8 0)⟩),(.s 1000000 3,⟨0,true,true,true,C7 (Zi3 b m i ws)⟩)]⟩:=by
  intro m
  induction m with
  | zero =>
    intro i ws h1 h2
    obtain rfl:i=16:=by omega
    rw [K1 L.C5.x0.eq_1]
    simp (disch:=omega) only [go_sem,reduceIte,reduceCtorEq,E2,E3,E4,E5,E6,E7,E8,E9,F0,F1,F2,F3,F4,F5,F6,F7,F8,F9,G0,B2,C4,C3,C2,WDs,BYs,Zi3,Yhz]
  | succ m ih =>
    intro i ws h1 h2
    have e0:(4*(i:Int)).toNat=4*i:=by omega
    have e1:(4*(i:Int)+1).toNat=4*i+1:=by omega
    have e2:(4*(i:Int)+2).toNat=4*i+2:=by omega
    have e3:(4*(i:Int)+3).toNat=4*i+3:=by omega
    rw [K1 L.C5.x0.eq_1]
    simp (disch:=omega) only [go_sem,reduceIte,reduceCtorEq,E2,E3,E4,E5,E6,E7,E8,E9,F0,F1,F2,F3,F4,F5,F6,F7,F8,F9,G0,B2,C4,C3,C2,WDs,BYs,Zi3,e0,e1,e2,e3]
    have:=ih (i+1) (ws.set i (word4 b i)) (by omega) (by simpa using h2)
    simp only [Yhy,Yhz] at this
    exact this
theorem Z9u {h:List (BitVec 32)} (hh:h.length=8) (k:List It):∀ (m i:Nat) (ws:List (BitVec 32)),i+m=64→16≤i→ws.length=64 →
    X E [.cell 4 (some 8)] (.c L.C5.x1::.lp [2,4,5,7] L.C5.x1::.blk 2::k) ⟨[(2,.ref (.s 1000000 0) 0 0),(4,.ref (.s 1000000 1) 0 0),(5,.ref (.s 1000000 2) 0 0),(7,.int .i64 i)],[(.s 1000000 0,⟨0,true,true,true,C7 h⟩),(.s 1000000 1,⟨0,true,true,true,C7 (List.replicate 8 0)⟩),(.s 1000000 2,⟨0,true,true,true,C7 ws⟩)]⟩=X E [.cell 4 (some 8)] k ⟨[(2,.ref (.s 1000000 0) 0 0),(4,.ref (.s 1000000 1) 0 0),(5,.ref (.s 1000000 2) 0 0),(7,.int .i64 64),(59,.bool false)],[(.s 1000000 0,⟨0,true,true,true,C7 h⟩),(.s 1000000 1,⟨0,true,true,true,C7 (List.replicate 8 0)⟩),(.s 1000000 2,⟨0,true,true,true,C7 (Zku m i ws)⟩)]⟩:=by
  intro m
  induction m with
  | zero =>
    intro i ws h1 h0 h2
    obtain rfl:i=64:=by omega
    rw [K1 L.C5.x1.eq_1]
    simp (disch:=omega) only [go_sem,reduceIte,reduceCtorEq,E2,E3,E4,E5,E6,E7,E8,E9,F0,F1,F2,F3,F4,F5,F6,F7,F8,F9,G0,B2,C4,C3,C2,WDs,BYs,Zku,Yhz]
  | succ m ih =>
    intro i ws h1 h0 h2
    have e0:((i:Int)-16).toNat=i-16:=by omega
    have e1:((i:Int)-15).toNat=i-15:=by omega
    have e2:((i:Int)-7).toNat=i-7:=by omega
    have e3:((i:Int)-2).toNat=i-2:=by omega
    rw [K1 L.C5.x1.eq_1]
    simp (disch:=omega) only [go_sem,reduceIte,reduceCtorEq,E2,E3,E4,E5,E6,E7,E8,E9,F0,F1,F2,F3,F4,F5,F6,F7,F8,F9,G0,B2,C4,C3,C2,WDs,BYs,Zku,e0,e1,e2,e3,rot_7,rot_18,rot_17,rot_19]
    have:=ih (i+1) (ws.set i (sched ws i)) (by omega) (by omega) (by simpa using h2)
    simp only [Yhy,Yhz] at this
    exact this
structure S8 where
  a:BitVec 32
  b:BitVec 32
  c:BitVec 32
  d:BitVec 32
  e:BitVec 32
  f:BitVec 32
  g:BitVec 32
  h:BitVec 32
def su1 (e:BitVec 32):BitVec 32:=Zcz e 6 ^^^ Zcz e 11 ^^^ Zcz e 25
def su0 (a:BitVec 32):BitVec 32:=Zcz a 2 ^^^ Zcz a 13 ^^^ Zcz a 22
def rndU (k w:BitVec 32) (s:S8):BitVec 32:=s.h+su1 s.e+(s.e &&& s.f ||| ~~~s.e &&& s.g)+k+w
def rndV (s:S8):BitVec 32:=su0 s.a+(s.a &&& s.b ^^^ s.a &&& s.c ^^^ s.b &&& s.c)
def rnd (k w:BitVec 32) (s:S8):S8:=⟨rndU k w s+rndV s,s.a,s.b,s.c,s.d+rndU k w s,s.e,s.f,s.g⟩
def Zh9 (ws:List (BitVec 32)):Nat→Nat→S8→S8
  | 0,_,s=>s
  | m+1,i,s=>Zh9 ws m (i+1) (rnd (Zo8.getD i 0) (ws.getD i 0) s)
def S8.of (h:List (BitVec 32)):S8:=⟨h.getD 0 0,h.getD 1 0,h.getD 2 0,h.getD 3 0,h.getD 4 0,h.getD 5 0,h.getD 6 0,h.getD 7 0⟩
def S8.plus (h:List (BitVec 32)) (s:S8):List (BitVec 32):=[h.getD 0 0+s.a,h.getD 1 0+s.b,h.getD 2 0+s.c,h.getD 3 0+s.d,h.getD 4 0+s.e,h.getD 5 0+s.f,h.getD 6 0+s.g,h.getD 7 0+s.h]
def msch (b:List UInt8):List (BitVec 32):=Zku 48 16 (Zi3 b 16 0 (List.replicate 64 0))
def Zia (h:List (BitVec 32)) (b:List UInt8):List (BitVec 32):=S8.plus h (Zh9 (msch b) 64 0 (S8.of h))
theorem Zso (b:List UInt8):(msch b).length=64:=by rw [msch,Zpi,Zhj];simp
theorem Zaw (h:List (BitVec 32)) (b:List UInt8):(Zia h b).length=8:=rfl
theorem Zsp:Zo8.length=64:=rfl
theorem Z9v {h ws:List (BitVec 32)} (hh:h.length=8) (hw:ws.length=64) (k:List It):∀ (m i:Nat) (s:S8),i+m=64 →
    X E [.cell 4 (some 8)] (.c L.C5.x2::.lp [2,4,5,12,13,14,15,16,17,18,19,117] L.C5.x2::.blk 4::k) ⟨[(2,.ref (.s 1000000 0) 0 0),(4,.ref (.s 1000000 1) 0 0),(5,.ref (.s 1000000 2) 0 0),(12,W s.a),(13,W s.b),(14,W s.c),(15,W s.d),(16,W s.e),(17,W s.f),(18,W s.g),(19,W s.h),(117,.int .i64 i)],[(.s 1000000 0,⟨0,true,true,true,C7 h⟩),(.s 1000000 1,⟨0,true,true,true,C7 (List.replicate 8 0)⟩),(.s 1000000 2,⟨0,true,true,true,C7 ws⟩)]⟩=X E [.cell 4 (some 8)] k ⟨[(2,.ref (.s 1000000 0) 0 0),(4,.ref (.s 1000000 1) 0 0),(5,.ref (.s 1000000 2) 0 0),(12,W (Zh9 ws m i s).a),(13,W (Zh9 ws m i s).b),(14,W (Zh9 ws m i s).c),(15,W (Zh9 ws m i s).d),(16,W (Zh9 ws m i s).e),(17,W (Zh9 ws m i s).f),(18,W (Zh9 ws m i s).g),(19,W (Zh9 ws m i s).h),(117,.int .i64 64),(118,.bool false)],[(.s 1000000 0,⟨0,true,true,true,C7 h⟩),(.s 1000000 1,⟨0,true,true,true,C7 (List.replicate 8 0)⟩),(.s 1000000 2,⟨0,true,true,true,C7 ws⟩)]⟩:=by
  intro m
  have hk:=Zsp
  induction m with
  | zero =>
    intro i s h1
    obtain rfl:i=64:=by omega
    rw [K1 L.C5.x2.eq_1]
    simp (disch:=omega) only [go_sem,reduceIte,reduceCtorEq,E2,E3,E4,E5,E6,E7,E8,E9,F0,F1,F2,F3,F4,F5,F6,F7,F8,F9,G0,B2,C4,C3,C2,WDs,BYs,Zh9,Yhz]
  | succ m ih =>
    intro i s h1
    rw [K1 L.C5.x2.eq_1]
    simp (disch:=omega) only [go_sem,reduceIte,reduceCtorEq,E2,E3,E4,E5,E6,E7,E8,E9,F0,F1,F2,F3,F4,F5,F6,F7,F8,F9,G0,B2,C4,C3,C2,WDs,BYs,Zh9,glob_k,rot_6,rot_11,rot_25,rot_2,rot_13,rot_22]
    have:=ih (i+1) (rnd (Zo8.getD i 0) (ws.getD i 0) s) (by omega)
    simp only [Yhy,Yhz] at this
    exact this
theorem Z9w {h ws:List (BitVec 32)} (hh:h.length=8) (R:S8):X E [.cell 4 (some 8)] [.c L.C5.r2] ⟨[(2,.ref (.s 1000000 0) 0 0),(4,.ref (.s 1000000 1) 0 0),(5,.ref (.s 1000000 2) 0 0),(12,W R.a),(13,W R.b),(14,W R.c),(15,W R.d),(16,W R.e),(17,W R.f),(18,W R.g),(19,W R.h),(117,.int .i64 64),(118,.bool false)],[(.s 1000000 0,⟨0,true,true,true,C7 h⟩),(.s 1000000 1,⟨0,true,true,true,C7 (List.replicate 8 0)⟩),(.s 1000000 2,⟨0,true,true,true,C7 ws⟩)]⟩=some (.agg (C7 (S8.plus h R)),[]):=by
  simp -dsimp (disch:=first|omega|(simp only [B0]<;>omega)|fail) only [L.C5.r2,go_sem,reduceIte,reduceCtorEq,E2,E3,E4,E5,E6,E7,E8,E9,F0,F1,F2,F3,F4,F5,F6,F7,F8,F9,G0,B2,C4,C3,C2,WDs,BYs,List.length_replicate,Yhv]
  rfl
theorem Z9x {h ws:List (BitVec 32)} (hh:h.length=8) (hw:ws.length=64):X E [.cell 4 (some 8)] [.c L.C5.r1] ⟨[(2,.ref (.s 1000000 0) 0 0),(4,.ref (.s 1000000 1) 0 0),(5,.ref (.s 1000000 2) 0 0),(7,.int .i64 64),(59,.bool false)],[(.s 1000000 0,⟨0,true,true,true,C7 h⟩),(.s 1000000 1,⟨0,true,true,true,C7 (List.replicate 8 0)⟩),(.s 1000000 2,⟨0,true,true,true,C7 ws⟩)]⟩=some (.agg (C7 (S8.plus h (Zh9 ws 64 0 (S8.of h)))),[]):=by
  rw [←Z9w (ws:=ws) hh]
  have:=Z9v hh hw [.c L.C5.r2] 64 0 (S8.of h) (by omega)
  simp only [Yhz] at this
  rw [←this]
  simp -dsimp (disch:=first|omega|(simp only [B0]<;>omega)|fail) only [L.C5.r1,go_sem,reduceIte,reduceCtorEq,E2,E3,E4,E5,E6,E7,E8,E9,F0,F1,F2,F3,F4,F5,F6,F7,F8,F9,G0,B2,C4,C3,C2,WDs,BYs,S8.of]
theorem Zsq {h:List (BitVec 32)} {b:List UInt8} (hh:h.length=8) (hb:b.length=64):S E F.C5 [.agg (C7 h),.agg (A0 b)] []=some (.agg (C7 (Zia h b)),[]):=by
  have l1:(Zi3 b 16 0 (List.replicate 64 0)).length=64:=by rw [Zhj];simp
  rw [Zia,←Z9x hh (Zso b),msch]
  have:=Z9u hh [.c L.C5.r1] 48 16 _ (by omega) (by omega) l1
  simp only [Yhz] at this
  rw [←this]
  rw [L4 Zn3 rfl rfl]
  simp -dsimp (disch:=first|omega|(simp only [B0]<;>omega)|fail) only [L.C5,go_sem,reduceIte,reduceCtorEq,E2,E3,E4,E5,E6,E7,E8,E9,F0,F1,F2,F3,F4,F5,F6,F7,F8,F9,G0,B2,C4,C3,C2,WDs,BYs]
  have:=Z9t hh hb [.c L.C5.r0] 16 0 (List.replicate 64 0) (by omega) (by simp)
  simp only [Yhz] at this
  rw [this]
  simp -dsimp (disch:=first|omega|(simp only [B0]<;>omega)|fail) only [L.C5.r0,go_sem,reduceIte,reduceCtorEq,E2,E3,E4,E5,E6,E7,E8,E9,F0,F1,F2,F3,F4,F5,F6,F7,F8,F9,G0,B2,C4,C3,C2,WDs,BYs]
end Cod

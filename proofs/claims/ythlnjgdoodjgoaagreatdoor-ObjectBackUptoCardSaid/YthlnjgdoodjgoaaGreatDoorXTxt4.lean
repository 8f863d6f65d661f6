/- names.ParseIdent reads just what PutIdent writes. -/
import Derived.Test.YthlnjgdoodjgoaaGreatDoorXTxt3
import Derived.Test.YthlnjgdoodjgoaaGreatDoorXTxt2
import Derived.Test.YthlnjgdoodjgoaaGreatDoorXTxt1
set_option linter.unusedSimpArgs false
set_option linter.unusedVariables false
open List renaming any_cons → Ypm, append_assoc → Ynz, append_nil → Yp5, cons_append → Yna, contains_eq_mem → Yom, contains_iff_mem → Yp4, drop_eq_getElem_cons → Ypa, drop_left' → Ypx, drop_of_length_le → Yo9, drop_zero → Yoq, getElem_mem → Yp1, idxOf_lt_length_of_mem → Yp7, length_append → Yny, length_cons → Ynn, length_nil → Yok, length_replicate → Yp6, length_take → Yne, mem_cons → Yog, nil_append → Yoz, take_left' → Ypy
open Nat renaming add_sub_cancel_left → Yp2, le_refl → Ym7
open Int renaming cast_ofNat_Int → Ypi, tdiv_eq_ediv_of_nonneg → Ypz, tmod_eq_emod_of_nonneg → Yp0
open Bool renaming and_eq_true → Ynm, and_true → Yn6, eq_iff_iff → Yp3, false_or → Ypk, true_and → Ypj
open Nat renaming reduceEqDiff → B9, reduceAdd → C0, reduceSub → C1, reduceMul → C2, reduceDiv → C3, reduceMod → C4, reduceBEq → C5, reduceLeDiff → C6, reduceLT → C7
open Int renaming reduceEq → C8, reduceNe → C9, reduceLT → D0, reduceLE → D1, reduceBEq → D2, reduceBNe → D3, reduceToNat → D4, reduceAdd → D5, reduceSub → D6, reduceMul → D7, reduceNeg → A3
namespace Cod
open Go
theorem Z1u {s:List UInt8} (hs:s.length≤1000000000000):∃ a b c d ok,S E F.G1 [.str s] []=some (.tup [.agg [.str a,.str b,.str c,.str d],.bool ok],[])∧c.length≤1000000000000∧d.length≤1000000000000:=by
  have hsub:∀ (l:List UInt8) (a n:Nat),(sub l a n).length≤l.length:=by
    intro l a n;unfold sub;rw [Yne,List.length_drop];omega
  rcases Zk4 s 32 s.length with h|⟨i,h,hi,_⟩
  · exact ⟨[],[],[],[],false,cut_a hs h,by simp,by simp⟩
  · have hr:=hsub s 0 i
    have hz:=hsub s (i+1) (s.length-(i+1))
    rcases Zk4 (sub s 0 i) 32 (sub s 0 i).length with h1|⟨j,h1,hj,_⟩
    · exact ⟨[],[],[],_,false,cut_b hs h hi rfl rfl h1,by simp,by omega⟩
    · have hq:=hsub (sub s 0 i) (j+1) ((sub s 0 i).length-(j+1))
      by_cases h2:Lib.lastIndex (sub (sub s 0 i) 0 j) [32,60]<0∨Zef (sub (sub s 0 i) 0 j) [62]=false
      · exact ⟨[],[],_,_,false,cut_c hs h hi rfl rfl h1 hj rfl rfl h2,by omega,by omega⟩
      · have h3:¬ Lib.lastIndex (sub (sub s 0 i) 0 j) [32,60]<0:=fun x=>h2 (.inl x)
        have h4:Zef (sub (sub s 0 i) 0 j) [62]=true:=by
          cases hb:Zef (sub (sub s 0 i) 0 j) [62]
          · exact absurd (.inr hb) h2
          · rfl
        rcases Z1t (sub (sub s 0 i) 0 j) with h5|⟨k,h5⟩
        · exact absurd h5 h3
        · exact ⟨_,_,_,_,true,cut_d hs h hi rfl rfl h1 hj rfl rfl h5 (Z8n h5 h4) h4,by omega,by omega⟩
theorem Zta {a b:List UInt8}:sub (a++b) 0 a.length=a:=by unfold sub;simp
theorem Zw7 {a b:List UInt8} {x:UInt8} {n m:Nat} (hn:n=a.length+1) (hm:m=b.length):sub (a++x::b) n m=b:=by
  subst hn hm;unfold sub;rw [show a++x::b=(a++[x])++b by simp,Ypx (by simp),List.take_length]
theorem Zeg {s:List UInt8} (h:Zbw s=true):0∉s∧10∉s∧60∉s∧62∉s:=by
  unfold Zbw at h
  simp only [Ynm,Bool.not_eq_true',Yom,decide_eq_false_iff_not] at h
  exact ⟨h.2.1,h.2.2.1,h.2.2.2.1,h.2.2.2.2⟩
def T9 (z:Int):Int:=if z<0 then -z else z
theorem Zf9 (z:Int):Zbd z=(if z<0 then 45 else 43)::(two (T9 z/60)++two (T9 z%60)):=rfl
theorem Ze7 {z:Int} (h0 : -1439≤z) (h1:z≤1439):0≤T9 z∧T9 z<1440:=by unfold T9;split<;>omega
theorem Z8s {z:Int} (h0 : -1439≤z) (h1:z≤1439):32∉Zbd z:=by
  obtain ⟨a0,a1⟩:=Ze7 h0 h1
  rw [Zf9]
  have:=Zs6 (Z31 (a:=T9 z/60) (b:=T9 z%60) (by omega) (by omega) (by omega) (by omega)).1 (x:=32) (by unfold Zbe;decide)
  simp only [Yog,not_or]
  refine ⟨?_,this⟩
  split<;>decide
theorem Zna (z:Int):(Zbd z).length=5:=rfl
theorem Zlq (i:Idt):I5 i=(i.name++[32,60]++(i.email++[62])++32::Lib.itoa i.time)++32::Zbd i.zone:=by
  unfold I5;simp
theorem Zb8 {i:Idt} (h:F8 i=true):(I5 i).length≤1000:=by
  obtain ⟨p0,p1,t0,t1,z0,z1⟩:=(U2 i).1 h
  have hl:=Lib.itoa_length_le i.time (by omega) (by omega)
  have hn:=Zc5 p0
  have he:=Zc5 p1
  unfold I5
  simp only [Yny,Ynn,Yok,Zna]
  omega
theorem Z1v {i:Idt} (h:F8 i=true):S E F.G1 [.str (I5 i)] []=some (.tup [.agg [.str i.name,.str i.email,.str (Lib.itoa i.time),.str (Zbd i.zone)],.bool true],[]):=by
  obtain ⟨p0,p1,t0,t1,z0,z1⟩:=(U2 i).1 h
  have hs:=Zb8 h
  obtain ⟨d0,_,_⟩:=Zi8 t0
  have m1:=Zs6 d0 (x:=32) (by unfold Zbe;decide)
  have m2:=Z8s z0 z1
  obtain ⟨_,_,e60,_⟩:=Zeg p1
  have m3:60∉i.email++[62]:=by simp [e60]
  have hend:Zef (i.name++[32,60]++(i.email++[62])) [62]=true:=by
    rw [ends1]
    refine ⟨by simp,?_⟩
    rw [←Ynz]
    simp
  have hlen:(i.name++[32,60]++(i.email++[62])).length=i.name.length+2+(i.email.length+1):=by simp only [Yny,Ynn,Yok]
  have:=cut_d (s:=I5 i) (i:=(i.name++[32,60]++(i.email++[62])++32::Lib.itoa i.time).length) (r:=i.name++[32,60]++(i.email++[62])++32::Lib.itoa i.time) (z:=Zbd i.zone) (j:=(i.name++[32,60]++(i.email++[62])).length) (q:=i.name++[32,60]++(i.email++[62])) (t:=Lib.itoa i.time) (k:=i.name.length)
    (by omega) (by rw [Zlq];exact Zo7 m2) (by rw [Zlq];simp) (by rw [Zlq];exact Zta) (by rw [Zlq];exact Zw7 rfl (by simp only [Yny,Ynn];omega))
    (Zo7 m1) (by simp) Zta (Zw7 rfl (by simp only [Yny,Ynn];omega)) (Yf0 m3) (by rw [hlen];omega) hend
  rw [this]
  have e1:sub (i.name++[32,60]++(i.email++[62])) 0 i.name.length=i.name:=by rw [Ynz];exact Zta
  have e2:sub (i.name++[32,60]++(i.email++[62])) (i.name.length+2) ((i.name++[32,60]++(i.email++[62])).length-1-(i.name.length+2))=i.email:=by
    rw [hlen,show i.name.length+2+(i.email.length+1)-1-(i.name.length+2)=i.email.length by omega]
    unfold sub
    rw [Ypx (by simp),Ypy rfl]
  rw [e1,e2]
theorem Z1w {s:List UInt8} {v:Int} (h:Lib.atoiAll s=.ok v) : -9223372036854775808≤v∧v<9223372036854775808:=by
  unfold Lib.atoiAll at h
  split at h
  · cases h
  · dsimp only at h
    split at h
    · cases h
    · cases h
    · split at h
      · cases h
      · split at h
        · cases h
        · cases h
          split<;>omega
def Zga:List AV:=[.str [],.str [],.int .i64 0,.int .i64 0]
def Znb:AV:=.tup [.agg Zga,.int .i64 4]
theorem Ztb {i:Idt} (h:F8 i=true):S E F.H2 [.str (I5 i)] []=some (.tup [.agg i.cells,.int .i64 0],[]):=by
  obtain ⟨p0,p1,t0,t1,z0,z1⟩:=(U2 i).1 h
  obtain ⟨a0,a1⟩:=Ze7 z0 z1
  have hs:=Zb8 h
  have hc:=Z1v h
  have hl:=Lib.itoa_length_le i.time (by omega) (by omega)
  obtain ⟨d0,d1,d2⟩:=Zi8 t0
  have ht:=Zsq (s:=Lib.itoa i.time) (by omega)
  rw [show Zha (Lib.itoa i.time)=.tup [.int .i64 i.time,.nili] by unfold Zha;rw [Zw5 d2 d0 (by omega)];simp only [d1]] at ht
  obtain ⟨q0,q1⟩:=Z31 (a:=T9 i.zone/60) (b:=T9 i.zone%60) (by omega) (by omega) (by omega) (by omega)
  have hz:=Zsq (s:=two (T9 i.zone/60)++two (T9 i.zone%60)) (by simp only [two,Yny,Ynn,Yok];omega)
  rw [show Zha (two (T9 i.zone/60)++two (T9 i.zone%60))=.tup [.int .i64 (T9 i.zone/60*100+T9 i.zone%60),.nili] by unfold Zha;rw [Zw5 (by simp [two]) q0 (by omega)];simp only [q1]] at hz
  have e3:sub (Zbd i.zone) 1 4=two (T9 i.zone/60)++two (T9 i.zone%60):=rfl
  have e4:=Zna i.zone
  have hp:S E F.J6 [.agg [.str i.name,.str i.email,.int .i64 i.time,.int .i64 i.zone]] []=some (.tup [.str (I5 i),.int .i64 0],[]):=by
    have hp:=Zf8 (i:=i)
    unfold Zw4 at hp
    rw [if_pos h] at hp
    exact hp
  have e5:(T9 i.zone/60*100+T9 i.zone%60)/100*60+(T9 i.zone/60*100+T9 i.zone%60)%100=T9 i.zone:=by omega
  have e7:(I5 i != I5 i)=false:=by simp
  rw [S_of Zis rfl rfl]
  by_cases hn:i.zone<0
  · have hz2:T9 i.zone = - i.zone:=by unfold T9;rw [if_pos hn]
    have hb:bat (Zbd i.zone) 0=45:=by rw [Zf9,if_pos hn];rfl
    have e6:0-T9 i.zone=i.zone:=by omega
    simp -dsimp (disch:=first|omega|(simp only [A4,N3]<;>omega)|fail) only [L.H2,go_sem,reduceIte,reduceCtorEq,B9,C0,C1,C2,C3,C4,C5,C6,C7,C8,C9,D0,D1,D2,D3,D4,D5,D6,D7,A3,hc,ht,hz,e3,e4,Zfx,Zfw,e5,hb,e6,hp,e7,Idt.cells]
  · have hz2:T9 i.zone=i.zone:=by unfold T9;rw [if_neg hn]
    have hb:bat (Zbd i.zone) 0=43:=by rw [Zf9,if_neg hn];rfl
    rw [hz2] at hz e3 e5
    simp -dsimp (disch:=first|omega|(simp only [A4,N3]<;>omega)|fail) only [L.H2,go_sem,reduceIte,reduceCtorEq,B9,C0,C1,C2,C3,C4,C5,C6,C7,C8,C9,D0,D1,D2,D3,D4,D5,D6,D7,A3,hc,ht,hz,e3,e4,Zfx,Zfw,e5,hb,hp,e7,Idt.cells]
theorem Zho (s:List UInt8):(∃ v,Lib.atoiAll s=.ok v∧Zha s=.tup [.int .i64 v,.nili] ∧ -9223372036854775808≤v∧v<9223372036854775808)∨∃ v T,Zha s=.tup [.int .i64 v,.ifc T .junk]:=by
  unfold Zha
  split
  · rename_i v h
    left;exact ⟨v,h,rfl,Z1w h⟩
  · right;exact ⟨_,_,rfl⟩
  · right;exact ⟨_,_,rfl⟩
theorem Ylw {z:Int} (h0 : -9223372036854775808≤z) (h1:z<9223372036854775808):∃ q r,z.tdiv 100=q∧z.tmod 100=r ∧ -92233720368547758≤q∧q≤92233720368547758 ∧ -100<r∧r<100:=by
  by_cases h:0≤z
  · exact ⟨_,_,rfl,rfl,by rw [Ypz h];omega,by rw [Ypz h];omega,by rw [Yp0 h];omega,by rw [Yp0 h];omega⟩
  · obtain ⟨y,rfl⟩:∃ y,z = -y:=⟨-z,by omega⟩
    rw [Int.neg_tdiv,Int.neg_tmod]
    exact ⟨_,_,rfl,rfl,by rw [Ypz (by omega)];omega,by rw [Ypz (by omega)];omega,by rw [Yp0 (by omega)];omega,by rw [Yp0 (by omega)];omega⟩
theorem Yf5 {s:List UInt8} (h:∀ i,F8 i=true→I5 i≠s) (a b:List UInt8) (t z:Int):∃ p e,S E F.J6 [.agg [.str a,.str b,.int .i64 t,.int .i64 z]] []=some (.tup [.str p,.int .i64 e],[])∧(e=3∨e=0∧(p==s)=false):=by
  have hp:=Zf8 (i:=⟨a,b,t,z⟩)
  unfold Zw4 at hp
  by_cases hi:F8 ⟨a,b,t,z⟩=true
  · rw [if_pos hi] at hp
    exact ⟨_,_,hp,.inr ⟨rfl,by simpa using h _ hi⟩⟩
  · rw [if_neg hi] at hp
    exact ⟨_,_,hp,.inl rfl⟩
theorem Zw8 {s:List UInt8} (hs:s.length≤1000000000000) (h:∀ i,F8 i=true→I5 i≠s):S E F.H2 [.str s] []=some (Znb,[]):=by
  obtain ⟨a,b,c,d,ok,hc,lc,ld⟩:=Z1u hs
  rw [S_of Zis rfl rfl]
  cases ok
  · simp -dsimp (disch:=first|omega|(simp only [A4,N3]<;>omega)|fail) only [L.H2,go_sem,reduceIte,reduceCtorEq,B9,C0,C1,C2,C3,C4,C5,C6,C7,C8,C9,D0,D1,D2,D3,D4,D5,D6,D7,A3,hc,Znb,Zga]
  · by_cases hd:d.length=5
    · have ht:=Zsq (s:=c) (by omega)
      have hsl:(sub d 1 4).length≤4:=by unfold sub;rw [Yne];omega
      have hz:=Zsq (s:=sub d 1 4) (by omega)
      rcases Zho c with ⟨t,_,e1,_⟩|⟨t,T1,e1⟩
      · rcases Zho (sub d 1 4) with ⟨z,_,e2,z0,z1⟩|⟨z,T2,e2⟩
        · obtain ⟨q,r,hq,hr,q0,q1,r0,r1⟩:=Ylw z0 z1
          rw [e1] at ht
          rw [e2] at hz
          by_cases hb:bat d 0=45
          · obtain ⟨p,e,hp,hpe⟩:=Yf5 h a b t (0-(q*60+r))
            rcases hpe with rfl|⟨rfl,hne⟩
            · simp -dsimp (disch:=first|omega|(simp only [A4,N3]<;>omega)|fail) only [L.H2,go_sem,reduceIte,reduceCtorEq,B9,C0,C1,C2,C3,C4,C5,C6,C7,C8,C9,D0,D1,D2,D3,D4,D5,D6,D7,A3,hc,ht,hz,hd,hq,hr,hb,hp,Znb,Zga]
            · simp -dsimp (disch:=first|omega|(simp only [A4,N3]<;>omega)|fail) only [L.H2,go_sem,reduceIte,reduceCtorEq,B9,C0,C1,C2,C3,C4,C5,C6,C7,C8,C9,D0,D1,D2,D3,D4,D5,D6,D7,A3,hc,ht,hz,hd,hq,hr,hb,hp,hne,Znb,Zga]
          · obtain ⟨p,e,hp,hpe⟩:=Yf5 h a b t (q*60+r)
            rcases hpe with rfl|⟨rfl,hne⟩
            · simp -dsimp (disch:=first|omega|(simp only [A4,N3]<;>omega)|fail) only [L.H2,go_sem,reduceIte,reduceCtorEq,B9,C0,C1,C2,C3,C4,C5,C6,C7,C8,C9,D0,D1,D2,D3,D4,D5,D6,D7,A3,hc,ht,hz,hd,hq,hr,hb,hp,Znb,Zga]
            · simp -dsimp (disch:=first|omega|(simp only [A4,N3]<;>omega)|fail) only [L.H2,go_sem,reduceIte,reduceCtorEq,B9,C0,C1,C2,C3,C4,C5,C6,C7,C8,C9,D0,D1,D2,D3,D4,D5,D6,D7,A3,hc,ht,hz,hd,hq,hr,hb,hp,hne,Znb,Zga]
        · rw [e1] at ht
          rw [e2] at hz
          simp -dsimp (disch:=first|omega|(simp only [A4,N3]<;>omega)|fail) only [L.H2,go_sem,reduceIte,reduceCtorEq,B9,C0,C1,C2,C3,C4,C5,C6,C7,C8,C9,D0,D1,D2,D3,D4,D5,D6,D7,A3,hc,ht,hz,hd,Znb,Zga]
      · rw [e1] at ht
        rcases Zho (sub d 1 4) with ⟨z,_,e2,z0,z1⟩|⟨z,T2,e2⟩
        · rw [e2] at hz
          simp -dsimp (disch:=first|omega|(simp only [A4,N3]<;>omega)|fail) only [L.H2,go_sem,reduceIte,reduceCtorEq,B9,C0,C1,C2,C3,C4,C5,C6,C7,C8,C9,D0,D1,D2,D3,D4,D5,D6,D7,A3,hc,ht,hz,hd,Znb,Zga]
        · rw [e2] at hz
          simp -dsimp (disch:=first|omega|(simp only [A4,N3]<;>omega)|fail) only [L.H2,go_sem,reduceIte,reduceCtorEq,B9,C0,C1,C2,C3,C4,C5,C6,C7,C8,C9,D0,D1,D2,D3,D4,D5,D6,D7,A3,hc,ht,hz,hd,Znb,Zga]
    · simp -dsimp (disch:=first|omega|(simp only [A4,N3]<;>omega)|fail) only [L.H2,go_sem,reduceIte,reduceCtorEq,B9,C0,C1,C2,C3,C4,C5,C6,C7,C8,C9,D0,D1,D2,D3,D4,D5,D6,D7,A3,hc,hd,Znb,Zga]
end Cod
namespace Cod
open Go
def scn (s:List UInt8) (c:UInt8):Nat→Nat→Nat
  | 0,i=>i
  | m+1,i=>if s.getD i 0=c then i else scn s c m (i+1)
theorem Yf6 (s:List UInt8) (c:UInt8) (k:Nat) (hk:s.getD k 0=c):∀ m i,i≤k→k<i+m→(∀ j,i≤j→j<k→s.getD j 0≠c)→scn s c m i=k:=by
  intro m
  induction m with
  | zero=>intro i h1 h2;omega
  | succ m ih =>
    intro i h1 h2 h3
    unfold scn
    by_cases h:i=k
    · rw [h,if_pos hk]
    · rw [if_neg (h3 i (Ym7 _) (by omega))]
      exact ih (i+1) (by omega) (by omega) (fun j a b=>h3 j (by omega) b)
def Z1x (s:List UInt8):Int:=numF (s.drop (s.length-6+2))
def Ztc (s:List UInt8):Int:=if s.getD (s.length-6+1) 0=45 then 0-(Z1x s/100*60+Z1x s%100) else Z1x s/100*60+Z1x s%100
def Zk6 (s:List UInt8):Nat:=scn s 60 s.length 0
def Zpc (s:List UInt8):Nat:=scn s 62 (s.length-Zk6 s) (Zk6 s)
def docI (s:List UInt8):Idt:=⟨s.take (Zk6 s-1),sub s (Zk6 s+1) (Zpc s-(Zk6 s+1)),numF (sub s (Zpc s+2) (s.length-6-(Zpc s+2))),Ztc s⟩
def docOK (s:List UInt8):Bool:=decide (6≤s.length∧1≤Zk6 s∧Zpc s+2+6≤s.length∧0≤Z1x s)&&(F8 (docI s)&&decide (I5 (docI s)=s))
end Cod
namespace Cod
open Go
theorem Z1y:∀ (k u:Nat),u<10^(k+1)→Lib.nDigits u≤k+1:=by
  intro k
  induction k with
  | zero=>intro u h;rw [Lib.nDigits_small (by simpa using h)];exact Ym7 _
  | succ k ih =>
    intro u h
    by_cases h1:u<10
    · rw [Lib.nDigits_small h1];omega
    · rw [Lib.nDigits_big h1]
      have:=ih (u/10) (by rw [Nat.pow_succ] at h;omega)
      omega
theorem Z1z {t:Int} (h0:0≤t) (h1:t≤1099511627776):(Lib.itoa t).length≤13:=by
  obtain ⟨u,rfl⟩:∃ u:Nat,t=u:=⟨t.toNat,by omega⟩
  rw [Lib.itoa_nonneg,Lib.decDigits_length]
  have hp:(10:Nat)^(12+1)=10000000000000:=by decide
  exact Z1y 12 u (by omega)
theorem Znc {a b:List UInt8} {j:Nat} (h:j<a.length):(a++b).getD j 0=a.getD j 0:=by
  rw [List.getD_eq_getElem?_getD,List.getElem?_append_left h,←List.getD_eq_getElem?_getD]
theorem Zhp {a b:List UInt8} {j k:Nat} (h:j=a.length+k):(a++b).getD j 0=b.getD k 0:=by
  rw [List.getD_eq_getElem?_getD,List.getElem?_append_right (by omega),show j-a.length=k by omega,←List.getD_eq_getElem?_getD]
theorem Z32 {a:List UInt8} {c:UInt8} {j:Nat} (h:c∉a) (hj:j<a.length):a.getD j 0≠c:=by
  intro e
  apply h
  rw [List.getD_eq_getElem?_getD,List.getElem?_eq_getElem hj] at e
  rw [←e]
  exact Yp1 _
section
variable (i:Idt)
def pA:List UInt8:=i.name++[32]
def pB:List UInt8:=pA i++60::i.email
def pC:List UInt8:=pB i++[62,32]
def pD:List UInt8:=pC i++Lib.itoa i.time
theorem pA_len:(pA i).length=i.name.length+1:=by simp [pA]
theorem Yf7:(pB i).length=i.name.length+2+i.email.length:=by simp [pB,pA];omega
theorem Yf8:(pC i).length=i.name.length+4+i.email.length:=by simp [pC,Yf7];omega
theorem Yf9:(pD i).length=i.name.length+4+i.email.length+(Lib.itoa i.time).length:=by simp [pD,Yf8]
theorem Yga:I5 i=pA i++60::(i.email++[62,32]++Lib.itoa i.time++[32]++Zbd i.zone):=by simp [I5,pA]
theorem put_b:I5 i=pB i++62::([32]++Lib.itoa i.time++[32]++Zbd i.zone):=by simp [I5,pB,pA]
theorem put_c:I5 i=pC i++(Lib.itoa i.time++([32]++Zbd i.zone)):=by simp [I5,pC,pB,pA]
theorem Ygb:I5 i=pD i++32::Zbd i.zone:=by simp [I5,pD,pC,pB,pA]
theorem put_e:I5 i=(pD i++[32])++Zbd i.zone:=by simp [Ygb]
theorem put_f:I5 i=(pD i++[32,(if i.zone<0 then 45 else 43)])++(two (T9 i.zone/60)++two (T9 i.zone%60)):=by simp [Ygb,Zf9]
theorem Ylx:(I5 i).length=i.name.length+4+i.email.length+(Lib.itoa i.time).length+6:=by rw [Ygb,Yny,Yf9,Ynn,Zna]
end
theorem Z33 {i:Idt} (h:F8 i=true):docI (I5 i)=i∧docOK (I5 i)=true:=by
  obtain ⟨p0,p1,t0,t1,z0,z1⟩:=(U2 i).1 h
  obtain ⟨a0,a1⟩:=Ze7 z0 z1
  obtain ⟨_,_,n60,n62⟩:=Zeg p0
  obtain ⟨_,_,e60,e62⟩:=Zeg p1
  obtain ⟨d0,d1,d2⟩:=Zi8 t0
  have hl:=Ylx i
  have h13:=Z1z t0 t1
  have hA:=pA_len i
  have hB:=Yf7 i
  have hC:=Yf8 i
  have hD:=Yf9 i
  have hat:Zk6 (I5 i)=i.name.length+1:=by
    unfold Zk6
    apply Yf6
    · rw [Yga,Zhp (k:=0) (by omega)];rfl
    · omega
    · omega
    · intro j _ hj
      rw [Yga,Znc (by omega)]
      exact Z32 (by simp [pA,n60]) (by omega)
  have hto:Zpc (I5 i)=i.name.length+2+i.email.length:=by
    unfold Zpc
    rw [hat]
    apply Yf6
    · rw [put_b,Zhp (k:=0) (by omega)];rfl
    · omega
    · omega
    · intro j _ hj
      rw [put_b,Znc (by omega)]
      exact Z32 (by simp [pB,pA,n62,e62]) (by omega)
  obtain ⟨q0,q1⟩:=Z31 (a:=T9 i.zone/60) (b:=T9 i.zone%60) (by omega) (by omega) (by omega) (by omega)
  have hz:Z1x (I5 i)=T9 i.zone/60*100+T9 i.zone%60:=by
    unfold Z1x
    rw [hl,put_f,Ypx (by rw [Yny,hD,Ynn,Ynn,Yok];omega)]
    rw [Zw6 (by simp [two]) (by simp [two]) q0,q1]
  have hzone:Ztc (I5 i)=i.zone:=by
    unfold Ztc
    rw [hz,show (T9 i.zone/60*100+T9 i.zone%60)/100*60+(T9 i.zone/60*100+T9 i.zone%60)%100=T9 i.zone by omega]
    have hb:(I5 i).getD ((I5 i).length-6+1) 0=if i.zone<0 then 45 else 43:=by
      rw [put_e,Zhp (k:=0) (by rw [←put_e,hl,Yny,hD,Ynn,Yok];omega)];rfl
    rw [hb]
    unfold T9
    by_cases hn:i.zone<0
    · rw [if_pos hn,if_pos hn,if_pos rfl];omega
    · rw [if_neg hn,if_neg hn,if_neg (by decide)]
  have hI:docI (I5 i)=i:=by
    unfold docI
    rw [hat,hto,hzone]
    have e1:(I5 i).take (i.name.length+1-1)=i.name:=by
      rw [Yga,pA,Nat.add_sub_cancel,Ynz];exact Ypy rfl
    have e2:sub (I5 i) (i.name.length+1+1) (i.name.length+2+i.email.length-(i.name.length+1+1))=i.email:=by
      unfold sub
      rw [show i.name.length+2+i.email.length-(i.name.length+1+1)=i.email.length by omega]
      rw [show I5 i=(pA i++[60])++(i.email++([62,32]++Lib.itoa i.time++[32]++Zbd i.zone)) by simp [I5,pA],Ypx (by rw [Yny,hA];rfl),Ypy rfl]
    have e3:sub (I5 i) (i.name.length+2+i.email.length+2) ((I5 i).length-6-(i.name.length+2+i.email.length+2))=Lib.itoa i.time:=by
      unfold sub
      rw [hl,put_c,Ypx (by omega),Ypy (by omega)]
    rw [e1,e2,e3,Zw6 d2 h13 d0,d1]
  refine ⟨hI,?_⟩
  unfold docOK
  rw [hI,h,hat,hto,hz,hl]
  simp only [Ypj,Ynm,decide_eq_true_eq,and_true]
  omega
theorem Zw9 (s:List UInt8):(∃ i,F8 i=true∧I5 i=s)∨∀ i,F8 i=true→I5 i≠s:=by
  by_cases h:∃ i,F8 i=true∧I5 i=s
  · exact .inl h
  · exact .inr fun i hi he=>h ⟨i,hi,he⟩
end Cod
namespace Cod
open Go
def Zhq (n:Nat):UInt8:=[(48:UInt8),49,50,51,52,53,54,55,56,57,97,98,99,100,101,102].getD n 0
def hexB (b:UInt8):List UInt8:=[Zhq (b.toNat/16),Zhq (b.toNat%16)]
def U0 (id:List UInt8):List UInt8:=id.flatMap hexB
theorem Zke (b:UInt8) (id:List UInt8):U0 (b::id)=Zhq (b.toNat/16)::Zhq (b.toNat%16)::U0 id:=rfl
theorem Zbf (id:List UInt8):(U0 id).length=2*id.length:=by
  induction id with
  | nil=>rfl
  | cons x r ih=>rw [Zke,Ynn,Ynn,ih,Ynn];omega
theorem Z10:∀ n:Nat,n<16→(48≤(Zhq n).toNat∧(Zhq n).toNat≤57∨97≤(Zhq n).toNat∧(Zhq n).toNat≤102):=by decide
theorem Ygc {id:List UInt8} {c:UInt8} (h:c∈U0 id):∃ n,n<16∧c=Zhq n:=by
  induction id with
  | nil=>simp [U0] at h
  | cons x r ih =>
    rw [Zke,Yog,Yog] at h
    have:=x.toNat_lt
    rcases h with h|h|h
    · exact ⟨_,by omega,h⟩
    · exact ⟨_,by omega,h⟩
    · exact ih h
theorem Zpd (id:List UInt8):(10:UInt8)∉U0 id:=by
  intro h
  obtain ⟨n,h1,h2⟩:=Ygc h
  have:=Z10 n h1
  rw [←h2] at this
  simp at this
theorem Ygd {id:List UInt8}:∀ {i:Nat},i<id.length→(U0 id).getD (2*i) 0=Zhq ((id.getD i 0).toNat/16)∧(U0 id).getD (2*i+1) 0=Zhq ((id.getD i 0).toNat%16):=by
  induction id with
  | nil=>intro i h;simp at h
  | cons x r ih =>
    intro i h
    rw [Zke]
    cases i with
    | zero=>exact ⟨rfl,rfl⟩
    | succ i =>
      have:=ih (i:=i) (by rw [Ynn] at h;omega)
      rw [show 2*(i+1)=2*i+1+1 by omega]
      simp only [List.getD_cons_succ]
      exact this
theorem Z8t {id:List UInt8} {k:Nat} (h:k<id.length):id.take (k+1)=id.take k++[id.getD k 0]:=by
  rw [List.take_succ_eq_append_getElem h];simp [List.getD,h]
theorem Yly {c:UInt8} {H T:List UInt8} (h:c∉H):(H++c::T).idxOf c=H.length:=by
  rw [List.idxOf_append,if_neg h,List.idxOf_cons_self,Nat.zero_add]
theorem Ylz {w v r:List UInt8} (hw:(10:UInt8)∉w) (hv:(10:UInt8)∉v):(w++32::(v++10::r)).idxOf 10=w.length+1+v.length:=by
  have:w++32::(v++10::r)=(w++32::v)++10::r:=by simp
  rw [this,Yly (by simp [hw,hv])]
  simp;omega
theorem Zkf:∀ {a b:List UInt8},A0 a=A0 b→a=b:=by
  intro a
  induction a with
  | nil=>intro b h;cases b with
    | nil=>rfl
    | cons=>simp [A0] at h
  | cons x a ih =>
    intro b h
    cases b with
    | nil=>simp [A0] at h
    | cons y b =>
      simp only [A0,List.map_cons,List.cons.injEq,AV.int.injEq,true_and] at h
      have h1:x=y:=UInt8.toNat_inj.1 (by have:=h.1;omega)
      rw [h1,ih (by simpa [A0] using h.2)]
theorem Zjc:∀ {xs ys:List AV},I7 (xs++ys)=(I7 xs&&I7 ys):=by
  intro xs
  induction xs with
  | nil=>intro ys;simp [I7]
  | cons x xs ih=>intro ys;rw [Yna,I7,I7,ih,Bool.and_assoc]
theorem Zjd:∀ {xs ys:List AV},leadss (xs++ys)=(leadss xs||leadss ys):=by
  intro xs
  induction xs with
  | nil=>intro ys;simp [leadss]
  | cons x xs ih=>intro ys;rw [Yna,leadss,leadss,ih,Bool.or_assoc]
theorem Zje:∀ {xs ys:List AV},refsOfs (xs++ys)=refsOfs xs++refsOfs ys:=by
  intro xs
  induction xs with
  | nil=>intro ys;simp [refsOfs]
  | cons x xs ih=>intro ys;rw [Yna,refsOfs,refsOfs,ih,Ynz]
theorem Y8 {xs ys v:List AV} {i j:Nat} (h:i=xs.length+j):over (xs++ys) i v=xs++over ys j v:=by
  subst h
  induction xs with
  | nil=>simp
  | cons x xs ih =>
    rw [Yna,Ynn,show xs.length+1+j=xs.length+j+1 by omega,Zmu,ih]
    rfl
theorem Zpe {xs ys:List AV} {i j:Nat} (h:i=xs.length+j):(xs++ys)[i]? = ys[j]? := by
  subst h
  rw [List.getElem?_append_right (by omega),Yp2]
theorem Zpf {xs ys:List AV} {i j n:Nat} (h:i=xs.length+j):sub (xs++ys) i n=sub ys j n:=by
  subst h
  unfold sub
  rw [←List.drop_drop,List.drop_left]
theorem Yge {xs ys:List AV} {n:Nat} (h:n=xs.length):sub (xs++ys) 0 n=xs:=by
  subst h
  unfold sub
  rw [Yoq,List.take_left]
end Cod
namespace Cod
open Go
set_option maxRecDepth 100000
theorem Ztd:S E0 F.A7 [.str [0,10],.int .i32 65533] []=some (.int .i64 (-1),[]):=Zby.2 ⟨300,by kernel_rfl⟩
theorem Zjf {r:Int} (h0:0≤r) (h1:r<128):S E0 F.A7 [.str [0,10],.int .i32 r] []=some (.int .i64 (G6 [0,10] (byt r)),[]):=by
  rw [Zab Z3 rfl rfl]
  have h2:IntKind.u8.wrap r=r:=by rw [Zew];omega
  simp -dsimp (disch:=first|omega|(simp only [A4]<;>omega)|fail) only [L.A7,go_sem,reduceIte,reduceCtorEq,B9,C0,C1,C2,C3,C4,C5,C6,C7,C8,C9,D0,D1,D2,D3,D4,D5,D6,D7,A3,J1 h0,J1 h1,h2,Z6]
theorem Zte {r:Int} (h0:128≤r) (h1:r≤1114111):S E0 F.A7 [.str [0,10],.int .i32 r] []=some (.int .i64 (-1),[]):=by
  by_cases he:r=65533
  · subst he;exact Ztd
  · have h2:¬ r<128:=by omega
    have h3:(0:Int)≤r:=by omega
    rw [Zab Z3 rfl rfl]
    have hvv:S E0 F.J0 [.int .i32 r] []=some (.bool (decide (r<55296)||decide (57343<r)),[]):=by rw [Zm3 h0,J1 h1,Yn6]
    cases hv:(decide (r<55296)||decide (57343<r)) with
    | false=>simp -dsimp (disch:=first|omega|(simp only [A4]<;>omega)|fail) only [L.A7,go_sem,reduceIte,reduceCtorEq,B9,C0,C1,C2,C3,C4,C5,C6,C7,C8,C9,D0,D1,D2,D3,D4,D5,D6,D7,A3,J1 h3,X2 h2,Zd9 he,hvv,hv]
    | true =>
      obtain ⟨e1,e2,e3⟩:=Zwt h0 h1
      simp -dsimp (disch:=first|omega|(simp only [A4]<;>omega)|fail) only [L.A7,go_sem,reduceIte,reduceCtorEq,B9,C0,C1,C2,C3,C4,C5,C6,C7,C8,C9,D0,D1,D2,D3,D4,D5,D6,D7,A3,J1 h3,X2 h2,Zd9 he,hvv,hv]
      rw [K4 L.A7.x1.eq_1]
      by_cases e4:(X4 r).length=2
      · have e5:=e3 e4
        have b1:bat [0,10] 1=10:=rfl
        have b2:((((10:UInt8).toNat:Nat):Int) != bat (X4 r) 1)=true:=Zot (by show (10:Int)≠_;omega)
        have b3:(((2:Nat):Int)-1).toNat=1:=rfl
        have b4:G6 ([0,10].drop (((2:Nat):Int)-1+1).toNat) (byt (bat (X4 r) 1)) = -1:=rfl
        have b5:G6 [] (byt (bat (X4 r) 1)) = -1:=rfl
        simp -dsimp (disch:=first|omega|(simp only [A4]<;>omega)|fail) only [go_sem,reduceIte,reduceCtorEq,B9,C0,C1,C2,C3,C4,C5,C6,C7,C8,C9,D0,D1,D2,D3,D4,D5,D6,D7,A3,L.A7.r2,e4,b1,b2,b3,Z6,B7,B6,B5,b4,b5,List.drop_nil]
      · simp -dsimp (disch:=first|omega|(simp only [A4]<;>omega)|fail) only [go_sem,reduceIte,reduceCtorEq,B9,C0,C1,C2,C3,C4,C5,C6,C7,C8,C9,D0,D1,D2,D3,D4,D5,D6,D7,A3,L.A7.r2]
def Zca (b:UInt8):Bool:=b==0||b==10
theorem Ygf:∀ n:Nat,n<256→decide (0≤G6 [0,10] (UInt8.ofNat n))=Zca (UInt8.ofNat n):=by decide +kernel
theorem Ygg (b:UInt8):(0≤G6 [0,10] b)↔Zca b=true:=by
  have:=Ygf b.toNat b.toNat_lt
  rw [UInt8.ofNat_toNat] at this
  rw [←this,decide_eq_true_eq]
theorem Yl0:∀ n:Nat,n<256→128≤n→Zca (UInt8.ofNat n)=false:=by decide +kernel
theorem Z8u {s:List UInt8} (hs:s.length≤1000000):∀ (m p:Nat),p+m≤s.length→s.length≤p+m→∃ i:Int,((0≤i)↔(s.drop p).any Zca=true) ∧
    X E0 [.tmp 4] (.c L.A5.x1::.lp [1,45] L.A5.x1::.blk 2::.c L.A5.r2::[]) ⟨[(1,.str [0,10]),(45,.it (.s 1000000 0) 0)],[(.s 1000000 0,⟨0,true,true,true,[.itr s p]⟩)]⟩=some (.int .i64 i,[]):=by
  intro m
  induction m using Nat.strongRecOn with
  | _ m ih =>
    intro p h1 h2
    rw [K4 L.A5.x1.eq_1]
    by_cases hp:p<s.length
    · have hd:s.drop p=s.getD p 0::s.drop (p+1):=by
        rw [Ypa hp];simp [hp]
      rcases Zj7 hp with ⟨e1,e2,e3⟩|⟨e1,e2,e3,e4,e5⟩
      · cases hbad:Zca (s.getD p 0) with
        | true =>
          have h3:=(Ygg (byt (bat s p))).2 (by rw [Z7];exact hbad)
          refine ⟨p,⟨fun _=>by rw [hd,Ypm,hbad];rfl,fun _=>by omega⟩,?_⟩
          simp -dsimp (disch:=first|omega|(simp only [A4]<;>omega)|fail) only [go_sem,reduceIte,reduceCtorEq,B9,C0,C1,C2,C3,C4,C5,C6,C7,C8,C9,D0,D1,D2,D3,D4,D5,D6,D7,A3,hp,e2,e3,Zjf (T8 s p).1 e1,J1 h3]
        | false =>
          have h3:¬ 0≤G6 [0,10] (byt (bat s p)):=fun h=>by rw [Ygg,Z7,hbad] at h;cases h
          obtain ⟨i,h4,h5⟩:=ih (m-1) (by omega) (p+1) (by omega) (by omega)
          refine ⟨i,by rw [h4,hd,Ypm,hbad,Ypk],?_⟩
          rw [←h5]
          simp -dsimp (disch:=first|omega|(simp only [A4]<;>omega)|fail) only [go_sem,reduceIte,reduceCtorEq,B9,C0,C1,C2,C3,C4,C5,C6,C7,C8,C9,D0,D1,D2,D3,D4,D5,D6,D7,A3,hp,e2,e3,Zjf (T8 s p).1 e1,X2 h3]
      · have hw:p+(X3 s p).2≤s.length:=by
          have:=(e5 (p+(X3 s p).2-1) (by omega) (by omega)).1
          omega
        obtain ⟨i,h4,h5⟩:=ih (m-(X3 s p).2) (by omega) (p+(X3 s p).2) (by omega) (by omega)
        refine ⟨i,?_,?_⟩
        · rw [h4]
          have:∀ w,p+w≤s.length→(∀ j,p≤j→j<p+w→j<s.length∧128≤bat s j)→(s.drop p).any Zca=(s.drop (p+w)).any Zca:=by
            intro w
            induction w with
            | zero=>intro _ _;rfl
            | succ w ihw =>
              intro hw1 hw2
              rw [ihw (by omega) (fun j j1 j2=>hw2 j j1 (by omega)),Ypa (by omega:p+w<s.length),Ypm]
              have hh:=(hw2 (p+w) (by omega) (by omega)).2
              have:Zca s[p+w]=false:=by
                unfold bat at hh
                rw [List.getD_eq_getElem?_getD,List.getElem?_eq_getElem (by omega),Option.getD_some] at hh
                have h9:=Yl0 s[p+w].toNat (UInt8.toNat_lt _) (by omega)
                rwa [UInt8.ofNat_toNat] at h9
              rw [this,Ypk]
              rfl
          rw [this _ hw e5]
        · rw [←h5]
          have h6:=Zte (r:=((X3 s p).1:Int)) (by omega) (by omega)
          simp -dsimp (disch:=first|omega|(simp only [A4]<;>omega)|fail) only [go_sem,reduceIte,reduceCtorEq,B9,C0,C1,C2,C3,C4,C5,C6,C7,C8,C9,D0,D1,D2,D3,D4,D5,D6,D7,A3,hp,h6]
    · refine ⟨-1,⟨fun h=>by omega,fun h=>by rw [Yo9 (by omega)] at h;simp at h⟩,?_⟩
      simp -dsimp (disch:=first|omega|(simp only [A4]<;>omega)|fail) only [go_sem,reduceIte,reduceCtorEq,B9,C0,C1,C2,C3,C4,C5,C6,C7,C8,C9,D0,D1,D2,D3,D4,D5,D6,D7,A3,hp,L.A5.r2]
def Zg7:List AV:=(List.range 256).map fun i=>.bool (i==0||i==10)
theorem Yl1:S E0 F.N2 [.str [0,10]] []=some (.tup [.agg Zg7,.bool true],[]):=Zby.2 ⟨300,by kernel_rfl⟩
theorem Ygh:∀ n:Nat,n<256→Zg7[n]? = some (.bool (Zca (UInt8.ofNat n))):=by
  intro n hn
  simp only [Zg7,List.getElem?_map,List.getElem?_range hn,Option.map_some,Zca]
  have:∀ n:Nat,n<256→(n==0||n==10)=(UInt8.ofNat n==0||UInt8.ofNat n==10):=by decide +kernel
  rw [this n hn]
theorem Zal:flats Zg7=true:=by kernel_rfl
theorem Zat:Zg7.length=256:=by simp [Zg7]
theorem Yl2 {b:Int} (h0:0≤b) (h1:b<256):Zg7[b.toNat]? = some (.bool (Zca (byt b))):=Ygh b.toNat (by omega)
theorem Zpg:leadss Zg7=false:=by kernel_rfl
theorem Zph:refsOfs Zg7=[]:=by kernel_rfl
theorem Zpi (f:Site→Nat→Option (Site × Nat)):rens f Zg7=Zg7:=rens_flats Zg7 Zal
theorem Zkg:I7 Zg7=true:=by kernel_rfl
theorem Zjg {x:Site} {b:Int} (h0:0≤b) (h1:b<256):S E0 F.K8 [.ref (.up x) 0 0,.int .u8 b] [(.up x,⟨0,true,true,true,Zg7⟩)]=some (.bool (Zca (byt b)),[(.up x,⟨0,true,true,true,Zg7⟩)]):=by
  rw [Zab Zev rfl rfl]
  simp -dsimp (disch:=first|omega|(simp only [A4]<;>omega)|fail) only [L.K8,go_sem,reduceIte,reduceCtorEq,B9,C0,C1,C2,C3,C4,C5,C6,C7,C8,C9,D0,D1,D2,D3,D4,D5,D6,D7,A3,Zat,Zal,Zpg,Zph,Zpi,Zkg,Yl2 h0 h1]
theorem Z8v {s:List UInt8} (hs:s.length≤1000000):∀ (m p:Nat),p+m=s.length→∃ i:Int,((0≤i)↔(s.drop p).any Zca=true) ∧
    X E0 [.tmp 4] (.c L.A5.x0::.lp [0,6,8] L.A5.x0::.blk 0::.c L.A5.r0::.c L.A5.r1::[]) ⟨[(0,.str s),(6,.ref (.s 1000000 0) 0 0),(8,.int .i64 p)],[(.s 1000000 0,⟨0,true,true,true,Zg7⟩)]⟩=some (.int .i64 i,[]):=by
  intro m
  induction m with
  | zero =>
    intro p h
    refine ⟨-1,⟨fun h=>by omega,fun h=>by rw [Yo9 (by omega)] at h;simp at h⟩,?_⟩
    rw [K4 L.A5.x0.eq_1]
    simp -dsimp (disch:=first|omega|(simp only [A4]<;>omega)|fail) only [go_sem,reduceIte,reduceCtorEq,B9,C0,C1,C2,C3,C4,C5,C6,C7,C8,C9,D0,D1,D2,D3,D4,D5,D6,D7,A3,Zat,Zal,Zpg,Zph,Zpi,Zkg,L.A5.r0]
  | succ m ih =>
    intro p h
    have hp:p<s.length:=by omega
    have hd:s.drop p=s.getD p 0::s.drop (p+1):=by
      rw [Ypa hp];simp [hp]
    obtain ⟨b0,b1⟩:=T8 s p
    cases hbad:Zca (s.getD p 0) with
    | true =>
      have h3:Zca (byt (bat s p))=true:=by rw [Z7];exact hbad
      refine ⟨p,⟨fun _=>by rw [hd,Ypm,hbad];rfl,fun _=>by omega⟩,?_⟩
      rw [K4 L.A5.x0.eq_1]
      simp -dsimp (disch:=first|omega|(simp only [A4]<;>omega)|fail) only [go_sem,reduceIte,reduceCtorEq,B9,C0,C1,C2,C3,C4,C5,C6,C7,C8,C9,D0,D1,D2,D3,D4,D5,D6,D7,A3,Zat,Zal,Zpg,Zph,Zpi,Zkg,Zjg b0 b1,h3]
    | false =>
      have h3:Zca (byt (bat s p))=false:=by rw [Z7];exact hbad
      obtain ⟨i,h4,h5⟩:=ih (p+1) (by omega)
      refine ⟨i,by rw [h4,hd,Ypm,hbad,Ypk],?_⟩
      rw [←h5,K4 L.A5.x0.eq_1]
      simp -dsimp (disch:=first|omega|(simp only [A4]<;>omega)|fail) only [go_sem,reduceIte,reduceCtorEq,B9,C0,C1,C2,C3,C4,C5,C6,C7,C8,C9,D0,D1,D2,D3,D4,D5,D6,D7,A3,Zat,Zal,Zpg,Zph,Zpi,Zkg,Zjg b0 b1,h3]
      rfl
theorem Yl3 {s:List UInt8} (hs:s.length≤1000000):∃ i:Int,((0≤i)↔s.any Zca=true)∧S E0 F.A5 [.str s,.str [0,10]] []=some (.int .i64 i,[]):=by
  rw [Zab Zeu rfl rfl]
  have e0:(([0,10]:List UInt8) == [])=false:=rfl
  by_cases h8:8<s.length
  · obtain ⟨i,h1,h2⟩:=Z8v hs s.length 0 (by omega)
    refine ⟨i,by simpa using h1,?_⟩
    rw [←h2]
    have h9:decide (8<(s.length:Int))=true:=by simp;omega
    simp -dsimp (disch:=first|omega|(simp only [A4]<;>omega)|fail) only [L.A5,go_sem,reduceIte,reduceCtorEq,B9,C0,C1,C2,C3,C4,C5,C6,C7,C8,C9,D0,D1,D2,D3,D4,D5,D6,D7,A3,Zat,Zal,Zpg,Zph,Zpi,Zkg,e0,Zj9,h9,Yl1]
    rfl
  · obtain ⟨i,h1,h2⟩:=Z8u hs s.length 0 (by omega) (by omega)
    refine ⟨i,by simpa using h1,?_⟩
    rw [←h2]
    have h9:decide (8<(s.length:Int))=false:=by simp;omega
    simp -dsimp (disch:=first|omega|(simp only [A4]<;>omega)|fail) only [L.A5,go_sem,reduceIte,reduceCtorEq,B9,C0,C1,C2,C3,C4,C5,C6,C7,C8,C9,D0,D1,D2,D3,D4,D5,D6,D7,A3,Zat,Zal,Zpg,Zph,Zpi,Zkg,e0,Zj9,h9,L.A5.r1]
theorem Ztf {s:List UInt8} (hs:s.length≤1000000):S E0 F.H9 [.str s,.str [0,10]] []=some (.bool (s.any Zca),[]):=by
  rw [Zab Zes rfl rfl]
  obtain ⟨i,h1,h2⟩:=Yl3 hs
  have h3:decide (0≤i)=s.any Zca:=by
    cases h:s.any Zca with
    | true=>simp [h1.2 h]
    | false=>rw [decide_eq_false_iff_not,h1,h];simp
  simp -dsimp (disch:=first|omega|(simp only [A4]<;>omega)|fail) only [L.H9,go_sem,reduceIte,reduceCtorEq,B9,C0,C1,C2,C3,C4,C5,C6,C7,C8,C9,D0,D1,D2,D3,D4,D5,D6,D7,A3,h2,h3]
end Cod
namespace Cod
open Go
structure Lbl where
  tgt:List UInt8
  kind:Int
  name:List UInt8
  who:Idt
  msg:List UInt8
  htgt:tgt.length=32
def Lbl.cells (l:Lbl):List AV:=A0 l.tgt++[.int .i64 l.kind,.str l.name,.str l.who.name,.str l.who.email,.int .i64 l.who.time,.int .i64 l.who.zone,.str l.msg]
theorem Zgx (l:Lbl):(A0 l.tgt).length=32:=by rw [D8,l.htgt]
theorem Zlr (l:Lbl):l.cells.length=39:=by unfold Lbl.cells;rw [Yny,Zgx];rfl
theorem Zpj (l:Lbl):flats l.cells=true:=by unfold Lbl.cells;rw [Zce,V0];rfl
theorem Ygi (f:Site→Nat→Option (Site × Nat)) (l:Lbl):rens f l.cells=l.cells:=rens_flats _ (Zpj l)
theorem Ygj (l:Lbl):refsOfs l.cells=[]:=by unfold Lbl.cells;rw [Zje,V3];rfl
theorem Z8w (l:Lbl):I7 l.cells=true:=by unfold Lbl.cells;rw [Zjc,V1];rfl
theorem Z8x (l:Lbl):leadss l.cells=false:=by unfold Lbl.cells;rw [Zjd,V2];rfl
theorem Yl4 (l:Lbl):sub l.cells 0 39=l.cells:=Zde (by rw [Zlr];exact Ym7 _)
theorem Ztg (l:Lbl) (i:Nat):l.cells[32+i]? = [AV.int .i64 l.kind,.str l.name,.str l.who.name,.str l.who.email,.int .i64 l.who.time,.int .i64 l.who.zone,.str l.msg][i]? := by
  unfold Lbl.cells
  rw [List.getElem?_append_right (by rw [Zgx];omega),Zgx,Yp2]
theorem lbl_32 (l:Lbl):l.cells[32]? = some (.int .i64 l.kind):=Ztg l 0
theorem lbl_33 (l:Lbl):l.cells[33]? = some (.str l.name):=Ztg l 1
theorem lbl_38 (l:Lbl):l.cells[38]? = some (.str l.msg):=Ztg l 6
theorem Yl5 (l:Lbl):sub l.cells 0 32=A0 l.tgt:=by
  unfold sub Lbl.cells
  rw [Yoq]
  exact Ypy (Zgx l)
theorem Yl6 (l:Lbl):sub l.cells 34 4=l.who.cells:=by
  unfold sub Lbl.cells
  rw [List.drop_append,Zgx,Yo9 (by rw [Zgx];omega)]
  rfl
attribute [go_sem] Zlr Zpj Ygi Ygj Z8w Z8x Yl4 lbl_32 lbl_33 lbl_38 Yl5 Yl6
def objW:List UInt8:=[111,98,106,101,99,116]
def typW:List UInt8:=[116,121,112,101]
def tagW:List UInt8:=[116,97,103]
def tgrW:List UInt8:=[116,97,103,103,101,114]
def Zlf (s:List UInt8):Int:=Zcz [if decide (65536<(s.length:Int))=true then 2 else 0,if s.contains 0=true then 4 else 0]
def Zgb (s:List UInt8):Bool:=s == []||(decide (100<(s.length:Int))||s.any Zca)
def Zd0 (l:Lbl):Int:=Zcz [Zb6 l.kind,Zlf l.msg,if Zgb l.name=true then 3 else 0,if F8 l.who=true then 0 else 3]
def Zg8 (l:Lbl):List UInt8:=objW++[32]++U0 l.tgt++[10]++typW++[32]++V9 l.kind++[10]++tagW++[32]++l.name++[10]++tgrW++[32]++I5 l.who++[10,10]++l.msg
def Z34 (p:List UInt8) (l:Lbl):Prop:=Zd0 l=0∧Zg8 l=p
theorem Ygk (l:Lbl):Zg8 l=objW++32::(U0 l.tgt++10::(typW++32::(V9 l.kind++10::(tagW++32::(l.name++10::(tgrW++32::(I5 l.who++10::(10::l.msg)))))))):=by
  unfold Zg8
  simp only [Ynz,Yna,Yoz]
theorem Z11:∀ (l:List Int) (w:Int),l.foldl Zlc w=0→w=0∧∀ e∈l,e=0:=by
  intro l
  induction l with
  | nil=>intro w h;exact ⟨h,fun e he=>by simp at he⟩
  | cons a l ih =>
    intro w h
    obtain ⟨h1,h2⟩:=ih _ h
    unfold Zlc at h1
    split at h1
    · rename_i hc;exact absurd h1 hc.1
    · rename_i hc
      subst h1
      have ha:a=0:=by
        apply Classical.byContradiction
        intro hn
        exact hc ⟨hn,.inl rfl⟩
      refine ⟨rfl,fun e he=>?_⟩
      rcases List.mem_cons.1 he with rfl|he
      · exact ha
      · exact h2 e he
theorem Zgy {l:List Int} (h:Zcz l=0):∀ e∈l,e=0:=(Z11 l 0 h).2
theorem Ygl (s:List UInt8):s.any Zca=(s.contains 0||s.contains 10):=by
  rw [Yp3]
  simp only [List.any_eq_true,Zca,Bool.or_eq_true,beq_iff_eq,Yp4]
  constructor
  · rintro ⟨b,hb,h|h⟩<;>subst h<;>simp [hb]
  · rintro (h|h)
    · exact ⟨_,h,.inl rfl⟩
    · exact ⟨_,h,.inr rfl⟩
theorem Z8y {z:Int} (h0 : -1439≤z) (h1:z≤1439):(10:UInt8)∉Zbd z:=by
  obtain ⟨a0,a1⟩:=Ze7 h0 h1
  rw [Zf9]
  have:=Zs6 (Z31 (a:=T9 z/60) (b:=T9 z%60) (by omega) (by omega) (by omega) (by omega)).1 (x:=10) (by unfold Zbe;decide)
  simp only [Yog,not_or]
  refine ⟨?_,this⟩
  split<;>decide
theorem Zxa {i:Idt} (h:F8 i=true):(10:UInt8)∉I5 i:=by
  obtain ⟨p0,p1,t0,t1,z0,z1⟩:=(U2 i).1 h
  obtain ⟨d0,_,_⟩:=Zi8 t0
  have m1:=Zs6 d0 (x:=10) (by unfold Zbe;decide)
  have m2:=Z8y z0 z1
  have n0:=(Zeg p0).2.1
  have n1:=(Zeg p1).2.1
  unfold I5
  simp only [List.mem_append,Yog,not_or,List.not_mem_nil,not_false_eq_true,and_true]
  exact ⟨⟨⟨⟨⟨⟨n0,by decide⟩,n1⟩,by decide⟩,m1⟩,by decide⟩,m2⟩
theorem Z8z (k:Int):(10:UInt8)∉V9 k:=by
  unfold V9;split<;>(try split)<;>(try split)<;>(try split)<;>decide
theorem Zls {l:Lbl} (h:Zd0 l=0):V9 l.kind≠[]∧l.msg.length≤65536∧(10:UInt8)∉l.name∧l.name.length≤100∧l.name≠[]∧F8 l.who=true:=by
  have h0:=Zgy h
  have h1:=h0 _ (by simp:Zb6 l.kind∈_)
  have h2:=h0 _ (by simp:Zlf l.msg∈_)
  have h3:=h0 (if Zgb l.name=true then 3 else 0) (by simp)
  have h4:=h0 (if F8 l.who=true then 0 else 3) (by simp)
  refine ⟨?_,?_,?_⟩
  · intro hc
    unfold Zb6 at h1
    rw [hc] at h1
    simp at h1
  · have h5:=Zgy h2 (if decide (65536<(l.msg.length:Int))=true then 2 else 0) (by simp)
    by_cases hm:65536<(l.msg.length:Int)
    · rw [if_pos (by simpa using hm)] at h5;omega
    · omega
  · have h6:Zgb l.name=false:=by
      cases hb:Zgb l.name with
      | false=>rfl
      | true=>rw [hb] at h3;simp at h3
    have h7:F8 l.who=true:=by
      cases hb:F8 l.who with
      | true=>rfl
      | false=>rw [hb] at h4;simp at h4
    unfold Zgb at h6
    rw [Ygl] at h6
    simp only [Bool.or_eq_false_iff,decide_eq_false_iff_not,beq_eq_false_iff_ne,Yom] at h6
    refine ⟨h6.2.2.2,by omega,h6.1,h7⟩
theorem Yl7 {k:Int} (h:V9 k≠[]):k=1∨k=2∨k=3∨k=4:=by
  apply Classical.byContradiction
  intro hn
  apply h
  unfold V9
  rw [if_neg (by omega),if_neg (by omega),if_neg (by omega),if_neg (by omega)]
theorem Zxb {l:Lbl} (h:Zd0 l=0):(Zg8 l).length≤70000:=by
  obtain ⟨_,h2,_,h4,_,h6⟩:=Zls h
  have:=Zb8 h6
  have:=Zgw l.kind
  have e:=Zbf l.tgt
  rw [l.htgt] at e
  unfold Zg8 objW typW tagW tgrW
  simp only [Yny,Ynn,Yok,e]
  omega
end Cod
namespace Cod
open Go
structure Id32 where
  b:List UInt8
  h:b.length=32
instance:Inhabited Id32:=⟨⟨List.replicate 32 0,by simp⟩⟩
def Id32.cells (d:Id32):List AV:=A0 d.b
theorem Zlt (d:Id32):d.cells.length=32:=by simp [Id32.cells,D8,d.h]
theorem Z80 (d:Id32):flats d.cells=true:=V0 _
theorem Z81 (d:Id32):I7 d.cells=true:=V1 _
theorem Z82 (d:Id32):leadss d.cells=false:=V2 _
theorem Ygm (d:Id32):refsOfs d.cells=[]:=V3 _
theorem Ygn (f:Site→Nat→Option (Site × Nat)) (d:Id32):rens f d.cells=d.cells:=Zex f _
def ids (l:List Id32):List AV:=l.flatMap Id32.cells
def iat (l:List Id32) (i:Nat):Id32:=l.getD i default
theorem D9 (l:List Id32):(ids l).length=32*l.length:=Zf3 Zlt l
theorem Z35:ids []=[]:=rfl
theorem Ygo (a:List Id32) (s:Id32):ids a++A0 s.b=ids (a++[s]):=by simp [ids,Id32.cells]
theorem Z83 (l:List Id32):flats (ids l)=true:=Ze2 Z80 l
theorem Z84 (l:List Id32):I7 (ids l)=true:=Ze3 Z81 l
theorem Z12 (l:List Id32):leadss (ids l)=false:=Zdt Z82 l
theorem Zxc (l:List Id32):refsOfs (ids l)=[]:=Zgu Ygm l
theorem Ygp (f:Site→Nat→Option (Site × Nat)) (l:List Id32):rens f (ids l)=ids l:=Zgv f (Ygn f) l
theorem Z36 {l:List Id32} {i:Nat} (h:i<l.length):sub (ids l) (i*32) 32=A0 (iat l i).b:=Zmy Zlt h
theorem Zxd {l:List Id32}:sub (ids l) 0 (l.length*32)=ids l:=Zde (by rw [D9];omega)
attribute [go_sem] Zxd D9 Z83 Z84 Z12 Zxc Ygp Z36
def mkI (d:List UInt8):Id32:=if h:d.length=32 then ⟨d,h⟩ else default
theorem mkI_b {d:List UInt8} (h:d.length=32):(mkI d).b=d:=by unfold mkI;rw [dif_pos h]
theorem Ygq (d:Id32):mkI d.b=d:=by unfold mkI;rw [dif_pos d.h]
end Cod
namespace Cod
open Go
def Znd:List UInt8:=[97,117,116,104,111,114]
def Zth:List UInt8:=[99,111,109,109,105,116,116,101,114]
def Zxe:List UInt8:=[116,114,101,101]
def parW:List UInt8:=[112,97,114,101,110,116]
structure Snap where
  tree:List UInt8
  par:List Id32
  aut:Idt
  com:Idt
  msg:List UInt8
  ht:tree.length=32
def snR (t:List UInt8) (v:AV) (a c:Idt) (m:List UInt8):List AV:=A0 t++[v,.str a.name,.str a.email,.int .i64 a.time,.int .i64 a.zone,.str c.name,.str c.email,.int .i64 c.time,.int .i64 c.zone,.str m]
def Snap.cells (s:Snap):List AV:=snR s.tree (.lst (ids s.par) s.par.length) s.aut s.com s.msg
section
variable {t m:List UInt8} {v:AV} {a c:Idt}
theorem Zti (h:t.length=32):(snR t v a c m).length=42:=by unfold snR;rw [Yny,D8,h];rfl
theorem sn_32 (h:t.length=32):(snR t v a c m)[32]? = some v:=Zpe (j:=0) (by rw [D8,h])
theorem sn_41 (h:t.length=32):(snR t v a c m)[41]? = some (.str m):=Zpe (j:=9) (by rw [D8,h])
theorem Yl8 (h:t.length=32):sub (snR t v a c m) 0 32=A0 t:=Yge (by rw [D8,h])
theorem sn_aut (h:t.length=32):sub (snR t v a c m) 33 4=a.cells:=by
  unfold snR
  rw [Zpf (j:=1) (by rw [D8,h])];rfl
theorem sn_com (h:t.length=32):sub (snR t v a c m) 37 4=c.cells:=by
  unfold snR
  rw [Zpf (j:=5) (by rw [D8,h])];rfl
theorem sn_sub (h:t.length=32):sub (snR t v a c m) 0 42=snR t v a c m:=Zde (by rw [Zti h];exact Ym7 _)
theorem Ygr:flats (snR t v a c m)=L9 v:=by
  unfold snR;rw [Zce,V0,Ypj,flats,show flats [.str a.name,.str a.email,.int .i64 a.time,.int .i64 a.zone,.str c.name,.str c.email,.int .i64 c.time,.int .i64 c.zone,.str m]=true from rfl,Yn6]
theorem Ygs:I7 (snR t v a c m)=R1 v:=by
  unfold snR;rw [Zjc,V1,Ypj,I7,show I7 [.str a.name,.str a.email,.int .i64 a.time,.int .i64 a.zone,.str c.name,.str c.email,.int .i64 c.time,.int .i64 c.zone,.str m]=true from rfl,Yn6]
theorem Ygt:leadss (snR t v a c m)=Q3 v:=by
  unfold snR;rw [Zjd,V2,Ypk,leadss,show leadss [.str a.name,.str a.email,.int .i64 a.time,.int .i64 a.zone,.str c.name,.str c.email,.int .i64 c.time,.int .i64 c.zone,.str m]=false from rfl,Bool.or_false]
theorem Yl9:refsOfs (snR t v a c m)=X1 v:=by
  unfold snR;rw [Zje,V3,Yoz,refsOfs,show refsOfs [.str a.name,.str a.email,.int .i64 a.time,.int .i64 a.zone,.str c.name,.str c.email,.int .i64 c.time,.int .i64 c.zone,.str m]=[] from rfl,Yp5]
theorem Zxf (f:Site→Nat→Option (Site × Nat)):∀ xs ys:List AV,rens f (xs++ys)=rens f xs++rens f ys:=by
  intro xs
  induction xs with
  | nil=>intro ys;simp [rens]
  | cons x xs ih=>intro ys;rw [Yna,rens,rens,ih];rfl
theorem Yma (f:Site→Nat→Option (Site × Nat)):rens f (snR t v a c m)=snR t (ren f v) a c m:=by
  unfold snR;rw [Zxf,Zex];rfl
theorem sn_o0 (h:t.length=32) {d:List UInt8} (hd:d.length=32):over (snR t v a c m) 0 (A0 d)=snR d v a c m:=by
  unfold snR over
  rw [List.take_zero,Yoz,Nat.zero_add,D8,hd,Ypx (by rw [D8,h])]
theorem sn_o32 (h:t.length=32) {x:AV}:over (snR t v a c m) 32 [x]=snR t x a c m:=by
  unfold snR;rw [Y8 (j:=0) (by rw [D8,h])];rfl
theorem sn_o33 (h:t.length=32) {x:Idt}:over (snR t v a c m) 33 x.cells=snR t v x c m:=by
  unfold snR;rw [Y8 (j:=1) (by rw [D8,h])];rfl
theorem sn_o37 (h:t.length=32) {x:Idt}:over (snR t v a c m) 37 x.cells=snR t v a x m:=by
  unfold snR;rw [Y8 (j:=5) (by rw [D8,h])];rfl
theorem sn_o41 (h:t.length=32) {x:List UInt8}:over (snR t v a c m) 41 [.str x]=snR t v a c x:=by
  unfold snR;rw [Y8 (j:=9) (by rw [D8,h])];rfl
theorem Ymb {t' m':List UInt8} {v':AV} {a' c':Idt} (h:t.length=32) (h':t'.length=32):over (snR t v a c m) 0 (snR t' v' a' c' m')=snR t' v' a' c' m':=by
  unfold over;exact Zgp (by rw [Zti h,Zti h'])
theorem Ymc {α:Type} (x:Acc α):x.bind .ret=x:=by
  induction x with
  | get s k ih =>
    show Acc.get s (fun e=>(k e).bind .ret)=_
    rw [show (fun e=>(k e).bind .ret)=k from funext ih]
  | _=>rfl
theorem Zxg:∀ (l:List UInt8) (r:List AV),views (A0 l++r)=(views r).bindW (fun p=>.ret (A0 l++p.1,p.2)) ⟨⟩:=by
  intro l
  induction l with
  | nil =>
    intro r
    exact (Ymc (views r)).symm
  | cons b l ih =>
    intro r
    rw [Q1,Yna,Zhj,ih,Zoq,Zop,Zfu]
    rfl
theorem Z85 {α β:Type} {x:Acc α} {f g : α→Acc β} (h:f=g) {w:Wit f} {w':Wit g}:x.bindW f w=x.bindW g w':=by subst h;rfl
theorem Ygu:views (snR t v a c m)=(V4 v).bindW (fun p=>.ret (snR t p.1 a c m,p.2)) ⟨⟩:=by
  unfold snR
  rw [Zxg,Zhj,Zfu]
  refine Z85 (funext fun p=>?_)
  show Acc.ret (A0 t++[p.1,.str a.name,.str a.email,.int .i64 a.time,.int .i64 a.zone,.str c.name,.str c.email,.int .i64 c.time,.int .i64 c.zone,.str m],p.2++([]:List Site))=_
  rw [Yp5]
end
attribute [go_sem] Zti sn_32 sn_41 Yl8 sn_aut sn_com sn_sub Ygr Ygs Ygt Yl9 Yma sn_o0 sn_o32 sn_o33 sn_o37 sn_o41 Ymb Ygu
def Zeh:List UInt8:=List.replicate 32 0
theorem Zau:Zeh.length=32:=by simp [Zeh]
def J9:Idt:=⟨[],[],0,0⟩
theorem sn0a:X6 (zer (.int .u8 0) 32) [.nils,.str [],.str [],.int .i64 0,.int .i64 0,.str [],.str [],.int .i64 0,.int .i64 0,.str []]=snR Zeh .nils J9 J9 []:=rfl
theorem sn0b:A0 (List.replicate 32 0)++[.nils,.str [],.str [],.int .i64 0,.int .i64 0,.str [],.str [],.int .i64 0,.int .i64 0,.str []]=snR Zeh .nils J9 J9 []:=rfl
theorem Zgc (s:Snap):s.cells=snR s.tree (.lst (ids s.par) s.par.length) s.aut s.com s.msg:=rfl
attribute [go_sem] sn0a sn0b Zau
def Zfd (l:List Id32):List UInt8:=l.flatMap fun d=>parW++[32]++U0 d.b++[10]
theorem Zjh:Zfd []=[]:=rfl
theorem Zgz (d:Id32) (l:List Id32):Zfd (d::l)=parW++32::(U0 d.b++10::Zfd l):=by simp [Zfd]
theorem Z86 (l:List Id32) (d:Id32):Zfd (l++[d])=Zfd l++(parW++[32]++U0 d.b++[10]):=by simp [Zfd]
theorem Zne (l:List Id32):(Zfd l).length=72*l.length:=by
  induction l with
  | nil=>rfl
  | cons d l ih=>rw [Zgz,Yny,Ynn,Yny,Ynn,ih,Zbf,d.h,Ynn];show 6+_=_;omega
def Zfe (s:Snap):Int:=Zcz [if decide (16<(s.par.length:Int))=true then 2 else 0,Zlf s.msg,if F8 s.aut=true then 0 else 3,if F8 s.com=true then 0 else 3]
def Zbr (s:Snap):List UInt8:=Zxe++[32]++U0 s.tree++[10]++Zfd s.par++(Znd++[32]++I5 s.aut++[10]++Zth++[32]++I5 s.com++[10,10]++s.msg)
def Z37 (p:List UInt8) (s:Snap):Prop:=Zfe s=0∧Zbr s=p
theorem Ygv (s:Snap):Zbr s=Zxe++32::(U0 s.tree++10::(Zfd s.par++(Znd++32::(I5 s.aut++10::(Zth++32::(I5 s.com++10::(10::s.msg))))))):=by
  unfold Zbr
  simp only [Ynz,Yna,Yoz]
theorem Ygw {m:List UInt8} (h:Zlf m=0):m.length≤65536:=by
  have h5:=Zgy h (if decide (65536<(m.length:Int))=true then 2 else 0) (by simp)
  by_cases hm:65536<(m.length:Int)
  · rw [if_pos (by simpa using hm)] at h5;omega
  · omega
theorem Znf {i:Idt} (h:(if F8 i=true then (0:Int) else 3)=0):F8 i=true:=by
  cases hb:F8 i with
  | true=>rfl
  | false=>rw [hb] at h;simp at h
theorem Zg0 {s:Snap} (h:Zfe s=0):s.par.length≤16∧s.msg.length≤65536∧F8 s.aut=true∧F8 s.com=true:=by
  have h0:=Zgy h
  have h1:=h0 (if decide (16<(s.par.length:Int))=true then 2 else 0) (by simp)
  have h2:=h0 _ (by simp:Zlf s.msg∈_)
  have h3:=h0 (if F8 s.aut=true then 0 else 3) (by simp)
  have h4:=h0 (if F8 s.com=true then 0 else 3) (by simp)
  refine ⟨?_,Ygw h2,Znf h3,Znf h4⟩
  by_cases hm:16<(s.par.length:Int)
  · rw [if_pos (by simpa using hm)] at h1;omega
  · omega
theorem Zxh {s:Snap} (h:Zfe s=0):(Zbr s).length≤80000:=by
  obtain ⟨h1,h2,h3,h4⟩:=Zg0 h
  have a:=Zb8 h3
  have b:=Zb8 h4
  have c:=Zne s.par
  have e:=Zbf s.tree
  rw [s.ht] at e
  unfold Zbr Zxe Znd Zth
  simp only [Yny,Ynn,Yok,e,c]
  omega
end Cod
namespace Cod
open Go
theorem Ztj (s:List UInt8):Lib.contains s [0]=s.contains 0:=by
  unfold Lib.contains
  rw [Yp3,decide_eq_true_eq,Yp4]
  rcases Lib.index_spec s [0] with ⟨h1,h2⟩|⟨i,h1,h2,h3,_⟩
  · rw [h1]
    refine ⟨fun h=>by omega,fun h=>?_⟩
    obtain ⟨j,hj,he⟩:=List.getElem_of_mem h
    have h4:=h2 j (by omega)
    unfold Lib.occAt at h4
    rw [Ypa hj,he] at h4
    simp [List.isPrefixOf] at h4
  · rw [h1]
    refine ⟨fun _=>?_,fun _=>by omega⟩
    have hr:=Lib.occAt_room h3
    have hi:i<s.length:=by
      rcases hr with hr|hr
      · simp at hr;omega
      · cases hr
    unfold Lib.occAt at h3
    rw [Ypa hi] at h3
    simp [List.isPrefixOf] at h3
    rw [h3]
    exact Yp1 hi
theorem Zng {s:List UInt8} (hs:s.length≤1000000000):S E F.S0 [.str s] []=some (.int .i64 (Zlf s),[]):=by
  have h1:=Z08 (s:=s) (t:=[0]) (by omega)
  rw [Ztj] at h1
  have w1:S E F.E2 [.bool (decide (65536<(s.length:Int))),.int .i64 2] []=some (.int .i64 (if decide (65536<(s.length:Int))=true then 2 else 0),[]):=Q2
  have w2:S E F.E2 [.bool (s.contains 0),.int .i64 4] []=some (.int .i64 (if s.contains 0=true then 4 else 0),[]):=Q2
  unfold Zlf
  generalize (if decide (65536<(s.length:Int))=true then (2:Int) else 0)=a at *
  generalize (if s.contains 0=true then (4:Int) else 0)=b at *
  have hd:S E F.E8 [.lst [.int .i64 a,.int .i64 b] 2] []=some (.int .i64 (Zcz [a,b]),[]):=Zkc
  rw [S_of Zrh rfl rfl]
  simp -dsimp (disch:=first|omega|(simp only [A4]<;>omega)|fail) only [L.S0,go_sem,reduceIte,reduceCtorEq,B9,C0,C1,C2,C3,C4,C5,C6,C7,C8,C9,D0,D1,D2,D3,D4,D5,D6,D7,A3,h1,w1,w2,hd]
def fil (id:List UInt8) (k:Nat):List UInt8:=id.take k++List.replicate (32-k) 0
theorem Ymd {id:List UInt8} {k:Nat} (hid:id.length=32) (hk:k<32):(fil id k).set k (id.getD k 0)=fil id (k+1):=by
  unfold fil
  have hl:(id.take k).length=k:=by rw [Yne];omega
  rw [List.set_append_right (h:=by omega),hl,Nat.sub_self,Z8t (by omega),Ynz]
  congr 1
  rw [show 32-k=(32-(k+1))+1 by omega,List.replicate_succ]
  rfl
theorem undig:∀ n:Nat,n<16→G6 [48,49,50,51,52,53,54,55,56,57,97,98,99,100,101,102] (Zhq n)=(n:Int):=by decide
theorem Z87:∀ n:Nat,n<256→(-1≤G6 [48,49,50,51,52,53,54,55,56,57,97,98,99,100,101,102] (UInt8.ofNat n)∧G6 [48,49,50,51,52,53,54,55,56,57,97,98,99,100,101,102] (UInt8.ofNat n)<16):=by decide +kernel
theorem Zpk {l:List UInt8} {c:Int}:S E F.K9 [.str l,.int .u8 c] []=some (.int .i64 (G6 l (byt c)),[]):=K5 ext0 Z6
def Z13:List UInt8:=[48,49,50,51,52,53,54,55,56,57,97,98,99,100,101,102]
theorem nib:∀ a:Nat,a<16→∀ b:Nat,b<16→IntKind.u8.wrap (ior .i64 (Zzx .i64 (a:Int) 4) (b:Int))=((16*a+b:Nat):Int):=by decide +kernel
theorem Zpl (b:UInt8) : -1≤G6 Z13 b∧G6 Z13 b<16:=by
  have:=Z87 b.toNat b.toNat_lt
  rwa [UInt8.ofNat_toNat] at this
theorem Yme {id:List UInt8} (hid:id.length=32):fil id 32=id:=by
  unfold fil
  rw [List.take_of_length_le (by omega)]
  simp
theorem sp_l0 {s:List UInt8} (hs:s.length=64):∀ (m i:Nat) (d:List UInt8),i+m=32→d.length=32→∃ d' e,d'.length=32∧(e=0∨e=4) ∧
    X E [.cell 2 (some 32),.tmp 3] (.c L.J7.x0::.lp [0,2,4,12] L.J7.x0::.blk 0::[.c L.J7.r0]) ⟨[(0,.str s),(2,.ref (.s 1000000 0) 0 0),(4,.ref (.s 1000000 1) 0 0),(12,.int .i64 i)],[(.s 1000000 0,⟨0,true,true,true,A0 (List.replicate 32 0)⟩),(.s 1000000 1,⟨0,true,true,true,A0 d⟩)]⟩=some (.tup [.agg (A0 d'),.int .i64 e],[]) ∧
    ∀ id,id.length=32→s=U0 id→d=fil id i→d'=id∧e=0:=by
  intro m
  induction m with
  | zero =>
    intro i d hi hd
    obtain rfl:i=32:=by omega
    refine ⟨d,0,hd,.inl rfl,?_,fun id h1 h2 h3=>⟨by rw [h3,Yme h1],rfl⟩⟩
    rw [K4 L.J7.x0.eq_1]
    simp -dsimp (disch:=first|omega|(simp only [A4]<;>omega)|fail) only [go_sem,reduceIte,reduceCtorEq,B9,C0,C1,C2,C3,C4,C5,C6,C7,C8,C9,D0,D1,D2,D3,D4,D5,D6,D7,A3,BYs,L.J7.r0,Yp6,hd]
  | succ m ih =>
    intro i d hi hd
    have hlt:i<32:=by omega
    obtain ⟨a0,a1⟩:=Zpl (s.getD (2*i) 0)
    obtain ⟨b0,b1⟩:=Zpl (s.getD (2*i+1) 0)
    have c1:=Zpk (l:=Z13) (c:=bat s (2*i))
    have c2:=Zpk (l:=Z13) (c:=bat s (2*i+1))
    rw [Z7] at c1 c2
    have e1:((2:Int)*(i:Int)).toNat=2*i:=by omega
    have e2:((2:Int)*(i:Int)+1).toNat=2*i+1:=by omega
    have yes:∀ id,id.length=32→s=U0 id→G6 Z13 (s.getD (2*i) 0)=(((id.getD i 0).toNat/16:Nat):Int)∧G6 Z13 (s.getD (2*i+1) 0)=(((id.getD i 0).toNat%16:Nat):Int):=by
      intro id h1 h2
      have:=(id.getD i 0).toNat_lt
      obtain ⟨g1,g2⟩:=Ygd (id:=id) (i:=i) (by omega)
      rw [h2,g1,g2]
      exact ⟨undig _ (by omega),undig _ (by omega)⟩
    unfold Z13 at *
    generalize G6 [48,49,50,51,52,53,54,55,56,57,97,98,99,100,101,102] (s.getD (2*i) 0)=A at *
    generalize G6 [48,49,50,51,52,53,54,55,56,57,97,98,99,100,101,102] (s.getD (2*i+1) 0)=B at *
    rw [K4 L.J7.x0.eq_1]
    by_cases hA:A<0
    · refine ⟨List.replicate 32 0,4,by simp,.inr rfl,?_,fun id h1 h2 _=>?_⟩
      · simp -dsimp (disch:=first|omega|(simp only [A4]<;>omega)|fail) only [go_sem,reduceIte,reduceCtorEq,B9,C0,C1,C2,C3,C4,C5,C6,C7,C8,C9,D0,D1,D2,D3,D4,D5,D6,D7,A3,BYs,e1,e2,c1,c2,hA,Yp6,hd]
      · have:=(yes id h1 h2).1;omega
    · by_cases hB:B<0
      · refine ⟨List.replicate 32 0,4,by simp,.inr rfl,?_,fun id h1 h2 _=>?_⟩
        · simp -dsimp (disch:=first|omega|(simp only [A4]<;>omega)|fail) only [go_sem,reduceIte,reduceCtorEq,B9,C0,C1,C2,C3,C4,C5,C6,C7,C8,C9,D0,D1,D2,D3,D4,D5,D6,D7,A3,BYs,e1,e2,c1,c2,hA,hB,Yp6,hd]
        · have:=(yes id h1 h2).2;omega
      · obtain ⟨a,rfl⟩:∃ a:Nat,A=a:=⟨A.toNat,by omega⟩
        obtain ⟨b,rfl⟩:∃ b:Nat,B=b:=⟨B.toNat,by omega⟩
        have hn:=nib a (by omega) b (by omega)
        obtain ⟨d',e,h1,h2,h3,h4⟩:=ih (i+1) (d.set i (UInt8.ofNat (16*a+b))) (by omega) (by rw [List.length_set];exact hd)
        simp only [Int.natCast_add,Ypi] at h3
        refine ⟨d',e,h1,h2,?_,fun id g1 g2 g3=>h4 id g1 g2 ?_⟩
        · rw [←h3]
          simp -dsimp (disch:=first|omega|(simp only [A4]<;>omega)|fail) only [go_sem,reduceIte,reduceCtorEq,B9,C0,C1,C2,C3,C4,C5,C6,C7,C8,C9,D0,D1,D2,D3,D4,D5,D6,D7,A3,BYs,e1,e2,c1,c2,hA,hB,hn,Yp6,hd]
        · obtain ⟨y1,y2⟩:=yes id g1 g2
          have:=(id.getD i 0).toNat_lt
          have hx:UInt8.ofNat (16*a+b)=id.getD i 0:=by
            have:16*a+b=(id.getD i 0).toNat:=by omega
            rw [this]
            rw [UInt8.ofNat_toNat]
          rw [hx,g3,Ymd g1 hlt]
theorem Z88 {s:List UInt8} (hs:s.length≤1000000000):∃ d e,d.length=32∧(e=0∨e=4)∧S E F.J7 [.str s] []=some (.tup [.agg (A0 d),.int .i64 e],[])∧∀ id,id.length=32→s=U0 id→d=id∧e=0:=by
  by_cases hl:s.length=64
  · obtain ⟨d,e,h1,h2,h3,h4⟩:=sp_l0 hl 32 0 (List.replicate 32 0) (by omega) (by simp)
    simp only [Ypi] at h3
    refine ⟨d,e,h1,h2,?_,fun id g1 g2=>h4 id g1 g2 (by unfold fil;simp)⟩
    rw [S_of Zir rfl rfl]
    simp -dsimp (disch:=first|omega|(simp only [A4]<;>omega)|fail) only [L.J7,go_sem,reduceIte,reduceCtorEq,B9,C0,C1,C2,C3,C4,C5,C6,C7,C8,C9,D0,D1,D2,D3,D4,D5,D6,D7,A3,BYs,hl,h3]
  · refine ⟨List.replicate 32 0,4,by simp,.inr rfl,?_,fun id g1 g2=>?_⟩
    · rw [S_of Zir rfl rfl]
      simp -dsimp (disch:=first|omega|(simp only [A4]<;>omega)|fail) only [L.J7,go_sem,reduceIte,reduceCtorEq,B9,C0,C1,C2,C3,C4,C5,C6,C7,C8,C9,D0,D1,D2,D3,D4,D5,D6,D7,A3,BYs,hl,Yp6]
    · exact absurd (by rw [g2,Zbf];omega) hl
end Cod
namespace Cod
open Go
end Cod
namespace Cod
open Go
theorem Z38 {l:List UInt8} {c:UInt8} (h:c∈l):G6 l c=(l.idxOf c:Nat):=by simp [G6,h]
theorem Z39 {l:List UInt8} {c:UInt8} (h:c∉l):G6 l c = -1:=by simp [G6,h]
theorem byt_u8 (c:UInt8):byt (c.toNat:Int)=c:=by simp [byt]
theorem Ygx {s:List UInt8} {c:UInt8}:S E F.I9 [.str s,.str [c]] []=some (.int .i64 (G6 s c),[]):=by
  have hx:S E F.U8 [.str s,.int .u8 c.toNat] []=some (.int .i64 (G6 s c),[]):=by
    have h:=K5 ext0 (Zwe (l:=s) (c:=c.toNat))
    rw [byt_u8] at h
    exact h
  have h1:S E F.L4 [.str s,.int .u8 c.toNat] []=some (.int .i64 (G6 s c),[]):=by
    rw [S_of Ziu rfl rfl]
    simp -dsimp (disch:=first|omega|(simp only [A4]<;>omega)|fail) only [L.L4,go_sem,reduceIte,reduceCtorEq,B9,C0,C1,C2,C3,C4,C5,C6,C7,C8,C9,D0,D1,D2,D3,D4,D5,D6,D7,A3,hx]
  have b0:bat [c] 0=c.toNat:=rfl
  rw [S_of Zr0 rfl rfl]
  cases hs:(([c]:List UInt8)==s) with
  | true =>
    have:=eq_of_beq hs
    subst this
    have hi:G6 [c] c=0:=by simp [G6]
    rw [hi]
    simp -dsimp (disch:=first|omega|(simp only [A4]<;>omega)|fail) only [L.I9,go_sem,reduceIte,reduceCtorEq,B9,C0,C1,C2,C3,C4,C5,C6,C7,C8,C9,D0,D1,D2,D3,D4,D5,D6,D7,A3,hs,h1,b0]
  | false =>
    simp -dsimp (disch:=first|omega|(simp only [A4]<;>omega)|fail) only [L.I9,go_sem,reduceIte,reduceCtorEq,B9,C0,C1,C2,C3,C4,C5,C6,C7,C8,C9,D0,D1,D2,D3,D4,D5,D6,D7,A3,hs,h1,b0]
theorem sl_cut {s:List UInt8} {c:UInt8} (hs:s.length≤1000000000000):S E F.P5 [.str s,.str [c]] []=some (if c∈s then .tup [.str (s.take (s.idxOf c)),.str (s.drop (s.idxOf c+1)),.bool true] else .tup [.str s,.str [],.bool false],[]):=by
  have h:=Ygx (s:=s) (c:=c)
  rw [S_of Zrr rfl rfl]
  by_cases hc:c∈s
  · rw [Z38 hc] at h
    have hi:=Yp7 hc
    rw [if_pos hc]
    have e1:((s.idxOf c:Int)+((1:Nat):Int)).toNat=s.idxOf c+1:=by omega
    have e2:sub s 0 (s.idxOf c)=s.take (s.idxOf c):=by simp [sub]
    have e3:sub s (s.idxOf c+1) (s.length-(s.idxOf c+1))=s.drop (s.idxOf c+1):=B5 (by omega)
    simp -dsimp (disch:=first|omega|(simp only [A4]<;>omega)|fail) only [L.P5,go_sem,reduceIte,reduceCtorEq,B9,C0,C1,C2,C3,C4,C5,C6,C7,C8,C9,D0,D1,D2,D3,D4,D5,D6,D7,A3,h,e1,e2,e3,Nat.sub_zero]
  · rw [Z39 hc] at h
    rw [if_neg hc]
    simp -dsimp (disch:=first|omega|(simp only [A4]<;>omega)|fail) only [L.P5,go_sem,reduceIte,reduceCtorEq,B9,C0,C1,C2,C3,C4,C5,C6,C7,C8,C9,D0,D1,D2,D3,D4,D5,D6,D7,A3,h]
theorem Z4a {s:List UInt8} {c:UInt8} (hs:s.length≤1000000000000):S E F.O6 [.str s,.str [c]] []=some (if c∈s then .tup [.str (s.take (s.idxOf c)),.str (s.drop (s.idxOf c+1)),.bool true] else .tup [.str s,.str [],.bool false],[]):=by
  have h:=sl_cut (c:=c) hs
  rw [S_of Zrc rfl rfl]
  by_cases hc:c∈s
  · rw [if_pos hc] at h ⊢
    simp -dsimp (disch:=first|omega|(simp only [A4]<;>omega)|fail) only [L.O6,go_sem,reduceIte,reduceCtorEq,B9,C0,C1,C2,C3,C4,C5,C6,C7,C8,C9,D0,D1,D2,D3,D4,D5,D6,D7,A3,h]
  · rw [if_neg hc] at h ⊢
    simp -dsimp (disch:=first|omega|(simp only [A4]<;>omega)|fail) only [L.O6,go_sem,reduceIte,reduceCtorEq,B9,C0,C1,C2,C3,C4,C5,C6,C7,C8,C9,D0,D1,D2,D3,D4,D5,D6,D7,A3,h]
theorem Z89 {l:List UInt8} {n:Nat} {c:Int} (h:n=l.length):S E F.O2 [.lst (A0 l) n,.int .u8 c] []=some (.int .i64 (G6 l (byt c)),[]):=by
  rw [S_of Zrz rfl rfl]
  simp -dsimp (disch:=first|omega|(simp only [A4]<;>omega)|fail) only [L.O2,go_sem,reduceIte,reduceCtorEq,B9,C0,C1,C2,C3,C4,C5,C6,C7,C8,C9,D0,D1,D2,D3,D4,D5,D6,D7,A3,Zwd h]
theorem Z14 {l:List UInt8} {n:Nat} (hn:n=l.length) (hl:l.length≤1000000000000):S E F.I2 [.lst (A0 l) n,.lst [.int .u8 0] 1] []=some (.int .i64 (G6 l 0),[]):=by
  have h:=Z89 (l:=l) (n:=n) (c:=0) hn
  rw [show byt 0=0 from rfl] at h
  rw [S_of Zrq rfl rfl]
  simp -dsimp (disch:=first|omega|(simp only [A4]<;>omega)|fail) only [L.I2,go_sem,reduceIte,reduceCtorEq,B9,C0,C1,C2,C3,C4,C5,C6,C7,C8,C9,D0,D1,D2,D3,D4,D5,D6,D7,A3,BYs,h]
theorem Ymf {l:List UInt8} {n:Nat} (hn:n=l.length) (hl:l.length≤1000000000000):S E F.Z1 [.lst (A0 l) n,.lst [.int .u8 0] 1] [] =
    some (if (0:UInt8)∈l then (.tup [.lst (A0 (l.take (l.idxOf 0))) (l.idxOf 0),.lst (A0 (l.drop (l.idxOf 0+1))) (n-(l.idxOf 0+1)),.bool true],[]) else (.tup [.lst (A0 l) n,.buf (.r 0) 0 0 0 1,.bool false],[(.r 0,⟨0,true,true,false,[]⟩)])):=by
  have h:=Z14 hn hl
  subst hn
  rw [S_of Zrb rfl rfl]
  by_cases hc:(0:UInt8)∈l
  · rw [Z38 hc] at h
    have hi:=Yp7 hc
    rw [if_pos hc]
    have e1:((l.idxOf (0:UInt8):Int)+((1:Nat):Int)).toNat=l.idxOf (0:UInt8)+1:=by omega
    have e2:sub l 0 (l.idxOf (0:UInt8))=l.take (l.idxOf (0:UInt8)):=by simp [sub]
    have e3:sub l (l.idxOf (0:UInt8)+1) (l.length-(l.idxOf (0:UInt8)+1))=l.drop (l.idxOf (0:UInt8)+1):=B5 (by omega)
    simp -dsimp (disch:=first|omega|(simp only [A4]<;>omega)|fail) only [L.Z1,go_sem,reduceIte,reduceCtorEq,B9,C0,C1,C2,C3,C4,C5,C6,C7,C8,C9,D0,D1,D2,D3,D4,D5,D6,D7,A3,BYs,h,e1,e2,e3,Nat.sub_zero]
  · rw [Z39 hc] at h
    rw [if_neg hc]
    simp -dsimp (disch:=first|omega|(simp only [A4]<;>omega)|fail) only [L.Z1,go_sem,reduceIte,reduceCtorEq,B9,C0,C1,C2,C3,C4,C5,C6,C7,C8,C9,D0,D1,D2,D3,D4,D5,D6,D7,A3,BYs,h]
end Cod

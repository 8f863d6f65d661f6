/- names.ParseIdent reads just what PutIdent writes. -/
import Derived.Test.YthlnjgdoodjgoaaGreatDoorXTxt3
import Derived.Test.YthlnjgdoodjgoaaGreatDoorXTxt2
import Derived.Test.YthlnjgdoodjgoaaGreatDoorXTxt1
set_option linter.unusedSimpArgs false
set_option linter.unusedVariables false
open List renaming append_assoc → Ym0, append_nil → Yo4, cons_append → Ymb, drop_eq_getElem_cons → Yob, drop_left' → Yoy, drop_zero → Ynr, getElem_mem → Yo2, idxOf_lt_length_of_mem → Yo6, length_append → Ymz, length_cons → Ymo, length_nil → Ynl, length_replicate → Yo5, length_take → Ymf, mem_cons → Ynh, nil_append → Yn0, take_left' → Yoz
open Nat renaming add_sub_cancel_left → Yo3, le_refl → Yl8
open Int renaming cast_ofNat_Int → Yoj, tdiv_eq_ediv_of_nonneg → Yo0, tmod_eq_emod_of_nonneg → Yo1
open Bool renaming and_eq_true → Ymn, true_and → Yok
open Nat renaming reduceEqDiff → C9, reduceAdd → D0, reduceSub → D1, reduceMul → D2, reduceDiv → D3, reduceMod → D4, reduceBEq → D5, reduceLeDiff → D6, reduceLT → D7
open Int renaming reduceEq → D8, reduceNe → D9, reduceLT → E2, reduceLE → E3, reduceBEq → E4, reduceBNe → E5, reduceToNat → E6, reduceAdd → E7, reduceSub → E8, reduceMul → E9, reduceNeg → A2
namespace Cod
open Go
theorem Z1a {s:List UInt8} (hs:s.length≤1000000000000):∃ a b c d ok,S E F.F7 [.str s] []=some (.tup [.agg [.str a,.str b,.str c,.str d],.bool ok],[])∧c.length≤1000000000000∧d.length≤1000000000000:=by
  have hsub:∀ (l:List UInt8) (a n:Nat),(sub l a n).length≤l.length:=by
    intro l a n;unfold sub;rw [Ymf,List.length_drop];omega
  rcases Zk7 s 32 s.length with h|⟨i,h,hi,_⟩
  · exact ⟨[],[],[],[],false,cut_a hs h,by simp,by simp⟩
  · have hr:=hsub s 0 i
    have hz:=hsub s (i+1) (s.length-(i+1))
    rcases Zk7 (sub s 0 i) 32 (sub s 0 i).length with h1|⟨j,h1,hj,_⟩
    · exact ⟨[],[],[],_,false,cut_b hs h hi rfl rfl h1,by simp,by omega⟩
    · have hq:=hsub (sub s 0 i) (j+1) ((sub s 0 i).length-(j+1))
      by_cases h2:Lib.lastIndex (sub (sub s 0 i) 0 j) [32,60]<0∨Zer (sub (sub s 0 i) 0 j) [62]=false
      · exact ⟨[],[],_,_,false,cut_c hs h hi rfl rfl h1 hj rfl rfl h2,by omega,by omega⟩
      · have h3:¬ Lib.lastIndex (sub (sub s 0 i) 0 j) [32,60]<0:=fun x=>h2 (.inl x)
        have h4:Zer (sub (sub s 0 i) 0 j) [62]=true:=by
          cases hb:Zer (sub (sub s 0 i) 0 j) [62]
          · exact absurd (.inr hb) h2
          · rfl
        rcases Z09 (sub (sub s 0 i) 0 j) with h5|⟨k,h5⟩
        · exact absurd h5 h3
        · exact ⟨_,_,_,_,true,cut_d hs h hi rfl rfl h1 hj rfl rfl h5 (Z7v h5 h4) h4,by omega,by omega⟩
theorem Zsw {a b:List UInt8}:sub (a++b) 0 a.length=a:=by unfold sub;simp
theorem Zwo {a b:List UInt8} {x:UInt8} {n m:Nat} (hn:n=a.length+1) (hm:m=b.length):sub (a++x::b) n m=b:=by
  subst hn hm;unfold sub;rw [show a++x::b=(a++[x])++b by simp,Yoy (by simp),List.take_length]
theorem Zes {s:List UInt8} (h:Zb4 s=true):0∉s∧10∉s∧60∉s∧62∉s:=by
  unfold Zb4 at h
  simp only [Ymn,Bool.not_eq_true',List.contains_eq_mem,decide_eq_false_iff_not] at h
  exact ⟨h.2.1,h.2.2.1,h.2.2.2.1,h.2.2.2.2⟩
def U6 (z:Int):Int:=if z<0 then -z else z
theorem Zgj (z:Int):Zbl z=(if z<0 then 45 else 43)::(two (U6 z/60)++two (U6 z%60)):=rfl
theorem Zfh {z:Int} (h0 : -1439≤z) (h1:z≤1439):0≤U6 z∧U6 z<1440:=by unfold U6;split<;>omega
theorem Z70 {z:Int} (h0 : -1439≤z) (h1:z≤1439):32∉Zbl z:=by
  obtain ⟨a0,a1⟩:=Zfh h0 h1
  rw [Zgj]
  have:=Zss (Z3d (a:=U6 z/60) (b:=U6 z%60) (by omega) (by omega) (by omega) (by omega)).1 (x:=32) (by unfold Zbm;decide)
  simp only [Ynh,not_or]
  refine ⟨?_,this⟩
  split<;>decide
theorem Znb (z:Int):(Zbl z).length=5:=rfl
theorem Zlu (i:Idt):H7 i=(i.name++[32,60]++(i.email++[62])++32::Lib.itoa i.time)++32::Zbl i.zone:=by
  unfold H7;simp
theorem Zet {i:Idt} (h:G7 i=true):(H7 i).length≤1000:=by
  obtain ⟨p0,p1,t0,t1,z0,z1⟩:=(U9 i).1 h
  have hl:=Lib.itoa_length_le i.time (by omega) (by omega)
  have hn:=Zdg p0
  have he:=Zdg p1
  unfold H7
  simp only [Ymz,Ymo,Ynl,Znb]
  omega
theorem Z1b {i:Idt} (h:G7 i=true):S E F.F7 [.str (H7 i)] []=some (.tup [.agg [.str i.name,.str i.email,.str (Lib.itoa i.time),.str (Zbl i.zone)],.bool true],[]):=by
  obtain ⟨p0,p1,t0,t1,z0,z1⟩:=(U9 i).1 h
  have hs:=Zet h
  obtain ⟨d0,_,_⟩:=Zjm t0
  have m1:=Zss d0 (x:=32) (by unfold Zbm;decide)
  have m2:=Z70 z0 z1
  obtain ⟨_,_,e60,_⟩:=Zes p1
  have m3:60∉i.email++[62]:=by simp [e60]
  have hend:Zer (i.name++[32,60]++(i.email++[62])) [62]=true:=by
    rw [ends1]
    refine ⟨by simp,?_⟩
    rw [←Ym0]
    simp
  have hlen:(i.name++[32,60]++(i.email++[62])).length=i.name.length+2+(i.email.length+1):=by simp only [Ymz,Ymo,Ynl]
  have:=cut_d (s:=H7 i) (i:=(i.name++[32,60]++(i.email++[62])++32::Lib.itoa i.time).length) (r:=i.name++[32,60]++(i.email++[62])++32::Lib.itoa i.time) (z:=Zbl i.zone) (j:=(i.name++[32,60]++(i.email++[62])).length) (q:=i.name++[32,60]++(i.email++[62])) (t:=Lib.itoa i.time) (k:=i.name.length)
    (by omega) (by rw [Zlu];exact Zo3 m2) (by rw [Zlu];simp) (by rw [Zlu];exact Zsw) (by rw [Zlu];exact Zwo rfl (by simp only [Ymz,Ymo];omega))
    (Zo3 m1) (by simp) Zsw (Zwo rfl (by simp only [Ymz,Ymo];omega)) (Ye8 m3) (by rw [hlen];omega) hend
  rw [this]
  have e1:sub (i.name++[32,60]++(i.email++[62])) 0 i.name.length=i.name:=by rw [Ym0];exact Zsw
  have e2:sub (i.name++[32,60]++(i.email++[62])) (i.name.length+2) ((i.name++[32,60]++(i.email++[62])).length-1-(i.name.length+2))=i.email:=by
    rw [hlen,show i.name.length+2+(i.email.length+1)-1-(i.name.length+2)=i.email.length by omega]
    unfold sub
    rw [Yoy (by simp),Yoz rfl]
  rw [e1,e2]
theorem Z1c {s:List UInt8} {v:Int} (h:Lib.atoiAll s=.ok v) : -9223372036854775808≤v∧v<9223372036854775808:=by
  unfold Lib.atoiAll at h
  split at h
  · cases h
  · dsimp only at h
    split at h
    · cases h
    · cases h
    · split at h
      · cases h
      · split at h
        · cases h
        · cases h
          split<;>omega
def Zgk:List AV:=[.str [],.str [],.int .i64 0,.int .i64 0]
def Znc:AV:=.tup [.agg Zgk,.int .i64 4]
theorem Zsx {i:Idt} (h:G7 i=true):S E F.G4 [.str (H7 i)] []=some (.tup [.agg i.cells,.int .i64 0],[]):=by
  obtain ⟨p0,p1,t0,t1,z0,z1⟩:=(U9 i).1 h
  obtain ⟨a0,a1⟩:=Zfh z0 z1
  have hs:=Zet h
  have hc:=Z1b h
  have hl:=Lib.itoa_length_le i.time (by omega) (by omega)
  obtain ⟨d0,d1,d2⟩:=Zjm t0
  have ht:=Zsd (s:=Lib.itoa i.time) (by omega)
  rw [show Zhj (Lib.itoa i.time)=.tup [.int .i64 i.time,.nili] by unfold Zhj;rw [Zwm d2 d0 (by omega)];simp only [d1]] at ht
  obtain ⟨q0,q1⟩:=Z3d (a:=U6 i.zone/60) (b:=U6 i.zone%60) (by omega) (by omega) (by omega) (by omega)
  have hz:=Zsd (s:=two (U6 i.zone/60)++two (U6 i.zone%60)) (by simp only [two,Ymz,Ymo,Ynl];omega)
  rw [show Zhj (two (U6 i.zone/60)++two (U6 i.zone%60))=.tup [.int .i64 (U6 i.zone/60*100+U6 i.zone%60),.nili] by unfold Zhj;rw [Zwm (by simp [two]) q0 (by omega)];simp only [q1]] at hz
  have e3:sub (Zbl i.zone) 1 4=two (U6 i.zone/60)++two (U6 i.zone%60):=rfl
  have e4:=Znb i.zone
  have hp:S E F.J0 [.agg [.str i.name,.str i.email,.int .i64 i.time,.int .i64 i.zone]] []=some (.tup [.str (H7 i),.int .i64 0],[]):=by
    have hp:=Zgi (i:=i)
    unfold Z08 at hp
    rw [if_pos h] at hp
    exact hp
  have e5:(U6 i.zone/60*100+U6 i.zone%60)/100*60+(U6 i.zone/60*100+U6 i.zone%60)%100=U6 i.zone:=by omega
  have e7:(H7 i != H7 i)=false:=by simp
  rw [S_of Zi2 rfl rfl]
  by_cases hn:i.zone<0
  · have hz2:U6 i.zone = - i.zone:=by unfold U6;rw [if_pos hn]
    have hb:bat (Zbl i.zone) 0=45:=by rw [Zgj,if_pos hn];rfl
    have e6:0-U6 i.zone=i.zone:=by omega
    simp -dsimp (disch:=first|omega|(simp only [A4,M8]<;>omega)|fail) only [L.G4,go_sem,reduceIte,reduceCtorEq,C9,D0,D1,D2,D3,D4,D5,D6,D7,D8,D9,E2,E3,E4,E5,E6,E7,E8,E9,A2,hc,ht,hz,e3,e4,Zf6,Zf5,e5,hb,e6,hp,e7,Idt.cells]
  · have hz2:U6 i.zone=i.zone:=by unfold U6;rw [if_neg hn]
    have hb:bat (Zbl i.zone) 0=43:=by rw [Zgj,if_neg hn];rfl
    rw [hz2] at hz e3 e5
    simp -dsimp (disch:=first|omega|(simp only [A4,M8]<;>omega)|fail) only [L.G4,go_sem,reduceIte,reduceCtorEq,C9,D0,D1,D2,D3,D4,D5,D6,D7,D8,D9,E2,E3,E4,E5,E6,E7,E8,E9,A2,hc,ht,hz,e3,e4,Zf6,Zf5,e5,hb,hp,e7,Idt.cells]
theorem Zhx (s:List UInt8):(∃ v,Lib.atoiAll s=.ok v∧Zhj s=.tup [.int .i64 v,.nili] ∧ -9223372036854775808≤v∧v<9223372036854775808)∨∃ v T,Zhj s=.tup [.int .i64 v,.ifc T .junk]:=by
  unfold Zhj
  split
  · rename_i v h
    left;exact ⟨v,h,rfl,Z1c h⟩
  · right;exact ⟨_,_,rfl⟩
  · right;exact ⟨_,_,rfl⟩
theorem Yk3 {z:Int} (h0 : -9223372036854775808≤z) (h1:z<9223372036854775808):∃ q r,z.tdiv 100=q∧z.tmod 100=r ∧ -92233720368547758≤q∧q≤92233720368547758 ∧ -100<r∧r<100:=by
  by_cases h:0≤z
  · exact ⟨_,_,rfl,rfl,by rw [Yo0 h];omega,by rw [Yo0 h];omega,by rw [Yo1 h];omega,by rw [Yo1 h];omega⟩
  · obtain ⟨y,rfl⟩:∃ y,z = -y:=⟨-z,by omega⟩
    rw [Int.neg_tdiv,Int.neg_tmod]
    exact ⟨_,_,rfl,rfl,by rw [Yo0 (by omega)];omega,by rw [Yo0 (by omega)];omega,by rw [Yo1 (by omega)];omega,by rw [Yo1 (by omega)];omega⟩
theorem Yfd {s:List UInt8} (h:∀ i,G7 i=true→H7 i≠s) (a b:List UInt8) (t z:Int):∃ p e,S E F.J0 [.agg [.str a,.str b,.int .i64 t,.int .i64 z]] []=some (.tup [.str p,.int .i64 e],[])∧(e=3∨e=0∧(p==s)=false):=by
  have hp:=Zgi (i:=⟨a,b,t,z⟩)
  unfold Z08 at hp
  by_cases hi:G7 ⟨a,b,t,z⟩=true
  · rw [if_pos hi] at hp
    exact ⟨_,_,hp,.inr ⟨rfl,by simpa using h _ hi⟩⟩
  · rw [if_neg hi] at hp
    exact ⟨_,_,hp,.inl rfl⟩
theorem Zwp {s:List UInt8} (hs:s.length≤1000000000000) (h:∀ i,G7 i=true→H7 i≠s):S E F.G4 [.str s] []=some (Znc,[]):=by
  obtain ⟨a,b,c,d,ok,hc,lc,ld⟩:=Z1a hs
  rw [S_of Zi2 rfl rfl]
  cases ok
  · simp -dsimp (disch:=first|omega|(simp only [A4,M8]<;>omega)|fail) only [L.G4,go_sem,reduceIte,reduceCtorEq,C9,D0,D1,D2,D3,D4,D5,D6,D7,D8,D9,E2,E3,E4,E5,E6,E7,E8,E9,A2,hc,Znc,Zgk]
  · by_cases hd:d.length=5
    · have ht:=Zsd (s:=c) (by omega)
      have hsl:(sub d 1 4).length≤4:=by unfold sub;rw [Ymf];omega
      have hz:=Zsd (s:=sub d 1 4) (by omega)
      rcases Zhx c with ⟨t,_,e1,_⟩|⟨t,T1,e1⟩
      · rcases Zhx (sub d 1 4) with ⟨z,_,e2,z0,z1⟩|⟨z,T2,e2⟩
        · obtain ⟨q,r,hq,hr,q0,q1,r0,r1⟩:=Yk3 z0 z1
          rw [e1] at ht
          rw [e2] at hz
          by_cases hb:bat d 0=45
          · obtain ⟨p,e,hp,hpe⟩:=Yfd h a b t (0-(q*60+r))
            rcases hpe with rfl|⟨rfl,hne⟩
            · simp -dsimp (disch:=first|omega|(simp only [A4,M8]<;>omega)|fail) only [L.G4,go_sem,reduceIte,reduceCtorEq,C9,D0,D1,D2,D3,D4,D5,D6,D7,D8,D9,E2,E3,E4,E5,E6,E7,E8,E9,A2,hc,ht,hz,hd,hq,hr,hb,hp,Znc,Zgk]
            · simp -dsimp (disch:=first|omega|(simp only [A4,M8]<;>omega)|fail) only [L.G4,go_sem,reduceIte,reduceCtorEq,C9,D0,D1,D2,D3,D4,D5,D6,D7,D8,D9,E2,E3,E4,E5,E6,E7,E8,E9,A2,hc,ht,hz,hd,hq,hr,hb,hp,hne,Znc,Zgk]
          · obtain ⟨p,e,hp,hpe⟩:=Yfd h a b t (q*60+r)
            rcases hpe with rfl|⟨rfl,hne⟩
            · simp -dsimp (disch:=first|omega|(simp only [A4,M8]<;>omega)|fail) only [L.G4,go_sem,reduceIte,reduceCtorEq,C9,D0,D1,D2,D3,D4,D5,D6,D7,D8,D9,E2,E3,E4,E5,E6,E7,E8,E9,A2,hc,ht,hz,hd,hq,hr,hb,hp,Znc,Zgk]
            · simp -dsimp (disch:=first|omega|(simp only [A4,M8]<;>omega)|fail) only [L.G4,go_sem,reduceIte,reduceCtorEq,C9,D0,D1,D2,D3,D4,D5,D6,D7,D8,D9,E2,E3,E4,E5,E6,E7,E8,E9,A2,hc,ht,hz,hd,hq,hr,hb,hp,hne,Znc,Zgk]
        · rw [e1] at ht
          rw [e2] at hz
          simp -dsimp (disch:=first|omega|(simp only [A4,M8]<;>omega)|fail) only [L.G4,go_sem,reduceIte,reduceCtorEq,C9,D0,D1,D2,D3,D4,D5,D6,D7,D8,D9,E2,E3,E4,E5,E6,E7,E8,E9,A2,hc,ht,hz,hd,Znc,Zgk]
      · rw [e1] at ht
        rcases Zhx (sub d 1 4) with ⟨z,_,e2,z0,z1⟩|⟨z,T2,e2⟩
        · rw [e2] at hz
          simp -dsimp (disch:=first|omega|(simp only [A4,M8]<;>omega)|fail) only [L.G4,go_sem,reduceIte,reduceCtorEq,C9,D0,D1,D2,D3,D4,D5,D6,D7,D8,D9,E2,E3,E4,E5,E6,E7,E8,E9,A2,hc,ht,hz,hd,Znc,Zgk]
        · rw [e2] at hz
          simp -dsimp (disch:=first|omega|(simp only [A4,M8]<;>omega)|fail) only [L.G4,go_sem,reduceIte,reduceCtorEq,C9,D0,D1,D2,D3,D4,D5,D6,D7,D8,D9,E2,E3,E4,E5,E6,E7,E8,E9,A2,hc,ht,hz,hd,Znc,Zgk]
    · simp -dsimp (disch:=first|omega|(simp only [A4,M8]<;>omega)|fail) only [L.G4,go_sem,reduceIte,reduceCtorEq,C9,D0,D1,D2,D3,D4,D5,D6,D7,D8,D9,E2,E3,E4,E5,E6,E7,E8,E9,A2,hc,hd,Znc,Zgk]
end Cod
namespace Cod
open Go
def scn (s:List UInt8) (c:UInt8):Nat→Nat→Nat
  | 0,i=>i
  | m+1,i=>if s.getD i 0=c then i else scn s c m (i+1)
theorem Yfe (s:List UInt8) (c:UInt8) (k:Nat) (hk:s.getD k 0=c):∀ m i,i≤k→k<i+m→(∀ j,i≤j→j<k→s.getD j 0≠c)→scn s c m i=k:=by
  intro m
  induction m with
  | zero=>intro i h1 h2;omega
  | succ m ih =>
    intro i h1 h2 h3
    unfold scn
    by_cases h:i=k
    · rw [h,if_pos hk]
    · rw [if_neg (h3 i (Yl8 _) (by omega))]
      exact ih (i+1) (by omega) (by omega) (fun j a b=>h3 j (by omega) b)
def Z1d (s:List UInt8):Int:=numF (s.drop (s.length-6+2))
def Zsy (s:List UInt8):Int:=if s.getD (s.length-6+1) 0=45 then 0-(Z1d s/100*60+Z1d s%100) else Z1d s/100*60+Z1d s%100
def Zk9 (s:List UInt8):Nat:=scn s 60 s.length 0
def Zo8 (s:List UInt8):Nat:=scn s 62 (s.length-Zk9 s) (Zk9 s)
def docI (s:List UInt8):Idt:=⟨s.take (Zk9 s-1),sub s (Zk9 s+1) (Zo8 s-(Zk9 s+1)),numF (sub s (Zo8 s+2) (s.length-6-(Zo8 s+2))),Zsy s⟩
def docOK (s:List UInt8):Bool:=decide (6≤s.length∧1≤Zk9 s∧Zo8 s+2+6≤s.length∧0≤Z1d s)&&(G7 (docI s)&&decide (H7 (docI s)=s))
end Cod
namespace Cod
open Go
theorem Z1e:∀ (k u:Nat),u<10^(k+1)→Lib.nDigits u≤k+1:=by
  intro k
  induction k with
  | zero=>intro u h;rw [Lib.nDigits_small (by simpa using h)];exact Yl8 _
  | succ k ih =>
    intro u h
    by_cases h1:u<10
    · rw [Lib.nDigits_small h1];omega
    · rw [Lib.nDigits_big h1]
      have:=ih (u/10) (by rw [Nat.pow_succ] at h;omega)
      omega
theorem Z1f {t:Int} (h0:0≤t) (h1:t≤1099511627776):(Lib.itoa t).length≤13:=by
  obtain ⟨u,rfl⟩:∃ u:Nat,t=u:=⟨t.toNat,by omega⟩
  rw [Lib.itoa_nonneg,Lib.decDigits_length]
  have hp:(10:Nat)^(12+1)=10000000000000:=by decide
  exact Z1e 12 u (by omega)
theorem Znd {a b:List UInt8} {j:Nat} (h:j<a.length):(a++b).getD j 0=a.getD j 0:=by
  rw [List.getD_eq_getElem?_getD,List.getElem?_append_left h,←List.getD_eq_getElem?_getD]
theorem Zhy {a b:List UInt8} {j k:Nat} (h:j=a.length+k):(a++b).getD j 0=b.getD k 0:=by
  rw [List.getD_eq_getElem?_getD,List.getElem?_append_right (by omega),show j-a.length=k by omega,←List.getD_eq_getElem?_getD]
theorem Z3e {a:List UInt8} {c:UInt8} {j:Nat} (h:c∉a) (hj:j<a.length):a.getD j 0≠c:=by
  intro e
  apply h
  rw [List.getD_eq_getElem?_getD,List.getElem?_eq_getElem hj] at e
  rw [←e]
  exact Yo2 _
section
variable (i:Idt)
def pA:List UInt8:=i.name++[32]
def pB:List UInt8:=pA i++60::i.email
def pC:List UInt8:=pB i++[62,32]
def pD:List UInt8:=pC i++Lib.itoa i.time
theorem pA_len:(pA i).length=i.name.length+1:=by simp [pA]
theorem Yff:(pB i).length=i.name.length+2+i.email.length:=by simp [pB,pA];omega
theorem Yfg:(pC i).length=i.name.length+4+i.email.length:=by simp [pC,Yff];omega
theorem Yfh:(pD i).length=i.name.length+4+i.email.length+(Lib.itoa i.time).length:=by simp [pD,Yfg]
theorem Yfi:H7 i=pA i++60::(i.email++[62,32]++Lib.itoa i.time++[32]++Zbl i.zone):=by simp [H7,pA]
theorem put_b:H7 i=pB i++62::([32]++Lib.itoa i.time++[32]++Zbl i.zone):=by simp [H7,pB,pA]
theorem put_c:H7 i=pC i++(Lib.itoa i.time++([32]++Zbl i.zone)):=by simp [H7,pC,pB,pA]
theorem Yfj:H7 i=pD i++32::Zbl i.zone:=by simp [H7,pD,pC,pB,pA]
theorem put_e:H7 i=(pD i++[32])++Zbl i.zone:=by simp [Yfj]
theorem put_f:H7 i=(pD i++[32,(if i.zone<0 then 45 else 43)])++(two (U6 i.zone/60)++two (U6 i.zone%60)):=by simp [Yfj,Zgj]
theorem Yk4:(H7 i).length=i.name.length+4+i.email.length+(Lib.itoa i.time).length+6:=by rw [Yfj,Ymz,Yfh,Ymo,Znb]
end
theorem Z3f {i:Idt} (h:G7 i=true):docI (H7 i)=i∧docOK (H7 i)=true:=by
  obtain ⟨p0,p1,t0,t1,z0,z1⟩:=(U9 i).1 h
  obtain ⟨a0,a1⟩:=Zfh z0 z1
  obtain ⟨_,_,n60,n62⟩:=Zes p0
  obtain ⟨_,_,e60,e62⟩:=Zes p1
  obtain ⟨d0,d1,d2⟩:=Zjm t0
  have hl:=Yk4 i
  have h13:=Z1f t0 t1
  have hA:=pA_len i
  have hB:=Yff i
  have hC:=Yfg i
  have hD:=Yfh i
  have hat:Zk9 (H7 i)=i.name.length+1:=by
    unfold Zk9
    apply Yfe
    · rw [Yfi,Zhy (k:=0) (by omega)];rfl
    · omega
    · omega
    · intro j _ hj
      rw [Yfi,Znd (by omega)]
      exact Z3e (by simp [pA,n60]) (by omega)
  have hto:Zo8 (H7 i)=i.name.length+2+i.email.length:=by
    unfold Zo8
    rw [hat]
    apply Yfe
    · rw [put_b,Zhy (k:=0) (by omega)];rfl
    · omega
    · omega
    · intro j _ hj
      rw [put_b,Znd (by omega)]
      exact Z3e (by simp [pB,pA,n62,e62]) (by omega)
  obtain ⟨q0,q1⟩:=Z3d (a:=U6 i.zone/60) (b:=U6 i.zone%60) (by omega) (by omega) (by omega) (by omega)
  have hz:Z1d (H7 i)=U6 i.zone/60*100+U6 i.zone%60:=by
    unfold Z1d
    rw [hl,put_f,Yoy (by rw [Ymz,hD,Ymo,Ymo,Ynl];omega)]
    rw [Zwn (by simp [two]) (by simp [two]) q0,q1]
  have hzone:Zsy (H7 i)=i.zone:=by
    unfold Zsy
    rw [hz,show (U6 i.zone/60*100+U6 i.zone%60)/100*60+(U6 i.zone/60*100+U6 i.zone%60)%100=U6 i.zone by omega]
    have hb:(H7 i).getD ((H7 i).length-6+1) 0=if i.zone<0 then 45 else 43:=by
      rw [put_e,Zhy (k:=0) (by rw [←put_e,hl,Ymz,hD,Ymo,Ynl];omega)];rfl
    rw [hb]
    unfold U6
    by_cases hn:i.zone<0
    · rw [if_pos hn,if_pos hn,if_pos rfl];omega
    · rw [if_neg hn,if_neg hn,if_neg (by decide)]
  have hI:docI (H7 i)=i:=by
    unfold docI
    rw [hat,hto,hzone]
    have e1:(H7 i).take (i.name.length+1-1)=i.name:=by
      rw [Yfi,pA,Nat.add_sub_cancel,Ym0];exact Yoz rfl
    have e2:sub (H7 i) (i.name.length+1+1) (i.name.length+2+i.email.length-(i.name.length+1+1))=i.email:=by
      unfold sub
      rw [show i.name.length+2+i.email.length-(i.name.length+1+1)=i.email.length by omega]
      rw [show H7 i=(pA i++[60])++(i.email++([62,32]++Lib.itoa i.time++[32]++Zbl i.zone)) by simp [H7,pA],Yoy (by rw [Ymz,hA];rfl),Yoz rfl]
    have e3:sub (H7 i) (i.name.length+2+i.email.length+2) ((H7 i).length-6-(i.name.length+2+i.email.length+2))=Lib.itoa i.time:=by
      unfold sub
      rw [hl,put_c,Yoy (by omega),Yoz (by omega)]
    rw [e1,e2,e3,Zwn d2 h13 d0,d1]
  refine ⟨hI,?_⟩
  unfold docOK
  rw [hI,h,hat,hto,hz,hl]
  simp only [Yok,Ymn,decide_eq_true_eq,and_true]
  omega
theorem Zwq (s:List UInt8):(∃ i,G7 i=true∧H7 i=s)∨∀ i,G7 i=true→H7 i≠s:=by
  by_cases h:∃ i,G7 i=true∧H7 i=s
  · exact .inl h
  · exact .inr fun i hi he=>h ⟨i,hi,he⟩
end Cod
namespace Cod
open Go
def Zhz (n:Nat):UInt8:=[(48:UInt8),49,50,51,52,53,54,55,56,57,97,98,99,100,101,102].getD n 0
def hexB (b:UInt8):List UInt8:=[Zhz (b.toNat/16),Zhz (b.toNat%16)]
def Z5 (id:List UInt8):List UInt8:=id.flatMap hexB
theorem Zkj (b:UInt8) (id:List UInt8):Z5 (b::id)=Zhz (b.toNat/16)::Zhz (b.toNat%16)::Z5 id:=rfl
theorem Zds (id:List UInt8):(Z5 id).length=2*id.length:=by
  induction id with
  | nil=>rfl
  | cons x r ih=>rw [Zkj,Ymo,Ymo,ih,Ymo];omega
theorem Z1g:∀ n:Nat,n<16→(48≤(Zhz n).toNat∧(Zhz n).toNat≤57∨97≤(Zhz n).toNat∧(Zhz n).toNat≤102):=by decide
theorem Yfk {id:List UInt8} {c:UInt8} (h:c∈Z5 id):∃ n,n<16∧c=Zhz n:=by
  induction id with
  | nil=>simp [Z5] at h
  | cons x r ih =>
    rw [Zkj,Ynh,Ynh] at h
    have:=x.toNat_lt
    rcases h with h|h|h
    · exact ⟨_,by omega,h⟩
    · exact ⟨_,by omega,h⟩
    · exact ih h
theorem Zo9 (id:List UInt8):(10:UInt8)∉Z5 id:=by
  intro h
  obtain ⟨n,h1,h2⟩:=Yfk h
  have:=Z1g n h1
  rw [←h2] at this
  simp at this
theorem Yfl {id:List UInt8}:∀ {i:Nat},i<id.length→(Z5 id).getD (2*i) 0=Zhz ((id.getD i 0).toNat/16)∧(Z5 id).getD (2*i+1) 0=Zhz ((id.getD i 0).toNat%16):=by
  induction id with
  | nil=>intro i h;simp at h
  | cons x r ih =>
    intro i h
    rw [Zkj]
    cases i with
    | zero=>exact ⟨rfl,rfl⟩
    | succ i =>
      have:=ih (i:=i) (by rw [Ymo] at h;omega)
      rw [show 2*(i+1)=2*i+1+1 by omega]
      simp only [List.getD_cons_succ]
      exact this
theorem Z71 {id:List UInt8} {k:Nat} (h:k<id.length):id.take (k+1)=id.take k++[id.getD k 0]:=by
  rw [List.take_succ_eq_append_getElem h];simp [List.getD,h]
theorem Yk5 {c:UInt8} {H T:List UInt8} (h:c∉H):(H++c::T).idxOf c=H.length:=by
  rw [List.idxOf_append,if_neg h,List.idxOf_cons_self,Nat.zero_add]
theorem Yk6 {w v r:List UInt8} (hw:(10:UInt8)∉w) (hv:(10:UInt8)∉v):(w++32::(v++10::r)).idxOf 10=w.length+1+v.length:=by
  have:w++32::(v++10::r)=(w++32::v)++10::r:=by simp
  rw [this,Yk5 (by simp [hw,hv])]
  simp;omega
theorem Zkk:∀ {a b:List UInt8},A0 a=A0 b→a=b:=by
  intro a
  induction a with
  | nil=>intro b h;cases b with
    | nil=>rfl
    | cons=>simp [A0] at h
  | cons x a ih =>
    intro b h
    cases b with
    | nil=>simp [A0] at h
    | cons y b =>
      simp only [A0,List.map_cons,List.cons.injEq,AV.int.injEq,true_and] at h
      have h1:x=y:=UInt8.toNat_inj.1 (by have:=h.1;omega)
      rw [h1,ih (by simpa [A0] using h.2)]
theorem Zjq:∀ {xs ys:List AV},H8 (xs++ys)=(H8 xs&&H8 ys):=by
  intro xs
  induction xs with
  | nil=>intro ys;simp [H8]
  | cons x xs ih=>intro ys;rw [Ymb,H8,H8,ih,Bool.and_assoc]
theorem Zjr:∀ {xs ys:List AV},leadss (xs++ys)=(leadss xs||leadss ys):=by
  intro xs
  induction xs with
  | nil=>intro ys;simp [leadss]
  | cons x xs ih=>intro ys;rw [Ymb,leadss,leadss,ih,Bool.or_assoc]
theorem Zjs:∀ {xs ys:List AV},refsOfs (xs++ys)=refsOfs xs++refsOfs ys:=by
  intro xs
  induction xs with
  | nil=>intro ys;simp [refsOfs]
  | cons x xs ih=>intro ys;rw [Ymb,refsOfs,refsOfs,ih,Ym0]
theorem Z6 {xs ys v:List AV} {i j:Nat} (h:i=xs.length+j):over (xs++ys) i v=xs++over ys j v:=by
  subst h
  induction xs with
  | nil=>simp
  | cons x xs ih =>
    rw [Ymb,Ymo,show xs.length+1+j=xs.length+j+1 by omega,Zmv,ih]
    rfl
theorem Zpa {xs ys:List AV} {i j:Nat} (h:i=xs.length+j):(xs++ys)[i]? = ys[j]? := by
  subst h
  rw [List.getElem?_append_right (by omega),Yo3]
theorem Zpb {xs ys:List AV} {i j n:Nat} (h:i=xs.length+j):sub (xs++ys) i n=sub ys j n:=by
  subst h
  unfold sub
  rw [←List.drop_drop,List.drop_left]
theorem Yfm {xs ys:List AV} {n:Nat} (h:n=xs.length):sub (xs++ys) 0 n=xs:=by
  subst h
  unfold sub
  rw [Ynr,List.take_left]
end Cod
namespace Cod
open Go
set_option maxRecDepth 100000
end Cod
namespace Cod
open Go
structure Lbl where
  tgt:List UInt8
  kind:Int
  name:List UInt8
  who:Idt
  msg:List UInt8
  htgt:tgt.length=32
def Lbl.cells (l:Lbl):List AV:=A0 l.tgt++[.int .i64 l.kind,.str l.name,.str l.who.name,.str l.who.email,.int .i64 l.who.time,.int .i64 l.who.zone,.str l.msg]
theorem Zha (l:Lbl):(A0 l.tgt).length=32:=by rw [C2,l.htgt]
theorem Zlv (l:Lbl):l.cells.length=39:=by unfold Lbl.cells;rw [Ymz,Zha];rfl
theorem Zpc (l:Lbl):flats l.cells=true:=by unfold Lbl.cells;rw [Zcm,V8];rfl
theorem Yfn (f:Site→Nat→Option (Site × Nat)) (l:Lbl):rens f l.cells=l.cells:=rens_flats _ (Zpc l)
theorem Yfo (l:Lbl):refsOfs l.cells=[]:=by unfold Lbl.cells;rw [Zjs,X1];rfl
theorem Z72 (l:Lbl):H8 l.cells=true:=by unfold Lbl.cells;rw [Zjq,V9];rfl
theorem Z73 (l:Lbl):leadss l.cells=false:=by unfold Lbl.cells;rw [Zjr,X0];rfl
theorem Yk7 (l:Lbl):sub l.cells 0 39=l.cells:=X8 (by rw [Zlv];exact Yl8 _)
theorem Zsz (l:Lbl) (i:Nat):l.cells[32+i]? = [AV.int .i64 l.kind,.str l.name,.str l.who.name,.str l.who.email,.int .i64 l.who.time,.int .i64 l.who.zone,.str l.msg][i]? := by
  unfold Lbl.cells
  rw [List.getElem?_append_right (by rw [Zha];omega),Zha,Yo3]
theorem lbl_32 (l:Lbl):l.cells[32]? = some (.int .i64 l.kind):=Zsz l 0
theorem lbl_33 (l:Lbl):l.cells[33]? = some (.str l.name):=Zsz l 1
theorem lbl_38 (l:Lbl):l.cells[38]? = some (.str l.msg):=Zsz l 6
theorem Yk8 (l:Lbl):sub l.cells 0 32=A0 l.tgt:=by
  unfold sub Lbl.cells
  rw [Ynr]
  exact Yoz (Zha l)
theorem Yk9 (l:Lbl):sub l.cells 34 4=l.who.cells:=by
  unfold sub Lbl.cells
  rw [List.drop_append,Zha,List.drop_of_length_le (by rw [Zha];omega)]
  rfl
attribute [go_sem] Zlv Zpc Yfn Yfo Z72 Z73 Yk7 lbl_32 lbl_33 lbl_38 Yk8 Yk9
def Z1h (s:List UInt8):Int:=Zdu [if decide (65536<(s.length:Int))=true then 2 else 0,if s.contains 0=true then 4 else 0]
theorem Z1i:∀ (l:List Int) (w:Int),l.foldl Zli w=0→w=0∧∀ e∈l,e=0:=by
  intro l
  induction l with
  | nil=>intro w h;exact ⟨h,fun e he=>by simp at he⟩
  | cons a l ih =>
    intro w h
    obtain ⟨h1,h2⟩:=ih _ h
    unfold Zli at h1
    split at h1
    · rename_i hc;exact absurd h1 hc.1
    · rename_i hc
      subst h1
      have ha:a=0:=by
        apply Classical.byContradiction
        intro hn
        exact hc ⟨hn,.inl rfl⟩
      refine ⟨rfl,fun e he=>?_⟩
      rcases List.mem_cons.1 he with rfl|he
      · exact ha
      · exact h2 e he
theorem Zpd {l:List Int} (h:Zdu l=0):∀ e∈l,e=0:=(Z1i l 0 h).2
theorem Z74 {z:Int} (h0 : -1439≤z) (h1:z≤1439):(10:UInt8)∉Zbl z:=by
  obtain ⟨a0,a1⟩:=Zfh h0 h1
  rw [Zgj]
  have:=Zss (Z3d (a:=U6 z/60) (b:=U6 z%60) (by omega) (by omega) (by omega) (by omega)).1 (x:=10) (by unfold Zbm;decide)
  simp only [Ynh,not_or]
  refine ⟨?_,this⟩
  split<;>decide
theorem Zwr {i:Idt} (h:G7 i=true):(10:UInt8)∉H7 i:=by
  obtain ⟨p0,p1,t0,t1,z0,z1⟩:=(U9 i).1 h
  obtain ⟨d0,_,_⟩:=Zjm t0
  have m1:=Zss d0 (x:=10) (by unfold Zbm;decide)
  have m2:=Z74 z0 z1
  have n0:=(Zes p0).2.1
  have n1:=(Zes p1).2.1
  unfold H7
  simp only [List.mem_append,Ynh,not_or,List.not_mem_nil,not_false_eq_true,and_true]
  exact ⟨⟨⟨⟨⟨⟨n0,by decide⟩,n1⟩,by decide⟩,m1⟩,by decide⟩,m2⟩
end Cod
namespace Cod
open Go
structure Id32 where
  b:List UInt8
  h:b.length=32
instance:Inhabited Id32:=⟨⟨List.replicate 32 0,by simp⟩⟩
def Id32.cells (d:Id32):List AV:=A0 d.b
theorem Zlw (d:Id32):d.cells.length=32:=by simp [Id32.cells,C2,d.h]
theorem Z75 (d:Id32):flats d.cells=true:=V8 _
theorem Z76 (d:Id32):H8 d.cells=true:=V9 _
theorem Z77 (d:Id32):leadss d.cells=false:=X0 _
theorem Yfp (d:Id32):refsOfs d.cells=[]:=X1 _
theorem Yfq (f:Site→Nat→Option (Site × Nat)) (d:Id32):rens f d.cells=d.cells:=Ze8 f _
def ids (l:List Id32):List AV:=l.flatMap Id32.cells
def iat (l:List Id32) (i:Nat):Id32:=l.getD i default
theorem J8 (l:List Id32):(ids l).length=32*l.length:=Zgc Zlw l
theorem Yla:ids []=[]:=rfl
theorem Yfr (a:List Id32) (s:Id32):ids a++A0 s.b=ids (a++[s]):=by simp [ids,Id32.cells]
theorem Z78 (l:List Id32):flats (ids l)=true:=Zfd Z75 l
theorem Z79 (l:List Id32):H8 (ids l)=true:=Zfe Z76 l
theorem Z1j (l:List Id32):leadss (ids l)=false:=Zd7 Z77 l
theorem Zws (l:List Id32):refsOfs (ids l)=[]:=Zg6 Yfp l
theorem Yfs (f:Site→Nat→Option (Site × Nat)) (l:List Id32):rens f (ids l)=ids l:=Zg7 f (Yfq f) l
theorem Z3g {l:List Id32} {i:Nat} (h:i<l.length):sub (ids l) (i*32) 32=A0 (iat l i).b:=Zmz Zlw h
theorem Zwt {l:List Id32}:sub (ids l) 0 (l.length*32)=ids l:=X8 (by rw [J8];omega)
attribute [go_sem] Zwt J8 Z78 Z79 Z1j Zws Yfs Z3g
def mkI (d:List UInt8):Id32:=if h:d.length=32 then ⟨d,h⟩ else default
theorem mkI_b {d:List UInt8} (h:d.length=32):(mkI d).b=d:=by unfold mkI;rw [dif_pos h]
theorem Yft (d:Id32):mkI d.b=d:=by unfold mkI;rw [dif_pos d.h]
end Cod
namespace Cod
open Go
def Zne:List UInt8:=[97,117,116,104,111,114]
def Zs0:List UInt8:=[99,111,109,109,105,116,116,101,114]
def Zwu:List UInt8:=[116,114,101,101]
def parW:List UInt8:=[112,97,114,101,110,116]
structure Snap where
  tree:List UInt8
  par:List Id32
  aut:Idt
  com:Idt
  msg:List UInt8
  ht:tree.length=32
def snR (t:List UInt8) (v:AV) (a c:Idt) (m:List UInt8):List AV:=A0 t++[v,.str a.name,.str a.email,.int .i64 a.time,.int .i64 a.zone,.str c.name,.str c.email,.int .i64 c.time,.int .i64 c.zone,.str m]
def Snap.cells (s:Snap):List AV:=snR s.tree (.lst (ids s.par) s.par.length) s.aut s.com s.msg
section
variable {t m:List UInt8} {v:AV} {a c:Idt}
theorem Zs1 (h:t.length=32):(snR t v a c m).length=42:=by unfold snR;rw [Ymz,C2,h];rfl
theorem sn_32 (h:t.length=32):(snR t v a c m)[32]? = some v:=Zpa (j:=0) (by rw [C2,h])
theorem sn_41 (h:t.length=32):(snR t v a c m)[41]? = some (.str m):=Zpa (j:=9) (by rw [C2,h])
theorem Ylb (h:t.length=32):sub (snR t v a c m) 0 32=A0 t:=Yfm (by rw [C2,h])
theorem sn_aut (h:t.length=32):sub (snR t v a c m) 33 4=a.cells:=by
  unfold snR
  rw [Zpb (j:=1) (by rw [C2,h])];rfl
theorem sn_com (h:t.length=32):sub (snR t v a c m) 37 4=c.cells:=by
  unfold snR
  rw [Zpb (j:=5) (by rw [C2,h])];rfl
theorem sn_sub (h:t.length=32):sub (snR t v a c m) 0 42=snR t v a c m:=X8 (by rw [Zs1 h];exact Yl8 _)
theorem Yfu:flats (snR t v a c m)=L4 v:=by
  unfold snR;rw [Zcm,V8,Yok,flats,show flats [.str a.name,.str a.email,.int .i64 a.time,.int .i64 a.zone,.str c.name,.str c.email,.int .i64 c.time,.int .i64 c.zone,.str m]=true from rfl,Bool.and_true]
theorem Yfv:H8 (snR t v a c m)=R7 v:=by
  unfold snR;rw [Zjq,V9,Yok,H8,show H8 [.str a.name,.str a.email,.int .i64 a.time,.int .i64 a.zone,.str c.name,.str c.email,.int .i64 c.time,.int .i64 c.zone,.str m]=true from rfl,Bool.and_true]
theorem Yfw:leadss (snR t v a c m)=Q9 v:=by
  unfold snR;rw [Zjr,X0,Bool.false_or,leadss,show leadss [.str a.name,.str a.email,.int .i64 a.time,.int .i64 a.zone,.str c.name,.str c.email,.int .i64 c.time,.int .i64 c.zone,.str m]=false from rfl,Bool.or_false]
theorem Ylc:refsOfs (snR t v a c m)=Y0 v:=by
  unfold snR;rw [Zjs,X1,Yn0,refsOfs,show refsOfs [.str a.name,.str a.email,.int .i64 a.time,.int .i64 a.zone,.str c.name,.str c.email,.int .i64 c.time,.int .i64 c.zone,.str m]=[] from rfl,Yo4]
theorem Zwv (f:Site→Nat→Option (Site × Nat)):∀ xs ys:List AV,rens f (xs++ys)=rens f xs++rens f ys:=by
  intro xs
  induction xs with
  | nil=>intro ys;simp [rens]
  | cons x xs ih=>intro ys;rw [Ymb,rens,rens,ih];rfl
theorem Yld (f:Site→Nat→Option (Site × Nat)):rens f (snR t v a c m)=snR t (ren f v) a c m:=by
  unfold snR;rw [Zwv,Ze8];rfl
theorem sn_o0 (h:t.length=32) {d:List UInt8} (hd:d.length=32):over (snR t v a c m) 0 (A0 d)=snR d v a c m:=by
  unfold snR over
  rw [List.take_zero,Yn0,Nat.zero_add,C2,hd,Yoy (by rw [C2,h])]
theorem Yfx (h:t.length=32) {x:AV}:over (snR t v a c m) 32 [x]=snR t x a c m:=by
  unfold snR;rw [Z6 (j:=0) (by rw [C2,h])];rfl
theorem Yfy (h:t.length=32) {x:Idt}:over (snR t v a c m) 33 x.cells=snR t v x c m:=by
  unfold snR;rw [Z6 (j:=1) (by rw [C2,h])];rfl
theorem sn_o37 (h:t.length=32) {x:Idt}:over (snR t v a c m) 37 x.cells=snR t v a x m:=by
  unfold snR;rw [Z6 (j:=5) (by rw [C2,h])];rfl
theorem sn_o41 (h:t.length=32) {x:List UInt8}:over (snR t v a c m) 41 [.str x]=snR t v a c x:=by
  unfold snR;rw [Z6 (j:=9) (by rw [C2,h])];rfl
theorem Z3h {t' m':List UInt8} {v':AV} {a' c':Idt} (h:t.length=32) (h':t'.length=32):over (snR t v a c m) 0 (snR t' v' a' c' m')=snR t' v' a' c' m':=by
  unfold over;exact Zg1 (by rw [Zs1 h,Zs1 h'])
theorem Yle {α:Type} (x:Acc α):x.bind .ret=x:=by
  induction x with
  | get s k ih =>
    show Acc.get s (fun e=>(k e).bind .ret)=_
    rw [show (fun e=>(k e).bind .ret)=k from funext ih]
  | _=>rfl
theorem Zww:∀ (l:List UInt8) (r:List AV),views (A0 l++r)=(views r).bindW (fun p=>.ret (A0 l++p.1,p.2)) ⟨⟩:=by
  intro l
  induction l with
  | nil =>
    intro r
    exact (Yle (views r)).symm
  | cons b l ih =>
    intro r
    rw [Q7,Ymb,Zhs,ih,Zom,Zol,Zf3]
    rfl
theorem Z8a {α β:Type} {x:Acc α} {f g : α→Acc β} (h:f=g) {w:Wit f} {w':Wit g}:x.bindW f w=x.bindW g w':=by subst h;rfl
theorem Yfz:views (snR t v a c m)=(X2 v).bindW (fun p=>.ret (snR t p.1 a c m,p.2)) ⟨⟩:=by
  unfold snR
  rw [Zww,Zhs,Zf3]
  refine Z8a (funext fun p=>?_)
  show Acc.ret (A0 t++[p.1,.str a.name,.str a.email,.int .i64 a.time,.int .i64 a.zone,.str c.name,.str c.email,.int .i64 c.time,.int .i64 c.zone,.str m],p.2++([]:List Site))=_
  rw [Yo4]
end
attribute [go_sem] Zs1 sn_32 sn_41 Ylb sn_aut sn_com sn_sub Yfu Yfv Yfw Ylc Yld sn_o0 Yfx Yfy sn_o37 sn_o41 Z3h Yfz
def Zfj:List UInt8:=List.replicate 32 0
theorem Zb0:Zfj.length=32:=by simp [Zfj]
def J9:Idt:=⟨[],[],0,0⟩
theorem sn0a:H9 (zer (.int .u8 0) 32) [.nils,.str [],.str [],.int .i64 0,.int .i64 0,.str [],.str [],.int .i64 0,.int .i64 0,.str []]=snR Zfj .nils J9 J9 []:=rfl
theorem sn0b:A0 (List.replicate 32 0)++[.nils,.str [],.str [],.int .i64 0,.int .i64 0,.str [],.str [],.int .i64 0,.int .i64 0,.str []]=snR Zfj .nils J9 J9 []:=rfl
attribute [go_sem] sn0a sn0b Zb0
def Zfn (l:List Id32):List UInt8:=l.flatMap fun d=>parW++[32]++Z5 d.b++[10]
theorem Zjt:Zfn []=[]:=rfl
theorem Zhb (d:Id32) (l:List Id32):Zfn (d::l)=parW++32::(Z5 d.b++10::Zfn l):=by simp [Zfn]
theorem Z8b (l:List Id32) (d:Id32):Zfn (l++[d])=Zfn l++(parW++[32]++Z5 d.b++[10]):=by simp [Zfn]
theorem Znf (l:List Id32):(Zfn l).length=72*l.length:=by
  induction l with
  | nil=>rfl
  | cons d l ih=>rw [Zhb,Ymz,Ymo,Ymz,Ymo,ih,Zds,d.h,Ymo];show 6+_=_;omega
def Zeu (s:Snap):Int:=Zdu [if decide (16<(s.par.length:Int))=true then 2 else 0,Z1h s.msg,if G7 s.aut=true then 0 else 3,if G7 s.com=true then 0 else 3]
def Zci (s:Snap):List UInt8:=Zwu++[32]++Z5 s.tree++[10]++Zfn s.par++(Zne++[32]++H7 s.aut++[10]++Zs0++[32]++H7 s.com++[10,10]++s.msg)
def Z3i (p:List UInt8) (s:Snap):Prop:=Zeu s=0∧Zci s=p
theorem Zwx (s:Snap):Zci s=Zwu++32::(Z5 s.tree++10::(Zfn s.par++(Zne++32::(H7 s.aut++10::(Zs0++32::(H7 s.com++10::(10::s.msg))))))):=by
  unfold Zci
  simp only [Ym0,Ymb,Yn0]
theorem Yf0 {m:List UInt8} (h:Z1h m=0):m.length≤65536:=by
  have h5:=Zpd h (if decide (65536<(m.length:Int))=true then 2 else 0) (by simp)
  by_cases hm:65536<(m.length:Int)
  · rw [if_pos (by simpa using hm)] at h5;omega
  · omega
theorem Zng {i:Idt} (h:(if G7 i=true then (0:Int) else 3)=0):G7 i=true:=by
  cases hb:G7 i with
  | true=>rfl
  | false=>rw [hb] at h;simp at h
theorem Zlx {s:Snap} (h:Zeu s=0):s.par.length≤16∧s.msg.length≤65536∧G7 s.aut=true∧G7 s.com=true:=by
  have h0:=Zpd h
  have h1:=h0 (if decide (16<(s.par.length:Int))=true then 2 else 0) (by simp)
  have h2:=h0 _ (by simp:Z1h s.msg∈_)
  have h3:=h0 (if G7 s.aut=true then 0 else 3) (by simp)
  have h4:=h0 (if G7 s.com=true then 0 else 3) (by simp)
  refine ⟨?_,Yf0 h2,Zng h3,Zng h4⟩
  by_cases hm:16<(s.par.length:Int)
  · rw [if_pos (by simpa using hm)] at h1;omega
  · omega
theorem Yf1 {s:Snap} (h:Zeu s=0):(Zci s).length≤80000:=by
  obtain ⟨h1,h2,h3,h4⟩:=Zlx h
  have a:=Zet h3
  have b:=Zet h4
  have c:=Znf s.par
  have e:=Zds s.tree
  rw [s.ht] at e
  unfold Zci Zwu Zne Zs0
  simp only [Ymz,Ymo,Ynl,e,c]
  omega
end Cod
namespace Cod
open Go
theorem Zs2 (s:List UInt8):Lib.contains s [0]=s.contains 0:=by
  unfold Lib.contains
  rw [Bool.eq_iff_iff,decide_eq_true_eq,List.contains_iff_mem]
  rcases Lib.index_spec s [0] with ⟨h1,h2⟩|⟨i,h1,h2,h3,_⟩
  · rw [h1]
    refine ⟨fun h=>by omega,fun h=>?_⟩
    obtain ⟨j,hj,he⟩:=List.getElem_of_mem h
    have h4:=h2 j (by omega)
    unfold Lib.occAt at h4
    rw [Yob hj,he] at h4
    simp [List.isPrefixOf] at h4
  · rw [h1]
    refine ⟨fun _=>?_,fun _=>by omega⟩
    have hr:=Lib.occAt_room h3
    have hi:i<s.length:=by
      rcases hr with hr|hr
      · simp at hr;omega
      · cases hr
    unfold Lib.occAt at h3
    rw [Yob hi] at h3
    simp [List.isPrefixOf] at h3
    rw [h3]
    exact Yo2 hi
theorem Z1k {s:List UInt8} (hs:s.length≤1000000000):S E F.S6 [.str s] []=some (.int .i64 (Z1h s),[]):=by
  have h1:=Z0m (s:=s) (t:=[0]) (by omega)
  rw [Zs2] at h1
  have w1:S E F.C0 [.bool (decide (65536<(s.length:Int))),.int .i64 2] []=some (.int .i64 (if decide (65536<(s.length:Int))=true then 2 else 0),[]):=Q8
  have w2:S E F.C0 [.bool (s.contains 0),.int .i64 4] []=some (.int .i64 (if s.contains 0=true then 4 else 0),[]):=Q8
  unfold Z1h
  generalize (if decide (65536<(s.length:Int))=true then (2:Int) else 0)=a at *
  generalize (if s.contains 0=true then (4:Int) else 0)=b at *
  have hd:S E F.C4 [.lst [.int .i64 a,.int .i64 b] 2] []=some (.int .i64 (Zdu [a,b]),[]):=Zg9
  rw [S_of Zq4 rfl rfl]
  simp -dsimp (disch:=first|omega|(simp only [A4]<;>omega)|fail) only [L.S6,go_sem,reduceIte,reduceCtorEq,C9,D0,D1,D2,D3,D4,D5,D6,D7,D8,D9,E2,E3,E4,E5,E6,E7,E8,E9,A2,h1,w1,w2,hd]
def fil (id:List UInt8) (k:Nat):List UInt8:=id.take k++List.replicate (32-k) 0
theorem Ylf {id:List UInt8} {k:Nat} (hid:id.length=32) (hk:k<32):(fil id k).set k (id.getD k 0)=fil id (k+1):=by
  unfold fil
  have hl:(id.take k).length=k:=by rw [Ymf];omega
  rw [List.set_append_right (h:=by omega),hl,Nat.sub_self,Z71 (by omega),Ym0]
  congr 1
  rw [show 32-k=(32-(k+1))+1 by omega,List.replicate_succ]
  rfl
theorem undig:∀ n:Nat,n<16→G9 [48,49,50,51,52,53,54,55,56,57,97,98,99,100,101,102] (Zhz n)=(n:Int):=by decide
theorem Z8c:∀ n:Nat,n<256→(-1≤G9 [48,49,50,51,52,53,54,55,56,57,97,98,99,100,101,102] (UInt8.ofNat n)∧G9 [48,49,50,51,52,53,54,55,56,57,97,98,99,100,101,102] (UInt8.ofNat n)<16):=by decide +kernel
theorem Zpe {l:List UInt8} {c:Int}:S E F.K4 [.str l,.int .u8 c] []=some (.int .i64 (G9 l (byt c)),[]):=U5 ext0 Zby
def Z1l:List UInt8:=[48,49,50,51,52,53,54,55,56,57,97,98,99,100,101,102]
theorem nib:∀ a:Nat,a<16→∀ b:Nat,b<16→IntKind.u8.wrap (ior .i64 (Zzb .i64 (a:Int) 4) (b:Int))=((16*a+b:Nat):Int):=by decide +kernel
theorem Zpf (b:UInt8) : -1≤G9 Z1l b∧G9 Z1l b<16:=by
  have:=Z8c b.toNat b.toNat_lt
  rwa [UInt8.ofNat_toNat] at this
theorem Ylg {id:List UInt8} (hid:id.length=32):fil id 32=id:=by
  unfold fil
  rw [List.take_of_length_le (by omega)]
  simp
theorem sp_l0 {s:List UInt8} (hs:s.length=64):∀ (m i:Nat) (d:List UInt8),i+m=32→d.length=32→∃ d' e,d'.length=32∧(e=0∨e=4) ∧
    X E [.cell 2 (some 32),.tmp 3] (.c L.J1.x0::.lp [0,2,4,12] L.J1.x0::.blk 0::[.c L.J1.r0]) ⟨[(0,.str s),(2,.ref (.s 1000000 0) 0 0),(4,.ref (.s 1000000 1) 0 0),(12,.int .i64 i)],[(.s 1000000 0,⟨0,true,true,true,A0 (List.replicate 32 0)⟩),(.s 1000000 1,⟨0,true,true,true,A0 d⟩)]⟩=some (.tup [.agg (A0 d'),.int .i64 e],[]) ∧
    ∀ id,id.length=32→s=Z5 id→d=fil id i→d'=id∧e=0:=by
  intro m
  induction m with
  | zero =>
    intro i d hi hd
    obtain rfl:i=32:=by omega
    refine ⟨d,0,hd,.inl rfl,?_,fun id h1 h2 h3=>⟨by rw [h3,Ylg h1],rfl⟩⟩
    rw [N4 L.J1.x0.eq_1]
    simp -dsimp (disch:=first|omega|(simp only [A4]<;>omega)|fail) only [go_sem,reduceIte,reduceCtorEq,C9,D0,D1,D2,D3,D4,D5,D6,D7,D8,D9,E2,E3,E4,E5,E6,E7,E8,E9,A2,BYs,L.J1.r0,Yo5,hd]
  | succ m ih =>
    intro i d hi hd
    have hlt:i<32:=by omega
    obtain ⟨a0,a1⟩:=Zpf (s.getD (2*i) 0)
    obtain ⟨b0,b1⟩:=Zpf (s.getD (2*i+1) 0)
    have c1:=Zpe (l:=Z1l) (c:=bat s (2*i))
    have c2:=Zpe (l:=Z1l) (c:=bat s (2*i+1))
    rw [Zda] at c1 c2
    have e1:((2:Int)*(i:Int)).toNat=2*i:=by omega
    have e2:((2:Int)*(i:Int)+1).toNat=2*i+1:=by omega
    have yes:∀ id,id.length=32→s=Z5 id→G9 Z1l (s.getD (2*i) 0)=(((id.getD i 0).toNat/16:Nat):Int)∧G9 Z1l (s.getD (2*i+1) 0)=(((id.getD i 0).toNat%16:Nat):Int):=by
      intro id h1 h2
      have:=(id.getD i 0).toNat_lt
      obtain ⟨g1,g2⟩:=Yfl (id:=id) (i:=i) (by omega)
      rw [h2,g1,g2]
      exact ⟨undig _ (by omega),undig _ (by omega)⟩
    unfold Z1l at *
    generalize G9 [48,49,50,51,52,53,54,55,56,57,97,98,99,100,101,102] (s.getD (2*i) 0)=A at *
    generalize G9 [48,49,50,51,52,53,54,55,56,57,97,98,99,100,101,102] (s.getD (2*i+1) 0)=B at *
    rw [N4 L.J1.x0.eq_1]
    by_cases hA:A<0
    · refine ⟨List.replicate 32 0,4,by simp,.inr rfl,?_,fun id h1 h2 _=>?_⟩
      · simp -dsimp (disch:=first|omega|(simp only [A4]<;>omega)|fail) only [go_sem,reduceIte,reduceCtorEq,C9,D0,D1,D2,D3,D4,D5,D6,D7,D8,D9,E2,E3,E4,E5,E6,E7,E8,E9,A2,BYs,e1,e2,c1,c2,hA,Yo5,hd]
      · have:=(yes id h1 h2).1;omega
    · by_cases hB:B<0
      · refine ⟨List.replicate 32 0,4,by simp,.inr rfl,?_,fun id h1 h2 _=>?_⟩
        · simp -dsimp (disch:=first|omega|(simp only [A4]<;>omega)|fail) only [go_sem,reduceIte,reduceCtorEq,C9,D0,D1,D2,D3,D4,D5,D6,D7,D8,D9,E2,E3,E4,E5,E6,E7,E8,E9,A2,BYs,e1,e2,c1,c2,hA,hB,Yo5,hd]
        · have:=(yes id h1 h2).2;omega
      · obtain ⟨a,rfl⟩:∃ a:Nat,A=a:=⟨A.toNat,by omega⟩
        obtain ⟨b,rfl⟩:∃ b:Nat,B=b:=⟨B.toNat,by omega⟩
        have hn:=nib a (by omega) b (by omega)
        obtain ⟨d',e,h1,h2,h3,h4⟩:=ih (i+1) (d.set i (UInt8.ofNat (16*a+b))) (by omega) (by rw [List.length_set];exact hd)
        simp only [Int.natCast_add,Yoj] at h3
        refine ⟨d',e,h1,h2,?_,fun id g1 g2 g3=>h4 id g1 g2 ?_⟩
        · rw [←h3]
          simp -dsimp (disch:=first|omega|(simp only [A4]<;>omega)|fail) only [go_sem,reduceIte,reduceCtorEq,C9,D0,D1,D2,D3,D4,D5,D6,D7,D8,D9,E2,E3,E4,E5,E6,E7,E8,E9,A2,BYs,e1,e2,c1,c2,hA,hB,hn,Yo5,hd]
        · obtain ⟨y1,y2⟩:=yes id g1 g2
          have:=(id.getD i 0).toNat_lt
          have hx:UInt8.ofNat (16*a+b)=id.getD i 0:=by
            have:16*a+b=(id.getD i 0).toNat:=by omega
            rw [this]
            rw [UInt8.ofNat_toNat]
          rw [hx,g3,Ylf g1 hlt]
theorem Z8d {s:List UInt8} (hs:s.length≤1000000000):∃ d e,d.length=32∧(e=0∨e=4)∧S E F.J1 [.str s] []=some (.tup [.agg (A0 d),.int .i64 e],[])∧∀ id,id.length=32→s=Z5 id→d=id∧e=0:=by
  by_cases hl:s.length=64
  · obtain ⟨d,e,h1,h2,h3,h4⟩:=sp_l0 hl 32 0 (List.replicate 32 0) (by omega) (by simp)
    simp only [Yoj] at h3
    refine ⟨d,e,h1,h2,?_,fun id g1 g2=>h4 id g1 g2 (by unfold fil;simp)⟩
    rw [S_of Zi1 rfl rfl]
    simp -dsimp (disch:=first|omega|(simp only [A4]<;>omega)|fail) only [L.J1,go_sem,reduceIte,reduceCtorEq,C9,D0,D1,D2,D3,D4,D5,D6,D7,D8,D9,E2,E3,E4,E5,E6,E7,E8,E9,A2,BYs,hl,h3]
  · refine ⟨List.replicate 32 0,4,by simp,.inr rfl,?_,fun id g1 g2=>?_⟩
    · rw [S_of Zi1 rfl rfl]
      simp -dsimp (disch:=first|omega|(simp only [A4]<;>omega)|fail) only [L.J1,go_sem,reduceIte,reduceCtorEq,C9,D0,D1,D2,D3,D4,D5,D6,D7,D8,D9,E2,E3,E4,E5,E6,E7,E8,E9,A2,BYs,hl,Yo5]
    · exact absurd (by rw [g2,Zds];omega) hl
end Cod
namespace Cod
open Go
end Cod
namespace Cod
open Go
theorem Z3j {l:List UInt8} {c:UInt8} (h:c∈l):G9 l c=(l.idxOf c:Nat):=by simp [G9,h]
theorem Z3k {l:List UInt8} {c:UInt8} (h:c∉l):G9 l c = -1:=by simp [G9,h]
theorem byt_u8 (c:UInt8):byt (c.toNat:Int)=c:=by simp [byt]
theorem Yf2 {s:List UInt8} {c:UInt8}:S E F.I2 [.str s,.str [c]] []=some (.int .i64 (G9 s c),[]):=by
  have hx:S E F.V6 [.str s,.int .u8 c.toNat] []=some (.int .i64 (G9 s c),[]):=by
    have h:=U5 ext0 (Zvx (l:=s) (c:=c.toNat))
    rw [byt_u8] at h
    exact h
  have h1:S E F.K7 [.str s,.int .u8 c.toNat] []=some (.int .i64 (G9 s c),[]):=by
    rw [S_of Zi5 rfl rfl]
    simp -dsimp (disch:=first|omega|(simp only [A4]<;>omega)|fail) only [L.K7,go_sem,reduceIte,reduceCtorEq,C9,D0,D1,D2,D3,D4,D5,D6,D7,D8,D9,E2,E3,E4,E5,E6,E7,E8,E9,A2,hx]
  have b0:bat [c] 0=c.toNat:=rfl
  rw [S_of Zrm rfl rfl]
  cases hs:(([c]:List UInt8)==s) with
  | true =>
    have:=eq_of_beq hs
    subst this
    have hi:G9 [c] c=0:=by simp [G9]
    rw [hi]
    simp -dsimp (disch:=first|omega|(simp only [A4]<;>omega)|fail) only [L.I2,go_sem,reduceIte,reduceCtorEq,C9,D0,D1,D2,D3,D4,D5,D6,D7,D8,D9,E2,E3,E4,E5,E6,E7,E8,E9,A2,hs,h1,b0]
  | false =>
    simp -dsimp (disch:=first|omega|(simp only [A4]<;>omega)|fail) only [L.I2,go_sem,reduceIte,reduceCtorEq,C9,D0,D1,D2,D3,D4,D5,D6,D7,D8,D9,E2,E3,E4,E5,E6,E7,E8,E9,A2,hs,h1,b0]
theorem sl_cut {s:List UInt8} {c:UInt8} (hs:s.length≤1000000000000):S E F.Q0 [.str s,.str [c]] []=some (if c∈s then .tup [.str (s.take (s.idxOf c)),.str (s.drop (s.idxOf c+1)),.bool true] else .tup [.str s,.str [],.bool false],[]):=by
  have h:=Yf2 (s:=s) (c:=c)
  rw [S_of Zrd rfl rfl]
  by_cases hc:c∈s
  · rw [Z3j hc] at h
    have hi:=Yo6 hc
    rw [if_pos hc]
    have e1:((s.idxOf c:Int)+((1:Nat):Int)).toNat=s.idxOf c+1:=by omega
    have e2:sub s 0 (s.idxOf c)=s.take (s.idxOf c):=by simp [sub]
    have e3:sub s (s.idxOf c+1) (s.length-(s.idxOf c+1))=s.drop (s.idxOf c+1):=B6 (by omega)
    simp -dsimp (disch:=first|omega|(simp only [A4]<;>omega)|fail) only [L.Q0,go_sem,reduceIte,reduceCtorEq,C9,D0,D1,D2,D3,D4,D5,D6,D7,D8,D9,E2,E3,E4,E5,E6,E7,E8,E9,A2,h,e1,e2,e3,Nat.sub_zero]
  · rw [Z3k hc] at h
    rw [if_neg hc]
    simp -dsimp (disch:=first|omega|(simp only [A4]<;>omega)|fail) only [L.Q0,go_sem,reduceIte,reduceCtorEq,C9,D0,D1,D2,D3,D4,D5,D6,D7,D8,D9,E2,E3,E4,E5,E6,E7,E8,E9,A2,h]
theorem Z3l {s:List UInt8} {c:UInt8} (hs:s.length≤1000000000000):S E F.O7 [.str s,.str [c]] []=some (if c∈s then .tup [.str (s.take (s.idxOf c)),.str (s.drop (s.idxOf c+1)),.bool true] else .tup [.str s,.str [],.bool false],[]):=by
  have h:=sl_cut (c:=c) hs
  rw [S_of Zqz rfl rfl]
  by_cases hc:c∈s
  · rw [if_pos hc] at h ⊢
    simp -dsimp (disch:=first|omega|(simp only [A4]<;>omega)|fail) only [L.O7,go_sem,reduceIte,reduceCtorEq,C9,D0,D1,D2,D3,D4,D5,D6,D7,D8,D9,E2,E3,E4,E5,E6,E7,E8,E9,A2,h]
  · rw [if_neg hc] at h ⊢
    simp -dsimp (disch:=first|omega|(simp only [A4]<;>omega)|fail) only [L.O7,go_sem,reduceIte,reduceCtorEq,C9,D0,D1,D2,D3,D4,D5,D6,D7,D8,D9,E2,E3,E4,E5,E6,E7,E8,E9,A2,h]
theorem Z8e {l:List UInt8} {n:Nat} {c:Int} (h:n=l.length):S E F.O1 [.lst (A0 l) n,.int .u8 c] []=some (.int .i64 (G9 l (byt c)),[]):=by
  rw [S_of Zrl rfl rfl]
  simp -dsimp (disch:=first|omega|(simp only [A4]<;>omega)|fail) only [L.O1,go_sem,reduceIte,reduceCtorEq,C9,D0,D1,D2,D3,D4,D5,D6,D7,D8,D9,E2,E3,E4,E5,E6,E7,E8,E9,A2,Zvw h]
theorem Z1m {l:List UInt8} {n:Nat} (hn:n=l.length) (hl:l.length≤1000000000000):S E F.H2 [.lst (A0 l) n,.lst [.int .u8 0] 1] []=some (.int .i64 (G9 l 0),[]):=by
  have h:=Z8e (l:=l) (n:=n) (c:=0) hn
  rw [show byt 0=0 from rfl] at h
  rw [S_of Zrc rfl rfl]
  simp -dsimp (disch:=first|omega|(simp only [A4]<;>omega)|fail) only [L.H2,go_sem,reduceIte,reduceCtorEq,C9,D0,D1,D2,D3,D4,D5,D6,D7,D8,D9,E2,E3,E4,E5,E6,E7,E8,E9,A2,BYs,h]
theorem Ylh {l:List UInt8} {n:Nat} (hn:n=l.length) (hl:l.length≤1000000000000):S E F.Z9 [.lst (A0 l) n,.lst [.int .u8 0] 1] [] =
    some (if (0:UInt8)∈l then (.tup [.lst (A0 (l.take (l.idxOf 0))) (l.idxOf 0),.lst (A0 (l.drop (l.idxOf 0+1))) (n-(l.idxOf 0+1)),.bool true],[]) else (.tup [.lst (A0 l) n,.buf (.r 0) 0 0 0 1,.bool false],[(.r 0,⟨0,true,true,false,[]⟩)])):=by
  have h:=Z1m hn hl
  subst hn
  rw [S_of Zqy rfl rfl]
  by_cases hc:(0:UInt8)∈l
  · rw [Z3j hc] at h
    have hi:=Yo6 hc
    rw [if_pos hc]
    have e1:((l.idxOf (0:UInt8):Int)+((1:Nat):Int)).toNat=l.idxOf (0:UInt8)+1:=by omega
    have e2:sub l 0 (l.idxOf (0:UInt8))=l.take (l.idxOf (0:UInt8)):=by simp [sub]
    have e3:sub l (l.idxOf (0:UInt8)+1) (l.length-(l.idxOf (0:UInt8)+1))=l.drop (l.idxOf (0:UInt8)+1):=B6 (by omega)
    simp -dsimp (disch:=first|omega|(simp only [A4]<;>omega)|fail) only [L.Z9,go_sem,reduceIte,reduceCtorEq,C9,D0,D1,D2,D3,D4,D5,D6,D7,D8,D9,E2,E3,E4,E5,E6,E7,E8,E9,A2,BYs,h,e1,e2,e3,Nat.sub_zero]
  · rw [Z3k hc] at h
    rw [if_neg hc]
    simp -dsimp (disch:=first|omega|(simp only [A4]<;>omega)|fail) only [L.Z9,go_sem,reduceIte,reduceCtorEq,C9,D0,D1,D2,D3,D4,D5,D6,D7,D8,D9,E2,E3,E4,E5,E6,E7,E8,E9,A2,BYs,h]
end Cod

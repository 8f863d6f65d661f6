/- names.ParseIdent reads just what PutIdent writes. -/
import Derived.Test.YthlnjgdoodjgoaaGreatDoorXTxt3
import Derived.Test.YthlnjgdoodjgoaaGreatDoorXTxt2
import Derived.Test.YthlnjgdoodjgoaaGreatDoorXTxt1
set_option linter.unusedSimpArgs false
set_option linter.unusedVariables false
open List renaming append_assoc → Yqy, append_nil → Ys4, cons_append → Yp9, drop_eq_getElem_cons → Yr9, drop_left' → Ysy, drop_zero → Yrp, getElem_mem → Ys2, idxOf_lt_length_of_mem → Ys7, length_append → Yqx, length_cons → Yqm, length_drop → Yqe, length_nil → Yrj, length_replicate → Ys6, length_set → Ysd, length_take → Yqd, mem_cons → Yrf, nil_append → Yry, take_left' → Ysz, take_of_length_le → Yqw, take_zero → Ys5
open Nat renaming add_sub_cancel_left → Ys3, le_refl → Yp6, sub_zero → Yq7
open Int renaming cast_ofNat_Int → Ysh, natCast_add → Ysn, tdiv_eq_ediv_of_nonneg → Ys0, tmod_eq_emod_of_nonneg → Ys1
open Bool renaming and_eq_true → Yql, false_and → Ysk, true_and → Ysi
open Nat renaming reduceEqDiff → B2, reduceAdd → B3, reduceSub → B4, reduceMul → B5, reduceDiv → B6, reduceMod → B7, reduceBEq → B8, reduceLeDiff → B9, reduceLT → C0
open Int renaming reduceEq → C1, reduceNe → C2, reduceLT → C3, reduceLE → C4, reduceBEq → C5, reduceBNe → C6, reduceToNat → C7, reduceAdd → C8, reduceSub → C9, reduceMul → D0, reduceNeg → A4
namespace Cod
open Go
theorem Z35 {s:List UInt8} (hs:s.length≤1000000000000):∃ a b c d ok,S E F.H1 [.str s] []=some (.tup [.agg [.str a,.str b,.str c,.str d],.bool ok],[])∧c.length≤1000000000000∧d.length≤1000000000000:=by
  have hsub:∀ (l:List UInt8) (a n:Nat),(sub l a n).length≤l.length:=by
    intro l a n;unfold sub;rw [Yqd,Yqe];omega
  rcases Zl7 s 32 s.length with h|⟨i,h,hi,_⟩
  · exact ⟨[],[],[],[],false,cut_a hs h,by simp,by simp⟩
  · have hr:=hsub s 0 i
    have hz:=hsub s (i+1) (s.length-(i+1))
    rcases Zl7 (sub s 0 i) 32 (sub s 0 i).length with h1|⟨j,h1,hj,_⟩
    · exact ⟨[],[],[],_,false,cut_b hs h hi rfl rfl h1,by simp,by omega⟩
    · have hq:=hsub (sub s 0 i) (j+1) ((sub s 0 i).length-(j+1))
      by_cases h2:Lib.lastIndex (sub (sub s 0 i) 0 j) [32,60]<0∨Zfj (sub (sub s 0 i) 0 j) [62]=false
      · exact ⟨[],[],_,_,false,cut_c hs h hi rfl rfl h1 hj rfl rfl h2,by omega,by omega⟩
      · have h3:¬ Lib.lastIndex (sub (sub s 0 i) 0 j) [32,60]<0:=fun x=>h2 (.inl x)
        have h4:Zfj (sub (sub s 0 i) 0 j) [62]=true:=by
          cases hb:Zfj (sub (sub s 0 i) 0 j) [62]
          · exact absurd (.inr hb) h2
          · rfl
        rcases Z34 (sub (sub s 0 i) 0 j) with h5|⟨k,h5⟩
        · exact absurd h5 h3
        · exact ⟨_,_,_,_,true,cut_d hs h hi rfl rfl h1 hj rfl rfl h5 (Ya6 h5 h4) h4,by omega,by omega⟩
theorem Zu4 {a b:List UInt8}:sub (a++b) 0 a.length=a:=by unfold sub;simp
theorem Zzc {a b:List UInt8} {x:UInt8} {n m:Nat} (hn:n=a.length+1) (hm:m=b.length):sub (a++x::b) n m=b:=by
  subst hn hm;unfold sub;rw [show a++x::b=(a++[x])++b by simp,Ysy (by simp),List.take_length]
theorem Zfk {s:List UInt8} (h:Y0 s=true):0∉s∧10∉s∧60∉s∧62∉s:=by
  unfold Y0 at h
  simp only [Yql,Bool.not_eq_true',List.contains_eq_mem,decide_eq_false_iff_not] at h
  exact ⟨h.2.1,h.2.2.1,h.2.2.2.1,h.2.2.2.2⟩
def Y4 (z:Int):Int:=if z<0 then -z else z
theorem Zhb (z:Int):Zbd z=(if z<0 then 45 else 43)::(two (Y4 z/60)++two (Y4 z%60)):=rfl
theorem Zf8 {z:Int} (h0 : -1439≤z) (h1:z≤1439):0≤Y4 z∧Y4 z<1440:=by unfold Y4;split<;>omega
theorem Ybb {z:Int} (h0 : -1439≤z) (h1:z≤1439):32∉Zbd z:=by
  obtain ⟨a0,a1⟩:=Zf8 h0 h1
  rw [Zhb]
  have:=Zu0 (Z6h (a:=Y4 z/60) (b:=Y4 z%60) (by omega) (by omega) (by omega) (by omega)).1 (x:=32) (by unfold Zcf;decide)
  simp only [Yrf,not_or]
  refine ⟨?_,this⟩
  split<;>decide
theorem Zoe (z:Int):(Zbd z).length=5:=rfl
theorem Zmx (i:Idt):H7 i=(i.name++[32,60]++(i.email++[62])++32::Lib.itoa i.time)++32::Zbd i.zone:=by
  unfold H7;simp
theorem Zcg {i:Idt} (h:E6 i=true):(H7 i).length≤1000:=by
  obtain ⟨p0,p1,t0,t1,z0,z1⟩:=(R0 i).1 h
  have hl:=Lib.itoa_length_le i.time (by omega) (by omega)
  have hn:=Zag p0
  have he:=Zag p1
  unfold H7
  simp only [Yqx,Yqm,Yrj,Zoe]
  omega
theorem Z36 {i:Idt} (h:E6 i=true):S E F.H1 [.str (H7 i)] []=some (.tup [.agg [.str i.name,.str i.email,.str (Lib.itoa i.time),.str (Zbd i.zone)],.bool true],[]):=by
  obtain ⟨p0,p1,t0,t1,z0,z1⟩:=(R0 i).1 h
  have hs:=Zcg h
  obtain ⟨d0,_,_⟩:=Zka t0
  have m1:=Zu0 d0 (x:=32) (by unfold Zcf;decide)
  have m2:=Ybb z0 z1
  obtain ⟨_,_,e60,_⟩:=Zfk p1
  have m3:60∉i.email++[62]:=by simp [e60]
  have hend:Zfj (i.name++[32,60]++(i.email++[62])) [62]=true:=by
    rw [ends1]
    refine ⟨by simp,?_⟩
    rw [←Yqy]
    simp
  have hlen:(i.name++[32,60]++(i.email++[62])).length=i.name.length+2+(i.email.length+1):=by simp only [Yqx,Yqm,Yrj]
  have:=cut_d (s:=H7 i) (i:=(i.name++[32,60]++(i.email++[62])++32::Lib.itoa i.time).length) (r:=i.name++[32,60]++(i.email++[62])++32::Lib.itoa i.time) (z:=Zbd i.zone) (j:=(i.name++[32,60]++(i.email++[62])).length) (q:=i.name++[32,60]++(i.email++[62])) (t:=Lib.itoa i.time) (k:=i.name.length)
    (by omega) (by rw [Zmx];exact Zqd m2) (by rw [Zmx];simp) (by rw [Zmx];exact Zu4) (by rw [Zmx];exact Zzc rfl (by simp only [Yqx,Yqm];omega))
    (Zqd m1) (by simp) Zu4 (Zzc rfl (by simp only [Yqx,Yqm];omega)) (Yio m3) (by rw [hlen];omega) hend
  rw [this]
  have e1:sub (i.name++[32,60]++(i.email++[62])) 0 i.name.length=i.name:=by rw [Yqy];exact Zu4
  have e2:sub (i.name++[32,60]++(i.email++[62])) (i.name.length+2) ((i.name++[32,60]++(i.email++[62])).length-1-(i.name.length+2))=i.email:=by
    rw [hlen,show i.name.length+2+(i.email.length+1)-1-(i.name.length+2)=i.email.length by omega]
    unfold sub
    rw [Ysy (by simp),Ysz rfl]
  rw [e1,e2]
theorem Z37 {s:List UInt8} {v:Int} (h:Lib.atoiAll s=.ok v) : -9223372036854775808≤v∧v<9223372036854775808:=by
  unfold Lib.atoiAll at h
  split at h
  · cases h
  · dsimp only at h
    split at h
    · cases h
    · cases h
    · split at h
      · cases h
      · split at h
        · cases h
        · cases h
          split<;>omega
def Zbe:List AV:=[.str [],.str [],.int .i64 0,.int .i64 0]
def Zek:AV:=.tup [.agg Zbe,.int .i64 4]
theorem Zu5 {i:Idt} (h:E6 i=true):S E F.I4 [.str (H7 i)] []=some (.tup [.agg i.cells,.int .i64 0],[]):=by
  obtain ⟨p0,p1,t0,t1,z0,z1⟩:=(R0 i).1 h
  obtain ⟨a0,a1⟩:=Zf8 z0 z1
  have hs:=Zcg h
  have hc:=Z36 h
  have hl:=Lib.itoa_length_le i.time (by omega) (by omega)
  obtain ⟨d0,d1,d2⟩:=Zka t0
  have ht:=Zuj (s:=Lib.itoa i.time) (by omega)
  rw [show Zh2 (Lib.itoa i.time)=.tup [.int .i64 i.time,.nili] by unfold Zh2;rw [Zza d2 d0 (by omega)];simp only [d1]] at ht
  obtain ⟨q0,q1⟩:=Z6h (a:=Y4 i.zone/60) (b:=Y4 i.zone%60) (by omega) (by omega) (by omega) (by omega)
  have hz:=Zuj (s:=two (Y4 i.zone/60)++two (Y4 i.zone%60)) (by simp only [two,Yqx,Yqm,Yrj];omega)
  rw [show Zh2 (two (Y4 i.zone/60)++two (Y4 i.zone%60))=.tup [.int .i64 (Y4 i.zone/60*100+Y4 i.zone%60),.nili] by unfold Zh2;rw [Zza (by simp [two]) q0 (by omega)];simp only [q1]] at hz
  have e3:sub (Zbd i.zone) 1 4=two (Y4 i.zone/60)++two (Y4 i.zone%60):=rfl
  have e4:=Zoe i.zone
  have hp:S E F.K5 [.agg [.str i.name,.str i.email,.int .i64 i.time,.int .i64 i.zone]] []=some (.tup [.str (H7 i),.int .i64 0],[]):=by
    have hp:=Zha (i:=i)
    unfold Z33 at hp
    rw [if_pos h] at hp
    exact hp
  have e5:(Y4 i.zone/60*100+Y4 i.zone%60)/100*60+(Y4 i.zone/60*100+Y4 i.zone%60)%100=Y4 i.zone:=by omega
  have e7:(H7 i != H7 i)=false:=by simp
  rw [S_of Zjq rfl rfl]
  by_cases hn:i.zone<0
  · have hz2:Y4 i.zone = - i.zone:=by unfold Y4;rw [if_pos hn]
    have hb:bat (Zbd i.zone) 0=45:=by rw [Zhb,if_pos hn];rfl
    have e6:0-Y4 i.zone=i.zone:=by omega
    simp -dsimp (disch:=first|omega|(simp only [A5,E4]<;>omega)|fail) only [L.I4,go_sem,reduceIte,reduceCtorEq,B2,B3,B4,B5,B6,B7,B8,B9,C0,C1,C2,C3,C4,C5,C6,C7,C8,C9,D0,A4,hc,ht,hz,e3,e4,R8,T9,e5,hb,e6,hp,e7,Idt.cells]
  · have hz2:Y4 i.zone=i.zone:=by unfold Y4;rw [if_neg hn]
    have hb:bat (Zbd i.zone) 0=43:=by rw [Zhb,if_neg hn];rfl
    rw [hz2] at hz e3 e5
    simp -dsimp (disch:=first|omega|(simp only [A5,E4]<;>omega)|fail) only [L.I4,go_sem,reduceIte,reduceCtorEq,B2,B3,B4,B5,B6,B7,B8,B9,C0,C1,C2,C3,C4,C5,C6,C7,C8,C9,D0,A4,hc,ht,hz,e3,e4,R8,T9,e5,hb,hp,e7,Idt.cells]
theorem Zii (s:List UInt8):(∃ v,Lib.atoiAll s=.ok v∧Zh2 s=.tup [.int .i64 v,.nili] ∧ -9223372036854775808≤v∧v<9223372036854775808)∨∃ v T,Zh2 s=.tup [.int .i64 v,.ifc T .junk]:=by
  unfold Zh2
  split
  · rename_i v h
    left;exact ⟨v,h,rfl,Z37 h⟩
  · right;exact ⟨_,_,rfl⟩
  · right;exact ⟨_,_,rfl⟩
theorem Yov {z:Int} (h0 : -9223372036854775808≤z) (h1:z<9223372036854775808):∃ q r,z.tdiv 100=q∧z.tmod 100=r ∧ -92233720368547758≤q∧q≤92233720368547758 ∧ -100<r∧r<100:=by
  by_cases h:0≤z
  · exact ⟨_,_,rfl,rfl,by rw [Ys0 h];omega,by rw [Ys0 h];omega,by rw [Ys1 h];omega,by rw [Ys1 h];omega⟩
  · obtain ⟨y,rfl⟩:∃ y,z = -y:=⟨-z,by omega⟩
    rw [Int.neg_tdiv,Int.neg_tmod]
    exact ⟨_,_,rfl,rfl,by rw [Ys0 (by omega)];omega,by rw [Ys0 (by omega)];omega,by rw [Ys1 (by omega)];omega,by rw [Ys1 (by omega)];omega⟩
theorem Yit {s:List UInt8} (h:∀ i,E6 i=true→H7 i≠s) (a b:List UInt8) (t z:Int):∃ p e,S E F.K5 [.agg [.str a,.str b,.int .i64 t,.int .i64 z]] []=some (.tup [.str p,.int .i64 e],[])∧(e=3∨e=0∧(p==s)=false):=by
  have hp:=Zha (i:=⟨a,b,t,z⟩)
  unfold Z33 at hp
  by_cases hi:E6 ⟨a,b,t,z⟩=true
  · rw [if_pos hi] at hp
    exact ⟨_,_,hp,.inr ⟨rfl,by simpa using h _ hi⟩⟩
  · rw [if_neg hi] at hp
    exact ⟨_,_,hp,.inl rfl⟩
theorem Zzd {s:List UInt8} (hs:s.length≤1000000000000) (h:∀ i,E6 i=true→H7 i≠s):S E F.I4 [.str s] []=some (Zek,[]):=by
  obtain ⟨a,b,c,d,ok,hc,lc,ld⟩:=Z35 hs
  rw [S_of Zjq rfl rfl]
  cases ok
  · simp -dsimp (disch:=first|omega|(simp only [A5,E4]<;>omega)|fail) only [L.I4,go_sem,reduceIte,reduceCtorEq,B2,B3,B4,B5,B6,B7,B8,B9,C0,C1,C2,C3,C4,C5,C6,C7,C8,C9,D0,A4,hc,Zek,Zbe]
  · by_cases hd:d.length=5
    · have ht:=Zuj (s:=c) (by omega)
      have hsl:(sub d 1 4).length≤4:=by unfold sub;rw [Yqd];omega
      have hz:=Zuj (s:=sub d 1 4) (by omega)
      rcases Zii c with ⟨t,_,e1,_⟩|⟨t,T1,e1⟩
      · rcases Zii (sub d 1 4) with ⟨z,_,e2,z0,z1⟩|⟨z,T2,e2⟩
        · obtain ⟨q,r,hq,hr,q0,q1,r0,r1⟩:=Yov z0 z1
          rw [e1] at ht
          rw [e2] at hz
          by_cases hb:bat d 0=45
          · obtain ⟨p,e,hp,hpe⟩:=Yit h a b t (0-(q*60+r))
            rcases hpe with rfl|⟨rfl,hne⟩
            · simp -dsimp (disch:=first|omega|(simp only [A5,E4]<;>omega)|fail) only [L.I4,go_sem,reduceIte,reduceCtorEq,B2,B3,B4,B5,B6,B7,B8,B9,C0,C1,C2,C3,C4,C5,C6,C7,C8,C9,D0,A4,hc,ht,hz,hd,hq,hr,hb,hp,Zek,Zbe]
            · simp -dsimp (disch:=first|omega|(simp only [A5,E4]<;>omega)|fail) only [L.I4,go_sem,reduceIte,reduceCtorEq,B2,B3,B4,B5,B6,B7,B8,B9,C0,C1,C2,C3,C4,C5,C6,C7,C8,C9,D0,A4,hc,ht,hz,hd,hq,hr,hb,hp,hne,Zek,Zbe]
          · obtain ⟨p,e,hp,hpe⟩:=Yit h a b t (q*60+r)
            rcases hpe with rfl|⟨rfl,hne⟩
            · simp -dsimp (disch:=first|omega|(simp only [A5,E4]<;>omega)|fail) only [L.I4,go_sem,reduceIte,reduceCtorEq,B2,B3,B4,B5,B6,B7,B8,B9,C0,C1,C2,C3,C4,C5,C6,C7,C8,C9,D0,A4,hc,ht,hz,hd,hq,hr,hb,hp,Zek,Zbe]
            · simp -dsimp (disch:=first|omega|(simp only [A5,E4]<;>omega)|fail) only [L.I4,go_sem,reduceIte,reduceCtorEq,B2,B3,B4,B5,B6,B7,B8,B9,C0,C1,C2,C3,C4,C5,C6,C7,C8,C9,D0,A4,hc,ht,hz,hd,hq,hr,hb,hp,hne,Zek,Zbe]
        · rw [e1] at ht
          rw [e2] at hz
          simp -dsimp (disch:=first|omega|(simp only [A5,E4]<;>omega)|fail) only [L.I4,go_sem,reduceIte,reduceCtorEq,B2,B3,B4,B5,B6,B7,B8,B9,C0,C1,C2,C3,C4,C5,C6,C7,C8,C9,D0,A4,hc,ht,hz,hd,Zek,Zbe]
      · rw [e1] at ht
        rcases Zii (sub d 1 4) with ⟨z,_,e2,z0,z1⟩|⟨z,T2,e2⟩
        · rw [e2] at hz
          simp -dsimp (disch:=first|omega|(simp only [A5,E4]<;>omega)|fail) only [L.I4,go_sem,reduceIte,reduceCtorEq,B2,B3,B4,B5,B6,B7,B8,B9,C0,C1,C2,C3,C4,C5,C6,C7,C8,C9,D0,A4,hc,ht,hz,hd,Zek,Zbe]
        · rw [e2] at hz
          simp -dsimp (disch:=first|omega|(simp only [A5,E4]<;>omega)|fail) only [L.I4,go_sem,reduceIte,reduceCtorEq,B2,B3,B4,B5,B6,B7,B8,B9,C0,C1,C2,C3,C4,C5,C6,C7,C8,C9,D0,A4,hc,ht,hz,hd,Zek,Zbe]
    · simp -dsimp (disch:=first|omega|(simp only [A5,E4]<;>omega)|fail) only [L.I4,go_sem,reduceIte,reduceCtorEq,B2,B3,B4,B5,B6,B7,B8,B9,C0,C1,C2,C3,C4,C5,C6,C7,C8,C9,D0,A4,hc,hd,Zek,Zbe]
end Cod
namespace Cod
open Go
def scn (s:List UInt8) (c:UInt8):Nat→Nat→Nat
  | 0,i=>i
  | m+1,i=>if s.getD i 0=c then i else scn s c m (i+1)
theorem Yiu (s:List UInt8) (c:UInt8):∀ m i,i≤scn s c m i∧scn s c m i≤i+m:=by
  intro m
  induction m with
  | zero=>intro i;simp [scn]
  | succ m ih =>
    intro i
    unfold scn
    split
    · omega
    · have:=ih (i+1);omega
theorem Z6i (s:List UInt8) (c:UInt8):∀ m i,scn s c m i<i+m→s.getD (scn s c m i) 0=c:=by
  intro m
  induction m with
  | zero=>intro i h;simp [scn] at h
  | succ m ih =>
    intro i h
    unfold scn at h ⊢
    split
    · rename_i h1;exact h1
    · rename_i h1
      rw [if_neg h1] at h
      exact ih (i+1) (by omega)
theorem Yiv (s:List UInt8) (c:UInt8) (k:Nat) (hk:s.getD k 0=c):∀ m i,i≤k→k<i+m→(∀ j,i≤j→j<k→s.getD j 0≠c)→scn s c m i=k:=by
  intro m
  induction m with
  | zero=>intro i h1 h2;omega
  | succ m ih =>
    intro i h1 h2 h3
    unfold scn
    by_cases h:i=k
    · rw [h,if_pos hk]
    · rw [if_neg (h3 i (Yp6 _) (by omega))]
      exact ih (i+1) (by omega) (by omega) (fun j a b=>h3 j (by omega) b)
def σD:A6:=[(.s 1000000 0,⟨0,true,true,true,[.str [],.str [],.int .i64 0,.int .i64 0]⟩)]
theorem dp_l0 (k:List It) {s:List UInt8} {n:Int} (hs:s.length≤1000000000000):∀ (m i:Nat),i+m=s.length →
    X E [.cell 2 (some 4),.tmp 3] (.c L.D4.x0::.lp [0,2,4,5] L.D4.x0::.blk 0::k) ⟨[(0,.str s),(2,.ref (.s 1000000 0) 0 0),(4,.int .i64 n),(5,.int .i64 i)],σD⟩ =
    X E [.cell 2 (some 4),.tmp 3] k ⟨[(0,.str s),(2,.ref (.s 1000000 0) 0 0),(4,.int .i64 n),(5,.int .i64 (scn s 60 m i)),(21,.bool false)],σD⟩:=by
  intro m
  induction m with
  | zero =>
    intro i hi
    rw [G9 L.D4.x0.eq_1,scn]
    simp -dsimp (disch:=first|omega|(simp only [A5,E4]<;>omega)|fail) only [go_sem,reduceIte,reduceCtorEq,B2,B3,B4,B5,B6,B7,B8,B9,C0,C1,C2,C3,C4,C5,C6,C7,C8,C9,D0,A4,σD]
  | succ m ih =>
    intro i hi
    have hp:i<s.length:=by omega
    rw [G9 L.D4.x0.eq_1,scn]
    by_cases hc:s.getD i 0=60
    · rw [if_pos hc]
      have hb:(bat s i != 60)=false:=Yha (by unfold bat;rw [hc];rfl)
      simp -dsimp (disch:=first|omega|(simp only [A5,E4]<;>omega)|fail) only [go_sem,reduceIte,reduceCtorEq,B2,B3,B4,B5,B6,B7,B8,B9,C0,C1,C2,C3,C4,C5,C6,C7,C8,C9,D0,A4,hp,hb,σD]
    · rw [if_neg hc,←ih (i+1) (by omega)]
      have hb:(bat s i != 60)=true:=Zny (fun h=>hc (UInt8.toNat_inj.1 (by unfold bat at h;show (s.getD i 0).toNat=60;omega)))
      simp -dsimp (disch:=first|omega|(simp only [A5,E4]<;>omega)|fail) only [go_sem,reduceIte,reduceCtorEq,B2,B3,B4,B5,B6,B7,B8,B9,C0,C1,C2,C3,C4,C5,C6,C7,C8,C9,D0,A4,hp,hb,σD]
      rfl
theorem dp_l1 (k:List It) {s:List UInt8} {n a:Int} (hs:s.length≤1000000000000):∀ (m i:Nat),i+m=s.length →
    X E [.cell 2 (some 4),.tmp 3] (.c L.D4.x1::.lp [0,2,4,5,6] L.D4.x1::.blk 2::k) ⟨[(0,.str s),(2,.ref (.s 1000000 0) 0 0),(4,.int .i64 n),(5,.int .i64 a),(6,.int .i64 i)],σD⟩ =
    X E [.cell 2 (some 4),.tmp 3] k ⟨[(0,.str s),(2,.ref (.s 1000000 0) 0 0),(4,.int .i64 n),(5,.int .i64 a),(6,.int .i64 (scn s 62 m i)),(34,.bool false)],σD⟩:=by
  intro m
  induction m with
  | zero =>
    intro i hi
    rw [G9 L.D4.x1.eq_1,scn]
    simp -dsimp (disch:=first|omega|(simp only [A5,E4]<;>omega)|fail) only [go_sem,reduceIte,reduceCtorEq,B2,B3,B4,B5,B6,B7,B8,B9,C0,C1,C2,C3,C4,C5,C6,C7,C8,C9,D0,A4,σD]
  | succ m ih =>
    intro i hi
    have hp:i<s.length:=by omega
    rw [G9 L.D4.x1.eq_1,scn]
    by_cases hc:s.getD i 0=62
    · rw [if_pos hc]
      have hb:(bat s i != 62)=false:=Yha (by unfold bat;rw [hc];rfl)
      simp -dsimp (disch:=first|omega|(simp only [A5,E4]<;>omega)|fail) only [go_sem,reduceIte,reduceCtorEq,B2,B3,B4,B5,B6,B7,B8,B9,C0,C1,C2,C3,C4,C5,C6,C7,C8,C9,D0,A4,hp,hb,σD]
    · rw [if_neg hc,←ih (i+1) (by omega)]
      have hb:(bat s i != 62)=true:=Zny (fun h=>hc (UInt8.toNat_inj.1 (by unfold bat at h;show (s.getD i 0).toNat=62;omega)))
      simp -dsimp (disch:=first|omega|(simp only [A5,E4]<;>omega)|fail) only [go_sem,reduceIte,reduceCtorEq,B2,B3,B4,B5,B6,B7,B8,B9,C0,C1,C2,C3,C4,C5,C6,C7,C8,C9,D0,A4,hp,hb,σD]
      rfl
theorem Z38:∀ (l:List UInt8) (v:Int),0≤v → -1≤Zob l v∧Zob l v<(v+1)*10^l.length:=by
  intro l
  induction l with
  | nil=>intro v h;simp only [Zob,Yrj,Int.pow_zero];omega
  | cons c r ih =>
    intro v h
    unfold Zob
    have hpos:(0:Int)<10^r.length:=Int.pow_pos (by omega)
    split
    · refine ⟨by omega,?_⟩
      have:(0:Int)<(v+1)*10^(c::r).length:=Int.mul_pos (by omega) (Int.pow_pos (by omega))
      omega
    · rename_i hc
      obtain ⟨h1,h2⟩:=ih (10*v+(c.toNat-48)) (by omega)
      refine ⟨h1,Int.lt_of_lt_of_le h2 ?_⟩
      rw [Yqm,Int.pow_succ,Int.mul_comm (10^r.length) 10,←Int.mul_assoc]
      exact Int.mul_le_mul_of_nonneg_right (by omega) (Int.le_of_lt hpos)
theorem Z39 (l:List UInt8) : -1≤Zoc l∧Zoc l<10000000000000:=by
  unfold Zoc
  split
  · omega
  · rename_i h
    obtain ⟨h1,h2⟩:=Z38 l 0 (by omega)
    refine ⟨h1,?_⟩
    have h3:(10:Int)^l.length≤10^13:=by exact_mod_cast Nat.pow_le_pow_right (by omega) (by omega)
    have h4:(10:Int)^13=10000000000000:=by decide
    omega
def Zij (s:List UInt8):Int:=Zoc (s.drop (s.length-6+2))
def Zhu (s:List UInt8):Int:=if s.getD (s.length-6+1) 0=45 then 0-(Zij s/100*60+Zij s%100) else Zij s/100*60+Zij s%100
def P6 (s:List UInt8):Nat:=scn s 60 s.length 0
def Zad (s:List UInt8):Nat:=scn s 62 (s.length-P6 s) (P6 s)
def Zgi (s:List UInt8):Idt:=⟨s.take (P6 s-1),sub s (P6 s+1) (Zad s-(P6 s+1)),Zoc (sub s (Zad s+2) (s.length-6-(Zad s+2))),Zhu s⟩
def Zdi (s:List UInt8):Bool:=decide (6≤s.length∧1≤P6 s∧Zad s+2+6≤s.length∧0≤Zij s)&&(E6 (Zgi s)&&decide (H7 (Zgi s)=s))
theorem Zl9 {s:List UInt8} (hs:s.length≤1000000000000):S E F.D4 [.str s] []=some (if Zdi s=true then .tup [.agg (Zgi s).cells,.int .i64 0] else Zek,[]):=by
  have h0:=dp_l0 [.c L.D4.r0] (n:=(s.length:Int)-6) hs s.length 0 (by omega)
  have ha:=Yiu s 60 s.length 0
  have h1:=dp_l1 [.c L.D4.r1] (n:=(s.length:Int)-6) (a:=P6 s) hs (s.length-P6 s) (P6 s) (by unfold P6;omega)
  have hb:=Yiu s 62 (s.length-P6 s) (P6 s)
  have hah:P6 s<s.length→s.getD (P6 s) 0=60:=fun h=>Z6i s 60 s.length 0 (by unfold P6 at h;omega)
  have hbh:Zad s<s.length→s.getD (Zad s) 0=62:=fun h=>Z6i s 62 (s.length-P6 s) (P6 s) (by unfold Zad at h;omega)
  simp only [Ysh] at h0
  change X E _ _ _=X E _ _ ⟨[_,_,_,(5,.int .i64 (P6 s)),_],_⟩ at h0
  change X E _ _ _=X E _ _ ⟨[_,_,_,_,(6,.int .i64 (Zad s)),_],_⟩ at h1
  change P6 s≤Zad s∧Zad s≤_ at hb
  change 0≤P6 s∧P6 s≤_ at ha
  unfold σD at h0 h1
  have hx:S E F.D4 [.str s] []=X E [.cell 2 (some 4),.tmp 3] [.c L.D4.r1] ⟨[(0,.str s),(2,.ref (.s 1000000 0) 0 0),(4,.int .i64 ((s.length:Int)-6)),(5,.int .i64 (P6 s)),(6,.int .i64 (Zad s)),(34,.bool false)],[(.s 1000000 0,⟨0,true,true,true,[.str [],.str [],.int .i64 0,.int .i64 0]⟩)]⟩:=by
    rw [S_of Zst rfl rfl]
    simp -dsimp (disch:=first|omega|(simp only [A5,E4]<;>omega)|fail) only [L.D4,go_sem,reduceIte,reduceCtorEq,B2,B3,B4,B5,B6,B7,B8,B9,C0,C1,C2,C3,C4,C5,C6,C7,C8,C9,D0,A4]
    rw [h0]
    simp -dsimp (disch:=first|omega|(simp only [A5,E4]<;>omega)|fail) only [L.D4.r0,go_sem,reduceIte,reduceCtorEq,B2,B3,B4,B5,B6,B7,B8,B9,C0,C1,C2,C3,C4,C5,C6,C7,C8,C9,D0,A4]
    rw [h1]
  rw [hx]
  clear hx h0 h1
  by_cases c1:6≤s.length
  · by_cases c2:1≤P6 s
    · by_cases c3:Zad s+2+6≤s.length
      · have hz:S E F.G7 [.str (s.drop (s.length-6+2))] []=some (.int .i64 (Zij s),[]):=Zqa
        have e1:((s.length:Int)-6+2).toNat=s.length-6+2:=by omega
        have e2:sub s (s.length-6+2) (s.length-(s.length-6+2))=s.drop (s.length-6+2):=D6 (by omega)
        by_cases c4:0≤Zij s
        · have hlt:P6 s<s.length:=by omega
          have hne:P6 s≠Zad s:=by
            intro h
            have a1:=hah hlt
            have a2:=hbh (by omega)
            rw [h,a2] at a1
            cases a1
          have e3:((s.length:Int)-6+1).toNat=s.length-6+1:=by omega
          have e4:((P6 s:Int)-1).toNat=P6 s-1:=by omega
          have e5:((P6 s:Int)+1).toNat=P6 s+1:=by omega
          have e6:((Zad s:Int)+2).toNat=Zad s+2:=by omega
          have e7:((s.length:Int)-6).toNat=s.length-6:=by omega
          have hn:S E F.G7 [.str (sub s (Zad s+2) (s.length-6-(Zad s+2)))] []=some (.int .i64 (Zoc (sub s (Zad s+2) (s.length-6-(Zad s+2)))),[]):=Zqa
          obtain ⟨z0,z1⟩:=Z39 (s.drop (s.length-6+2))
          change -1≤Zij s at z0
          change Zij s<_ at z1
          have hsub:∀ (a n:Nat),(sub s a n).length≤s.length:=by
            intro a n;unfold sub;rw [Yqd,Yqe];omega
          have hid:=Zld (i:=Zgi s) (by have:=hsub 0 (P6 s-1);exact Nat.le_trans this hs) (by have:=hsub (P6 s+1) (Zad s-(P6 s+1));exact Nat.le_trans this hs)
          have hb45:(bat s (s.length-6+1)==45)=decide (s.getD (s.length-6+1) 0=45):=by
            by_cases h:s.getD (s.length-6+1) 0=45
            · rw [decide_eq_true h];unfold bat;rw [h];rfl
            · rw [decide_eq_false h];exact Zey (fun h2=>h (UInt8.toNat_inj.1 (by unfold bat at h2;show (s.getD (s.length-6+1) 0).toNat=45;omega)))
          have hcell:∀ w,Zhu s=w→(Zgi s).cells=[.str (sub s 0 (P6 s-1)),.str (sub s (P6 s+1) (Zad s-(P6 s+1))),.int .i64 (Zoc (sub s (Zad s+2) (s.length-6-(Zad s+2)))),.int .i64 w]:=by
            intro w hw;rw [←hw];rfl
          have eOK:Zdi s=(E6 (Zgi s)&&decide (H7 (Zgi s)=s)):=by unfold Zdi;simp [c1,c2,c3,c4]
          rw [eOK]
          by_cases hm:s.getD (s.length-6+1) 0=45
          · have hw:=hcell (0-(Zij s/100*60+Zij s%100)) (by unfold Zhu;rw [if_pos hm])
            rw [decide_eq_true hm] at hb45
            rw [hw] at hid
            cases ho:E6 (Zgi s)
            · rw [ho] at hid
              simp -dsimp (disch:=first|omega|(simp only [A5,E4]<;>omega)|fail) only [L.D4.r1,go_sem,reduceIte,reduceCtorEq,B2,B3,B4,B5,B6,B7,B8,B9,C0,C1,C2,C3,C4,C5,C6,C7,C8,C9,D0,A4,Zek,Zbe,e1,e2,e3,e4,e5,e6,e7,hz,R8,T9,hb45,hn,Yq7,hid,Ysk]
            · rw [ho] at hid
              have hp:=Zmv ho
              rw [hw] at hp
              by_cases he:H7 (Zgi s)=s
              · have he2:(H7 (Zgi s)==s)=true:=by simp [he]
                simp -dsimp (disch:=first|omega|(simp only [A5,E4]<;>omega)|fail) only [L.D4.r1,go_sem,reduceIte,reduceCtorEq,B2,B3,B4,B5,B6,B7,B8,B9,C0,C1,C2,C3,C4,C5,C6,C7,C8,C9,D0,A4,Zek,Zbe,e1,e2,e3,e4,e5,e6,e7,hz,R8,T9,hb45,hn,Yq7,hid,hp,he2,decide_eq_true he,Ysi,hw]
              · have he2:(H7 (Zgi s)==s)=false:=by simp [he]
                simp -dsimp (disch:=first|omega|(simp only [A5,E4]<;>omega)|fail) only [L.D4.r1,go_sem,reduceIte,reduceCtorEq,B2,B3,B4,B5,B6,B7,B8,B9,C0,C1,C2,C3,C4,C5,C6,C7,C8,C9,D0,A4,Zek,Zbe,e1,e2,e3,e4,e5,e6,e7,hz,R8,T9,hb45,hn,Yq7,hid,hp,he2,decide_eq_false he,Ysi]
          · have hw:=hcell (Zij s/100*60+Zij s%100) (by unfold Zhu;rw [if_neg hm])
            rw [decide_eq_false hm] at hb45
            rw [hw] at hid
            cases ho:E6 (Zgi s)
            · rw [ho] at hid
              simp -dsimp (disch:=first|omega|(simp only [A5,E4]<;>omega)|fail) only [L.D4.r1,go_sem,reduceIte,reduceCtorEq,B2,B3,B4,B5,B6,B7,B8,B9,C0,C1,C2,C3,C4,C5,C6,C7,C8,C9,D0,A4,Zek,Zbe,e1,e2,e3,e4,e5,e6,e7,hz,R8,T9,hb45,hn,Yq7,hid,Ysk]
            · rw [ho] at hid
              have hp:=Zmv ho
              rw [hw] at hp
              by_cases he:H7 (Zgi s)=s
              · have he2:(H7 (Zgi s)==s)=true:=by simp [he]
                simp -dsimp (disch:=first|omega|(simp only [A5,E4]<;>omega)|fail) only [L.D4.r1,go_sem,reduceIte,reduceCtorEq,B2,B3,B4,B5,B6,B7,B8,B9,C0,C1,C2,C3,C4,C5,C6,C7,C8,C9,D0,A4,Zek,Zbe,e1,e2,e3,e4,e5,e6,e7,hz,R8,T9,hb45,hn,Yq7,hid,hp,he2,decide_eq_true he,Ysi,hw]
              · have he2:(H7 (Zgi s)==s)=false:=by simp [he]
                simp -dsimp (disch:=first|omega|(simp only [A5,E4]<;>omega)|fail) only [L.D4.r1,go_sem,reduceIte,reduceCtorEq,B2,B3,B4,B5,B6,B7,B8,B9,C0,C1,C2,C3,C4,C5,C6,C7,C8,C9,D0,A4,Zek,Zbe,e1,e2,e3,e4,e5,e6,e7,hz,R8,T9,hb45,hn,Yq7,hid,hp,he2,decide_eq_false he,Ysi]
        · have e:Zdi s=false:=by unfold Zdi;simp [c4]
          rw [e]
          simp -dsimp (disch:=first|omega|(simp only [A5,E4]<;>omega)|fail) only [L.D4.r1,go_sem,reduceIte,reduceCtorEq,B2,B3,B4,B5,B6,B7,B8,B9,C0,C1,C2,C3,C4,C5,C6,C7,C8,C9,D0,A4,Zek,Zbe,e1,e2,hz]
      · have e:Zdi s=false:=by unfold Zdi;simp [c3]
        rw [e]
        simp -dsimp (disch:=first|omega|(simp only [A5,E4]<;>omega)|fail) only [L.D4.r1,go_sem,reduceIte,reduceCtorEq,B2,B3,B4,B5,B6,B7,B8,B9,C0,C1,C2,C3,C4,C5,C6,C7,C8,C9,D0,A4,Zek,Zbe]
    · have e:Zdi s=false:=by unfold Zdi;simp [c2]
      rw [e]
      simp -dsimp (disch:=first|omega|(simp only [A5,E4]<;>omega)|fail) only [L.D4.r1,go_sem,reduceIte,reduceCtorEq,B2,B3,B4,B5,B6,B7,B8,B9,C0,C1,C2,C3,C4,C5,C6,C7,C8,C9,D0,A4,Zek,Zbe]
  · have e:Zdi s=false:=by unfold Zdi;simp [c1]
    rw [e]
    simp -dsimp (disch:=first|omega|(simp only [A5,E4]<;>omega)|fail) only [L.D4.r1,go_sem,reduceIte,reduceCtorEq,B2,B3,B4,B5,B6,B7,B8,B9,C0,C1,C2,C3,C4,C5,C6,C7,C8,C9,D0,A4,Zek,Zbe]
end Cod
namespace Cod
open Go
theorem Z4a:∀ (k u:Nat),u<10^(k+1)→Lib.nDigits u≤k+1:=by
  intro k
  induction k with
  | zero=>intro u h;rw [Lib.nDigits_small (by simpa using h)];exact Yp6 _
  | succ k ih =>
    intro u h
    by_cases h1:u<10
    · rw [Lib.nDigits_small h1];omega
    · rw [Lib.nDigits_big h1]
      have:=ih (u/10) (by rw [Nat.pow_succ] at h;omega)
      omega
theorem Z4b {t:Int} (h0:0≤t) (h1:t≤1099511627776):(Lib.itoa t).length≤13:=by
  obtain ⟨u,rfl⟩:∃ u:Nat,t=u:=⟨t.toNat,by omega⟩
  rw [Lib.itoa_nonneg,Lib.decDigits_length]
  have hp:(10:Nat)^(12+1)=10000000000000:=by decide
  exact Z4a 12 u (by omega)
theorem Zof {a b:List UInt8} {j:Nat} (h:j<a.length):(a++b).getD j 0=a.getD j 0:=by
  rw [List.getD_eq_getElem?_getD,List.getElem?_append_left h,←List.getD_eq_getElem?_getD]
theorem Zik {a b:List UInt8} {j k:Nat} (h:j=a.length+k):(a++b).getD j 0=b.getD k 0:=by
  rw [List.getD_eq_getElem?_getD,List.getElem?_append_right (by omega),show j-a.length=k by omega,←List.getD_eq_getElem?_getD]
theorem Z6j {a:List UInt8} {c:UInt8} {j:Nat} (h:c∉a) (hj:j<a.length):a.getD j 0≠c:=by
  intro e
  apply h
  rw [List.getD_eq_getElem?_getD,List.getElem?_eq_getElem hj] at e
  rw [←e]
  exact Ys2 _
section
variable (i:Idt)
def pA:List UInt8:=i.name++[32]
def pB:List UInt8:=pA i++60::i.email
def pC:List UInt8:=pB i++[62,32]
def pD:List UInt8:=pC i++Lib.itoa i.time
theorem pA_len:(pA i).length=i.name.length+1:=by simp [pA]
theorem Yiw:(pB i).length=i.name.length+2+i.email.length:=by simp [pB,pA];omega
theorem Yix:(pC i).length=i.name.length+4+i.email.length:=by simp [pC,Yiw];omega
theorem Yiy:(pD i).length=i.name.length+4+i.email.length+(Lib.itoa i.time).length:=by simp [pD,Yix]
theorem Yiz:H7 i=pA i++60::(i.email++[62,32]++Lib.itoa i.time++[32]++Zbd i.zone):=by simp [H7,pA]
theorem put_b:H7 i=pB i++62::([32]++Lib.itoa i.time++[32]++Zbd i.zone):=by simp [H7,pB,pA]
theorem put_c:H7 i=pC i++(Lib.itoa i.time++([32]++Zbd i.zone)):=by simp [H7,pC,pB,pA]
theorem Yi0:H7 i=pD i++32::Zbd i.zone:=by simp [H7,pD,pC,pB,pA]
theorem put_e:H7 i=(pD i++[32])++Zbd i.zone:=by simp [Yi0]
theorem put_f:H7 i=(pD i++[32,(if i.zone<0 then 45 else 43)])++(two (Y4 i.zone/60)++two (Y4 i.zone%60)):=by simp [Yi0,Zhb]
theorem Yow:(H7 i).length=i.name.length+4+i.email.length+(Lib.itoa i.time).length+6:=by rw [Yi0,Yqx,Yiy,Yqm,Zoe]
end
theorem Zke {i:Idt} (h:E6 i=true):Zgi (H7 i)=i∧Zdi (H7 i)=true:=by
  obtain ⟨p0,p1,t0,t1,z0,z1⟩:=(R0 i).1 h
  obtain ⟨a0,a1⟩:=Zf8 z0 z1
  obtain ⟨_,_,n60,n62⟩:=Zfk p0
  obtain ⟨_,_,e60,e62⟩:=Zfk p1
  obtain ⟨d0,d1,d2⟩:=Zka t0
  have hl:=Yow i
  have h13:=Z4b t0 t1
  have hA:=pA_len i
  have hB:=Yiw i
  have hC:=Yix i
  have hD:=Yiy i
  have hat:P6 (H7 i)=i.name.length+1:=by
    unfold P6
    apply Yiv
    · rw [Yiz,Zik (k:=0) (by omega)];rfl
    · omega
    · omega
    · intro j _ hj
      rw [Yiz,Zof (by omega)]
      exact Z6j (by simp [pA,n60]) (by omega)
  have hto:Zad (H7 i)=i.name.length+2+i.email.length:=by
    unfold Zad
    rw [hat]
    apply Yiv
    · rw [put_b,Zik (k:=0) (by omega)];rfl
    · omega
    · omega
    · intro j _ hj
      rw [put_b,Zof (by omega)]
      exact Z6j (by simp [pB,pA,n62,e62]) (by omega)
  obtain ⟨q0,q1⟩:=Z6h (a:=Y4 i.zone/60) (b:=Y4 i.zone%60) (by omega) (by omega) (by omega) (by omega)
  have hz:Zij (H7 i)=Y4 i.zone/60*100+Y4 i.zone%60:=by
    unfold Zij
    rw [hl,put_f,Ysy (by rw [Yqx,hD,Yqm,Yqm,Yrj];omega)]
    rw [Zzb (by simp [two]) (by simp [two]) q0,q1]
  have hzone:Zhu (H7 i)=i.zone:=by
    unfold Zhu
    rw [hz,show (Y4 i.zone/60*100+Y4 i.zone%60)/100*60+(Y4 i.zone/60*100+Y4 i.zone%60)%100=Y4 i.zone by omega]
    have hb:(H7 i).getD ((H7 i).length-6+1) 0=if i.zone<0 then 45 else 43:=by
      rw [put_e,Zik (k:=0) (by rw [←put_e,hl,Yqx,hD,Yqm,Yrj];omega)];rfl
    rw [hb]
    unfold Y4
    by_cases hn:i.zone<0
    · rw [if_pos hn,if_pos hn,if_pos rfl];omega
    · rw [if_neg hn,if_neg hn,if_neg (by decide)]
  have hI:Zgi (H7 i)=i:=by
    unfold Zgi
    rw [hat,hto,hzone]
    have e1:(H7 i).take (i.name.length+1-1)=i.name:=by
      rw [Yiz,pA,Nat.add_sub_cancel,Yqy];exact Ysz rfl
    have e2:sub (H7 i) (i.name.length+1+1) (i.name.length+2+i.email.length-(i.name.length+1+1))=i.email:=by
      unfold sub
      rw [show i.name.length+2+i.email.length-(i.name.length+1+1)=i.email.length by omega]
      rw [show H7 i=(pA i++[60])++(i.email++([62,32]++Lib.itoa i.time++[32]++Zbd i.zone)) by simp [H7,pA],Ysy (by rw [Yqx,hA];rfl),Ysz rfl]
    have e3:sub (H7 i) (i.name.length+2+i.email.length+2) ((H7 i).length-6-(i.name.length+2+i.email.length+2))=Lib.itoa i.time:=by
      unfold sub
      rw [hl,put_c,Ysy (by omega),Ysz (by omega)]
    rw [e1,e2,e3,Zzb d2 h13 d0,d1]
  refine ⟨hI,?_⟩
  unfold Zdi
  rw [hI,h,hat,hto,hz,hl]
  simp only [Ysi,Yql,decide_eq_true_eq,and_true]
  omega
theorem doc_no {s:List UInt8} (h:∀ i,E6 i=true→H7 i≠s):Zdi s=false:=by
  cases hd:Zdi s with
  | false=>rfl
  | true =>
    unfold Zdi at hd
    simp only [Yql,decide_eq_true_eq] at hd
    exact absurd hd.2.2 (h _ hd.2.1)
theorem Zu6 {i:Idt} (h:E6 i=true):S E F.D4 [.str (H7 i)] []=some (.tup [.agg i.cells,.int .i64 0],[]):=by
  obtain ⟨h1,h2⟩:=Zke h
  rw [Zl9 (by have:=Zcg h;omega),h1,h2]
  rfl
theorem Zu7 {s:List UInt8} (hs:s.length≤1000000000000) (h:∀ i,E6 i=true→H7 i≠s):S E F.D4 [.str s] []=some (Zek,[]):=by
  rw [Zl9 hs,doc_no h]
  rfl
theorem Zma (s:List UInt8):(∃ i,E6 i=true∧H7 i=s)∨∀ i,E6 i=true→H7 i≠s:=by
  by_cases h:∃ i,E6 i=true∧H7 i=s
  · exact .inl h
  · exact .inr fun i hi he=>h ⟨i,hi,he⟩
end Cod
namespace Cod
open Go
def Zf9 (n:Nat):UInt8:=[(48:UInt8),49,50,51,52,53,54,55,56,57,97,98,99,100,101,102].getD n 0
def hexB (b:UInt8):List UInt8:=[Zf9 (b.toNat/16),Zf9 (b.toNat%16)]
def O9 (id:List UInt8):List UInt8:=id.flatMap hexB
theorem Zlg (b:UInt8) (id:List UInt8):O9 (b::id)=Zf9 (b.toNat/16)::Zf9 (b.toNat%16)::O9 id:=rfl
theorem Zae (id:List UInt8):(O9 id).length=2*id.length:=by
  induction id with
  | nil=>rfl
  | cons x r ih=>rw [Zlg,Yqm,Yqm,ih,Yqm];omega
theorem Z4c:∀ n:Nat,n<16→(48≤(Zf9 n).toNat∧(Zf9 n).toNat≤57∨97≤(Zf9 n).toNat∧(Zf9 n).toNat≤102):=by decide
theorem Yi1 {id:List UInt8} {c:UInt8} (h:c∈O9 id):∃ n,n<16∧c=Zf9 n:=by
  induction id with
  | nil=>simp [O9] at h
  | cons x r ih =>
    rw [Zlg,Yrf,Yrf] at h
    have:=x.toNat_lt
    rcases h with h|h|h
    · exact ⟨_,by omega,h⟩
    · exact ⟨_,by omega,h⟩
    · exact ih h
theorem Zfl (id:List UInt8):(10:UInt8)∉O9 id:=by
  intro h
  obtain ⟨n,h1,h2⟩:=Yi1 h
  have:=Z4c n h1
  rw [←h2] at this
  simp at this
theorem Zze {id:List UInt8}:∀ {i:Nat},i<id.length→(O9 id).getD (2*i) 0=Zf9 ((id.getD i 0).toNat/16)∧(O9 id).getD (2*i+1) 0=Zf9 ((id.getD i 0).toNat%16):=by
  induction id with
  | nil=>intro i h;simp at h
  | cons x r ih =>
    intro i h
    rw [Zlg]
    cases i with
    | zero=>exact ⟨rfl,rfl⟩
    | succ i =>
      have:=ih (i:=i) (by rw [Yqm] at h;omega)
      rw [show 2*(i+1)=2*i+1+1 by omega]
      simp only [List.getD_cons_succ]
      exact this
theorem Ybc (id:List UInt8) (x:UInt8):O9 (id++[x])=O9 id++[Zf9 (x.toNat/16),Zf9 (x.toNat%16)]:=by simp [O9,hexB]
theorem Zqi {id:List UInt8} {k:Nat} (h:k<id.length):id.take (k+1)=id.take k++[id.getD k 0]:=by
  rw [List.take_succ_eq_append_getElem h];simp [List.getD,h]
theorem Yox {c:UInt8} {H T:List UInt8} (h:c∉H):(H++c::T).idxOf c=H.length:=by
  rw [List.idxOf_append,if_neg h,List.idxOf_cons_self,Nat.zero_add]
theorem Yoy {w v r:List UInt8} (hw:(10:UInt8)∉w) (hv:(10:UInt8)∉v):(w++32::(v++10::r)).idxOf 10=w.length+1+v.length:=by
  have:w++32::(v++10::r)=(w++32::v)++10::r:=by simp
  rw [this,Yox (by simp [hw,hv])]
  simp;omega
theorem Zlh:∀ {a b:List UInt8},A1 a=A1 b→a=b:=by
  intro a
  induction a with
  | nil=>intro b h;cases b with
    | nil=>rfl
    | cons=>simp [A1] at h
  | cons x a ih =>
    intro b h
    cases b with
    | nil=>simp [A1] at h
    | cons y b =>
      simp only [A1,List.map_cons,List.cons.injEq,AV.int.injEq,true_and] at h
      have h1:x=y:=UInt8.toNat_inj.1 (by have:=h.1;omega)
      rw [h1,ih (by simpa [A1] using h.2)]
theorem Zkf:∀ {xs ys:List AV},J9 (xs++ys)=(J9 xs&&J9 ys):=by
  intro xs
  induction xs with
  | nil=>intro ys;simp [J9]
  | cons x xs ih=>intro ys;rw [Yp9,J9,J9,ih,Bool.and_assoc]
theorem Zkg:∀ {xs ys:List AV},leadss (xs++ys)=(leadss xs||leadss ys):=by
  intro xs
  induction xs with
  | nil=>intro ys;simp [leadss]
  | cons x xs ih=>intro ys;rw [Yp9,leadss,leadss,ih,Bool.or_assoc]
theorem Zkh:∀ {xs ys:List AV},refsOfs (xs++ys)=refsOfs xs++refsOfs ys:=by
  intro xs
  induction xs with
  | nil=>intro ys;simp [refsOfs]
  | cons x xs ih=>intro ys;rw [Yp9,refsOfs,refsOfs,ih,Yqy]
theorem Zau {xs ys v:List AV} {i j:Nat} (h:i=xs.length+j):over (xs++ys) i v=xs++over ys j v:=by
  subst h
  induction xs with
  | nil=>simp
  | cons x xs ih =>
    rw [Yp9,Yqm,show xs.length+1+j=xs.length+j+1 by omega,Zid,ih]
    rfl
theorem Zqj {xs ys:List AV} {i j:Nat} (h:i=xs.length+j):(xs++ys)[i]? = ys[j]? := by
  subst h
  rw [List.getElem?_append_right (by omega),Ys3]
theorem Zqk {xs ys:List AV} {i j n:Nat} (h:i=xs.length+j):sub (xs++ys) i n=sub ys j n:=by
  subst h
  unfold sub
  rw [←List.drop_drop,List.drop_left]
theorem Yi2 {xs ys:List AV} {n:Nat} (h:n=xs.length):sub (xs++ys) 0 n=xs:=by
  subst h
  unfold sub
  rw [Yrp,List.take_left]
end Cod
namespace Cod
open Go
set_option maxRecDepth 100000
end Cod
namespace Cod
open Go
structure Lbl where
  tgt:List UInt8
  kind:Int
  name:List UInt8
  who:Idt
  msg:List UInt8
  htgt:tgt.length=32
def Lbl.cells (l:Lbl):List AV:=A1 l.tgt++[.int .i64 l.kind,.str l.name,.str l.who.name,.str l.who.email,.int .i64 l.who.time,.int .i64 l.who.zone,.str l.msg]
theorem Zhv (l:Lbl):(A1 l.tgt).length=32:=by rw [D8,l.htgt]
theorem Zmy (l:Lbl):l.cells.length=39:=by unfold Lbl.cells;rw [Yqx,Zhv];rfl
theorem Zql (l:Lbl):flats l.cells=true:=by unfold Lbl.cells;rw [Zay,O8];rfl
theorem Yi3 (f:Site→Nat→Option (Site × Nat)) (l:Lbl):rens f l.cells=l.cells:=rens_flats _ (Zql l)
theorem Yi4 (l:Lbl):refsOfs l.cells=[]:=by unfold Lbl.cells;rw [Zkh,Z6];rfl
theorem Ybd (l:Lbl):J9 l.cells=true:=by unfold Lbl.cells;rw [Zkf,Z4];rfl
theorem Ybe (l:Lbl):leadss l.cells=false:=by unfold Lbl.cells;rw [Zkg,Z5];rfl
theorem Yoz (l:Lbl):sub l.cells 0 39=l.cells:=Zeg (by rw [Zmy];exact Yp6 _)
theorem Zu8 (l:Lbl) (i:Nat):l.cells[32+i]? = [AV.int .i64 l.kind,.str l.name,.str l.who.name,.str l.who.email,.int .i64 l.who.time,.int .i64 l.who.zone,.str l.msg][i]? := by
  unfold Lbl.cells
  rw [List.getElem?_append_right (by rw [Zhv];omega),Zhv,Ys3]
theorem lbl_32 (l:Lbl):l.cells[32]? = some (.int .i64 l.kind):=Zu8 l 0
theorem lbl_33 (l:Lbl):l.cells[33]? = some (.str l.name):=Zu8 l 1
theorem lbl_38 (l:Lbl):l.cells[38]? = some (.str l.msg):=Zu8 l 6
theorem Yo0 (l:Lbl):sub l.cells 0 32=A1 l.tgt:=by
  unfold sub Lbl.cells
  rw [Yrp]
  exact Ysz (Zhv l)
theorem Yo1 (l:Lbl):sub l.cells 34 4=l.who.cells:=by
  unfold sub Lbl.cells
  rw [List.drop_append,Zhv,List.drop_of_length_le (by rw [Zhv];omega)]
  rfl
attribute [go_sem] Zmy Zql Yi3 Yi4 Ybd Ybe Yoz lbl_32 lbl_33 lbl_38 Yo0 Yo1
def Zli (s:List UInt8):Int:=Zbc [if decide (65536<(s.length:Int))=true then 2 else 0,if s.contains 0=true then 4 else 0]
theorem Z4d:∀ (l:List Int) (w:Int),l.foldl Zgh w=0→w=0∧∀ e∈l,e=0:=by
  intro l
  induction l with
  | nil=>intro w h;exact ⟨h,fun e he=>by simp at he⟩
  | cons a l ih =>
    intro w h
    obtain ⟨h1,h2⟩:=ih _ h
    unfold Zgh at h1
    split at h1
    · rename_i hc;exact absurd h1 hc.1
    · rename_i hc
      subst h1
      have ha:a=0:=by
        apply Classical.byContradiction
        intro hn
        exact hc ⟨hn,.inl rfl⟩
      refine ⟨rfl,fun e he=>?_⟩
      rcases List.mem_cons.1 he with rfl|he
      · exact ha
      · exact h2 e he
theorem Zqm {l:List Int} (h:Zbc l=0):∀ e∈l,e=0:=(Z4d l 0 h).2
theorem Ybf {z:Int} (h0 : -1439≤z) (h1:z≤1439):(10:UInt8)∉Zbd z:=by
  obtain ⟨a0,a1⟩:=Zf8 h0 h1
  rw [Zhb]
  have:=Zu0 (Z6h (a:=Y4 z/60) (b:=Y4 z%60) (by omega) (by omega) (by omega) (by omega)).1 (x:=10) (by unfold Zcf;decide)
  simp only [Yrf,not_or]
  refine ⟨?_,this⟩
  split<;>decide
theorem Zki {i:Idt} (h:E6 i=true):(10:UInt8)∉H7 i:=by
  obtain ⟨p0,p1,t0,t1,z0,z1⟩:=(R0 i).1 h
  obtain ⟨d0,_,_⟩:=Zka t0
  have m1:=Zu0 d0 (x:=10) (by unfold Zcf;decide)
  have m2:=Ybf z0 z1
  have n0:=(Zfk p0).2.1
  have n1:=(Zfk p1).2.1
  unfold H7
  simp only [List.mem_append,Yrf,not_or,List.not_mem_nil,not_false_eq_true,and_true]
  exact ⟨⟨⟨⟨⟨⟨n0,by decide⟩,n1⟩,by decide⟩,m1⟩,by decide⟩,m2⟩
end Cod
namespace Cod
open Go
structure Id32 where
  b:List UInt8
  h:b.length=32
instance:Inhabited Id32:=⟨⟨List.replicate 32 0,by simp⟩⟩
def Id32.cells (d:Id32):List AV:=A1 d.b
theorem Zmz (d:Id32):d.cells.length=32:=by simp [Id32.cells,D8,d.h]
theorem Ybg (d:Id32):flats d.cells=true:=O8 _
theorem Ybh (d:Id32):J9 d.cells=true:=Z4 _
theorem Ybi (d:Id32):leadss d.cells=false:=Z5 _
theorem Yi5 (d:Id32):refsOfs d.cells=[]:=Z6 _
theorem Yi6 (f:Site→Nat→Option (Site × Nat)) (d:Id32):rens f d.cells=d.cells:=Zfy f _
def ids (l:List Id32):List AV:=l.flatMap Id32.cells
def iat (l:List Id32) (i:Nat):Id32:=l.getD i default
theorem D5 (l:List Id32):(ids l).length=32*l.length:=Zg4 Zmz l
theorem Z6k:ids []=[]:=rfl
theorem Zzf (a:List Id32) (s:Id32):ids a++A1 s.b=ids (a++[s]):=by simp [ids,Id32.cells]
theorem Zqn (l:List Id32):flats (ids l)=true:=Zf3 Ybg l
theorem Ybj (l:List Id32):J9 (ids l)=true:=Zf4 Ybh l
theorem Z4e (l:List Id32):leadss (ids l)=false:=Ze0 Ybi l
theorem Zzg (l:List Id32):refsOfs (ids l)=[]:=Zhs Yi5 l
theorem Yi7 (f:Site→Nat→Option (Site × Nat)) (l:List Id32):rens f (ids l)=ids l:=Zht f (Yi6 f) l
theorem Z6l {l:List Id32} {i:Nat} (h:i<l.length):sub (ids l) (i*32) 32=A1 (iat l i).b:=Zn3 Zmz h
theorem Zzh {l:List Id32}:sub (ids l) 0 (l.length*32)=ids l:=Zeg (by rw [D5];omega)
attribute [go_sem] Zzh D5 Zqn Ybj Z4e Zzg Yi7 Z6l
def mkI (d:List UInt8):Id32:=if h:d.length=32 then ⟨d,h⟩ else default
theorem mkI_b {d:List UInt8} (h:d.length=32):(mkI d).b=d:=by unfold mkI;rw [dif_pos h]
theorem Zzi (d:Id32):mkI d.b=d:=by unfold mkI;rw [dif_pos d.h]
end Cod
namespace Cod
open Go
def Zga:List UInt8:=[97,117,116,104,111,114]
def Zgj:List UInt8:=[99,111,109,109,105,116,116,101,114]
def Zmj:List UInt8:=[116,114,101,101]
def Zzj:List UInt8:=[112,97,114,101,110,116]
structure Snap where
  tree:List UInt8
  par:List Id32
  aut:Idt
  com:Idt
  msg:List UInt8
  ht:tree.length=32
def snR (t:List UInt8) (v:AV) (a c:Idt) (m:List UInt8):List AV:=A1 t++[v,.str a.name,.str a.email,.int .i64 a.time,.int .i64 a.zone,.str c.name,.str c.email,.int .i64 c.time,.int .i64 c.zone,.str m]
def Snap.cells (s:Snap):List AV:=snR s.tree (.lst (ids s.par) s.par.length) s.aut s.com s.msg
section
variable {t m:List UInt8} {v:AV} {a c:Idt}
theorem Zu9 (h:t.length=32):(snR t v a c m).length=42:=by unfold snR;rw [Yqx,D8,h];rfl
theorem sn_32 (h:t.length=32):(snR t v a c m)[32]? = some v:=Zqj (j:=0) (by rw [D8,h])
theorem sn_41 (h:t.length=32):(snR t v a c m)[41]? = some (.str m):=Zqj (j:=9) (by rw [D8,h])
theorem Yo2 (h:t.length=32):sub (snR t v a c m) 0 32=A1 t:=Yi2 (by rw [D8,h])
theorem sn_aut (h:t.length=32):sub (snR t v a c m) 33 4=a.cells:=by
  unfold snR
  rw [Zqk (j:=1) (by rw [D8,h])];rfl
theorem sn_com (h:t.length=32):sub (snR t v a c m) 37 4=c.cells:=by
  unfold snR
  rw [Zqk (j:=5) (by rw [D8,h])];rfl
theorem sn_sub (h:t.length=32):sub (snR t v a c m) 0 42=snR t v a c m:=Zeg (by rw [Zu9 h];exact Yp6 _)
theorem Yi8:flats (snR t v a c m)=K1 v:=by
  unfold snR;rw [Zay,O8,Ysi,flats,show flats [.str a.name,.str a.email,.int .i64 a.time,.int .i64 a.zone,.str c.name,.str c.email,.int .i64 c.time,.int .i64 c.zone,.str m]=true from rfl,Bool.and_true]
theorem Yi9:J9 (snR t v a c m)=U2 v:=by
  unfold snR;rw [Zkf,Z4,Ysi,J9,show J9 [.str a.name,.str a.email,.int .i64 a.time,.int .i64 a.zone,.str c.name,.str c.email,.int .i64 c.time,.int .i64 c.zone,.str m]=true from rfl,Bool.and_true]
theorem Yja:leadss (snR t v a c m)=T4 v:=by
  unfold snR;rw [Zkg,Z5,Bool.false_or,leadss,show leadss [.str a.name,.str a.email,.int .i64 a.time,.int .i64 a.zone,.str c.name,.str c.email,.int .i64 c.time,.int .i64 c.zone,.str m]=false from rfl,Bool.or_false]
theorem Yo3:refsOfs (snR t v a c m)=X4 v:=by
  unfold snR;rw [Zkh,Z6,Yry,refsOfs,show refsOfs [.str a.name,.str a.email,.int .i64 a.time,.int .i64 a.zone,.str c.name,.str c.email,.int .i64 c.time,.int .i64 c.zone,.str m]=[] from rfl,Ys4]
theorem Zzk (f:Site→Nat→Option (Site × Nat)):∀ xs ys:List AV,rens f (xs++ys)=rens f xs++rens f ys:=by
  intro xs
  induction xs with
  | nil=>intro ys;simp [rens]
  | cons x xs ih=>intro ys;rw [Yp9,rens,rens,ih];rfl
theorem Yo4 (f:Site→Nat→Option (Site × Nat)):rens f (snR t v a c m)=snR t (ren f v) a c m:=by
  unfold snR;rw [Zzk,Zfy];rfl
theorem sn_o0 (h:t.length=32) {d:List UInt8} (hd:d.length=32):over (snR t v a c m) 0 (A1 d)=snR d v a c m:=by
  unfold snR over
  rw [Ys5,Yry,Nat.zero_add,D8,hd,Ysy (by rw [D8,h])]
theorem sn_o32 (h:t.length=32) {x:AV}:over (snR t v a c m) 32 [x]=snR t x a c m:=by
  unfold snR;rw [Zau (j:=0) (by rw [D8,h])];rfl
theorem sn_o33 (h:t.length=32) {x:Idt}:over (snR t v a c m) 33 x.cells=snR t v x c m:=by
  unfold snR;rw [Zau (j:=1) (by rw [D8,h])];rfl
theorem sn_o37 (h:t.length=32) {x:Idt}:over (snR t v a c m) 37 x.cells=snR t v a x m:=by
  unfold snR;rw [Zau (j:=5) (by rw [D8,h])];rfl
theorem sn_o41 (h:t.length=32) {x:List UInt8}:over (snR t v a c m) 41 [.str x]=snR t v a c x:=by
  unfold snR;rw [Zau (j:=9) (by rw [D8,h])];rfl
theorem Yo5 {t' m':List UInt8} {v':AV} {a' c':Idt} (h:t.length=32) (h':t'.length=32):over (snR t v a c m) 0 (snR t' v' a' c' m')=snR t' v' a' c' m':=by
  unfold over;exact Zhn (by rw [Zu9 h,Zu9 h'])
theorem Yo6 {α:Type} (x:Acc α):x.bind .ret=x:=by
  induction x with
  | get s k ih =>
    show Acc.get s (fun e=>(k e).bind .ret)=_
    rw [show (fun e=>(k e).bind .ret)=k from funext ih]
  | _=>rfl
theorem Zzl:∀ (l:List UInt8) (r:List AV),views (A1 l++r)=(views r).bindW (fun p=>.ret (A1 l++p.1,p.2)) ⟨⟩:=by
  intro l
  induction l with
  | nil =>
    intro r
    exact (Yo6 (views r)).symm
  | cons b l ih =>
    intro r
    rw [T3,Yp9,Zic,ih,Zpq,Zpp,Zgy]
    rfl
theorem Ybk {α β:Type} {x:Acc α} {f g : α→Acc β} (h:f=g) {w:Wit f} {w':Wit g}:x.bindW f w=x.bindW g w':=by subst h;rfl
theorem Yjb:views (snR t v a c m)=(Z7 v).bindW (fun p=>.ret (snR t p.1 a c m,p.2)) ⟨⟩:=by
  unfold snR
  rw [Zzl,Zic,Zgy]
  refine Ybk (funext fun p=>?_)
  show Acc.ret (A1 t++[p.1,.str a.name,.str a.email,.int .i64 a.time,.int .i64 a.zone,.str c.name,.str c.email,.int .i64 c.time,.int .i64 c.zone,.str m],p.2++([]:List Site))=_
  rw [Ys4]
end
attribute [go_sem] Zu9 sn_32 sn_41 Yo2 sn_aut sn_com sn_sub Yi8 Yi9 Yja Yo3 Yo4 sn_o0 sn_o32 sn_o33 sn_o37 sn_o41 Yo5 Yjb
def Zbf:List UInt8:=List.replicate 32 0
theorem P0:Zbf.length=32:=by simp [Zbf]
def F9:Idt:=⟨[],[],0,0⟩
theorem sn0a:Za8 (zer (.int .u8 0) 32) [.nils,.str [],.str [],.int .i64 0,.int .i64 0,.str [],.str [],.int .i64 0,.int .i64 0,.str []]=snR Zbf .nils F9 F9 []:=rfl
theorem sn0b:A1 (List.replicate 32 0)++[.nils,.str [],.str [],.int .i64 0,.int .i64 0,.str [],.str [],.int .i64 0,.int .i64 0,.str []]=snR Zbf .nils F9 F9 []:=rfl
theorem Yjc (s:Snap):s.cells=snR s.tree (.lst (ids s.par) s.par.length) s.aut s.com s.msg:=rfl
attribute [go_sem] sn0a sn0b P0
def Zcu (l:List Id32):List UInt8:=l.flatMap fun d=>Zzj++[32]++O9 d.b++[10]
theorem Zel:Zcu []=[]:=rfl
theorem Zcv (d:Id32) (l:List Id32):Zcu (d::l)=Zzj++32::(O9 d.b++10::Zcu l):=by simp [Zcu]
theorem Ybl (l:List Id32) (d:Id32):Zcu (l++[d])=Zcu l++(Zzj++[32]++O9 d.b++[10]):=by simp [Zcu]
theorem Zog (l:List Id32):(Zcu l).length=72*l.length:=by
  induction l with
  | nil=>rfl
  | cons d l ih=>rw [Zcv,Yqx,Yqm,Yqx,Yqm,ih,Zae,d.h,Yqm];show 6+_=_;omega
def Ze6 (s:Snap):Int:=Zbc [if decide (16<(s.par.length:Int))=true then 2 else 0,Zli s.msg,if E6 s.aut=true then 0 else 3,if E6 s.com=true then 0 else 3]
def Zbg (s:Snap):List UInt8:=Zmj++[32]++O9 s.tree++[10]++Zcu s.par++(Zga++[32]++H7 s.aut++[10]++Zgj++[32]++H7 s.com++[10,10]++s.msg)
def Zqo (p:List UInt8) (s:Snap):Prop:=Ze6 s=0∧Zbg s=p
theorem Zzm (s:Snap):Zbg s=Zmj++32::(O9 s.tree++10::(Zcu s.par++(Zga++32::(H7 s.aut++10::(Zgj++32::(H7 s.com++10::(10::s.msg))))))):=by
  unfold Zbg
  simp only [Yqy,Yp9,Yry]
theorem Yjd {m:List UInt8} (h:Zli m=0):m.length≤65536:=by
  have h5:=Zqm h (if decide (65536<(m.length:Int))=true then 2 else 0) (by simp)
  by_cases hm:65536<(m.length:Int)
  · rw [if_pos (by simpa using hm)] at h5;omega
  · omega
theorem Zoh {i:Idt} (h:(if E6 i=true then (0:Int) else 3)=0):E6 i=true:=by
  cases hb:E6 i with
  | true=>rfl
  | false=>rw [hb] at h;simp at h
theorem Zgb {s:Snap} (h:Ze6 s=0):s.par.length≤16∧s.msg.length≤65536∧E6 s.aut=true∧E6 s.com=true:=by
  have h0:=Zqm h
  have h1:=h0 (if decide (16<(s.par.length:Int))=true then 2 else 0) (by simp)
  have h2:=h0 _ (by simp:Zli s.msg∈_)
  have h3:=h0 (if E6 s.aut=true then 0 else 3) (by simp)
  have h4:=h0 (if E6 s.com=true then 0 else 3) (by simp)
  refine ⟨?_,Yjd h2,Zoh h3,Zoh h4⟩
  by_cases hm:16<(s.par.length:Int)
  · rw [if_pos (by simpa using hm)] at h1;omega
  · omega
theorem Zzn {s:Snap} (h:Ze6 s=0):(Zbg s).length≤80000:=by
  obtain ⟨h1,h2,h3,h4⟩:=Zgb h
  have a:=Zcg h3
  have b:=Zcg h4
  have c:=Zog s.par
  have e:=Zae s.tree
  rw [s.ht] at e
  unfold Zbg Zmj Zga Zgj
  simp only [Yqx,Yqm,Yrj,e,c]
  omega
end Cod
namespace Cod
open Go
theorem Zva (s:List UInt8):Lib.contains s [0]=s.contains 0:=by
  unfold Lib.contains
  rw [Bool.eq_iff_iff,decide_eq_true_eq,List.contains_iff_mem]
  rcases Lib.index_spec s [0] with ⟨h1,h2⟩|⟨i,h1,h2,h3,_⟩
  · rw [h1]
    refine ⟨fun h=>by omega,fun h=>?_⟩
    obtain ⟨j,hj,he⟩:=List.getElem_of_mem h
    have h4:=h2 j (by omega)
    unfold Lib.occAt at h4
    rw [Yr9 hj,he] at h4
    simp [List.isPrefixOf] at h4
  · rw [h1]
    refine ⟨fun _=>?_,fun _=>by omega⟩
    have hr:=Lib.occAt_room h3
    have hi:i<s.length:=by
      rcases hr with hr|hr
      · simp at hr;omega
      · cases hr
    unfold Lib.occAt at h3
    rw [Yr9 hi] at h3
    simp [List.isPrefixOf] at h3
    rw [h3]
    exact Ys2 hi
theorem Z4f {s:List UInt8} (hs:s.length≤1000000000):S E F.Z1 [.str s] []=some (.int .i64 (Zli s),[]):=by
  have h1:=Z3i (s:=s) (t:=[0]) (by omega)
  rw [Zva] at h1
  have w1:S E F.E8 [.bool (decide (65536<(s.length:Int))),.int .i64 2] []=some (.int .i64 (if decide (65536<(s.length:Int))=true then 2 else 0),[]):=X3
  have w2:S E F.E8 [.bool (s.contains 0),.int .i64 4] []=some (.int .i64 (if s.contains 0=true then 4 else 0),[]):=X3
  unfold Zli
  generalize (if decide (65536<(s.length:Int))=true then (2:Int) else 0)=a at *
  generalize (if s.contains 0=true then (4:Int) else 0)=b at *
  have hd:S E F.F7 [.lst [.int .i64 a,.int .i64 b] 2] []=some (.int .i64 (Zbc [a,b]),[]):=Zlc
  rw [S_of Zsr rfl rfl]
  simp -dsimp (disch:=first|omega|(simp only [A5]<;>omega)|fail) only [L.Z1,go_sem,reduceIte,reduceCtorEq,B2,B3,B4,B5,B6,B7,B8,B9,C0,C1,C2,C3,C4,C5,C6,C7,C8,C9,D0,A4,h1,w1,w2,hd]
theorem Zzo {s:List UInt8} (hs:s.length≤1000000000):S E F.V5 [.str s] []=some (.int .i64 (Zli s),[]):=by
  have h1:=Zf7 (s:=s) (by omega) (c:=0) (by omega) (by omega)
  rw [show byt 0=0 from rfl] at h1
  have w1:S E F.L9 [.bool (decide (65536<(s.length:Int))),.int .i64 2] []=some (.int .i64 (if decide (65536<(s.length:Int))=true then 2 else 0),[]):=Zy9
  have w2:S E F.L9 [.bool (s.contains 0),.int .i64 4] []=some (.int .i64 (if s.contains 0=true then 4 else 0),[]):=Zy9
  unfold Zli
  generalize (if decide (65536<(s.length:Int))=true then (2:Int) else 0)=a at *
  generalize (if s.contains 0=true then (4:Int) else 0)=b at *
  have hd:S E F.H6 [.lst [.int .i64 a,.int .i64 b] 2] []=some (.int .i64 (Zbc [a,b]),[]):=Z3z
  rw [S_of Zte rfl rfl]
  simp -dsimp (disch:=first|omega|(simp only [A5]<;>omega)|fail) only [L.V5,go_sem,reduceIte,reduceCtorEq,B2,B3,B4,B5,B6,B7,B8,B9,C0,C1,C2,C3,C4,C5,C6,C7,C8,C9,D0,A4,h1,w1,w2,hd]
theorem Zzp:∀ n:Nat,n<16→bat [48,49,50,51,52,53,54,55,56,57,97,98,99,100,101,102] n=((Zf9 n).toNat:Int):=by decide
theorem snoc2 (l:List UInt8) (a b:UInt8):A1 l++[AV.int .u8 (a.toNat:Int),.int .u8 (b.toNat:Int)]=A1 (l++[a,b]):=by simp [A1]
theorem Z6m (l:List UInt8) (i:Nat):bat l i=((l.getD i 0).toNat:Int):=rfl
theorem Yo7 {id:List UInt8} (hid:id.length=32):∀ (m i:Nat),i+m=32 →
    X E [.tmp 2] (.c L.K6.x0::.lp [3,6,7] L.K6.x0::.blk 0::[.c L.K6.r0]) ⟨[(3,.buf (.s 1000000 0) 0 0 (O9 (id.take i)).length 1),(6,.agg (A1 id)),(7,.int .i64 i)],[(.s 1000000 0,⟨0,true,true,false,A1 (O9 (id.take i))⟩)]⟩=some (.str (O9 id),[]):=by
  intro m
  induction m with
  | zero =>
    intro i hi
    obtain rfl:i=32:=by omega
    rw [G9 L.K6.x0.eq_1]
    have ht:id.take 32=id:=Yqw (by omega)
    rw [ht]
    have hl:(O9 id).length=64:=by rw [Zae,hid]
    simp -dsimp (disch:=first|omega|(simp only [A5]<;>omega)|fail) only [go_sem,reduceIte,reduceCtorEq,B2,B3,B4,B5,B6,B7,B8,B9,C0,C1,C2,C3,C4,C5,C6,C7,C8,C9,D0,A4,BYs,L.K6.r0]
  | succ m ih =>
    intro i hi
    have hlt:i<32:=by omega
    have h1:=ih (i+1) (by omega)
    simp only [Ysn,Ysh] at h1
    rw [Zqi (by omega),Ybc,Yqx] at h1
    have hl:(O9 (id.take i)).length=2*i:=by rw [Zae,Yqd];omega
    have e2:∀ a b:UInt8,[a,b].length=2:=fun _ _=>rfl
    rw [e2] at h1
    have hb:=(id.getD i 0).toNat_lt
    have e0:bat id i=((id.getD i 0).toNat:Int):=rfl
    generalize id.getD i 0=x at *
    have q1:(x.toNat:Int).tdiv 16=((x.toNat/16:Nat):Int):=by rw [R8 (by omega)];omega
    have q2:(x.toNat:Int).tmod 16=((x.toNat%16:Nat):Int):=by rw [T9 (by omega)];omega
    have d1:=Zzp (x.toNat/16) (by omega)
    have d2:=Zzp (x.toNat%16) (by omega)
    have w1:(((x.toNat/16:Nat):Int)%256).toNat=x.toNat/16:=by omega
    have w2:(((x.toNat%16:Nat):Int)%256).toNat=x.toNat%16:=by omega
    rw [G9 L.K6.x0.eq_1,←h1]
    simp -dsimp (disch:=first|omega|(simp only [A5]<;>omega)|fail) only [go_sem,reduceIte,reduceCtorEq,B2,B3,B4,B5,B6,B7,B8,B9,C0,C1,C2,C3,C4,C5,C6,C7,C8,C9,D0,A4,BYs,e0,q1,q2,w1,w2,d1,d2,snoc2]
theorem Z6n {id:List UInt8} (hid:id.length=32):S E F.K6 [.agg (A1 id)] []=some (.str (O9 id),[]):=by
  have h:=Yo7 hid 32 0 (by omega)
  simp only [Ysh,Ys5,show O9 []=[] from rfl,Yrj,show A1 []=[] from rfl] at h
  rw [S_of Ztg rfl rfl]
  simp -dsimp (disch:=first|omega|(simp only [A5]<;>omega)|fail) only [L.K6,go_sem,reduceIte,reduceCtorEq,B2,B3,B4,B5,B6,B7,B8,B9,C0,C1,C2,C3,C4,C5,C6,C7,C8,C9,D0,A4,BYs,h]
def fil (id:List UInt8) (k:Nat):List UInt8:=id.take k++List.replicate (32-k) 0
theorem Yo8 {id:List UInt8} {k:Nat} (hid:id.length=32) (hk:k≤32):(fil id k).length=32:=by unfold fil;rw [Yqx,Yqd,Ys6];omega
theorem Z6o {id:List UInt8} {k:Nat} (hid:id.length=32) (hk:k<32):(fil id k).set k (id.getD k 0)=fil id (k+1):=by
  unfold fil
  have hl:(id.take k).length=k:=by rw [Yqd];omega
  rw [List.set_append_right (h:=by omega),hl,Nat.sub_self,Zqi (by omega),Yqy]
  congr 1
  rw [show 32-k=(32-(k+1))+1 by omega,List.replicate_succ]
  rfl
theorem undig:∀ n:Nat,n<16→J1 [48,49,50,51,52,53,54,55,56,57,97,98,99,100,101,102] (Zf9 n)=(n:Int):=by decide
theorem Ybm:∀ n:Nat,n<256→(-1≤J1 [48,49,50,51,52,53,54,55,56,57,97,98,99,100,101,102] (UInt8.ofNat n)∧J1 [48,49,50,51,52,53,54,55,56,57,97,98,99,100,101,102] (UInt8.ofNat n)<16):=by decide +kernel
theorem Zqp {l:List UInt8} {c:Int}:S E F.M4 [.str l,.int .u8 c] []=some (.int .i64 (J1 l (byt c)),[]):=R9 ext0 Zcs
def Z4g:List UInt8:=[48,49,50,51,52,53,54,55,56,57,97,98,99,100,101,102]
theorem nib:∀ a:Nat,a<16→∀ b:Nat,b<16→IntKind.u8.wrap (ior .i64 (Z16 .i64 (a:Int) 4) (b:Int))=((16*a+b:Nat):Int):=by decide +kernel
theorem Zqq (b:UInt8) : -1≤J1 Z4g b∧J1 Z4g b<16:=by
  have:=Ybm b.toNat b.toNat_lt
  rwa [UInt8.ofNat_toNat] at this
theorem Z6p {id:List UInt8} (hid:id.length=32):fil id 32=id:=by
  unfold fil
  rw [Yqw (by omega)]
  simp
theorem sp_l0 {s:List UInt8} (hs:s.length=64):∀ (m i:Nat) (d:List UInt8),i+m=32→d.length=32→∃ d' e,d'.length=32∧(e=0∨e=4) ∧
    X E [.cell 2 (some 32),.tmp 3] (.c L.K7.x0::.lp [0,2,4,12] L.K7.x0::.blk 0::[.c L.K7.r0]) ⟨[(0,.str s),(2,.ref (.s 1000000 0) 0 0),(4,.ref (.s 1000000 1) 0 0),(12,.int .i64 i)],[(.s 1000000 0,⟨0,true,true,true,A1 (List.replicate 32 0)⟩),(.s 1000000 1,⟨0,true,true,true,A1 d⟩)]⟩=some (.tup [.agg (A1 d'),.int .i64 e],[]) ∧
    ∀ id,id.length=32→s=O9 id→d=fil id i→d'=id∧e=0:=by
  intro m
  induction m with
  | zero =>
    intro i d hi hd
    obtain rfl:i=32:=by omega
    refine ⟨d,0,hd,.inl rfl,?_,fun id h1 h2 h3=>⟨by rw [h3,Z6p h1],rfl⟩⟩
    rw [G9 L.K7.x0.eq_1]
    simp -dsimp (disch:=first|omega|(simp only [A5]<;>omega)|fail) only [go_sem,reduceIte,reduceCtorEq,B2,B3,B4,B5,B6,B7,B8,B9,C0,C1,C2,C3,C4,C5,C6,C7,C8,C9,D0,A4,BYs,L.K7.r0,Ys6,hd]
  | succ m ih =>
    intro i d hi hd
    have hlt:i<32:=by omega
    obtain ⟨a0,a1⟩:=Zqq (s.getD (2*i) 0)
    obtain ⟨b0,b1⟩:=Zqq (s.getD (2*i+1) 0)
    have c1:=Zqp (l:=Z4g) (c:=bat s (2*i))
    have c2:=Zqp (l:=Z4g) (c:=bat s (2*i+1))
    rw [Zd4] at c1 c2
    have e1:((2:Int)*(i:Int)).toNat=2*i:=by omega
    have e2:((2:Int)*(i:Int)+1).toNat=2*i+1:=by omega
    have yes:∀ id,id.length=32→s=O9 id→J1 Z4g (s.getD (2*i) 0)=(((id.getD i 0).toNat/16:Nat):Int)∧J1 Z4g (s.getD (2*i+1) 0)=(((id.getD i 0).toNat%16:Nat):Int):=by
      intro id h1 h2
      have:=(id.getD i 0).toNat_lt
      obtain ⟨g1,g2⟩:=Zze (id:=id) (i:=i) (by omega)
      rw [h2,g1,g2]
      exact ⟨undig _ (by omega),undig _ (by omega)⟩
    unfold Z4g at *
    generalize J1 [48,49,50,51,52,53,54,55,56,57,97,98,99,100,101,102] (s.getD (2*i) 0)=A at *
    generalize J1 [48,49,50,51,52,53,54,55,56,57,97,98,99,100,101,102] (s.getD (2*i+1) 0)=B at *
    rw [G9 L.K7.x0.eq_1]
    by_cases hA:A<0
    · refine ⟨List.replicate 32 0,4,by simp,.inr rfl,?_,fun id h1 h2 _=>?_⟩
      · simp -dsimp (disch:=first|omega|(simp only [A5]<;>omega)|fail) only [go_sem,reduceIte,reduceCtorEq,B2,B3,B4,B5,B6,B7,B8,B9,C0,C1,C2,C3,C4,C5,C6,C7,C8,C9,D0,A4,BYs,e1,e2,c1,c2,hA,Ys6,hd]
      · have:=(yes id h1 h2).1;omega
    · by_cases hB:B<0
      · refine ⟨List.replicate 32 0,4,by simp,.inr rfl,?_,fun id h1 h2 _=>?_⟩
        · simp -dsimp (disch:=first|omega|(simp only [A5]<;>omega)|fail) only [go_sem,reduceIte,reduceCtorEq,B2,B3,B4,B5,B6,B7,B8,B9,C0,C1,C2,C3,C4,C5,C6,C7,C8,C9,D0,A4,BYs,e1,e2,c1,c2,hA,hB,Ys6,hd]
        · have:=(yes id h1 h2).2;omega
      · obtain ⟨a,rfl⟩:∃ a:Nat,A=a:=⟨A.toNat,by omega⟩
        obtain ⟨b,rfl⟩:∃ b:Nat,B=b:=⟨B.toNat,by omega⟩
        have hn:=nib a (by omega) b (by omega)
        obtain ⟨d',e,h1,h2,h3,h4⟩:=ih (i+1) (d.set i (UInt8.ofNat (16*a+b))) (by omega) (by rw [Ysd];exact hd)
        simp only [Ysn,Ysh] at h3
        refine ⟨d',e,h1,h2,?_,fun id g1 g2 g3=>h4 id g1 g2 ?_⟩
        · rw [←h3]
          simp -dsimp (disch:=first|omega|(simp only [A5]<;>omega)|fail) only [go_sem,reduceIte,reduceCtorEq,B2,B3,B4,B5,B6,B7,B8,B9,C0,C1,C2,C3,C4,C5,C6,C7,C8,C9,D0,A4,BYs,e1,e2,c1,c2,hA,hB,hn,Ys6,hd]
        · obtain ⟨y1,y2⟩:=yes id g1 g2
          have:=(id.getD i 0).toNat_lt
          have hx:UInt8.ofNat (16*a+b)=id.getD i 0:=by
            have:16*a+b=(id.getD i 0).toNat:=by omega
            rw [this]
            rw [UInt8.ofNat_toNat]
          rw [hx,g3,Z6o g1 hlt]
theorem Ybn {s:List UInt8} (hs:s.length≤1000000000):∃ d e,d.length=32∧(e=0∨e=4)∧S E F.K7 [.str s] []=some (.tup [.agg (A1 d),.int .i64 e],[])∧∀ id,id.length=32→s=O9 id→d=id∧e=0:=by
  by_cases hl:s.length=64
  · obtain ⟨d,e,h1,h2,h3,h4⟩:=sp_l0 hl 32 0 (List.replicate 32 0) (by omega) (by simp)
    simp only [Ysh] at h3
    refine ⟨d,e,h1,h2,?_,fun id g1 g2=>h4 id g1 g2 (by unfold fil;simp)⟩
    rw [S_of Zjp rfl rfl]
    simp -dsimp (disch:=first|omega|(simp only [A5]<;>omega)|fail) only [L.K7,go_sem,reduceIte,reduceCtorEq,B2,B3,B4,B5,B6,B7,B8,B9,C0,C1,C2,C3,C4,C5,C6,C7,C8,C9,D0,A4,BYs,hl,h3]
  · refine ⟨List.replicate 32 0,4,by simp,.inr rfl,?_,fun id g1 g2=>?_⟩
    · rw [S_of Zjp rfl rfl]
      simp -dsimp (disch:=first|omega|(simp only [A5]<;>omega)|fail) only [L.K7,go_sem,reduceIte,reduceCtorEq,B2,B3,B4,B5,B6,B7,B8,B9,C0,C1,C2,C3,C4,C5,C6,C7,C8,C9,D0,A4,BYs,hl,Ys6]
    · exact absurd (by rw [g2,Zae];omega) hl
end Cod
namespace Cod
open Go
def dgF (c:Int):Int:=if 48≤c∧c≤57 then c-48 else if 97≤c∧c≤102 then c-97+10 else 16
theorem Ybo {c:Int}:0≤dgF c∧dgF c≤16:=by
  unfold dgF;split
  · omega
  · split<;>omega
theorem Yje {c:Int} (h0:0≤c) (h1:c<256):S E F.P1 [.int .u8 c] []=some (.int .i64 (dgF c),[]):=by
  rw [S_of Ztj rfl rfl]
  unfold dgF
  by_cases a:48≤c
  · by_cases b:c≤57
    · have w:(c-48)%256=c-48:=by omega
      simp -dsimp (disch:=first|omega|(simp only [A5]<;>omega)|fail) only [L.P1,go_sem,reduceIte,reduceCtorEq,B2,B3,B4,B5,B6,B7,B8,B9,C0,C1,C2,C3,C4,C5,C6,C7,C8,C9,D0,A4,a,b,w]
    · by_cases a':97≤c
      · by_cases b':c≤102
        · have w:(c-97)%256=c-97:=by omega
          simp -dsimp (disch:=first|omega|(simp only [A5]<;>omega)|fail) only [L.P1,go_sem,reduceIte,reduceCtorEq,B2,B3,B4,B5,B6,B7,B8,B9,C0,C1,C2,C3,C4,C5,C6,C7,C8,C9,D0,A4,a,b,a',b',w]
        · simp -dsimp (disch:=first|omega|(simp only [A5]<;>omega)|fail) only [L.P1,go_sem,reduceIte,reduceCtorEq,B2,B3,B4,B5,B6,B7,B8,B9,C0,C1,C2,C3,C4,C5,C6,C7,C8,C9,D0,A4,a,b,a',b',and_false,false_and]
      · simp -dsimp (disch:=first|omega|(simp only [A5]<;>omega)|fail) only [L.P1,go_sem,reduceIte,reduceCtorEq,B2,B3,B4,B5,B6,B7,B8,B9,C0,C1,C2,C3,C4,C5,C6,C7,C8,C9,D0,A4,a,b,a',and_false,false_and]
  · have a':¬ 97≤c:=by omega
    simp -dsimp (disch:=first|omega|(simp only [A5]<;>omega)|fail) only [L.P1,go_sem,reduceIte,reduceCtorEq,B2,B3,B4,B5,B6,B7,B8,B9,C0,C1,C2,C3,C4,C5,C6,C7,C8,C9,D0,A4,a,a',false_and]
theorem Z6q:∀ n:Nat,n<16→dgF ((Zf9 n).toNat:Int)=(n:Int):=by decide
def half (id:List UInt8) (i:Nat):List UInt8:=if i%2=0 then fil id (i/2) else (fil id (i/2)).set (i/2) (UInt8.ofNat ((id.getD (i/2) 0).toNat/16))
theorem rp_l0 {s:List UInt8} (hs:s.length=64):∀ (m i:Nat) (d:List UInt8),i+m=64→d.length=32→∃ d' e,d'.length=32∧(e=0∨e=4) ∧
    X E [.cell 2 (some 32),.tmp 3] (.c L.H2.x0::.lp [0,2,4,5] L.H2.x0::.blk 0::[.c L.H2.r0]) ⟨[(0,.str s),(2,.ref (.s 1000000 0) 0 0),(4,.ref (.s 1000000 1) 0 0),(5,.int .i64 i)],[(.s 1000000 0,⟨0,true,true,true,A1 (List.replicate 32 0)⟩),(.s 1000000 1,⟨0,true,true,true,A1 d⟩)]⟩=some (.tup [.agg (A1 d'),.int .i64 e],[]) ∧
    ∀ id,id.length=32→s=O9 id→d=half id i→d'=id∧e=0:=by
  intro m
  induction m with
  | zero =>
    intro i d hi hd
    obtain rfl:i=64:=by omega
    refine ⟨d,0,hd,.inl rfl,?_,fun id h1 h2 h3=>⟨by rw [h3];exact Z6p h1,rfl⟩⟩
    rw [G9 L.H2.x0.eq_1]
    simp -dsimp (disch:=first|omega|(simp only [A5]<;>omega)|fail) only [go_sem,reduceIte,reduceCtorEq,B2,B3,B4,B5,B6,B7,B8,B9,C0,C1,C2,C3,C4,C5,C6,C7,C8,C9,D0,A4,BYs,L.H2.r0,Ys6,hd]
  | succ m ih =>
    intro i d hi hd
    have hlt:i<64:=by omega
    obtain ⟨b0,b1⟩:=R4 s i
    have c1:=Yje b0 b1
    obtain ⟨g0,g1⟩:=Ybo (c:=bat s i)
    have yes:∀ id,id.length=32→s=O9 id→dgF (bat s i)=((if i%2=0 then (id.getD (i/2) 0).toNat/16 else (id.getD (i/2) 0).toNat%16:Nat):Int):=by
      intro id h1 h2
      have:=(id.getD (i/2) 0).toNat_lt
      obtain ⟨k1,k2⟩:=Zze (id:=id) (i:=i/2) (by omega)
      have e:bat s i=(((O9 id).getD i 0).toNat:Int):=by rw [←h2];rfl
      rw [e]
      by_cases he:i%2=0
      · rw [if_pos he,show i=2*(i/2) by omega,k1,show 2*(i/2)/2=i/2 by omega]
        exact Z6q _ (by omega)
      · rw [if_neg he,show i=2*(i/2)+1 by omega,k2,show (2*(i/2)+1)/2=i/2 by omega]
        exact Z6q _ (by omega)
    generalize dgF (bat s i)=A at *
    have e1:(i:Int).tdiv 2=((i/2:Nat):Int):=by rw [R8 (by omega)];omega
    rw [G9 L.H2.x0.eq_1]
    by_cases hA:15<A
    · refine ⟨List.replicate 32 0,4,by simp,.inr rfl,?_,fun id h1 h2 _=>?_⟩
      · simp -dsimp (disch:=first|omega|(simp only [A5]<;>omega)|fail) only [go_sem,reduceIte,reduceCtorEq,B2,B3,B4,B5,B6,B7,B8,B9,C0,C1,C2,C3,C4,C5,C6,C7,C8,C9,D0,A4,BYs,c1,hA,Ys6,hd]
      · have y:=yes id h1 h2
        have:=(id.getD (i/2) 0).toNat_lt
        by_cases he:i%2=0
        · rw [if_pos he] at y;omega
        · rw [if_neg he] at y;omega
    · obtain ⟨d',e,h1,h2,h3,h4⟩:=ih (i+1) (d.set (i/2) (UInt8.ofNat ((16*bat d (i/2)%256+A%256)%256).toNat)) (by omega) (by rw [Ysd];exact hd)
      simp only [Ysn,Ysh] at h3
      have hx0:=R4 d (i/2)
      refine ⟨d',e,h1,h2,?_,fun id g1 g2 g3=>h4 id g1 g2 ?_⟩
      · rw [←h3]
        simp -dsimp (disch:=first|omega|(simp only [A5]<;>omega)|fail) only [go_sem,reduceIte,reduceCtorEq,B2,B3,B4,B5,B6,B7,B8,B9,C0,C1,C2,C3,C4,C5,C6,C7,C8,C9,D0,A4,BYs,e1,c1,hA,Ys6,hd]
      · have y:=yes id g1 g2
        have hx:=(id.getD (i/2) 0).toNat_lt
        have hfl:=Yo8 (k:=i/2) g1 (by omega)
        by_cases he:i%2=0
        · rw [if_pos he] at y
          have hd0:bat d (i/2)=0:=by
            rw [g3]
            unfold half bat
            rw [if_pos he]
            unfold fil
            have hl:(id.take (i/2)).length=i/2:=by rw [Yqd];omega
            simp only [List.getD]
            rw [List.getElem?_append_right (by omega),hl,Nat.sub_self,List.getElem?_replicate]
            split<;>rfl
          rw [hd0,y,show ((16*0%256+(((id.getD (i/2) 0).toNat/16:Nat):Int)%256)%256).toNat=(id.getD (i/2) 0).toNat/16 by omega,g3]
          unfold half
          rw [if_pos he,if_neg (by omega),show (i+1)/2=i/2 by omega]
        · rw [if_neg he] at y
          have hd0:bat d (i/2)=(((id.getD (i/2) 0).toNat/16:Nat):Int):=by
            rw [g3]
            unfold half bat
            rw [if_neg he]
            have key:∀ (l:List UInt8) (k:Nat) (x:UInt8),k<l.length→(l.set k x).getD k 0=x:=by intro l k x h;simp [List.getD,h]
            rw [key _ _ _ (by omega),UInt8.toNat_ofNat']
            omega
          rw [hd0,y,show ((16*(((id.getD (i/2) 0).toNat/16:Nat):Int)%256+(((id.getD (i/2) 0).toNat%16:Nat):Int)%256)%256).toNat=(id.getD (i/2) 0).toNat by omega,g3,UInt8.ofNat_toNat]
          unfold half
          rw [if_neg he,if_pos (by omega),List.set_set,Z6o g1 (by omega),show (i+1)/2=i/2+1 by omega]
theorem Zoi {s:List UInt8} (hs:s.length≤1000000000):∃ d e,d.length=32∧(e=0∨e=4)∧S E F.H2 [.str s] []=some (.tup [.agg (A1 d),.int .i64 e],[])∧∀ id,id.length=32→s=O9 id→d=id∧e=0:=by
  by_cases hl:s.length=64
  · obtain ⟨d,e,h1,h2,h3,h4⟩:=rp_l0 hl 64 0 (List.replicate 32 0) (by omega) (by simp)
    simp only [Ysh] at h3
    refine ⟨d,e,h1,h2,?_,fun id g1 g2=>h4 id g1 g2 (by unfold half fil;simp)⟩
    rw [S_of Zjm rfl rfl]
    simp -dsimp (disch:=first|omega|(simp only [A5]<;>omega)|fail) only [L.H2,go_sem,reduceIte,reduceCtorEq,B2,B3,B4,B5,B6,B7,B8,B9,C0,C1,C2,C3,C4,C5,C6,C7,C8,C9,D0,A4,BYs,hl,h3]
  · refine ⟨List.replicate 32 0,4,by simp,.inr rfl,?_,fun id g1 g2=>?_⟩
    · rw [S_of Zjm rfl rfl]
      simp -dsimp (disch:=first|omega|(simp only [A5]<;>omega)|fail) only [L.H2,go_sem,reduceIte,reduceCtorEq,B2,B3,B4,B5,B6,B7,B8,B9,C0,C1,C2,C3,C4,C5,C6,C7,C8,C9,D0,A4,BYs,hl,Ys6]
    · exact absurd (by rw [g2,Zae];omega) hl
end Cod
namespace Cod
open Go
theorem Z6r {l:List UInt8} {c:UInt8} (h:c∈l):J1 l c=(l.idxOf c:Nat):=by simp [J1,h]
theorem Z6s {l:List UInt8} {c:UInt8} (h:c∉l):J1 l c = -1:=by simp [J1,h]
theorem byt_u8 (c:UInt8):byt (c.toNat:Int)=c:=by simp [byt]
theorem Yjf {s:List UInt8} {c:UInt8}:S E F.K0 [.str s,.str [c]] []=some (.int .i64 (J1 s c),[]):=by
  have hx:S E F.Z2 [.str s,.int .u8 c.toNat] []=some (.int .i64 (J1 s c),[]):=by
    have h:=R9 ext0 (Zyi (l:=s) (c:=c.toNat))
    rw [byt_u8] at h
    exact h
  have h1:S E F.M7 [.str s,.int .u8 c.toNat] []=some (.int .i64 (J1 s c),[]):=by
    rw [S_of Zjt rfl rfl]
    simp -dsimp (disch:=first|omega|(simp only [A5]<;>omega)|fail) only [L.M7,go_sem,reduceIte,reduceCtorEq,B2,B3,B4,B5,B6,B7,B8,B9,C0,C1,C2,C3,C4,C5,C6,C7,C8,C9,D0,A4,hx]
  have b0:bat [c] 0=c.toNat:=rfl
  rw [S_of Ztt rfl rfl]
  cases hs:(([c]:List UInt8)==s) with
  | true =>
    have:=eq_of_beq hs
    subst this
    have hi:J1 [c] c=0:=by simp [J1]
    rw [hi]
    simp -dsimp (disch:=first|omega|(simp only [A5]<;>omega)|fail) only [L.K0,go_sem,reduceIte,reduceCtorEq,B2,B3,B4,B5,B6,B7,B8,B9,C0,C1,C2,C3,C4,C5,C6,C7,C8,C9,D0,A4,hs,h1,b0]
  | false =>
    simp -dsimp (disch:=first|omega|(simp only [A5]<;>omega)|fail) only [L.K0,go_sem,reduceIte,reduceCtorEq,B2,B3,B4,B5,B6,B7,B8,B9,C0,C1,C2,C3,C4,C5,C6,C7,C8,C9,D0,A4,hs,h1,b0]
theorem sl_cut {s:List UInt8} {c:UInt8} (hs:s.length≤1000000000000):S E F.S4 [.str s,.str [c]] []=some (if c∈s then .tup [.str (s.take (s.idxOf c)),.str (s.drop (s.idxOf c+1)),.bool true] else .tup [.str s,.str [],.bool false],[]):=by
  have h:=Yjf (s:=s) (c:=c)
  rw [S_of Zta rfl rfl]
  by_cases hc:c∈s
  · rw [Z6r hc] at h
    have hi:=Ys7 hc
    rw [if_pos hc]
    have e1:((s.idxOf c:Int)+((1:Nat):Int)).toNat=s.idxOf c+1:=by omega
    have e2:sub s 0 (s.idxOf c)=s.take (s.idxOf c):=by simp [sub]
    have e3:sub s (s.idxOf c+1) (s.length-(s.idxOf c+1))=s.drop (s.idxOf c+1):=D6 (by omega)
    simp -dsimp (disch:=first|omega|(simp only [A5]<;>omega)|fail) only [L.S4,go_sem,reduceIte,reduceCtorEq,B2,B3,B4,B5,B6,B7,B8,B9,C0,C1,C2,C3,C4,C5,C6,C7,C8,C9,D0,A4,h,e1,e2,e3,Yq7]
  · rw [Z6s hc] at h
    rw [if_neg hc]
    simp -dsimp (disch:=first|omega|(simp only [A5]<;>omega)|fail) only [L.S4,go_sem,reduceIte,reduceCtorEq,B2,B3,B4,B5,B6,B7,B8,B9,C0,C1,C2,C3,C4,C5,C6,C7,C8,C9,D0,A4,h]
theorem Z6t {s:List UInt8} {c:UInt8} (hs:s.length≤1000000000000):S E F.Q9 [.str s,.str [c]] []=some (if c∈s then .tup [.str (s.take (s.idxOf c)),.str (s.drop (s.idxOf c+1)),.bool true] else .tup [.str s,.str [],.bool false],[]):=by
  have h:=sl_cut (c:=c) hs
  rw [S_of Zsl rfl rfl]
  by_cases hc:c∈s
  · rw [if_pos hc] at h ⊢
    simp -dsimp (disch:=first|omega|(simp only [A5]<;>omega)|fail) only [L.Q9,go_sem,reduceIte,reduceCtorEq,B2,B3,B4,B5,B6,B7,B8,B9,C0,C1,C2,C3,C4,C5,C6,C7,C8,C9,D0,A4,h]
  · rw [if_neg hc] at h ⊢
    simp -dsimp (disch:=first|omega|(simp only [A5]<;>omega)|fail) only [L.Q9,go_sem,reduceIte,reduceCtorEq,B2,B3,B4,B5,B6,B7,B8,B9,C0,C1,C2,C3,C4,C5,C6,C7,C8,C9,D0,A4,h]
theorem Ybp {l:List UInt8} {n:Nat} {c:Int} (h:n=l.length):S E F.Q3 [.lst (A1 l) n,.int .u8 c] []=some (.int .i64 (J1 l (byt c)),[]):=by
  rw [S_of Zts rfl rfl]
  simp -dsimp (disch:=first|omega|(simp only [A5]<;>omega)|fail) only [L.Q3,go_sem,reduceIte,reduceCtorEq,B2,B3,B4,B5,B6,B7,B8,B9,C0,C1,C2,C3,C4,C5,C6,C7,C8,C9,D0,A4,Zyh h]
theorem Z4h {l:List UInt8} {n:Nat} (hn:n=l.length) (hl:l.length≤1000000000000):S E F.J4 [.lst (A1 l) n,.lst [.int .u8 0] 1] []=some (.int .i64 (J1 l 0),[]):=by
  have h:=Ybp (l:=l) (n:=n) (c:=0) hn
  rw [show byt 0=0 from rfl] at h
  rw [S_of Zs9 rfl rfl]
  simp -dsimp (disch:=first|omega|(simp only [A5]<;>omega)|fail) only [L.J4,go_sem,reduceIte,reduceCtorEq,B2,B3,B4,B5,B6,B7,B8,B9,C0,C1,C2,C3,C4,C5,C6,C7,C8,C9,D0,A4,BYs,h]
theorem Yo9 {l:List UInt8} {n:Nat} (hn:n=l.length) (hl:l.length≤1000000000000):S E F.Za0 [.lst (A1 l) n,.lst [.int .u8 0] 1] [] =
    some (if (0:UInt8)∈l then (.tup [.lst (A1 (l.take (l.idxOf 0))) (l.idxOf 0),.lst (A1 (l.drop (l.idxOf 0+1))) (n-(l.idxOf 0+1)),.bool true],[]) else (.tup [.lst (A1 l) n,.buf (.r 0) 0 0 0 1,.bool false],[(.r 0,⟨0,true,true,false,[]⟩)])):=by
  have h:=Z4h hn hl
  subst hn
  rw [S_of Zsk rfl rfl]
  by_cases hc:(0:UInt8)∈l
  · rw [Z6r hc] at h
    have hi:=Ys7 hc
    rw [if_pos hc]
    have e1:((l.idxOf (0:UInt8):Int)+((1:Nat):Int)).toNat=l.idxOf (0:UInt8)+1:=by omega
    have e2:sub l 0 (l.idxOf (0:UInt8))=l.take (l.idxOf (0:UInt8)):=by simp [sub]
    have e3:sub l (l.idxOf (0:UInt8)+1) (l.length-(l.idxOf (0:UInt8)+1))=l.drop (l.idxOf (0:UInt8)+1):=D6 (by omega)
    simp -dsimp (disch:=first|omega|(simp only [A5]<;>omega)|fail) only [L.Za0,go_sem,reduceIte,reduceCtorEq,B2,B3,B4,B5,B6,B7,B8,B9,C0,C1,C2,C3,C4,C5,C6,C7,C8,C9,D0,A4,BYs,h,e1,e2,e3,Yq7]
  · rw [Z6s hc] at h
    rw [if_neg hc]
    simp -dsimp (disch:=first|omega|(simp only [A5]<;>omega)|fail) only [L.Za0,go_sem,reduceIte,reduceCtorEq,B2,B3,B4,B5,B6,B7,B8,B9,C0,C1,C2,C3,C4,C5,C6,C7,C8,C9,D0,A4,BYs,h]
end Cod

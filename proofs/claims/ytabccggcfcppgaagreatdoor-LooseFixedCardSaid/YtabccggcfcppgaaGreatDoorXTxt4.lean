/- The reference's deflate: lengths, distances, matches. -/
import Derived.Test.YtabccggcfcppgaaGreatDoorXTxt3
import Derived.Test.YtabccggcfcppgaaGreatDoorXTxt2
set_option linter.unusedSimpArgs false
set_option linter.unusedVariables false
open List renaming length_append → Yf9, length_set → Yhv, length_singleton → Yhx
open Nat renaming add_mul → Yfx, div_le_self → Yim, le_log2 → Yij, log2_lt → Yik, lt_of_lt_of_le → Yfl, mod_eq_of_lt → Yie, mul_comm → Yh7, mul_le_mul_right → Yf7, one_mul → Yig, pow_add → Yih, pow_le_pow_right → Yib, pow_pos → Yil, two_pow_add_eq_or_of_lt → Yii
open Int renaming cast_ofNat_Int → Yhz
open BitVec renaming ofInt_natCast → Yic, toNat_ofNat → Yid
open Nat renaming reduceEqDiff → E2, reduceAdd → E3, reduceSub → E4, reduceMul → E5, reduceDiv → E6, reduceMod → E7, reduceBEq → E8, reduceLeDiff → E9, reduceLT → F0
open Int renaming reduceEq → F1, reduceNe → F2, reduceLT → F3, reduceLE → F4, reduceBEq → F5, reduceBNe → F6, reduceToNat → F7, reduceAdd → F8, reduceSub → F9, reduceMul → G0, reduceNeg → B2
namespace Cod
open Go
theorem Zyr:∀ j<29,lenB (j+257)≤258∧lenM (j+257)≤5:=by decide +kernel
theorem Zys {n:Nat} (h:n≤30):Zcy .i64 1 (n:Int)=((2^n:Nat):Int):=by
  have hp:2^n≤2^30:=Yib (by omega) h
  have:=Zhp (k:=.i64) (a:=1) (b:=n) (by simp [IntKind.bits];omega) (by simp only [IntKind.bits];omega)
  rw [Yig] at this
  exact this
end Cod
namespace Cod
open Go
theorem Yeu {p:List UInt8} {k i:Nat} {b:List UInt8} (hi:p.length≤i):cpl k (p.drop i) b=0:=by
  rw [List.drop_of_length_le hi]
  cases k<;>rfl
theorem Z97 (a b:List UInt8):cpl 0 a b=0:=by cases a<;>cases b<;>rfl
end Cod
namespace Cod
open Go
def Zk6 (p:List UInt8):AV × A2:=(.buf (.r 0) 0 0 p.length 1,[(.r 0,⟨0,true,true,false,A0 p⟩)])
theorem Zde (s:Nat):(P4 s).2≤9:=by unfold P4 symN;simp only;split<;>(try split)<;>(try split)<;>omega
theorem Zk7 {p:List UInt8} {i n far:Nat} (h:Zsu p i n far):T4 (Zlk n far)≤40:=by
  obtain ⟨h1,h2,_,h4,_,h6,_⟩:=h
  obtain ⟨l1,l2,l3,_,_⟩:=Zsy (n-3) (by omega)
  rw [show n-3+3=n by omega] at l1 l2 l3
  have a:=(Zyr (Zag n-257) (by omega)).2
  rw [show Zag n-257+257=Zag n by omega] at a
  have b:=(Zsz h4 h6).2.2.2.2
  have c:=Zde (Zag n)
  simp only [Zlk,T4]
  unfold P4 at c
  simp only at c
  unfold P4
  simp only
  omega
end Cod
namespace Cod
open Go
theorem Zyt:∀ n<256,Zvb .u8 ((n:Nat):Int)=((255-n:Nat):Int):=by decide +kernel
theorem Zyu {last n:Nat} (h:last≤1) (hn:n≤65535):[AV.int .u8 (last:Int),.int .u8 ((n:Int)%256),.int .u8 (((n/256:Nat):Int)%256),.int .u8 (Zvb .u8 ((n:Int)%256)),.int .u8 (Zvb .u8 (((n/256:Nat):Int)%256))]=A0 (Zc1 last n):=by
  have a1:(n:Int)%256=((n%256:Nat):Int):=by omega
  have a2:((n/256:Nat):Int)%256=((n/256%256:Nat):Int):=by omega
  rw [a1,a2,Zyt _ (by omega),Zyt _ (by omega)]
  simp only [Zc1,A0,List.map_cons,List.map_nil,UInt8.toNat_not,UInt8.toNat_ofNat']
  rw [Yie (a:=last) (by omega)]
  rfl
theorem shr8 {n:Nat}:Zcq .i64 (n:Int) 8=((n/256:Nat):Int):=Z1 (k:=.i64) (b:=8) (by simp [IntKind.bits])
theorem Z98 {n:Nat} (hn:n≤65535):[AV.int .u8 1,.int .u8 ((n:Int)%256),.int .u8 (((n/256:Nat):Int)%256),.int .u8 (Zvb .u8 ((n:Int)%256)),.int .u8 (Zvb .u8 (((n/256:Nat):Int)%256))]=A0 (Zc1 1 n):=Zyu (last:=1) (by omega) hn
theorem Z27 {p:List UInt8} (k:Nat) (h:p.length≤65535*(k+1)):Zcu k p=Zll p:=by
  have key:∀ (k:Nat) (p:List UInt8),p.length≤65535*(k+1)→Zcu k p=Zcu (k+1) p:=by
    intro k
    induction k with
    | zero =>
      intro p h
      rw [show Zcu 1 p=Zc1 1 p.length++p from if_pos (by omega)]
      rfl
    | succ k ih =>
      intro p h
      by_cases hs:p.length≤65535
      · rw [show Zcu (k+1) p=Zc1 1 p.length++p from if_pos hs,show Zcu (k+1+1) p=Zc1 1 p.length++p from if_pos hs]
      · rw [show Zcu (k+1) p=Zc1 0 65535++(p.take 65535++Zcu k (p.drop 65535)) from if_neg hs,show Zcu (k+1+1) p=Zc1 0 65535++(p.take 65535++Zcu (k+1) (p.drop 65535)) from if_neg hs,ih _ (by rw [List.length_drop];omega)]
  have up:∀ (j k:Nat),p.length≤65535*(k+1)→Zcu k p=Zcu (k+j) p:=by
    intro j
    induction j with
    | zero=>intro k _;rfl
    | succ j ih=>intro k h;rw [ih k h,key (k+j) p (by omega)];rfl
  unfold Zll
  rcases Nat.le_total k p.length with hk|hk
  · have:=up (p.length-k) k h
    rw [this,show k+(p.length-k)=p.length by omega]
  · have:=up (k-p.length) p.length (by omega)
    rw [this,show p.length+(k-p.length)=k by omega]
theorem Zyv {p:List UInt8}:(Zid p).length≤10+9*p.length:=by
  have key:∀ (m i:Nat),T4 (Zdr p m i)≤40*m:=by
    intro m
    induction m with
    | zero=>intro i;exact Nat.le_refl _
    | succ m ih =>
      intro i
      by_cases hi:i<p.length
      · rw [Zdr,dif_pos hi]
        split
        · have:=ih (i+1)
          have hs:=Zde p[i].toNat
          show (P4 p[i].toNat).2+T4 (Zdr p m (i+1))≤_
          omega
        · rename_i hz
          have:=ih (i+(Zax p i).1)
          have hl:=Zk7 ((Zyo p i hi).resolve_left hz)
          rw [Zfe]
          omega
      · rw [Zdr,dif_neg hi];simp [T4]
  have h:=key p.length 0
  have hs:=Zde 256
  have lf:(Zid p).length=(T4 (fixC p)+7)/8:=by unfold Zid Zic;rw [Zk0,Zfd];simp
  rw [lf]
  have:T4 (fixC p)=3+(T4 (Zdr p p.length 0)+(P4 256).2):=by
    rw [fixC,T4,T4,Zfe]
    simp only [T4]
    omega
  omega
end Cod
namespace Cod
open Go
structure WrI (p:List UInt8) (held count:Nat) (st:Bst):Prop where
  len:8*p.length+count=st.2
  val:leN p+held*2^(8*p.length)=st.1
  lt:held<2^count
theorem Zk8 {p:List UInt8} {held count:Nat} {st:Bst} (h:WrI p held count st) (hc:8≤count):WrI (p++[UInt8.ofNat (held%256)]) (held/256) (count-8) st:=by
  obtain ⟨h1,h2,h3⟩:=h
  refine ⟨?_,?_,?_⟩
  · simp only [Yf9,Yhx];omega
  · rw [Z96,Yf9,Yhx,UInt8.toNat_ofNat_of_lt' (by simp [UInt8.size];omega),Nat.mul_add,Yih,←h2]
    have e:=Nat.div_add_mod held 256
    have e2:held*2^(8*p.length)=(256*(held/256)+held%256)*2^(8*p.length):=by rw [e]
    rw [e2,Yfx,show (2:Nat)^(8*1)=256 from rfl,Yh7 (2^(8*p.length)) (held%256),Yh7 (2^(8*p.length)) 256,←Nat.mul_assoc,Yh7 (held/256) 256]
    omega
  · rw [Nat.div_lt_iff_lt_mul (by omega)]
    have:2^count=2^(count-8)*2^8:=by rw [←Yih];congr 1;omega
    rw [this] at h3
    exact h3
theorem Zyw {p:List UInt8} {held count v n:Nat} {st:Bst} (h:WrI p held count st) (hv:v<2^n):WrI p (held+v*2^count) (count+n) (Zc0 st v n):=by
  obtain ⟨h1,h2,h3⟩:=h
  refine ⟨by simp only [Zc0];omega,?_,?_⟩
  · simp only [Zc0]
    rw [Yfx,←Nat.add_assoc,h2,Nat.mul_assoc,←Yih,show count+8*p.length=st.2 by omega]
  · have h4:(v+1)*2^count≤2^n*2^count:=Yf7 _ hv
    rw [Yih,Yh7 (2^count)]
    rw [Yfx,Yig] at h4
    omega
theorem Zk9 (n:Nat):((n:Int)%256)=((n%256:Nat):Int):=by omega
theorem Zpm (n:Nat):byt ((n%256:Nat):Int)=UInt8.ofNat (n%256):=by unfold byt;rw [Int.toNat_natCast]
theorem Z99 {n:Nat}:Zcq .u32 (n:Int) 8=((n/256:Nat):Int):=Z1 (k:=.u32) (b:=8) (by simp [IntKind.bits])
theorem Zs0 {s1:Site} {g1:Nat}:∀ (k:Nat) (p:List UInt8) (held count:Nat) (st:Bst),count<8*k+8→count≤31→st.2≤1000000000→WrI p held count st →
    ∃ p' h' c',WrI p' h' c' st∧c' < 8∧X E [] (.c L.B4.x0::.lp [0] L.B4.x0::.blk 0::[]) ⟨[(0,.ref (.up s1) g1 0)],[(.up s1,⟨g1,true,true,true,[.buf (.s 1000000 1) (0) 0 (p).length 1,.int .u32 held,.int .i64 count]⟩),(.s 1000000 1,⟨0,true,true,false,A0 (p)⟩)]⟩=some (.tup [],[(.up s1,⟨g1,true,true,true,[.buf (.r 1) (0) 0 (p').length 1,.int .u32 (h':Nat),.int .i64 (c':Nat)]⟩),(.r 1,⟨0,true,true,false,A0 (p')⟩)]):=by
  intro k
  induction k with
  | zero =>
    intro p held count st h1 _ _ h
    refine ⟨p,held,count,h,by omega,?_⟩
    rw [K1 L.B4.x0.eq_1]
    simp -dsimp (disch:=first|omega|(simp only [B0]<;>omega)|fail) only [go_sem,reduceIte,reduceCtorEq,E2,E3,E4,E5,E6,E7,E8,E9,F0,F1,F2,F3,F4,F5,F6,F7,F8,F9,G0,B2,BYs,G9]
  | succ k ih =>
    intro p held count st h1 h31 hst h
    by_cases h8:count<8
    · refine ⟨p,held,count,h,h8,?_⟩
      rw [K1 L.B4.x0.eq_1]
      simp -dsimp (disch:=first|omega|(simp only [B0]<;>omega)|fail) only [go_sem,reduceIte,reduceCtorEq,E2,E3,E4,E5,E6,E7,E8,E9,F0,F1,F2,F3,F4,F5,F6,F7,F8,F9,G0,B2,BYs,G9]
    · have hl:=h.len
      have hw:=Zk8 h (by omega)
      have hc:(count:Int)-8=((count-8:Nat):Int):=by omega
      obtain ⟨p',h',c',a1,a2,a4⟩:=ih (p++[UInt8.ofNat (held%256)]) (held/256) (count-8) st (by omega) (by omega) hst hw
      refine ⟨p',h',c',a1,a2,?_⟩
      rw [←a4]
      have e1:(p++[UInt8.ofNat (held%256)]).length=p.length+1:=by simp
      rw [e1]
      conv=>lhs;rw [K1 L.B4.x0.eq_1]
      simp -dsimp (disch:=first|omega|(simp only [B0]<;>omega)|fail) only [go_sem,reduceIte,reduceCtorEq,E2,E3,E4,E5,E6,E7,E8,E9,F0,F1,F2,F3,F4,F5,F6,F7,F8,F9,G0,B2,BYs,Zk9,Zpm,Z99,hc]
theorem Z28 {s1 y:Site} {g1 g2:Nat} (hne:s1≠y) (k:Nat) (p:List UInt8) (held count:Nat) (st:Bst) (h1:count<8*k+8) (h31:count≤31) (hst:st.2≤1000000000) (h:WrI p held count st) :
    ∃ p' h' c' z' g',WrI p' h' c' st∧c' < 8∧Zk5 y z' g2 g'∧X E [] (.c L.B4.x0::.lp [0] L.B4.x0::.blk 0::[]) ⟨[(0,.ref (.up s1) g1 0)],[(.up s1,⟨g1,true,true,true,[.buf (.up y) (g2) 0 (p).length 1,.int .u32 held,.int .i64 count]⟩),(.up y,⟨g2,true,true,false,A0 (p)⟩)]⟩=some (.tup [],[(.up s1,⟨g1,true,true,true,[.buf (z') (g') 0 (p').length 1,.int .u32 (h':Nat),.int .i64 (c':Nat)]⟩),(z',⟨g',true,true,false,A0 (p')⟩)]):=by
  have hne':¬ y=s1:=fun e=>hne e.symm
  by_cases h8:count<8
  · refine ⟨p,held,count,_,_,h,h8,.inl ⟨rfl,rfl⟩,?_⟩
    rw [K1 L.B4.x0.eq_1]
    simp -dsimp (disch:=first|omega|(simp only [B0]<;>omega)|fail) only [go_sem,reduceIte,reduceCtorEq,E2,E3,E4,E5,E6,E7,E8,E9,F0,F1,F2,F3,F4,F5,F6,F7,F8,F9,G0,B2,BYs,hne,hne',G9]
  · have hl:=h.len
    have hw:=Zk8 h (by omega)
    have hc:(count:Int)-8=((count-8:Nat):Int):=by omega
    obtain ⟨p',h',c',a1,a2,a4⟩:=Zs0 (s1:=s1) (g1:=g1) k (p++[UInt8.ofNat (held%256)]) (held/256) (count-8) st (by omega) (by omega) hst hw
    refine ⟨p',h',c',_,_,a1,a2,.inr ⟨rfl,rfl⟩,?_⟩
    rw [←a4]
    have e1:(p++[UInt8.ofNat (held%256)]).length=p.length+1:=by simp
    rw [e1]
    conv=>lhs;rw [K1 L.B4.x0.eq_1]
    simp -dsimp (disch:=first|omega|(simp only [B0]<;>omega)|fail) only [go_sem,reduceIte,reduceCtorEq,E2,E3,E4,E5,E6,E7,E8,E9,F0,F1,F2,F3,F4,F5,F6,F7,F8,F9,G0,B2,BYs,hne,hne',Zk9,Zpm,Z99,hc]
theorem Zyx {h v c:Nat} (hh:h<2^c) (hs:h+v*2^c<2^31) (hc:c≤32):ior .u32 (h:Int) (Zcy .u32 (v:Int) (c:Int))=((h+v*2^c:Nat):Int):=by
  rw [Zhp (by simpa [IntKind.bits] using hc) (by simp only [IntKind.bits];omega)]
  exact Yet hh (by simpa [IntKind.bits] using hs)
theorem Zyy {h v c n:Nat} (hh:h<2^c) (hv:v<2^n) (hc:c+n≤31):h+v*2^c<2^31:=by
  have h4:(v+1)*2^c≤2^n*2^c:=Yf7 _ hv
  rw [Yfx,Yig,←Yih,Nat.add_comm n] at h4
  have h5:2^(c+n)≤2^31:=Yib (by omega) hc
  omega
theorem Zyz {v:Nat} (h:v<2^31):IntKind.u32.wrap (v:Int)=v:=Zfc (by simpa [IntKind.bits] using h)
theorem Zw4 {s1 y:Site} {g1 g2:Nat} (hne:s1≠y) {p:List UInt8} {held count v n:Nat} {st:Bst} (h:WrI p held count st) (hc:count<8) (hv:v<2^n) (hn:n≤16) (hN:st.2+n≤1000000000):∃ p' h' c' z g',WrI p' h' c' (Zc0 st v n)∧c' < 8∧Zk5 y z g2 g'∧S E F.B4 [.ref (.up s1) g1 0,.int .i64 v,.int .i64 n] ([(.up s1,⟨g1,true,true,true,[.buf (.up y) (g2) 0 (p).length 1,.int .u32 held,.int .i64 count]⟩),(.up y,⟨g2,true,true,false,A0 (p)⟩)])=some (.tup [],[(.up s1,⟨g1,true,true,true,[.buf (z) (g') 0 (p').length 1,.int .u32 (h':Nat),.int .i64 (c':Nat)]⟩),(z,⟨g',true,true,false,A0 (p')⟩)]):=by
  have hne':¬ y=s1:=fun e=>hne e.symm
  have hvn:v<2^31:=Yfl hv (Yib (by omega) (by omega))
  have hl:=Zyy (n:=n) h.lt hv (by omega)
  have e1:=Zyx h.lt hl (by omega)
  have e2:=Zyz hvn
  have e3:(count:Int)+n=((count+n:Nat):Int):=by omega
  obtain ⟨p',h',c',z',g',a1,a2,a3,a4⟩:=Z28 (g1:=g1) (g2:=g2) hne 3 p (held+v*2^count) (count+n) (Zc0 st v n) (by omega) (by omega) (by simpa [Zc0] using hN) (Zyw h hv)
  refine ⟨p',h',c',z',g',a1,a2,a3,?_⟩
  rw [←a4,L4 Zd8 rfl rfl]
  simp -dsimp (disch:=first|omega|(simp only [B0]<;>omega)|fail) only [L.B4,go_sem,reduceIte,reduceCtorEq,E2,E3,E4,E5,E6,E7,E8,E9,F0,F1,F2,F3,F4,F5,F6,F7,F8,F9,G0,B2,BYs,hne,hne',e1,e2,e3]
theorem Zi6 {s1:Site} {g1:Nat} {held count v n:Nat} {st:Bst} (h:WrI [] held count st) (hc:count<8) (hv:v<2^n) (hn:n≤16) (hN:st.2+n≤1000000000):(count+n<8→S E F.B4 [.ref (.up s1) g1 0,.int .i64 v,.int .i64 n] ([(.up s1,⟨g1,true,true,true,[.nils,.int .u32 held,.int .i64 count]⟩)])=some (.tup [],[(.up s1,⟨g1,true,true,true,[.nils,.int .u32 ((held+v*2^count:Nat):Int),.int .i64 ((count+n:Nat):Int)]⟩)]))∧(8≤count+n→∃ p' h' c',WrI p' h' c' (Zc0 st v n)∧c' < 8∧S E F.B4 [.ref (.up s1) g1 0,.int .i64 v,.int .i64 n] ([(.up s1,⟨g1,true,true,true,[.nils,.int .u32 held,.int .i64 count]⟩)])=some (.tup [],[(.up s1,⟨g1,true,true,true,[.buf (.r 1) (0) 0 (p').length 1,.int .u32 (h':Nat),.int .i64 (c':Nat)]⟩),(.r 1,⟨0,true,true,false,A0 (p')⟩)])):=by
  have hvn:v<2^31:=Yfl hv (Yib (by omega) (by omega))
  have hl:=Zyy (n:=n) h.lt hv (by omega)
  have e1:=Zyx h.lt hl (by omega)
  have e2:=Zyz hvn
  have e3:(count:Int)+n=((count+n:Nat):Int):=by omega
  refine ⟨fun h8=>?_,fun h8=>?_⟩
  · have hst:S E F.B4 [.ref (.up s1) g1 0,.int .i64 v,.int .i64 n] ([(.up s1,⟨g1,true,true,true,[.nils,.int .u32 held,.int .i64 count]⟩)])=X E [] (.c L.B4.x0::.lp [0] L.B4.x0::.blk 0::[]) ⟨[(0,.ref (.up s1) g1 0)],[(.up s1,⟨g1,true,true,true,[.nils,.int .u32 ((held+v*2^count:Nat):Int),.int .i64 ((count+n:Nat):Int)]⟩)]⟩:=by
      rw [L4 Zd8 rfl rfl]
      simp -dsimp (disch:=first|omega|(simp only [B0]<;>omega)|fail) only [L.B4,go_sem,reduceIte,reduceCtorEq,E2,E3,E4,E5,E6,E7,E8,E9,F0,F1,F2,F3,F4,F5,F6,F7,F8,F9,G0,B2,BYs,e1,e2,e3]
    rw [hst,K1 L.B4.x0.eq_1]
    simp -dsimp (disch:=first|omega|(simp only [B0]<;>omega)|fail) only [go_sem,reduceIte,reduceCtorEq,E2,E3,E4,E5,E6,E7,E8,E9,F0,F1,F2,F3,F4,F5,F6,F7,F8,F9,G0,B2,BYs,G9]
  · have hw:=Zk8 (Zyw h hv) h8
    have hc8:((count+n:Nat):Int)-8=((count+n-8:Nat):Int):=by omega
    obtain ⟨p',h',c',a1,a2,a4⟩:=Zs0 (s1:=s1) (g1:=g1) 3 ([]++[UInt8.ofNat ((held+v*2^count)%256)]) ((held+v*2^count)/256) (count+n-8) (Zc0 st v n) (by omega) (by omega) (by simpa [Zc0] using hN) hw
    refine ⟨p',h',c',a1,a2,?_⟩
    rw [←a4]
    have hst:S E F.B4 [.ref (.up s1) g1 0,.int .i64 v,.int .i64 n] ([(.up s1,⟨g1,true,true,true,[.nils,.int .u32 held,.int .i64 count]⟩)])=X E [] (.c L.B4.x0::.lp [0] L.B4.x0::.blk 0::[]) ⟨[(0,.ref (.up s1) g1 0)],[(.up s1,⟨g1,true,true,true,[.nils,.int .u32 ((held+v*2^count:Nat):Int),.int .i64 ((count+n:Nat):Int)]⟩)]⟩:=by
      rw [L4 Zd8 rfl rfl]
      simp -dsimp (disch:=first|omega|(simp only [B0]<;>omega)|fail) only [L.B4,go_sem,reduceIte,reduceCtorEq,E2,E3,E4,E5,E6,E7,E8,E9,F0,F1,F2,F3,F4,F5,F6,F7,F8,F9,G0,B2,BYs,e1,e2,e3]
    rw [hst]
    conv=>lhs;rw [K1 L.B4.x0.eq_1]
    have e5:A0 [UInt8.ofNat ((held+v*2^count)%256)]=[AV.int .u8 (((held+v*2^count)%256:Nat):Int)]:=by
      simp [A0]
    simp -dsimp (disch:=first|omega|(simp only [B0]<;>omega)|fail) only [go_sem,reduceIte,reduceCtorEq,E2,E3,E4,E5,E6,E7,E8,E9,F0,F1,F2,F3,F4,F5,F6,F7,F8,F9,G0,B2,Zk9,Zpm,Z99,hc8,e5,List.nil_append,Yhx]
end Cod
namespace Cod
open Go
def Zla:List UInt8:=[0,128,64,192,32,160,96,224,16,144,80,208,48,176,112,240,8,136,72,200,40,168,104,232,24,152,88,216,56,184,120,248,4,132,68,196,36,164,100,228,20,148,84,212,52,180,116,244,12,140,76,204,44,172,108,236,28,156,92,220,60,188,124,252,2,130,66,194,34,162,98,226,18,146,82,210,50,178,114,242,10,138,74,202,42,170,106,234,26,154,90,218,58,186,122,250,6,134,70,198,38,166,102,230,22,150,86,214,54,182,118,246,14,142,78,206,46,174,110,238,30,158,94,222,62,190,126,254,1,129,65,193,33,161,97,225,17,145,81,209,49,177,113,241,9,137,73,201,41,169,105,233,25,153,89,217,57,185,121,249,5,133,69,197,37,165,101,229,21,149,85,213,53,181,117,245,13,141,77,205,45,173,109,237,29,157,93,221,61,189,125,253,3,131,67,195,35,163,99,227,19,147,83,211,51,179,115,243,11,139,75,203,43,171,107,235,27,155,91,219,59,187,123,251,7,135,71,199,39,167,103,231,23,151,87,215,55,183,119,247,15,143,79,207,47,175,111,239,31,159,95,223,63,191,127,255]
def lenT:List UInt8:=[0,1,2,2,3,3,3,3,4,4,4,4,4,4,4,4,5,5,5,5,5,5,5,5,5,5,5,5,5,5,5,5,6,6,6,6,6,6,6,6,6,6,6,6,6,6,6,6,6,6,6,6,6,6,6,6,6,6,6,6,6,6,6,6,7,7,7,7,7,7,7,7,7,7,7,7,7,7,7,7,7,7,7,7,7,7,7,7,7,7,7,7,7,7,7,7,7,7,7,7,7,7,7,7,7,7,7,7,7,7,7,7,7,7,7,7,7,7,7,7,7,7,7,7,7,7,7,7,8,8,8,8,8,8,8,8,8,8,8,8,8,8,8,8,8,8,8,8,8,8,8,8,8,8,8,8,8,8,8,8,8,8,8,8,8,8,8,8,8,8,8,8,8,8,8,8,8,8,8,8,8,8,8,8,8,8,8,8,8,8,8,8,8,8,8,8,8,8,8,8,8,8,8,8,8,8,8,8,8,8,8,8,8,8,8,8,8,8,8,8,8,8,8,8,8,8,8,8,8,8,8,8,8,8,8,8,8,8,8,8,8,8,8,8,8,8,8,8,8,8,8,8,8,8,8,8]
theorem Yev:[0,128,64,192,32,160,96,224,16,144,80,208,48,176,112,240,8,136,72,200,40,168,104,232,24,152,88,216,56,184,120,248,4,132,68,196,36,164,100,228,20,148,84,212,52,180,116,244,12,140,76,204,44,172,108,236,28,156,92,220,60,188,124,252,2,130,66,194,34,162,98,226,18,146,82,210,50,178,114,242,10,138,74,202,42,170,106,234,26,154,90,218,58,186,122,250,6,134,70,198,38,166,102,230,22,150,86,214,54,182,118,246,14,142,78,206,46,174,110,238,30,158,94,222,62,190,126,254,1,129,65,193,33,161,97,225,17,145,81,209,49,177,113,241,9,137,73,201,41,169,105,233,25,153,89,217,57,185,121,249,5,133,69,197,37,165,101,229,21,149,85,213,53,181,117,245,13,141,77,205,45,173,109,237,29,157,93,221,61,189,125,253,3,131,67,195,35,163,99,227,19,147,83,211,51,179,115,243,11,139,75,203,43,171,107,235,27,155,91,219,59,187,123,251,7,135,71,199,39,167,103,231,23,151,87,215,55,183,119,247,15,143,79,207,47,175,111,239,31,159,95,223,63,191,127,255]=Zla:=rfl
theorem Zy0:[0,1,2,2,3,3,3,3,4,4,4,4,4,4,4,4,5,5,5,5,5,5,5,5,5,5,5,5,5,5,5,5,6,6,6,6,6,6,6,6,6,6,6,6,6,6,6,6,6,6,6,6,6,6,6,6,6,6,6,6,6,6,6,6,7,7,7,7,7,7,7,7,7,7,7,7,7,7,7,7,7,7,7,7,7,7,7,7,7,7,7,7,7,7,7,7,7,7,7,7,7,7,7,7,7,7,7,7,7,7,7,7,7,7,7,7,7,7,7,7,7,7,7,7,7,7,7,7,8,8,8,8,8,8,8,8,8,8,8,8,8,8,8,8,8,8,8,8,8,8,8,8,8,8,8,8,8,8,8,8,8,8,8,8,8,8,8,8,8,8,8,8,8,8,8,8,8,8,8,8,8,8,8,8,8,8,8,8,8,8,8,8,8,8,8,8,8,8,8,8,8,8,8,8,8,8,8,8,8,8,8,8,8,8,8,8,8,8,8,8,8,8,8,8,8,8,8,8,8,8,8,8,8,8,8,8,8,8,8,8,8,8,8,8,8,8,8,8,8,8,8,8,8,8,8,8]=lenT:=rfl
theorem Yaa:Zla.length=256:=by decide +kernel
theorem Yab:lenT.length=256:=by decide +kernel
theorem Zff {n:Nat} (h:n<65536):IntKind.u16.wrap (n:Int)=n:=by
  simp [IntKind.wrap,IntKind.signed,IntKind.bits]
  omega
theorem Yew {a b:Nat} (ha:a<256) (hb:b<256):ior .u16 (a:Int) (Zcy .u16 (b:Int) 8)=((a+b*2^8:Nat):Int):=by
  have e1:Zcy .u16 (b:Int) 8=((b*2^8:Nat):Int):=by
    unfold Zcy
    show IntKind.u16.wrap ((b:Int)*2^8)=_
    rw [show (b:Int)*2^8=((b*2^8:Nat):Int) by rw [Int.natCast_mul];rfl]
    exact Zff (by omega)
  rw [e1]
  unfold ior
  rw [Yic,Yic,BitVec.toNat_or,Yid,Yid]
  simp only [IntKind.bits]
  rw [Yie (by omega),Yie (by omega),Nat.or_comm,Yh7 b,←Yii (by omega),Nat.add_comm]
  exact Zff (by omega)
def Zs1 (x:Nat):Nat:=(Zla.getD (x/256) 0).toNat+(Zla.getD (x%256) 0).toNat*2^8
set_option maxRecDepth 10000 in
theorem Zs2 {x:Nat} (hx:x<512):S E F.S5 [.int .u16 x] []=some (.int .u16 (Zs1 x:Nat),[]):=by
  have e1:Zcq .u16 (x:Int) 8=((x/256:Nat):Int):=Z1 (k:=.u16) (b:=8) (by simp [IntKind.bits])
  have e2:Zh5 .u16 (x:Int) 255=((x%256:Nat):Int):=Zfy (k:=.u16) (n:=8) (by simp [IntKind.bits];omega) (by simp [IntKind.bits])
  have l:=Yaa
  have w1:∀ i,IntKind.u16.wrap (bat Zla i)=bat Zla i:=fun i=>by
    unfold bat
    have:=(Zla.getD i 0).toNat_lt
    exact Zff (by omega)
  have t1:((x/256:Nat):Int).toNat=x/256:=rfl
  have t2:((x%256:Nat):Int).toNat=x%256:=rfl
  have e3:ior .u16 (bat Zla (x/256)) (Zcy .u16 (bat Zla (x%256)) 8)=(Zs1 x:Nat):=by
    unfold bat Zs1
    exact Yew (Zla.getD (x/256) 0).toNat_lt (Zla.getD (x%256) 0).toNat_lt
  rw [L4 Zor rfl rfl]
  simp -dsimp (disch:=first|omega|(simp only [B0]<;>omega)|fail) only [L.S5,go_sem,reduceIte,reduceCtorEq,E2,E3,E4,E5,E6,E7,E8,E9,F0,F1,F2,F3,F4,F5,F6,F7,F8,F9,G0,B2,BYs,Yev,e1,e2,l,w1,e3,Zfx]
theorem rev_ok:∀ n<10,4<n→∀ x<2^n,Zs1 x/2^(16-n)=Zdq n x:=by decide +kernel
theorem Yac:∀ n<10,∀ x<2^n,Zdq n x<2^n:=by decide +kernel
end Cod
namespace Cod
open Go
theorem Zy1:∀ x<256,(lenT.getD x 0).toNat=if x=0 then 0 else Nat.log2 x+1:=by decide +kernel
theorem Yad {v:Nat} (h1:256≤v) (h2:v<65536):Nat.log2 v=8+Nat.log2 (v/256):=by
  have hv:v≠0:=by omega
  have hd:v/256≠0:=by omega
  have a1:=Nat.log2_self_le hd
  have a2:=Nat.lt_log2_self (n:=v/256)
  generalize (v/256).log2=k at *
  have b1:2^(8+k)≤v:=by
    have:2^(8+k)=256*2^k:=by rw [Yih]
    omega
  have b2:v<2^(8+k+1):=by
    have:2^(8+k+1)=256*2^(k+1):=by rw [Nat.add_assoc,Yih]
    omega
  have c1:=(Yij hv).2 b1
  have c2:=(Yik hv).2 b2
  omega
set_option maxRecDepth 10000 in
theorem Yae {v:Nat} (h1:0<v) (h2:v<65536):S E F.U6 [.int .u64 v] []=some (.int .i64 (Nat.log2 v+1:Nat),[]):=by
  have l:=Yab
  have t1:(v:Int).toNat=v:=rfl
  have e1:Zcq .u64 (v:Int) 8=((v/256:Nat):Int):=Z1 (k:=.u64) (b:=8) (by simp [IntKind.bits])
  by_cases h:v<256
  · have e2:bat lenT v=((Nat.log2 v+1:Nat):Int):=by unfold bat;rw [Zy1 v h,if_neg (by omega)]
    have m:(v:Int)%256=v:=by omega
    have hb:Nat.log2 v<9:=(Yik (by omega)).2 (by omega)
    rw [L4 Zg1 rfl rfl]
    simp -dsimp (disch:=first|omega|(simp only [B0]<;>omega)|fail) only [L.U6,go_sem,reduceIte,reduceCtorEq,E2,E3,E4,E5,E6,E7,E8,E9,F0,F1,F2,F3,F4,F5,F6,F7,F8,F9,G0,B2,BYs,Zy0,l,e2,m,Zfx,Int.zero_add]
  · have e2:bat lenT (v/256)=((Nat.log2 (v/256)+1:Nat):Int):=by unfold bat;rw [Zy1 _ (by omega),if_neg (by omega)]
    have m:((v/256:Nat):Int)%256=((v/256:Nat):Int):=by omega
    have t2:((v/256:Nat):Int).toNat=v/256:=rfl
    have hb:Nat.log2 (v/256)<9:=(Yik (by omega)).2 (by omega)
    have e3:(8:Int)+((Nat.log2 (v/256)+1:Nat):Int)=((8+Nat.log2 (v/256)+1:Nat):Int):=by omega
    rw [Yad (by omega) h2,L4 Zg1 rfl rfl]
    simp -dsimp (disch:=first|omega|(simp only [B0]<;>omega)|fail) only [L.U6,go_sem,reduceIte,reduceCtorEq,E2,E3,E4,E5,E6,E7,E8,E9,F0,F1,F2,F3,F4,F5,F6,F7,F8,F9,G0,B2,BYs,Zy0,l,e1,e2,e3,m,t2,Zfx,Int.zero_add]
theorem Zmq {v:Nat} (h1:0<v) (h2:v<65536):S E F.Zaq [.int .u64 v] []=some (.int .i64 (Nat.log2 v+1:Nat),[]):=by
  have c:=Yae h1 h2
  rw [L4 Zry rfl rfl]
  simp -dsimp (disch:=first|omega|(simp only [B0]<;>omega)|fail) only [L.Zaq,go_sem,reduceIte,reduceCtorEq,E2,E3,E4,E5,E6,E7,E8,E9,F0,F1,F2,F3,F4,F5,F6,F7,F8,F9,G0,B2,BYs,c]
def Zs3 (f:Nat) (args:List AV) (cs:List (Nat × Nat)):Prop:=∀ {s1 y:Site} {g1 g2:Nat} {p:List UInt8} {held count:Nat} {st:Bst},s1≠y→WrI p held count st→count<8→st.2+T4 cs≤1000000000→∃ p' h' c' z g',WrI p' h' c' (O7 st cs)∧c' < 8∧Zk5 y z g2 g'∧S E f (.ref (.up s1) g1 0::args) ([(.up s1,⟨g1,true,true,true,[.buf (.up y) (g2) 0 (p).length 1,.int .u32 held,.int .i64 count]⟩),(.up y,⟨g2,true,true,false,A0 (p)⟩)])=some (.tup [],[(.up s1,⟨g1,true,true,true,[.buf (z) (g') 0 (p').length 1,.int .u32 (h':Nat),.int .i64 (c':Nat)]⟩),(z,⟨g',true,true,false,A0 (p')⟩)])
def Yaf (f:Nat) (args:List AV) (cs:List (Nat × Nat)):Prop:=∀ {s1:Site} {g1:Nat} {held:Nat} {st:Bst},WrI [] held 3 st→∃ p' h' c',WrI p' h' c' (O7 st cs)∧c' < 8∧S E f (.ref (.up s1) g1 0::args) ([(.up s1,⟨g1,true,true,true,[.nils,.int .u32 held,.int .i64 3]⟩)])=some (.tup [],[(.up s1,⟨g1,true,true,true,[.buf (.r 1) (0) 0 (p').length 1,.int .u32 (h':Nat),.int .i64 (c':Nat)]⟩),(.r 1,⟨0,true,true,false,A0 (p')⟩)])
theorem Zaz {v n:Nat} (hv:v<2^n) (hn:n≤16):Zs3 F.B4 [.int .i64 v,.int .i64 n] [(v,n)]:=by
  intro s1 y g1 g2 p held count st hne h hc hN
  exact Zw4 hne h hc hv hn (by simpa [T4] using hN)
theorem Zpn {v n:Nat} (hv:v<2^n) (hn:n≤16) (h5:5≤n):Yaf F.B4 [.int .i64 v,.int .i64 n] [(v,n)]:=by
  intro s1 g1 held st h
  have hl:=h.len
  simp only [List.length_nil] at hl
  have:=(Zi6 (s1:=s1) (g1:=g1) h (by omega) hv hn (by omega)).2 (by omega)
  exact this
theorem Zy2 {v n:Nat} (hn:n<10) (hv:v<2^n):v<512:=by
  have:2^n≤2^9:=Yib (by omega) (by omega)
  omega
section
variable {v n:Nat} (hn:n<10) (h5:4<n) (hv:v<2^n)
include hn h5 hv
theorem Zs4:Zcq .u16 ((Zs1 v:Nat):Int) ((16-n:Nat):Int)=((Zdq n v:Nat):Int):=by
  rw [Z1 (by simp [IntKind.bits]),rev_ok n hn h5 v hv]
theorem Zcv:Zs3 F.I8 [.int .i64 v,.int .i64 n] [(Zdq n v,n)]:=by
  intro s1 y g1 g2 p held count st hne h hc hN
  have hne':¬ y=s1:=fun e=>hne e.symm
  have hne1:Site.up s1≠.up y:=by simpa using hne
  have hv2:v<512:=Zy2 hn hv
  have hr:=Yac n hn v hv
  have hr2:Zdq n v<512:=Zy2 hn hr
  have e1:IntKind.u16.wrap (v:Int)=v:=Zff (by omega)
  have e2:(16:Int)-n=((16-n:Nat):Int):=by omega
  have e3:=Zs4 hn h5 hv
  have c0:=Zs2 hv2
  obtain ⟨p',h',c',z,g',a1,a2,a3,a4⟩:=Zaz hr (by omega) (g1:=g1) (g2:=g2) hne1 h hc hN
  rcases a3 with ⟨rfl,rfl⟩|⟨rfl,rfl⟩
  · refine ⟨p',h',c',_,_,a1,a2,.inl ⟨rfl,rfl⟩,?_⟩
    rw [L4 Zeb rfl rfl]
    simp -dsimp (disch:=first|omega|(simp only [B0]<;>omega)|fail) only [L.I8,go_sem,reduceIte,reduceCtorEq,E2,E3,E4,E5,E6,E7,E8,E9,F0,F1,F2,F3,F4,F5,F6,F7,F8,F9,G0,B2,BYs,hne,hne',e1,e2,e3,c0,a4,G9]
  · refine ⟨p',h',c',_,_,a1,a2,.inr ⟨rfl,rfl⟩,?_⟩
    rw [L4 Zeb rfl rfl]
    simp -dsimp (disch:=first|omega|(simp only [B0]<;>omega)|fail) only [L.I8,go_sem,reduceIte,reduceCtorEq,E2,E3,E4,E5,E6,E7,E8,E9,F0,F1,F2,F3,F4,F5,F6,F7,F8,F9,G0,B2,BYs,hne,hne',e1,e2,e3,c0,a4,G9]
theorem Zfg:Yaf F.I8 [.int .i64 v,.int .i64 n] [(Zdq n v,n)]:=by
  intro s1 g1 held st h
  have hv2:v<512:=Zy2 hn hv
  have hr:=Yac n hn v hv
  have hr2:Zdq n v<512:=Zy2 hn hr
  have e1:IntKind.u16.wrap (v:Int)=v:=Zff (by omega)
  have e2:(16:Int)-n=((16-n:Nat):Int):=by omega
  have e3:=Zs4 hn h5 hv
  have c0:=Zs2 hv2
  obtain ⟨p',h',c',a1,a2,a4⟩:=Zpn hr (by omega) (by omega) (s1:=.up s1) (g1:=g1) h
  refine ⟨p',h',c',a1,a2,?_⟩
  rw [L4 Zeb rfl rfl]
  simp -dsimp (disch:=first|omega|(simp only [B0]<;>omega)|fail) only [L.I8,go_sem,reduceIte,reduceCtorEq,E2,E3,E4,E5,E6,E7,E8,E9,F0,F1,F2,F3,F4,F5,F6,F7,F8,F9,G0,B2,BYs,e1,e2,e3,c0,a4,G9]
end
theorem Zej {s:Nat} (hs:s<288):Zs3 F.D9 [.int .i64 s] [P4 s]:=by
  intro s1 y g1 g2 p held count st hne h hc hN
  have hne':¬ y=s1:=fun e=>hne e.symm
  have hne1:Site.up s1≠.up y:=by simpa using hne
  rcases Zmp s hs with ⟨g,e⟩|⟨g,g',e⟩|⟨g,g',e⟩|⟨g,e⟩<;>rw [e] at hN ⊢
  · obtain ⟨p1,h1,c1,z1,u1,b1,b2,m1,c1⟩:=Zcv (v:=48+s) (n:=8) (by omega) (by omega) (by omega) (g1:=g1) (g2:=g2) hne1 h hc hN
    have q:(s:Int)+48=((48+s:Nat):Int):=by omega
    simp only [Yhz] at c1 ⊢
    rcases m1 with ⟨rfl,rfl⟩|⟨rfl,rfl⟩
    · refine ⟨p1,_,_,_,_,b1,b2,.inl ⟨rfl,rfl⟩,?_⟩
      rw [L4 N3 rfl rfl]
      simp -dsimp (disch:=first|omega|(simp only [B0]<;>omega)|fail) only [L.D9,go_sem,reduceIte,reduceCtorEq,E2,E3,E4,E5,E6,E7,E8,E9,F0,F1,F2,F3,F4,F5,F6,F7,F8,F9,G0,B2,BYs,hne,hne',q,c1,G9]
    · refine ⟨p1,_,_,_,_,b1,b2,.inr ⟨rfl,rfl⟩,?_⟩
      rw [L4 N3 rfl rfl]
      simp -dsimp (disch:=first|omega|(simp only [B0]<;>omega)|fail) only [L.D9,go_sem,reduceIte,reduceCtorEq,E2,E3,E4,E5,E6,E7,E8,E9,F0,F1,F2,F3,F4,F5,F6,F7,F8,F9,G0,B2,BYs,hne,hne',q,c1,G9]
  · obtain ⟨p1,h1,c1,z1,u1,b1,b2,m1,c1⟩:=Zcv (v:=256+s) (n:=9) (by omega) (by omega) (by omega) (g1:=g1) (g2:=g2) hne1 h hc hN
    have q:(s:Int)+256=((256+s:Nat):Int):=by omega
    simp only [Yhz] at c1 ⊢
    rcases m1 with ⟨rfl,rfl⟩|⟨rfl,rfl⟩
    · refine ⟨p1,_,_,_,_,b1,b2,.inl ⟨rfl,rfl⟩,?_⟩
      rw [L4 N3 rfl rfl]
      simp -dsimp (disch:=first|omega|(simp only [B0]<;>omega)|fail) only [L.D9,go_sem,reduceIte,reduceCtorEq,E2,E3,E4,E5,E6,E7,E8,E9,F0,F1,F2,F3,F4,F5,F6,F7,F8,F9,G0,B2,BYs,hne,hne',q,c1,G9]
    · refine ⟨p1,_,_,_,_,b1,b2,.inr ⟨rfl,rfl⟩,?_⟩
      rw [L4 N3 rfl rfl]
      simp -dsimp (disch:=first|omega|(simp only [B0]<;>omega)|fail) only [L.D9,go_sem,reduceIte,reduceCtorEq,E2,E3,E4,E5,E6,E7,E8,E9,F0,F1,F2,F3,F4,F5,F6,F7,F8,F9,G0,B2,BYs,hne,hne',q,c1,G9]
  · obtain ⟨p1,h1,c1,z1,u1,b1,b2,m1,c1⟩:=Zcv (v:=s-256) (n:=7) (by omega) (by omega) (by omega) (g1:=g1) (g2:=g2) hne1 h hc hN
    have q:(s:Int)-256=((s-256:Nat):Int):=by omega
    simp only [Yhz] at c1 ⊢
    rcases m1 with ⟨rfl,rfl⟩|⟨rfl,rfl⟩
    · refine ⟨p1,_,_,_,_,b1,b2,.inl ⟨rfl,rfl⟩,?_⟩
      rw [L4 N3 rfl rfl]
      simp -dsimp (disch:=first|omega|(simp only [B0]<;>omega)|fail) only [L.D9,go_sem,reduceIte,reduceCtorEq,E2,E3,E4,E5,E6,E7,E8,E9,F0,F1,F2,F3,F4,F5,F6,F7,F8,F9,G0,B2,BYs,hne,hne',q,c1,G9]
    · refine ⟨p1,_,_,_,_,b1,b2,.inr ⟨rfl,rfl⟩,?_⟩
      rw [L4 N3 rfl rfl]
      simp -dsimp (disch:=first|omega|(simp only [B0]<;>omega)|fail) only [L.D9,go_sem,reduceIte,reduceCtorEq,E2,E3,E4,E5,E6,E7,E8,E9,F0,F1,F2,F3,F4,F5,F6,F7,F8,F9,G0,B2,BYs,hne,hne',q,c1,G9]
  · obtain ⟨p1,h1,c1,z1,u1,b1,b2,m1,c1⟩:=Zcv (v:=s-88) (n:=8) (by omega) (by omega) (by omega) (g1:=g1) (g2:=g2) hne1 h hc hN
    have q:(s:Int)-88=((s-88:Nat):Int):=by omega
    simp only [Yhz] at c1 ⊢
    rcases m1 with ⟨rfl,rfl⟩|⟨rfl,rfl⟩
    · refine ⟨p1,_,_,_,_,b1,b2,.inl ⟨rfl,rfl⟩,?_⟩
      rw [L4 N3 rfl rfl]
      simp -dsimp (disch:=first|omega|(simp only [B0]<;>omega)|fail) only [L.D9,go_sem,reduceIte,reduceCtorEq,E2,E3,E4,E5,E6,E7,E8,E9,F0,F1,F2,F3,F4,F5,F6,F7,F8,F9,G0,B2,BYs,hne,hne',q,c1,G9]
    · refine ⟨p1,_,_,_,_,b1,b2,.inr ⟨rfl,rfl⟩,?_⟩
      rw [L4 N3 rfl rfl]
      simp -dsimp (disch:=first|omega|(simp only [B0]<;>omega)|fail) only [L.D9,go_sem,reduceIte,reduceCtorEq,E2,E3,E4,E5,E6,E7,E8,E9,F0,F1,F2,F3,F4,F5,F6,F7,F8,F9,G0,B2,BYs,hne,hne',q,c1,G9]
theorem Zhq {s:Nat} (hs:s<280):Yaf F.D9 [.int .i64 s] [P4 s]:=by
  intro s1 g1 held st h
  rcases Zmp s (by omega) with ⟨g,e⟩|⟨g,g',e⟩|⟨g,g',e⟩|⟨g,e⟩
  · rw [e]
    obtain ⟨p1,h1,c1,b1,b2,c1⟩:=Zfg (v:=48+s) (n:=8) (by omega) (by omega) (by omega) (s1:=.up s1) (g1:=g1) h
    have q:(s:Int)+48=((48+s:Nat):Int):=by omega
    simp only [Yhz] at c1 ⊢
    refine ⟨p1,_,_,b1,b2,?_⟩
    rw [L4 N3 rfl rfl]
    simp -dsimp (disch:=first|omega|(simp only [B0]<;>omega)|fail) only [L.D9,go_sem,reduceIte,reduceCtorEq,E2,E3,E4,E5,E6,E7,E8,E9,F0,F1,F2,F3,F4,F5,F6,F7,F8,F9,G0,B2,BYs,q,c1,G9]
  · rw [e]
    obtain ⟨p1,h1,c1,b1,b2,c1⟩:=Zfg (v:=256+s) (n:=9) (by omega) (by omega) (by omega) (s1:=.up s1) (g1:=g1) h
    have q:(s:Int)+256=((256+s:Nat):Int):=by omega
    simp only [Yhz] at c1 ⊢
    refine ⟨p1,_,_,b1,b2,?_⟩
    rw [L4 N3 rfl rfl]
    simp -dsimp (disch:=first|omega|(simp only [B0]<;>omega)|fail) only [L.D9,go_sem,reduceIte,reduceCtorEq,E2,E3,E4,E5,E6,E7,E8,E9,F0,F1,F2,F3,F4,F5,F6,F7,F8,F9,G0,B2,BYs,q,c1,G9]
  · rw [e]
    obtain ⟨p1,h1,c1,b1,b2,c1⟩:=Zfg (v:=s-256) (n:=7) (by omega) (by omega) (by omega) (s1:=.up s1) (g1:=g1) h
    have q:(s:Int)-256=((s-256:Nat):Int):=by omega
    simp only [Yhz] at c1 ⊢
    refine ⟨p1,_,_,b1,b2,?_⟩
    rw [L4 N3 rfl rfl]
    simp -dsimp (disch:=first|omega|(simp only [B0]<;>omega)|fail) only [L.D9,go_sem,reduceIte,reduceCtorEq,E2,E3,E4,E5,E6,E7,E8,E9,F0,F1,F2,F3,F4,F5,F6,F7,F8,F9,G0,B2,BYs,q,c1,G9]
  · omega
end Cod
namespace Cod
open Go
theorem Zmr (st:Bst):Zc0 st 0 0=st:=by simp [Zc0]
theorem Zs5 {v n:Nat} (hv:v<2^62) (hn:n≤30):Zh5 .i64 (v:Int) (((2^n:Nat):Int)-1)=((v%2^n:Nat):Int):=by
  have h:0<2^n:=Yil (by omega)
  rw [show ((2^n:Nat):Int)-1=((2^n-1:Nat):Int) by omega]
  exact Zfy (k:=.i64) (by simp only [IntKind.bits];omega) (by simp only [IntKind.bits];omega)
theorem Zy3 {v n:Nat} (hn:n≤30):Zcq .i64 (v:Int) (n:Int)=((v/2^n:Nat):Int):=Z1 (by simp only [IntKind.bits];omega)
theorem Zpo {n:Nat} (h3:3≤n) (h258:n≤258):Zs3 F.J5 [.int .i64 n] [P4 (Zag n),(lmV n,Y3 n)]:=by
  intro s1 y g1 g2 p held count st hne h hc hN
  have hne':¬ y=s1:=fun e=>hne e.symm
  have hne1:Site.up s1≠.up y:=by simpa using hne
  obtain ⟨l1,l2,l3,l4,l5⟩:=Zsy (n-3) (by omega)
  rw [show n-3+3=n by omega] at l1 l2 l3 l4 l5
  have hsb:=Zyr (Zag n-257) (by omega)
  rw [show Zag n-257+257=Zag n by omega] at hsb
  have hlx:Y3 n≤5:=by omega
  have hsn:=Zde (Zag n)
  simp only [T4] at hN
  obtain ⟨p1,h1,k1,z1,u1,b1,b2,m1,c1⟩:=Zej (s:=Zag n) (by omega) (g1:=g1) (g2:=g2) hne1 h hc (by simp only [T4];omega)
  by_cases hsm:n=258∨n<11
  · have hx:Y3 n=0:=by unfold Y3;rw [if_pos hsm]
    have hv:lmV n=0:=by unfold lmV;rw [if_pos hsm]
    have hst:O7 st [P4 (Zag n),(lmV n,Y3 n)]=O7 st [P4 (Zag n)]:=by
      rw [hx,hv];simp only [O7,Zmr]
    rw [hst]
    have q:n=258∨(n<11∧(n:Int)+254=((Zag n:Nat):Int)):=by
      by_cases a:n=258
      · exact .inl a
      · have b:n<11:=by omega
        refine .inr ⟨b,?_⟩
        unfold Zag;rw [if_neg a,if_pos b];omega
    have q2:n=258→((Zag n:Nat):Int)=285:=by intro e;unfold Zag;rw [if_pos e];rfl
    rcases m1 with ⟨rfl,rfl⟩|⟨rfl,rfl⟩
    · refine ⟨p1,_,_,_,_,b1,b2,.inl ⟨rfl,rfl⟩,?_⟩
      rw [L4 Y0 rfl rfl]
      rcases q with a|⟨a,q⟩
      · rw [q2 a] at c1
        simp -dsimp (disch:=first|omega|(simp only [B0]<;>omega)|fail) only [L.J5,go_sem,reduceIte,reduceCtorEq,E2,E3,E4,E5,E6,E7,E8,E9,F0,F1,F2,F3,F4,F5,F6,F7,F8,F9,G0,B2,BYs,hne,hne',c1,G9]
      · simp -dsimp (disch:=first|omega|(simp only [B0]<;>omega)|fail) only [L.J5,go_sem,reduceIte,reduceCtorEq,E2,E3,E4,E5,E6,E7,E8,E9,F0,F1,F2,F3,F4,F5,F6,F7,F8,F9,G0,B2,BYs,hne,hne',q,c1,G9]
    · refine ⟨p1,_,_,_,_,b1,b2,.inr ⟨rfl,rfl⟩,?_⟩
      rw [L4 Y0 rfl rfl]
      rcases q with a|⟨a,q⟩
      · rw [q2 a] at c1
        simp -dsimp (disch:=first|omega|(simp only [B0]<;>omega)|fail) only [L.J5,go_sem,reduceIte,reduceCtorEq,E2,E3,E4,E5,E6,E7,E8,E9,F0,F1,F2,F3,F4,F5,F6,F7,F8,F9,G0,B2,BYs,hne,hne',c1,G9]
      · simp -dsimp (disch:=first|omega|(simp only [B0]<;>omega)|fail) only [L.J5,go_sem,reduceIte,reduceCtorEq,E2,E3,E4,E5,E6,E7,E8,E9,F0,F1,F2,F3,F4,F5,F6,F7,F8,F9,G0,B2,BYs,hne,hne',q,c1,G9]
  · have a1:¬ n=258:=fun e=>hsm (.inl e)
    have a2:¬ n<11:=fun e=>hsm (.inr e)
    have hx:Y3 n=Nat.log2 (n-3)-2:=by unfold Y3;rw [if_neg hsm]
    have hv:lmV n=(n-3)%2^Y3 n:=by unfold lmV;rw [if_neg hsm]
    have hs:Zag n=257+4*Y3 n+(n-3)/2^Y3 n:=by unfold Zag;rw [if_neg a1,if_neg a2]
    have hlg:3≤Nat.log2 (n-3):=(Yij (by omega)).2 (by omega)
    have hlg2:Nat.log2 (n-3)<8:=(Yik (by omega)).2 (by omega)
    have c0:=Zmq (v:=n-3) (by omega) (by omega)
    have e1:(n:Int)-3=((n-3:Nat):Int):=by omega
    have e2:IntKind.u64.wrap ((n-3:Nat):Int)=((n-3:Nat):Int):=Zkl (by omega) (by omega)
    have e3:((Nat.log2 (n-3)+1:Nat):Int)-3=((Y3 n:Nat):Int):=by omega
    have e4:=Zy3 (v:=n-3) (n:=Y3 n) (by omega)
    have hq:(n-3)/2^Y3 n≤n-3:=Yim _ _
    have e5:(261:Int)+4*((Y3 n:Nat):Int)+(((n-3)/2^Y3 n:Nat):Int)-4=((Zag n:Nat):Int):=by omega
    have e6:=Zys (n:=Y3 n) (by omega)
    have e7:=Zs5 (v:=n-3) (n:=Y3 n) (by omega) (by omega)
    rw [←hv] at e7
    have hpp:2^Y3 n≤2^5:=Yib (by omega) hlx
    have hp0:0<2^Y3 n:=Yil (by omega)
    have num:∀ (y2:Site) (g2':Nat),Site.up s1≠y2→∃ p' h' c' z g',WrI p' h' c' (O7 st [P4 (Zag n),(lmV n,Y3 n)])∧c' < 8∧Zk5 y2 z g2' g'∧S E F.B4 (.ref (.up (.up s1)) g1 0::[.int .i64 (lmV n:Nat),.int .i64 (Y3 n:Nat)]) [(.up (.up s1),⟨g1,true,true,true,[.buf (.up y2) g2' 0 p1.length 1,.int .u32 (h1:Nat),.int .i64 (k1:Nat)]⟩),(.up y2,⟨g2',true,true,false,A0 p1⟩)]=some (.tup [],[(.up (.up s1),⟨g1,true,true,true,[.buf z g' 0 p'.length 1,.int .u32 (h':Nat),.int .i64 (c':Nat)]⟩),(z,⟨g',true,true,false,A0 p'⟩)]):=by
      intro y2 g2' hn2
      exact Zaz l5 (by omega) (g1:=g1) (g2:=g2') hn2 b1 b2 (by show st.2+(P4 (Zag n)).2+T4 [(lmV n,Y3 n)]≤_;simp only [T4];omega)
    generalize (n-3)/2^Y3 n=Q at *
    generalize 2^Y3 n=P at *
    rcases m1 with ⟨rfl,rfl⟩|⟨rfl,rfl⟩
    · obtain ⟨p2,h2,k2,z2,u2,b3,b4,m2,c2⟩:=num (.up y) u1 hne1
      rcases m2 with ⟨rfl,rfl⟩|⟨rfl,rfl⟩
      · refine ⟨p2,_,_,_,_,b3,b4,.inl ⟨rfl,rfl⟩,?_⟩
        rw [L4 Y0 rfl rfl]
        simp -dsimp (disch:=first|omega|(simp only [B0]<;>omega)|fail) only [L.J5,go_sem,reduceIte,reduceCtorEq,E2,E3,E4,E5,E6,E7,E8,E9,F0,F1,F2,F3,F4,F5,F6,F7,F8,F9,G0,B2,BYs,hne,hne',e1,e2,e3,e4,e5,e6,e7,c0,c1,c2,G9]
      · refine ⟨p2,_,_,_,_,b3,b4,.inr ⟨rfl,rfl⟩,?_⟩
        rw [L4 Y0 rfl rfl]
        simp -dsimp (disch:=first|omega|(simp only [B0]<;>omega)|fail) only [L.J5,go_sem,reduceIte,reduceCtorEq,E2,E3,E4,E5,E6,E7,E8,E9,F0,F1,F2,F3,F4,F5,F6,F7,F8,F9,G0,B2,BYs,hne,hne',e1,e2,e3,e4,e5,e6,e7,c0,c1,c2,G9]
    · obtain ⟨p2,h2,k2,z2,u2,b3,b4,m2,c2⟩:=num (.s 33 1) 0 (by simp)
      rcases m2 with ⟨rfl,rfl⟩|⟨rfl,rfl⟩
      · refine ⟨p2,_,_,_,_,b3,b4,.inr ⟨rfl,rfl⟩,?_⟩
        rw [L4 Y0 rfl rfl]
        simp -dsimp (disch:=first|omega|(simp only [B0]<;>omega)|fail) only [L.J5,go_sem,reduceIte,reduceCtorEq,E2,E3,E4,E5,E6,E7,E8,E9,F0,F1,F2,F3,F4,F5,F6,F7,F8,F9,G0,B2,BYs,hne,hne',e1,e2,e3,e4,e5,e6,e7,c0,c1,c2,G9]
      · refine ⟨p2,_,_,_,_,b3,b4,.inr ⟨rfl,rfl⟩,?_⟩
        rw [L4 Y0 rfl rfl]
        simp -dsimp (disch:=first|omega|(simp only [B0]<;>omega)|fail) only [L.J5,go_sem,reduceIte,reduceCtorEq,E2,E3,E4,E5,E6,E7,E8,E9,F0,F1,F2,F3,F4,F5,F6,F7,F8,F9,G0,B2,BYs,hne,hne',e1,e2,e3,e4,e5,e6,e7,c0,c1,c2,G9]
theorem Zpp {n:Nat} (h3:1≤n) (h258:n≤32768):Zs3 F.J9 [.int .i64 n] [(Zdq 5 (Zct n),5),(Zfa n,U8 n)]:=by
  intro s1 y g1 g2 p held count st hne h hc hN
  have hne':¬ y=s1:=fun e=>hne e.symm
  have hne1:Site.up s1≠.up y:=by simpa using hne
  obtain ⟨l1,l3,l4,l5,hlx⟩:=Zsz h3 h258
  simp only [T4] at hN
  obtain ⟨p1,h1,k1,z1,u1,b1,b2,m1,c1⟩:=Zcv (v:=Zct n) (n:=5) (by omega) (by omega) (by omega) (g1:=g1) (g2:=g2) hne1 h hc (by simp only [T4];omega)
  simp only [Yhz] at c1
  by_cases hsm:n<5
  · have hx:U8 n=0:=by unfold U8;rw [if_pos hsm]
    have hv:Zfa n=0:=by unfold Zfa;rw [if_pos hsm]
    have hst:O7 st [(Zdq 5 (Zct n),5),(Zfa n,U8 n)]=O7 st [(Zdq 5 (Zct n),5)]:=by
      rw [hx,hv];simp only [O7,Zmr]
    rw [hst]
    have q:(n:Int)-1=((Zct n:Nat):Int):=by unfold Zct;rw [if_pos hsm];omega
    have q2:Zct n<4:=by unfold Zct;rw [if_pos hsm];omega
    rcases m1 with ⟨rfl,rfl⟩|⟨rfl,rfl⟩
    · refine ⟨p1,_,_,_,_,b1,b2,.inl ⟨rfl,rfl⟩,?_⟩
      rw [L4 Y1 rfl rfl]
      simp -dsimp (disch:=first|omega|(simp only [B0]<;>omega)|fail) only [L.J9,go_sem,reduceIte,reduceCtorEq,E2,E3,E4,E5,E6,E7,E8,E9,F0,F1,F2,F3,F4,F5,F6,F7,F8,F9,G0,B2,BYs,hne,hne',q,c1,G9]
    · refine ⟨p1,_,_,_,_,b1,b2,.inr ⟨rfl,rfl⟩,?_⟩
      rw [L4 Y1 rfl rfl]
      simp -dsimp (disch:=first|omega|(simp only [B0]<;>omega)|fail) only [L.J9,go_sem,reduceIte,reduceCtorEq,E2,E3,E4,E5,E6,E7,E8,E9,F0,F1,F2,F3,F4,F5,F6,F7,F8,F9,G0,B2,BYs,hne,hne',q,c1,G9]
  · have hx:U8 n=Nat.log2 (n-1)-1:=by unfold U8;rw [if_neg hsm]
    have hv:Zfa n=(n-1)%2^U8 n:=by unfold Zfa;rw [if_neg hsm]
    have hs:Zct n=2*U8 n+2+(n-1)/2^U8 n%2:=by unfold Zct;rw [if_neg hsm]
    have hlg:2≤Nat.log2 (n-1):=(Yij (by omega)).2 (by omega)
    have hlg2:Nat.log2 (n-1)<15:=(Yik (by omega)).2 (by omega)
    have c0:=Zmq (v:=n-1) (by omega) (by omega)
    have e1:(n:Int)-1=((n-1:Nat):Int):=by omega
    have e2:IntKind.u64.wrap ((n-1:Nat):Int)=((n-1:Nat):Int):=Zkl (by omega) (by omega)
    have e3:((Nat.log2 (n-1)+1:Nat):Int)-2=((U8 n:Nat):Int):=by omega
    have e4:=Zy3 (v:=n-1) (n:=U8 n) (by omega)
    have hq:(n-1)/2^U8 n≤n-1:=Yim _ _
    have e8:Zh5 .i64 (((n-1)/2^U8 n:Nat):Int) 1=(((n-1)/2^U8 n%2:Nat):Int):=Zfy (k:=.i64) (n:=1) (by simp only [IntKind.bits];omega) (by simp only [IntKind.bits];omega)
    have e5:(2:Int)*((U8 n:Nat):Int)+2+(((n-1)/2^U8 n%2:Nat):Int)=((Zct n:Nat):Int):=by omega
    have e6:=Zys (n:=U8 n) (by omega)
    have e7:=Zs5 (v:=n-1) (n:=U8 n) (by omega) (by omega)
    rw [←hv] at e7
    have hpp:2^U8 n≤2^13:=Yib (by omega) hlx
    have hp0:0<2^U8 n:=Yil (by omega)
    have num:∀ (y2:Site) (g2':Nat),Site.up s1≠y2→∃ p' h' c' z g',WrI p' h' c' (O7 st [(Zdq 5 (Zct n),5),(Zfa n,U8 n)])∧c' < 8∧Zk5 y2 z g2' g'∧S E F.B4 (.ref (.up (.up s1)) g1 0::[.int .i64 (Zfa n:Nat),.int .i64 (U8 n:Nat)]) [(.up (.up s1),⟨g1,true,true,true,[.buf (.up y2) g2' 0 p1.length 1,.int .u32 (h1:Nat),.int .i64 (k1:Nat)]⟩),(.up y2,⟨g2',true,true,false,A0 p1⟩)]=some (.tup [],[(.up (.up s1),⟨g1,true,true,true,[.buf z g' 0 p'.length 1,.int .u32 (h':Nat),.int .i64 (c':Nat)]⟩),(z,⟨g',true,true,false,A0 p'⟩)]):=by
      intro y2 g2' hn2
      exact Zaz l5 (by omega) (g1:=g1) (g2:=g2') hn2 b1 b2 (by show st.2+5+T4 [(Zfa n,U8 n)]≤_;simp only [T4];omega)
    have hr5:(n-1)/2^U8 n%2<2:=Nat.mod_lt _ (by omega)
    generalize hR:(n-1)/2^U8 n%2=R at *
    generalize (n-1)/2^U8 n=Q at *
    generalize 2^U8 n=P at *
    rcases m1 with ⟨rfl,rfl⟩|⟨rfl,rfl⟩
    · obtain ⟨p2,h2,k2,z2,u2,b3,b4,m2,c2⟩:=num (.up y) u1 hne1
      rcases m2 with ⟨rfl,rfl⟩|⟨rfl,rfl⟩
      · refine ⟨p2,_,_,_,_,b3,b4,.inl ⟨rfl,rfl⟩,?_⟩
        rw [L4 Y1 rfl rfl]
        simp -dsimp (disch:=first|omega|(simp only [B0]<;>omega)|fail) only [L.J9,go_sem,reduceIte,reduceCtorEq,E2,E3,E4,E5,E6,E7,E8,E9,F0,F1,F2,F3,F4,F5,F6,F7,F8,F9,G0,B2,BYs,hne,hne',e1,e2,e3,e4,e5,e6,e7,e8,c0,c1,c2,G9]
      · refine ⟨p2,_,_,_,_,b3,b4,.inr ⟨rfl,rfl⟩,?_⟩
        rw [L4 Y1 rfl rfl]
        simp -dsimp (disch:=first|omega|(simp only [B0]<;>omega)|fail) only [L.J9,go_sem,reduceIte,reduceCtorEq,E2,E3,E4,E5,E6,E7,E8,E9,F0,F1,F2,F3,F4,F5,F6,F7,F8,F9,G0,B2,BYs,hne,hne',e1,e2,e3,e4,e5,e6,e7,e8,c0,c1,c2,G9]
    · obtain ⟨p2,h2,k2,z2,u2,b3,b4,m2,c2⟩:=num (.s 26 1) 0 (by simp)
      rcases m2 with ⟨rfl,rfl⟩|⟨rfl,rfl⟩
      · refine ⟨p2,_,_,_,_,b3,b4,.inr ⟨rfl,rfl⟩,?_⟩
        rw [L4 Y1 rfl rfl]
        simp -dsimp (disch:=first|omega|(simp only [B0]<;>omega)|fail) only [L.J9,go_sem,reduceIte,reduceCtorEq,E2,E3,E4,E5,E6,E7,E8,E9,F0,F1,F2,F3,F4,F5,F6,F7,F8,F9,G0,B2,BYs,hne,hne',e1,e2,e3,e4,e5,e6,e7,e8,c0,c1,c2,G9]
      · refine ⟨p2,_,_,_,_,b3,b4,.inr ⟨rfl,rfl⟩,?_⟩
        rw [L4 Y1 rfl rfl]
        simp -dsimp (disch:=first|omega|(simp only [B0]<;>omega)|fail) only [L.J9,go_sem,reduceIte,reduceCtorEq,E2,E3,E4,E5,E6,E7,E8,E9,F0,F1,F2,F3,F4,F5,F6,F7,F8,F9,G0,B2,BYs,hne,hne',e1,e2,e3,e4,e5,e6,e7,e8,c0,c1,c2,G9]
end Cod
namespace Cod
open Go
theorem G5 (l:List Int):flats (B7 l)=true:=by
  induction l with
  | nil=>rfl
  | cons a l ih=>show flats (.int .i64 a::B7 l)=true;simp [flats,M1,ih]
theorem I0 (l:List Int):refsOfs (B7 l)=[]:=by
  induction l with
  | nil=>rfl
  | cons a l ih=>show refsOfs (.int .i64 a::B7 l)=[];simp [refsOfs,V6,ih]
theorem I1 (f:Site→Nat→Option (Site × Nat)) (l:List Int):rens f (B7 l)=B7 l:=rens_flats _ (G5 l)
theorem G6 (l:List Int):leadss (B7 l)=false:=by
  induction l with
  | nil=>rfl
  | cons a l ih=>show leadss (.int .i64 a::B7 l)=false;simp [leadss,leads,ih]
theorem K2 {l:List Int} {i:Nat} (h:i<l.length):(B7 l)[i]? = some (.int .i64 (l.getD i 0)):=by simp [B7,h]
theorem I2 {l:List Int} {i:Nat} {x:Int} (h:i<l.length):over (B7 l) i [.int .i64 x]=B7 (l.set i x):=by
  unfold over B7
  rw [Yhx,List.map_set,List.set_eq_take_append_cons_drop,if_pos (by simpa using h)]
  simp
theorem key_or {a b c:Nat} (ha:a<256) (hb:b<256) (hc:c<256):ior .u32 (ior .u32 (Zcy .u32 (a:Int) 16) (Zcy .u32 (b:Int) 8)) (c:Int)=((a*65536+b*256+c:Nat):Int):=by
  have e1:Zcy .u32 (a:Int) 16=((a*2^16:Nat):Int):=Zhp (k:=.u32) (b:=16) (by simp [IntKind.bits]) (by simp only [IntKind.bits];omega)
  have e2:Zcy .u32 (b:Int) 8=((b*2^8:Nat):Int):=Zhp (k:=.u32) (b:=8) (by simp [IntKind.bits]) (by simp only [IntKind.bits];omega)
  have o1:a*2^16 ||| b*2^8=a*2^16+b*2^8:=by rw [Yh7 a,←Yii (by omega)]
  have o2:(a*2^16+b*2^8) ||| c=a*65536+b*256+c:=by
    rw [show a*2^16+b*2^8=2^8*(a*2^8+b) by omega,←Yii (by omega)]
  rw [e1,e2,Zpl (by simp only [IntKind.bits];omega) (by simp only [IntKind.bits];omega),o1,Zpl (by simp only [IntKind.bits];omega) (by simp only [IntKind.bits];omega),o2]
theorem Yex (p:List UInt8) (i:Nat):IntKind.u32.wrap (bat p i)=bat p i:=by
  unfold bat
  have:=(p.getD i 0).toNat_lt
  exact Zfc (by simp only [IntKind.bits];omega)
def keyV (p:List UInt8) (i:Nat):AV:=if i+3≤p.length then .tup [.int .u32 (V5 p i:Nat),.bool true] else .tup [.int .u32 0,.bool false]
theorem Zy4 {s1 s2 s3:Site} {g1 g2 g3:Nat} (h12:s1≠s2) (h13:s1≠s3) (h23:s2≠s3) {p:List UInt8} (hp:p.length≤1048576) {i:Nat} (hi:i≤p.length) (ks:List Nat) (vs:List Int) (pr:List Int) (hpl:pr.length=p.length):S E F.O4 [.ref (.up s1) g1 0,.int .i64 i] ([(.up s1,⟨g1,true,true,true,[.lst (A0 p) p.length,.mpr (.up s2) g2,.buf (.up s3) g3 0 p.length 1]⟩),(.up s2,⟨g2,true,true,true,[.mp (H0 .u32 ks) (B7 vs)]⟩),(.up s3,⟨g3,true,true,false,B7 (pr)⟩)])=some (keyV p i,[(.up s1,⟨g1,true,true,true,[.lst (A0 p) p.length,.mpr (.up s2) g2,.buf (.up s3) g3 0 p.length 1]⟩),(.up s2,⟨g2,true,true,true,[.mp (H0 .u32 ks) (B7 vs)]⟩),(.up s3,⟨g3,true,true,false,B7 (pr)⟩)]):=by
  have h21:¬ s2=s1:=fun e=>h12 e.symm;have h31:¬ s3=s1:=fun e=>h13 e.symm;have h32:¬ s3=s2:=fun e=>h23 e.symm
  unfold keyV
  by_cases h:i+3≤p.length
  · rw [if_pos h]
    have e1:(i:Int)+1=((i+1:Nat):Int):=by omega
    have e2:(i:Int)+2=((i+2:Nat):Int):=by omega
    have e3:ior .u32 (ior .u32 (Zcy .u32 (bat p i) 16) (Zcy .u32 (bat p (i+1)) 8)) (bat p (i+2))=((V5 p i:Nat):Int):=by
      unfold bat V5
      exact key_or (p.getD i 0).toNat_lt (p.getD (i+1) 0).toNat_lt (p.getD (i+2) 0).toNat_lt
    rw [L4 Zg4 rfl rfl]
    simp -dsimp (disch:=first|omega|(simp only [B0,A1,Yhv]<;>omega)|fail) only [L.O4,go_sem,reduceIte,reduceCtorEq,E2,E3,E4,E5,E6,E7,E8,E9,F0,F1,F2,F3,F4,F5,F6,F7,F8,F9,G0,B2,BYs,h12,h13,h23,h21,h31,h32,G5,I0,I1,G6,A1,K2,I2,Yex,e1,e2,e3,refsOfs]
  · rw [if_neg h]
    rw [L4 Zg4 rfl rfl]
    simp -dsimp (disch:=first|omega|(simp only [B0,A1,Yhv]<;>omega)|fail) only [L.O4,go_sem,reduceIte,reduceCtorEq,E2,E3,E4,E5,E6,E7,E8,E9,F0,F1,F2,F3,F4,F5,F6,F7,F8,F9,G0,B2,BYs,h12,h13,h23,h21,h31,h32,G5,I0,I1,G6,A1,K2,I2,refsOfs]
theorem i6_at {vs:List Int} {j:Nat} {v:Int} (h:vs[j]? = some v):(B7 vs)[j]? = some (.int .i64 v):=by simp [B7,h]
theorem Zpq (b:Bool) (v:AV):okV true b v=.tup [v,.bool b]:=rfl
theorem i6_set (vs:List Int) (j:Nat) (v:Int):(B7 vs).set j (.int .i64 v)=B7 (vs.set j v):=by simp [B7,List.map_set]
theorem Yey (vs:List Int) (v:Int):B7 vs++[.int .i64 v]=B7 (vs++[v]):=by simp [B7]
theorem Yag {ks:List Nat} {n:Nat} (h:n∈ks) (k:IntKind):(H0 k ks).set (ks.idxOf n) (.int k (n:Int))=H0 k ks:=by
  have hl:=List.idxOf_lt_length_of_mem h
  have e:=List.getElem_idxOf hl
  have e2:(H0 k ks)[ks.idxOf n]'(by simpa [H0] using hl)=.int k (n:Int):=by simp [H0,e]
  rw [←e2]
  exact List.set_getElem_self _
theorem Z29 (ks:List Nat) (n:Nat) (k:IntKind):H0 k ks++[.int k (n:Int)]=H0 k (ks++[n]):=by simp [H0]
theorem Yah {s1 s2 s3:Site} {g1 g2 g3:Nat} (h12:s1≠s2) (h13:s1≠s3) (h23:s2≠s3) {p:List UInt8} (hp:p.length≤1048576) {i:Nat} (hi:i<p.length) {ks:List Nat} {vs:List Int} {pr:List Int} (hm:MapF p i ks vs) (hr:PrevF p i pr):∃ ks' vs' pr',MapF p (i+1) ks' vs'∧PrevF p (i+1) pr'∧S E F.O1 [.ref (.up s1) g1 0,.int .i64 i] ([(.up s1,⟨g1,true,true,true,[.lst (A0 p) p.length,.mpr (.up s2) g2,.buf (.up s3) g3 0 p.length 1]⟩),(.up s2,⟨g2,true,true,true,[.mp (H0 .u32 ks) (B7 vs)]⟩),(.up s3,⟨g3,true,true,false,B7 (pr)⟩)])=some (.tup [],[(.up s1,⟨g1,true,true,true,[.lst (A0 p) p.length,.mpr (.up s2) g2,.buf (.up s3) g3 0 p.length 1]⟩),(.up s2,⟨g2,true,true,true,[.mp (H0 .u32 ks') (B7 vs')]⟩),(.up s3,⟨g3,true,true,false,B7 (pr')⟩)]):=by
  have h21:¬ s2=s1:=fun e=>h12 e.symm;have h31:¬ s3=s1:=fun e=>h13 e.symm;have h32:¬ s3=s2:=fun e=>h23 e.symm
  have hpl:=hr.len
  have c:=Zy4 (s1:=.up s1) (s2:=.up s2) (s3:=.up s3) (g1:=g1) (g2:=g2) (g3:=g3) (by simpa using h12) (by simpa using h13) (by simpa using h23) hp (by omega:i≤p.length) ks vs pr hpl
  unfold keyV at c
  by_cases h:i+3≤p.length
  · rw [if_pos h] at c
    have hk:=Zk4 .u32 (V5 p i) ks 0
    by_cases hin:V5 p i∈ks
    · rw [if_pos hin] at hk
      cases hl:Zay p i (V5 p i) with
      | none=>exact absurd hin (hm.no _ hl)
      | some j =>
        obtain ⟨_,hj⟩:=hm.yes _ _ hl
        have ha:(j:Int)=ahead p i:=by unfold ahead;rw [hl]
        refine ⟨ks,vs.set (ks.idxOf (V5 p i)) (i:Int),pr.set i (j:Int),hm.old h hin,hr.next h ha,?_⟩
        have e1:=i6_at hj
        have e2:=Yag hin .u32
        rw [L4 Zea rfl rfl]
        simp -dsimp (disch:=first|omega|(simp only [B0,A1,Yhv]<;>omega)|fail) only [L.O1,go_sem,reduceIte,reduceCtorEq,E2,E3,E4,E5,E6,E7,E8,E9,F0,F1,F2,F3,F4,F5,F6,F7,F8,F9,G0,B2,BYs,h12,h13,h23,h21,h31,h32,G5,I0,I1,G6,A1,K2,I2,refsOfs,c,hk,e1,e2,Zpq,Option.map_some,i6_set,List.set_set,Zin,Nat.zero_add,Zbt,M1,G9]
    · rw [if_neg hin] at hk
      have ha:(-1:Int)=ahead p i:=by
        unfold ahead
        cases hl:Zay p i (V5 p i) with
        | none=>rfl
        | some j=>exact absurd (hm.yes _ _ hl).1 hin
      refine ⟨ks++[V5 p i],vs++[(i:Int)],pr.set i (-1),hm.new h hin,hr.next h ha,?_⟩
      rw [L4 Zea rfl rfl]
      simp -dsimp (disch:=first|omega|(simp only [B0,A1,Yhv]<;>omega)|fail) only [L.O1,go_sem,reduceIte,reduceCtorEq,E2,E3,E4,E5,E6,E7,E8,E9,F0,F1,F2,F3,F4,F5,F6,F7,F8,F9,G0,B2,BYs,h12,h13,h23,h21,h31,h32,G5,I0,I1,G6,A1,K2,I2,refsOfs,c,hk,Zpq,Z29,Yey,Zin,Zim,Zbt,M1,G9]
  · rw [if_neg h] at c
    refine ⟨ks,vs,pr,hm.skip (by omega),hr.skip (by omega),?_⟩
    rw [L4 Zea rfl rfl]
    simp -dsimp (disch:=first|omega|(simp only [B0,A1,Yhv]<;>omega)|fail) only [L.O1,go_sem,reduceIte,reduceCtorEq,E2,E3,E4,E5,E6,E7,E8,E9,F0,F1,F2,F3,F4,F5,F6,F7,F8,F9,G0,B2,BYs,h12,h13,h23,h21,h31,h32,G5,I0,I1,G6,A1,K2,I2,refsOfs,c,G9]
end Cod

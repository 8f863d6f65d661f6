/- SHA-256: padding and sums, the program's. -/
import Derived.KernelRfl
import Derived.Lib.ItoaLen
import Derived.Test.YtabccggcfcppgaaGreatDoorXTxt2
import Derived.Test.YtabccggcfcppgaaGreatDoorXCod1
import Derived.Test.YtabccggcfcppgaaGreatDoorXTxt1
set_option linter.unusedSimpArgs false
set_option linter.unusedVariables false
open List renaming cons_append → Yfm, drop_drop → Ygh, drop_eq_getElem_cons → Yho, drop_zero → Yg3, getElem_idxOf → Yg0, idxOf_append → Yia, idxOf_lt_length_of_mem → Yh9, length_append → Yf9, length_cons → Yf0, length_drop → Yfr, length_nil → Ygy, length_set → Yhv, length_take → Yfq, take_succ_cons → Yh8
open Nat renaming min_eq_left → Yhd, mod_eq_of_lt → Yie, mul_comm → Yh7, pow_le_pow_right → Yib, pow_succ → Yh6
open Int renaming cast_ofNat_Int → Yhz, natCast_add → Yhy, natCast_ediv → Yh5, natCast_pow → Yh1, toNat_natCast → Yif
open BitVec renaming ofInt_natCast → Yic, toNat_ofNat → Yid
open Nat renaming reduceEqDiff → E2, reduceAdd → E3, reduceSub → E4, reduceMul → E5, reduceDiv → E6, reduceMod → E7, reduceBEq → E8, reduceLeDiff → E9, reduceLT → F0
open Int renaming reduceEq → F1, reduceNe → F2, reduceLT → F3, reduceLE → F4, reduceBEq → F5, reduceBNe → F6, reduceToNat → F7, reduceAdd → F8, reduceSub → F9, reduceMul → G0, reduceNeg → B2
namespace Cod
open Go
def h0w:List (BitVec 32):=[0x6a09e667,0xbb67ae85,0x3c6ef372,0xa54ff53a,0x510e527f,0x9b05688c,0x1f83d9ab,0x5be0cd19]
def T6:Nat→List (BitVec 32)→List UInt8→List (BitVec 32)
  | 0,h,_=>h
  | m+1,h,l=>T6 m (Zia h (l.take 64)) (l.drop 64)
def be8 (v:Nat):List UInt8:=[UInt8.ofNat (v/2^56%256),UInt8.ofNat (v/2^48%256),UInt8.ofNat (v/2^40%256),UInt8.ofNat (v/2^32%256),UInt8.ofNat (v/2^24%256),UInt8.ofNat (v/2^16%256),UInt8.ofNat (v/2^8%256),UInt8.ofNat (v/2^0%256)]
def Zjb (n:Nat):List UInt8:=128::(List.replicate ((119-n%64)%64) 0++be8 (8*n))
def Zsr (h:List (BitVec 32)):List UInt8:=(List.range 32).map fun i=>wb (h.getD (i/4) 0 >>> (24-8*(i%4)))
def Zpj (p:List UInt8):List UInt8 :=
  Zsr (T6 ((p.drop (p.length/64*64)++Zjb p.length).length/64) (T6 (p.length/64) h0w p) (p.drop (p.length/64*64)++Zjb p.length))
theorem Zss (p:List UInt8):(Zpj p).length=32:=by simp [Zpj,Zsr]
theorem Zhk:∀ (m:Nat) (h:List (BitVec 32)) (l:List UInt8),h.length=8→(T6 m h l).length=8:=by
  intro m
  induction m with
  | zero=>intro h l hh;exact hh
  | succ m ih=>intro h l _;exact ih _ _ (Zaw _ _)
def Ze8 (n:Nat):Nat→Nat→List UInt8→List UInt8
  | 0,_,l=>l
  | m+1,i,l=>Ze8 n m (i+1) (l.set (l.length-1-i) (UInt8.ofNat (8*n/2^(8*i)%256)))
theorem pad_l0 {n:Nat} (hn:n≤1000000000000) (k:List It):∀ (m i:Nat) (l:List UInt8),i+m=8→8≤l.length→l.length≤100 →
    X E [.tmp 2] (.c L.Q8.x0::.lp [0,3,16] L.Q8.x0::.blk 0::k) ⟨[(0,.int .i64 n),(3,.buf (.s 1000000 0) 0 0 (l).length 1),(16,.int .i64 i)],[(.s 1000000 0,⟨0,true,true,false,A0 l⟩)]⟩=X E [.tmp 2] k ⟨[(0,.int .i64 n),(3,.buf (.s 1000000 0) 0 0 ((Ze8 n m i l)).length 1),(16,.int .i64 8),(17,.bool false)],[(.s 1000000 0,⟨0,true,true,false,A0 (Ze8 n m i l)⟩)]⟩:=by
  intro m
  induction m with
  | zero =>
    intro i l h1 h2 h3
    obtain rfl:i=8:=by omega
    rw [K1 L.Q8.x0.eq_1]
    simp -dsimp (disch:=first|omega|(simp only [B0]<;>omega)|fail) only [go_sem,reduceIte,reduceCtorEq,E2,E3,E4,E5,E6,E7,E8,E9,F0,F1,F2,F3,F4,F5,F6,F7,F8,F9,G0,B2,C4,C3,C2,BYs,Ze8,Yhz]
  | succ m ih =>
    intro i l h1 h2 h3
    have e0:((l.length:Int)-1-i).toNat=l.length-1-i:=by omega
    have e1:Zcq .u64 (Zcy .u64 (n:Int) 3) (8*(i:Int))=((8*n/2^(8*i):Nat):Int):=by
      rw [show (8*(i:Int))=((8*i:Nat):Int) by omega,Z8y (by simp [IntKind.bits];omega),show (3:Int)=((3:Nat):Int) from rfl,Z8x (by omega),Yh5,Yh1]
      congr 1
      omega
    have e2:((8*n/2^(8*i):Nat):Int)%256=((8*n/2^(8*i)%256:Nat):Int):=by omega
    have e3:(((8*n/2^(8*i)%256:Nat):Int)).toNat=8*n/2^(8*i)%256:=by omega
    rw [K1 L.Q8.x0.eq_1]
    simp -dsimp (disch:=first|omega|(simp only [B0]<;>omega)|fail) only [go_sem,reduceIte,reduceCtorEq,E2,E3,E4,E5,E6,E7,E8,E9,F0,F1,F2,F3,F4,F5,F6,F7,F8,F9,G0,B2,C4,C3,C2,BYs,Ze8,e0,e1,e2,e3]
    have:=ih (i+1) (l.set (l.length-1-i) (UInt8.ofNat (8*n/2^(8*i)%256))) (by omega) (by simpa using h2) (by simpa using h3)
    simp only [Yhy,Yhz,Yhv] at this
    exact this
theorem Zwy (n z:Nat) (a:List UInt8):Ze8 n 8 0 (a++List.replicate 8 0)=a++be8 (8*n):=by
  have key:∀ (i:Nat) (x:UInt8) (t:List UInt8),t.length=8→i<8→(a++t).set ((a++t).length-1-i) x=a++t.set (7-i) x:=by
    intro i x t ht hi
    rw [Yf9,ht,List.set_append,if_neg (by omega)]
    congr 2
    omega
  simp only [Ze8]
  rw [key 0 _ _ (by simp) (by omega),key 1 _ _ (by simp) (by omega),key 2 _ _ (by simp) (by omega),key 3 _ _ (by simp) (by omega),key 4 _ _ (by simp) (by omega),key 5 _ _ (by simp) (by omega),key 6 _ _ (by simp) (by omega),key 7 _ _ (by simp) (by omega)]
  rfl
theorem Z9y (m:Nat):rep [AV.int .u8 0] m=A0 (List.replicate m 0):=by
  induction m with
  | zero=>rfl
  | succ m ih=>rw [rep,ih];rfl
theorem go_pad {n:Nat} (h1:n≤1000000000000):S E F.Q8 [.int .i64 n] []=some (.buf (.r 0) 0 0 (Zjb n).length 1,[(.r 0,⟨0,true,true,false,A0 (Zjb n)⟩)]):=by
  have hm3:(1+(119-(n:Int)%64)%64+8).toNat=(119-n%64)%64+9:=by omega
  have hlt:(119-n%64)%64<64:=by omega
  have hr:List.replicate ((119-n%64)%64+9) (0:UInt8)=0::(List.replicate ((119-n%64)%64) 0++List.replicate 8 0):=by
    rw [List.replicate_append_replicate];rfl
  have hn0:¬ (n:Int)<0:=by omega
  generalize hz:(119-n%64)%64=z at *
  have hl:=pad_l0 h1 [.c L.Q8.r0] 8 0 (128::(List.replicate z 0++List.replicate 8 0)) (by omega) (by simp) (by simp;omega)
  have hp:Ze8 n 8 0 (128::(List.replicate z 0++List.replicate 8 0))=Zjb n:=by
    have:=Zwy n z (128::List.replicate z 0)
    rw [Yfm] at this
    rw [this,Zjb,hz];rfl
  rw [hp] at hl
  have hlen:(Zjb n).length=z+9:=by rw [Zjb,hz];simp [be8]
  simp only [Yhz] at hl
  rw [L4 Zwd rfl rfl]
  simp -dsimp (disch:=first|omega|(simp only [B0]<;>omega)|fail) only [L.Q8,go_sem,reduceIte,reduceCtorEq,E2,E3,E4,E5,E6,E7,E8,E9,F0,F1,F2,F3,F4,F5,F6,F7,F8,F9,G0,B2,C4,C3,C2,BYs,hn0,hm3,Z9y,hr,List.set_cons_zero,Int.toNat_zero,UInt8.reduceOfNat]
  have hb:(128::(List.replicate z 0++List.replicate 8 (0:UInt8))).length=z+9:=by simp
  rw [hb] at hl
  rw [hl]
  simp -dsimp (disch:=first|omega|(simp only [B0]<;>omega)|fail) only [L.Q8.r0,go_sem,reduceIte,reduceCtorEq,E2,E3,E4,E5,E6,E7,E8,E9,F0,F1,F2,F3,F4,F5,F6,F7,F8,F9,G0,B2,C4,C3,C2,BYs,hlen]
theorem sum_l0 {p:List UInt8} (k:List It):∀ (m:Nat) (r:List UInt8) (n:Nat) (h:List (BitVec 32)),n=r.length→n/64=m→n≤1000000000000→h.length=8 →
    X E [.cell 2 (some 32)] (.c L.D1.x0::.lp [0,2,3,4] L.D1.x0::.blk 0::k) ⟨[(0,.lst (A0 p) p.length),(2,.ref (.s 1000000 0) 0 0),(3,.ref (.s 1000000 1) 0 0),(4,.lst (A0 r) n)],[(.s 1000000 0,⟨0,true,true,true,A0 (List.replicate 32 0)⟩),(.s 1000000 1,⟨0,true,true,true,C7 h⟩)]⟩ =
    X E [.cell 2 (some 32)] k ⟨[(0,.lst (A0 p) p.length),(2,.ref (.s 1000000 0) 0 0),(3,.ref (.s 1000000 1) 0 0),(4,.lst (A0 (r.drop (64*m))) (n-64*m)),(13,.bool false)],[(.s 1000000 0,⟨0,true,true,true,A0 (List.replicate 32 0)⟩),(.s 1000000 1,⟨0,true,true,true,C7 (T6 m h r)⟩)]⟩:=by
  intro m
  induction m with
  | zero =>
    intro r n h h1 h2 h3 h4
    rw [K1 L.D1.x0.eq_1]
    simp -dsimp (disch:=first|omega|(simp only [B0]<;>omega)|fail) only [go_sem,reduceIte,reduceCtorEq,E2,E3,E4,E5,E6,E7,E8,E9,F0,F1,F2,F3,F4,F5,F6,F7,F8,F9,G0,B2,C4,C3,C2,BYs,WDs,T6,Yg3,Nat.sub_zero,Nat.mul_zero]
  | succ m ih =>
    intro r n h h1 h2 h3 h4
    have hb:(r.take 64).length=64:=by rw [Yfq];omega
    have hbl:=Zaw h (r.take 64)
    rw [K1 L.D1.x0.eq_1]
    simp -dsimp (disch:=first|omega|(simp only [B0]<;>omega)|fail) only [go_sem,reduceIte,reduceCtorEq,E2,E3,E4,E5,E6,E7,E8,E9,F0,F1,F2,F3,F4,F5,F6,F7,F8,F9,G0,B2,C4,C3,C2,BYs,WDs,T6,Zsq h4 hb]
    have:=ih (r.drop 64) (n-64) (Zia h (r.take 64)) (by simp [h1]) (by omega) (by omega) (Zaw _ _)
    rw [Ygh,show 64+64*m=64*(m+1) by omega,show n-64-64*m=n-64*(m+1) by omega] at this
    exact this
theorem sum_l1 {full:List UInt8} (hf:full.length≤1000000000100) (k:List It):∀ (m off n:Nat) (h:List (BitVec 32)),off+n=full.length→n/64=m→h.length=8 →
    X E [.cell 2 (some 32)] (.c L.D1.x1::.lp [2,3,4] L.D1.x1::.blk 2::k) ⟨[(2,.ref (.s 1000000 0) 0 0),(3,.ref (.s 1000000 1) 0 0),(4,.buf (.s 1000000 2) 0 off n 1)],[(.s 1000000 0,⟨0,true,true,true,A0 (List.replicate 32 0)⟩),(.s 1000000 1,⟨0,true,true,true,C7 h⟩),(.s 1000000 2,⟨0,true,true,false,A0 full⟩)]⟩ =
    X E [.cell 2 (some 32)] k ⟨[(2,.ref (.s 1000000 0) 0 0),(3,.ref (.s 1000000 1) 0 0),(4,.buf (.s 1000000 2) 0 (off+64*m) (n-64*m) 1),(29,.bool false)],[(.s 1000000 0,⟨0,true,true,true,A0 (List.replicate 32 0)⟩),(.s 1000000 1,⟨0,true,true,true,C7 (T6 m h (full.drop off))⟩),(.s 1000000 2,⟨0,true,true,false,A0 full⟩)]⟩:=by
  intro m
  induction m with
  | zero =>
    intro off n h h1 h2 h4
    rw [K1 L.D1.x1.eq_1]
    simp -dsimp (disch:=first|omega|(simp only [B0]<;>omega)|fail) only [go_sem,reduceIte,reduceCtorEq,E2,E3,E4,E5,E6,E7,E8,E9,F0,F1,F2,F3,F4,F5,F6,F7,F8,F9,G0,B2,C4,C3,C2,BYs,WDs,T6,Yg3,Nat.sub_zero,Nat.mul_zero]
  | succ m ih =>
    intro off n h h1 h2 h4
    have hb:((full.drop off).take 64).length=64:=by rw [Yfq,Yfr];omega
    have hbl:=Zaw h ((full.drop off).take 64)
    have hs:sub full off 64=(full.drop off).take 64:=rfl
    rw [K1 L.D1.x1.eq_1]
    simp -dsimp (disch:=first|omega|(simp only [B0]<;>omega)|fail) only [go_sem,reduceIte,reduceCtorEq,E2,E3,E4,E5,E6,E7,E8,E9,F0,F1,F2,F3,F4,F5,F6,F7,F8,F9,G0,B2,C4,C3,C2,BYs,WDs,T6,hs,Zsq h4 hb]
    have:=ih (off+64) (n-64) (Zia h ((full.drop off).take 64)) (by omega) (by omega) (Zaw _ _)
    rw [show off+64+64*m=off+64*(m+1) by omega,show n-64-64*m=n-64*(m+1) by omega,←Ygh] at this
    exact this
def Ze9 (x:BitVec 32) (i:Nat):Nat→Nat→List UInt8→List UInt8
  | 0,_,l=>l
  | m+1,j,l=>Ze9 x i m (j+1) (l.set (4*i+j) (wb (x >>> (24-8*j))))
def Zmj (h:List (BitVec 32)):Nat→Nat→List UInt8→List UInt8
  | 0,_,l=>l
  | m+1,i,l=>Zmj h m (i+1) (Ze9 (h.getD i 0) i 4 0 l)
theorem Zpk (x:BitVec 32) (i:Nat):∀ m j l,(Ze9 x i m j l).length=l.length:=by
  intro m
  induction m with
  | zero=>intro j l;rfl
  | succ m ih=>intro j l;simp [Ze9,ih]
theorem sum_l3 {h:List (BitVec 32)} {x:BitVec 32} {i:Nat} (hi:i<8) (k:List It):∀ (m j:Nat) (l:List UInt8),j+m=4→l.length=32 →
    X E [.cell 2 (some 32)] (.c L.D1.x3::.lp [2,5,6,7,37,38,42] L.D1.x3::.blk 6::k) ⟨[(2,.ref (.s 1000000 0) 0 0),(5,.ref (.s 1000000 1) 0 0),(6,.int .i64 i),(7,W x),(37,.agg (C7 h)),(38,.int .i64 i),(42,.int .i64 j)],[(.s 1000000 0,⟨0,true,true,true,A0 (List.replicate 32 0)⟩),(.s 1000000 1,⟨0,true,true,true,A0 l⟩)]⟩ =
    X E [.cell 2 (some 32)] k ⟨[(2,.ref (.s 1000000 0) 0 0),(5,.ref (.s 1000000 1) 0 0),(6,.int .i64 i),(7,W x),(37,.agg (C7 h)),(38,.int .i64 i),(42,.int .i64 4),(43,.bool false)],[(.s 1000000 0,⟨0,true,true,true,A0 (List.replicate 32 0)⟩),(.s 1000000 1,⟨0,true,true,true,A0 (Ze9 x i m j l)⟩)]⟩:=by
  intro m
  induction m with
  | zero =>
    intro j l h1 h2
    obtain rfl:j=4:=by omega
    rw [K1 L.D1.x3.eq_1]
    simp -dsimp (disch:=first|omega|(simp only [B0]<;>omega)|fail) only [go_sem,reduceIte,reduceCtorEq,E2,E3,E4,E5,E6,E7,E8,E9,F0,F1,F2,F3,F4,F5,F6,F7,F8,F9,G0,B2,C4,C3,C2,BYs,WDs,Ze9,Yhz]
  | succ m ih =>
    intro j l h1 h2
    have e0:(4*(i:Int)+j).toNat=4*i+j:=by omega
    have e1:(24-8*(j:Int)).toNat=24-8*j:=by omega
    have hw:=(wb (x >>> (24-8*j))).toNat_lt
    have e2:UInt8.ofNat (wb (x >>> (24-8*j))).toNat=wb (x >>> (24-8*j)):=UInt8.ofNat_toNat
    rw [K1 L.D1.x3.eq_1]
    simp -dsimp (disch:=first|omega|(simp only [B0]<;>omega)|fail) only [go_sem,reduceIte,reduceCtorEq,E2,E3,E4,E5,E6,E7,E8,E9,F0,F1,F2,F3,F4,F5,F6,F7,F8,F9,G0,B2,C4,C3,C2,BYs,WDs,Ze9,e0,e1,e2]
    have:=ih (j+1) (l.set (4*i+j) (wb (x >>> (24-8*j)))) (by omega) (by simpa using h2)
    simp only [Yhy,Yhz] at this
    exact this
theorem sum_l2 {h:List (BitVec 32)} (hh:h.length=8) (k:List It):∀ (m i:Nat) (l:List UInt8),i+m=8→l.length=32 →
    X E [.cell 2 (some 32)] (.c L.D1.x2::.lp [2,5,37,38] L.D1.x2::.blk 4::k) ⟨[(2,.ref (.s 1000000 0) 0 0),(5,.ref (.s 1000000 1) 0 0),(37,.agg (C7 h)),(38,.int .i64 i)],[(.s 1000000 0,⟨0,true,true,true,A0 (List.replicate 32 0)⟩),(.s 1000000 1,⟨0,true,true,true,A0 l⟩)]⟩ =
    X E [.cell 2 (some 32)] k ⟨[(2,.ref (.s 1000000 0) 0 0),(5,.ref (.s 1000000 1) 0 0),(37,.agg (C7 h)),(38,.int .i64 8),(39,.bool false)],[(.s 1000000 0,⟨0,true,true,true,A0 (List.replicate 32 0)⟩),(.s 1000000 1,⟨0,true,true,true,A0 (Zmj h m i l)⟩)]⟩:=by
  intro m
  induction m with
  | zero =>
    intro i l h1 h2
    obtain rfl:i=8:=by omega
    rw [K1 L.D1.x2.eq_1]
    simp -dsimp (disch:=first|omega|(simp only [B0]<;>omega)|fail) only [go_sem,reduceIte,reduceCtorEq,E2,E3,E4,E5,E6,E7,E8,E9,F0,F1,F2,F3,F4,F5,F6,F7,F8,F9,G0,B2,C4,C3,C2,BYs,WDs,Zmj,Yhz]
  | succ m ih =>
    intro i l h1 h2
    rw [K1 L.D1.x2.eq_1]
    simp -dsimp (disch:=first|omega|(simp only [B0]<;>omega)|fail) only [go_sem,reduceIte,reduceCtorEq,E2,E3,E4,E5,E6,E7,E8,E9,F0,F1,F2,F3,F4,F5,F6,F7,F8,F9,G0,B2,C4,C3,C2,BYs,WDs,Zmj]
    have h3:=sum_l3 (h:=h) (x:=h.getD i 0) (i:=i) (by omega) (.blk 5::.c L.D1.r2::.lp [2,5,37,38] L.D1.x2::.blk 4::k) 4 0 l (by omega) h2
    simp only [Yhz] at h3
    rw [h3]
    simp -dsimp (disch:=first|omega|(simp only [B0]<;>omega)|fail) only [L.D1.r2,go_sem,reduceIte,reduceCtorEq,E2,E3,E4,E5,E6,E7,E8,E9,F0,F1,F2,F3,F4,F5,F6,F7,F8,F9,G0,B2,C4,C3,C2,BYs,WDs]
    have:=ih (i+1) (Ze9 (h.getD i 0) i 4 0 l) (by omega) (by rw [Zpk];exact h2)
    simp only [Yhy,Yhz] at this
    exact this
theorem Z9z {h:List (BitVec 32)} (hh:h.length=8):Zmj h 8 0 (List.replicate 32 0)=Zsr h:=by
  match h,hh with
  | [a,b,c,d,e,f,g,i],_ =>
    show Zmj [a,b,c,d,e,f,g,i] 8 0 (List.replicate 32 0)=Zsr [a,b,c,d,e,f,g,i]
    kernel_rfl
theorem Yen {sl loc:List (Nat × AV)}:Zak (evR E sl loc) [(0,1,.k (.int .u32 1779033703)),(1,1,.k (.int .u32 3144134277)),(2,1,.k (.int .u32 1013904242)),(3,1,.k (.int .u32 2773480762)),(4,1,.k (.int .u32 1359893119)),(5,1,.k (.int .u32 2600822924)),(6,1,.k (.int .u32 528734635)),(7,1,.k (.int .u32 1541459225))] (some (C7 (List.replicate 8 0)))=some (C7 h0w):=by kernel_rfl
theorem Z90 {p:List UInt8} (hp:p.length≤1000000000000):S E F.D1 [.lst (A0 p) p.length] []=some (.agg (A0 (Zpj p)),[]):=by
  have hh0:h0w.length=8:=rfl
  have hbl:=Zhk (p.length/64) h0w p hh0
  have hpl:(Zjb p.length).length≤100:=by rw [Zjb];simp [be8];omega
  rw [L4 Zwc rfl rfl]
  simp -dsimp (disch:=first|omega|(simp only [B0]<;>omega)|fail) only [↓Yen,L.D1,go_sem,reduceIte,reduceCtorEq,E2,E3,E4,E5,E6,E7,E8,E9,F0,F1,F2,F3,F4,F5,F6,F7,F8,F9,G0,B2,C4,C3,C2,WDs,BYs]
  rw [sum_l0 (p:=p) [.c L.D1.r0] (p.length/64) p p.length h0w rfl rfl hp hh0]
  simp -dsimp (disch:=first|omega|(simp only [B0]<;>omega)|fail) only [L.D1.r0,go_sem,reduceIte,reduceCtorEq,E2,E3,E4,E5,E6,E7,E8,E9,F0,F1,F2,F3,F4,F5,F6,F7,F8,F9,G0,B2,C4,C3,C2,WDs,BYs,Ydz,go_pad hp]
  generalize hfull:p.drop (64*(p.length/64))++Zjb p.length=full
  have hfl:full.length=p.length-64*(p.length/64)+(Zjb p.length).length:=by rw [←hfull];simp
  have:=sum_l1 (full:=full) (by omega) [.c L.D1.r1] (full.length/64) 0 full.length (T6 (p.length/64) h0w p) (by omega) rfl hbl
  simp only [Nat.zero_add,Yg3] at this
  rw [←hfl,this]
  clear this
  have hbl2:=Zhk (full.length/64) (T6 (p.length/64) h0w p) full hbl
  simp -dsimp (disch:=first|omega|(simp only [B0]<;>omega)|fail) only [L.D1.r1,go_sem,reduceIte,reduceCtorEq,E2,E3,E4,E5,E6,E7,E8,E9,F0,F1,F2,F3,F4,F5,F6,F7,F8,F9,G0,B2,C4,C3,C2,WDs,BYs]
  have:=sum_l2 hbl2 [.c L.D1.r3] 8 0 (List.replicate 32 0) (by omega) (by simp)
  simp only [Yhz] at this
  rw [this,Z9z hbl2]
  clear this
  have hid:(Zsr (T6 (full.length/64) (T6 (p.length/64) h0w p) full)).length=32:=by simp [Zsr]
  have hsha:Zpj p=Zsr (T6 (full.length/64) (T6 (p.length/64) h0w p) full):=by
    rw [Zpj,show p.length/64*64=64*(p.length/64) by omega,hfull]
  rw [hsha]
  simp -dsimp (disch:=first|omega|(simp only [B0]<;>omega)|fail) only [L.D1.r3,go_sem,reduceIte,reduceCtorEq,E2,E3,E4,E5,E6,E7,E8,E9,F0,F1,F2,F3,F4,F5,F6,F7,F8,F9,G0,B2,C4,C3,C2,WDs,BYs]
end Cod
namespace Cod
open Go
def Zi4 (k:Int):List UInt8:=if k=1 then [99,111,109,109,105,116] else if k=2 then [116,114,101,101] else if k=3 then [98,108,111,98] else if k=4 then [116,97,103] else []
theorem Zmk (k:Int):(Zi4 k).length≤6:=by unfold Zi4;split<;>(try split)<;>(try split)<;>(try split)<;>simp
theorem Zhl {k:Int}:S E F.L7 [.int .i64 k] []=some (.str (Zi4 k),[]):=by
  rw [L4 Zn7 rfl rfl]
  unfold Zi4
  by_cases a:k=1
  · simp -dsimp (disch:=first|omega|(simp only [B0,A1]<;>omega)|fail) only [L.L7,go_sem,reduceIte,reduceCtorEq,E2,E3,E4,E5,E6,E7,E8,E9,F0,F1,F2,F3,F4,F5,F6,F7,F8,F9,G0,B2,a]
  · by_cases b:k=2
    · simp -dsimp (disch:=first|omega|(simp only [B0,A1]<;>omega)|fail) only [L.L7,go_sem,reduceIte,reduceCtorEq,E2,E3,E4,E5,E6,E7,E8,E9,F0,F1,F2,F3,F4,F5,F6,F7,F8,F9,G0,B2,a,b]
    · by_cases c:k=3
      · simp -dsimp (disch:=first|omega|(simp only [B0,A1]<;>omega)|fail) only [L.L7,go_sem,reduceIte,reduceCtorEq,E2,E3,E4,E5,E6,E7,E8,E9,F0,F1,F2,F3,F4,F5,F6,F7,F8,F9,G0,B2,a,b,c]
      · by_cases d:k=4
        · simp -dsimp (disch:=first|omega|(simp only [B0,A1]<;>omega)|fail) only [L.L7,go_sem,reduceIte,reduceCtorEq,E2,E3,E4,E5,E6,E7,E8,E9,F0,F1,F2,F3,F4,F5,F6,F7,F8,F9,G0,B2,a,b,c,d]
        · simp -dsimp (disch:=first|omega|(simp only [B0,A1]<;>omega)|fail) only [L.L7,go_sem,reduceIte,reduceCtorEq,E2,E3,E4,E5,E6,E7,E8,E9,F0,F1,F2,F3,F4,F5,F6,F7,F8,F9,G0,B2,a,b,c,d]
theorem Zml {a b:Int}:S E F.G3 [.lst [.int .i64 a,.int .i64 b] 2] []=some (.int .i64 (minE [a,b]),[]):=Z9q (l:=[a,b]) (by simp)
def Zib (k n:Int):List UInt8:=Zi4 k++[32]++Lib.itoa n++[0]
def Zkv (n:Int):Int:=if (decide (n<0)||decide (1048576<n))=true then 1 else 0
def Zhm (k:Int):Int:=if (Zi4 k == [])=true then 9 else 0
def Zwz (k n:Int):Int:=minE [Zkv n,Zhm k]
def hdrV (k n:Int):AV:=if Zwz k n=0 then .tup [.str (Zib k n),.int .i64 0] else .tup [.str [],.int .i64 (Zwz k n)]
theorem Zst {k n:Int} (h1 : -9223372036854775808≤n) (h2:n≤9223372036854775807):(Zib k n).length≤40:=by
  have:=Lib.itoa_length_le n h1 h2
  have:=Zmk k
  unfold Zib
  simp only [Yf9,Yf0,Ygy]
  omega
theorem Zmm {k n:Int} (h1 : -9223372036854775808≤n) (h2:n≤9223372036854775807):S E F.K4 [.int .i64 k,.int .i64 n] []=some (hdrV k n,[]):=by
  have hi:=S_itoa (n:=n) ⟨h1,h2⟩
  have hl:=Lib.itoa_length_le n h1 h2
  have hw:=Zmk k
  rw [L4 Znz rfl rfl]
  unfold hdrV
  have w2:S E F.J7 [.bool (Zi4 k == []),.int .i64 9] []=some (.int .i64 (Zhm k),[]):=Zhi
  have hd:S E F.G3 [.lst [.int .i64 (Zkv n),.int .i64 (Zhm k)] 2] []=some (.int .i64 (Zwz k n),[]):=Zml
  by_cases a:n<0
  · have w1:S E F.J7 [.bool true,.int .i64 1] []=some (.int .i64 (Zkv n),[]):=by
      rw [Zhi,Zkv,decide_eq_true a,Bool.true_or]
    by_cases e:Zwz k n=0
    · simp -dsimp (disch:=first|omega|(simp only [B0,A1]<;>omega)|fail) only [L.K4,go_sem,reduceIte,reduceCtorEq,E2,E3,E4,E5,E6,E7,E8,E9,F0,F1,F2,F3,F4,F5,F6,F7,F8,F9,G0,B2,Zhl,a,w1,w2,hd,e,hi]
      rfl
    · simp -dsimp (disch:=first|omega|(simp only [B0,A1]<;>omega)|fail) only [L.K4,go_sem,reduceIte,reduceCtorEq,E2,E3,E4,E5,E6,E7,E8,E9,F0,F1,F2,F3,F4,F5,F6,F7,F8,F9,G0,B2,Zhl,a,w1,w2,hd,e,hi]
  · have w1:S E F.J7 [.bool (decide (1048576<n)),.int .i64 1] []=some (.int .i64 (Zkv n),[]):=by
      rw [Zhi,Zkv,decide_eq_false a,Bool.false_or]
    by_cases e:Zwz k n=0
    · simp -dsimp (disch:=first|omega|(simp only [B0,A1]<;>omega)|fail) only [L.K4,go_sem,reduceIte,reduceCtorEq,E2,E3,E4,E5,E6,E7,E8,E9,F0,F1,F2,F3,F4,F5,F6,F7,F8,F9,G0,B2,Zhl,a,w1,w2,hd,e,hi]
      rfl
    · simp -dsimp (disch:=first|omega|(simp only [B0,A1]<;>omega)|fail) only [L.K4,go_sem,reduceIte,reduceCtorEq,E2,E3,E4,E5,E6,E7,E8,E9,F0,F1,F2,F3,F4,F5,F6,F7,F8,F9,G0,B2,Zhl,a,w1,w2,hd,e,hi]
def Zjc (k:Int) (n:Nat):Int:=minE [if (decide (1048576<n))=true then 2 else 0,Zhm k]
def Zyn (n:Nat):Int:=if (decide (1048576<(n:Int)))=true then 2 else 0
theorem Yeo (k:Int) (n:Nat):Zjc k n=minE [Zyn n,Zhm k]:=by
  unfold Zjc Zyn
  rw [show decide (1048576<(n:Int))=decide (1048576<n) from decide_eq_decide.2 (by omega)]
theorem Z91 {k:Int} {p:List UInt8} {n:Nat} (hn:n=p.length) (hp:p.length≤1000000000000):S E F.R5 [.agg [.int .i64 k,.lst (A0 p) n]] []=some (.int .i64 (Zjc k p.length),[]):=by
  subst hn
  have w1:S E F.J7 [.bool (decide (1048576<(p.length:Int))),.int .i64 2] []=some (.int .i64 (Zyn p.length),[]):=Zhi
  have w2:S E F.J7 [.bool (Zi4 k == []),.int .i64 9] []=some (.int .i64 (Zhm k),[]):=Zhi
  have hd:S E F.G3 [.lst [.int .i64 (Zyn p.length),.int .i64 (Zhm k)] 2] []=some (.int .i64 (Zjc k p.length),[]):=by rw [Yeo];exact Zml
  rw [L4 Zny rfl rfl]
  simp -dsimp (disch:=first|omega|(simp only [B0,A1]<;>omega)|fail) only [L.R5,go_sem,reduceIte,reduceCtorEq,E2,E3,E4,E5,E6,E7,E8,E9,F0,F1,F2,F3,F4,F5,F6,F7,F8,F9,G0,B2,BYs,Zhl,w1,w2,hd]
end Cod
namespace Cod
open Go
theorem Zmn (n:Nat):rep [.int .u8 0] n=A0 (List.replicate n 0):=by
  induction n with
  | zero=>rfl
  | succ n ih=>rw [rep,ih,List.replicate_succ];rfl
theorem Zkw {t:Site} {sz bytes m:Nat} {vs:List AV} {u:Ups} {ss:List Site}:Zgi t sz bytes m vs u ss .nils=if m*bytes≤140737488355328 then Zbu t vs m sz u else .fail:=rfl
theorem Zkx {t:Site} {sz bytes:Nat} {zero:List AV} {s:AV} {m:Int}:Zlo t sz bytes zero s (.int .i64 m)=if 0≤m∧m≤140737488355328 then Zgi t sz bytes m.toNat (rep zero m.toNat) [] [] s else .fail:=rfl
theorem Z92 {n:Nat} (h0:0<n) (hn:n≤4000000):S E F.R8 [.nils,.int .i64 n] [] =
    some (.buf (.r 0) 0 0 0 1,[(.r 0,⟨0,true,true,false,A0 (List.replicate n 0)⟩)]):=by
  rw [L4 Zn8 rfl rfl]
  simp -dsimp (disch:=first|omega|(simp only [B0,A1]<;>omega)|fail) only [L.R8,go_sem,reduceIte,reduceCtorEq,E2,E3,E4,E5,E6,E7,E8,E9,F0,F1,F2,F3,F4,F5,F6,F7,F8,F9,G0,B2,BYs,Int.sub_zero,Zmn,Zkw,Zkx]
theorem Yep (l:List UInt8):sub l 0 0=[]:=by simp [sub]
theorem Z26 {l:List UInt8} {n:Nat} (h:n=l.length):sub l 0 n=l:=by simp [sub,h]
theorem Zky {a b:List UInt8} (h0:0<a.length) (ha:a.length≤1000000) (hb:b.length≤2000000) :
    S E F.G7 [.lst [.lst (A0 a) a.length,.lst (A0 b) b.length] 2] [] =
    some (.buf (.r 0) 0 0 (a++b).length 1,[(.r 0,⟨0,true,true,false,A0 (a++b)⟩)]):=by
  have hg:=Z92 (n:=a.length+b.length) (by omega) (by omega)
  have e1:(0+(a.length:Int)+b.length)=((a.length+b.length:Nat):Int):=by omega
  rw [L4 Zn0 rfl rfl]
  simp -dsimp (disch:=first|omega|(simp only [B0,A1]<;>omega)|fail) only [L.G7,L.G7.x0,go_sem,reduceIte,reduceCtorEq,E2,E3,E4,E5,E6,E7,E8,E9,F0,F1,F2,F3,F4,F5,F6,F7,F8,F9,G0,B2,BYs]
  rw [e1]
  simp -dsimp (disch:=first|omega|(simp only [B0,A1]<;>omega)|fail) only [L.G7.r0,L.G7.x1,L.G7.r1,go_sem,reduceIte,reduceCtorEq,E2,E3,E4,E5,E6,E7,E8,E9,F0,F1,F2,F3,F4,F5,F6,F7,F8,F9,G0,B2,BYs,hg,Zkw,Zkx,Yep,Nat.zero_mul,Nat.zero_add,Z26,List.nil_append]
  rw [Yf9]
def idF (k:Int) (p:List UInt8):List UInt8:=if Zjc k p.length=0 then Zpj (Zib k p.length++p) else List.replicate 32 0
def idV (k:Int) (p:List UInt8):AV:=.tup [.agg (A0 (idF k p)),.int .i64 (Zjc k p.length)]
theorem Zgc {k:Int} {n:Nat} (h:Zjc k n=0):Zwz k n=0∧n≤1048576:=by
  unfold Zjc Zwz Zkv at *
  unfold minE at *
  simp only [List.foldl_cons,List.foldl_nil,lst2] at *
  have:n≤1048576:=by
    by_cases h1:1048576<n
    · exfalso
      rw [decide_eq_true h1] at h
      generalize Zhm k=w at h
      simp only [if_true] at h
      by_cases a:w=0<;>by_cases b:w<2<;>simp [a,b] at h
    · omega
  refine ⟨?_,this⟩
  rw [decide_eq_false (by omega:¬ 1048576<n)] at h
  rw [decide_eq_false (by omega:¬ (n:Int)<0),decide_eq_false (by omega:¬ 1048576<(n:Int))]
  generalize Zhm k=w at h
  simpa using h
theorem Zkz (k n:Int):0<(Zib k n).length:=by unfold Zib;simp only [Yf9,Yf0,Ygy];omega
theorem go_oid {k:Int} {p:List UInt8} {n:Nat} (hn:n=p.length) (hp:p.length≤1000000000000):S E F.T9 [.agg [.int .i64 k,.lst (A0 p) n]] []=some (idV k p,[]):=by
  subst hn
  have h1:=Z91 (k:=k) (p:=p) rfl hp
  have h2:=Zmm (k:=k) (n:=p.length) (by omega) (by omega)
  rw [L4 Znv rfl rfl]
  unfold idV idF
  by_cases e:Zjc k p.length=0
  · obtain ⟨e1,e2⟩:=Zgc e
    unfold hdrV at h2
    rw [if_pos e1] at h2
    have hl:=Zst (k:=k) (n:=p.length) (by omega) (by omega)
    have h0:=Zkz k p.length
    generalize Zib k p.length=t at *
    have h3:=Zky (a:=t) (b:=p) h0 (by omega) (by omega)
    have h4:=Z90 (p:=t++p) (by rw [Yf9];omega)
    have hs:(Zpj (t++p)).length=32:=by unfold Zpj;simp [Zsr]
    simp -dsimp (disch:=first|omega|(simp only [B0,A1]<;>omega)|fail) only [L.T9,go_sem,reduceIte,reduceCtorEq,E2,E3,E4,E5,E6,E7,E8,E9,F0,F1,F2,F3,F4,F5,F6,F7,F8,F9,G0,B2,BYs,h1,e,h2,h3,h4]
  · simp -dsimp (disch:=first|omega|(simp only [B0,A1]<;>omega)|fail) only [L.T9,go_sem,reduceIte,reduceCtorEq,E2,E3,E4,E5,E6,E7,E8,E9,F0,F1,F2,F3,F4,F5,F6,F7,F8,F9,G0,B2,BYs,h1,e,List.length_replicate]
end Cod
namespace Cod
def leN:List UInt8→Nat
  | []=>0
  | b::bs=>b.toNat+256*leN bs
theorem Zw0 (a b:List UInt8):leN (a++b)=leN a+256^a.length*leN b:=by
  induction a with
  | nil=>simp [leN]
  | cons x a ih =>
    simp only [Yfm,leN,ih,Yf0,Yh6,Nat.mul_add,Nat.add_assoc]
    rw [←Nat.mul_assoc,Yh7 256 (256^a.length)]
theorem leN_lt (a:List UInt8):leN a<256^a.length:=by
  induction a with
  | nil=>simp [leN]
  | cons x a ih =>
    have:=x.toNat_lt
    simp only [leN,Yf0,Yh6]
    omega
theorem pow256 (n:Nat):256^n=2^(8*n):=by rw [Nat.pow_mul]
theorem Yeq:∀ {a b:List UInt8},a.length=b.length→leN a=leN b→a=b:=by
  intro a
  induction a with
  | nil=>intro b h _;exact (List.length_eq_zero_iff.1 (by simpa using h.symm)).symm
  | cons x a ih =>
    intro b h e
    cases b with
    | nil=>simp at h
    | cons y b =>
      simp only [leN] at e
      have h1:=x.toNat_lt
      have h2:=y.toNat_lt
      have hxy:x.toNat=y.toNat:=by omega
      rw [UInt8.toNat_inj.1 hxy,ih (by simpa using h) (by omega)]
def bitsN (p:List UInt8) (at_ n:Nat):Nat:=leN p/2^at_%2^n
end Cod
namespace Cod
def Zdq:Nat→Nat→Nat
  | 0,_=>0
  | n+1,v=>v/2^n%2+2*Zdq n v
abbrev Bst:=Nat × Nat
def Zc0 (s:Bst) (v n:Nat):Bst:=(s.1+v*2^s.2,s.2+n)
def O7 (s:Bst):List (Nat × Nat)→Bst
  | []=>s
  | (v,n)::r=>O7 (Zc0 s v n) r
theorem Zdd (s:Bst) (a b:List (Nat × Nat)):O7 s (a++b)=O7 (O7 s a) b:=by
  induction a generalizing s with
  | nil=>rfl
  | cons x a ih=>exact ih _
theorem Z93 (s:Bst) (a:List (Nat × Nat)):(O7 s a).2=s.2+(a.map (·.2)).sum:=by
  induction a generalizing s with
  | nil=>simp [O7]
  | cons x a ih=>obtain ⟨v,n⟩:=x;simp only [O7,ih,List.map_cons,List.sum_cons,Zc0];omega
def toB:Nat→Nat→List UInt8
  | _,0=>[]
  | v,k+1=>UInt8.ofNat (v%256)::toB (v/256) k
theorem Zk0 (k v:Nat):(toB v k).length=k:=by
  induction k generalizing v with
  | zero=>rfl
  | succ k ih=>simp [toB,ih]
theorem Yer (k v:Nat):leN (toB v k)=v%256^k:=by
  induction k generalizing v with
  | zero=>simp [toB,leN,Nat.mod_one]
  | succ k ih =>
    simp only [toB,leN,ih]
    rw [Yh6,Yh7 (256^k),Nat.mod_mul,UInt8.toNat_ofNat_of_lt' (by simp [UInt8.size];omega)]
def Zic (s:Bst):List UInt8:=toB s.1 ((s.2+7)/8)
def symN (s:Nat):Nat:=if s<144 then 8 else if s<256 then 9 else if s<280 then 7 else 8
def symV (s:Nat):Nat:=if s<144 then 48+s else if s<256 then 256+s else if s<280 then s-256 else s-88
def P4 (s:Nat):Nat × Nat:=(Zdq (symN s) (symV s),symN s)
def Y3 (n:Nat):Nat:=if n=258∨n<11 then 0 else Nat.log2 (n-3)-2
def Zag (n:Nat):Nat:=if n=258 then 285 else if n<11 then n+254 else 257+4*Y3 n+(n-3)/2^Y3 n
def lmV (n:Nat):Nat:=if n=258∨n<11 then 0 else (n-3)%2^Y3 n
def U8 (n:Nat):Nat:=if n<5 then 0 else Nat.log2 (n-1)-1
def Zct (n:Nat):Nat:=if n<5 then n-1 else 2*U8 n+2+(n-1)/2^U8 n%2
def Zfa (n:Nat):Nat:=if n<5 then 0 else (n-1)%2^U8 n
def Zlk (n far:Nat):List (Nat × Nat):=[P4 (Zag n),(lmV n,Y3 n),(Zdq 5 (Zct far),5),(Zfa far,U8 far)]
def cpl:Nat→List UInt8→List UInt8→Nat
  | k+1,a::ar,b::bs=>if a=b then cpl k ar bs+1 else 0
  | _,_,_=>0
def Zbm (p:List UInt8) (i j:Nat):Nat:=cpl 258 (p.drop i) (p.drop j)
def Zbr (p:List UInt8) (i:Nat):Nat→Nat × Nat→Nat × Nat
  | 0,b=>b
  | j+1,b=>if i-j≤32768 then Zbr p i j (if 3≤Zbm p i j∧b.1<Zbm p i j then (Zbm p i j,i-j) else b) else b
def Zax (p:List UInt8) (i:Nat):Nat × Nat:=Zbr p i i (0,0)
def Zdr (p:List UInt8):Nat→Nat→List (Nat × Nat)
  | 0,_=>[]
  | m+1,i=>if h:i<p.length then (if (Zax p i).1=0 then P4 p[i].toNat::Zdr p m (i+1) else Zlk (Zax p i).1 (Zax p i).2++Zdr p m (i+(Zax p i).1)) else []
def fixC (p:List UInt8):List (Nat × Nat):=(1,1)::(1,2)::(Zdr p p.length 0++[P4 256])
def Zid (p:List UInt8):List UInt8:=Zic (O7 (0,0) (fixC p))
def Zc1 (last n:Nat):List UInt8:=[UInt8.ofNat last,UInt8.ofNat n,UInt8.ofNat (n/256),~~~UInt8.ofNat n,~~~UInt8.ofNat (n/256)]
def Zcu:Nat→List UInt8→List UInt8
  | 0,p=>Zc1 1 p.length++p
  | k+1,p=>if p.length≤65535 then Zc1 1 p.length++p else Zc1 0 65535++(p.take 65535++Zcu k (p.drop 65535))
def Zll (p:List UInt8):List UInt8:=Zcu p.length p
def Zhn (p:List UInt8) (way:Nat):List UInt8:=if way=0 then Zll p else if way=2∧(Zll p).length≤(Zid p).length then Zll p else Zid p
theorem Zw1:∀ (k:Nat) (a b:List UInt8),cpl k a b≤k∧cpl k a b≤a.length∧cpl k a b≤b.length:=by
  intro k
  induction k with
  | zero=>intro a b;simp [cpl]
  | succ k ih =>
    intro a b
    cases a with
    | nil=>simp [cpl]
    | cons x a =>
      cases b with
      | nil=>simp [cpl]
      | cons y b =>
        simp only [cpl,Yf0]
        have:=ih a b
        split<;>omega
theorem Z94:∀ (k:Nat) (a b:List UInt8),a.take (cpl k a b)=b.take (cpl k a b):=by
  intro k
  induction k with
  | zero=>intro a b;simp [cpl]
  | succ k ih =>
    intro a b
    cases a with
    | nil=>simp [cpl]
    | cons x a =>
      cases b with
      | nil=>simp [cpl]
      | cons y b =>
        simp only [cpl]
        split
        · rename_i h;rw [Yh8,Yh8,h,ih]
        · rfl
def Zsu (p:List UInt8) (i n far:Nat):Prop:=3≤n∧n≤258∧i+n≤p.length∧1≤far∧far≤i∧far≤32768∧(p.drop i).take n=(p.drop (i-far)).take n
theorem Yes (p:List UInt8) (i:Nat) (hi:i<p.length):∀ (j:Nat) (b:Nat × Nat),j≤i→(b.1=0∨Zsu p i b.1 b.2)→(Zbr p i j b).1=0∨Zsu p i (Zbr p i j b).1 (Zbr p i j b).2:=by
  intro j
  induction j with
  | zero=>intro b _ h;exact h
  | succ j ih =>
    intro b hj h
    unfold Zbr
    split
    · rename_i hw
      refine ih _ (by omega) ?_
      split
      · rename_i hs
        right
        have h1:=Zw1 258 (p.drop i) (p.drop j)
        have h2:=Z94 258 (p.drop i) (p.drop j)
        rw [Yfr,Yfr] at h1
        refine ⟨hs.1,h1.1,?_,by omega,by omega,hw,?_⟩
        · have:Zbm p i j≤p.length-i:=h1.2.1
          show i+Zbm p i j≤_
          omega
        · show (p.drop i).take (Zbm p i j)=(p.drop (i-(i-j))).take (Zbm p i j)
          rw [show i-(i-j)=j by omega]
          exact h2
      · exact h
    · exact h
theorem Zyo (p:List UInt8) (i:Nat) (hi:i<p.length):(Zax p i).1=0∨Zsu p i (Zax p i).1 (Zax p i).2:=Yes p i hi i (0,0) (Nat.le_refl _) (.inl rfl)
theorem Zfb (a b:Nat):(Zc1 a b).length=5:=rfl
theorem Zsv:∀ (k:Nat) (p:List UInt8),p.length≤65535*(k+1)→(Zcu k p).length=p.length+5+5*((p.length-1)/65535):=by
  intro k
  induction k with
  | zero =>
    intro p h
    simp only [Zcu,Yf9,Zfb]
    omega
  | succ k ih =>
    intro p h
    unfold Zcu
    split
    · simp only [Yf9,Zfb];omega
    · rw [Yf9,Yf9,ih _ (by rw [Yfr];omega),Yfr,Yfq,Zfb]
      omega
theorem Zi5 (p:List UInt8):(Zll p).length=p.length+5+5*((p.length-1)/65535):=Zsv _ _ (by omega)
end Cod
namespace Cod
open Go
def V5 (p:List UInt8) (j:Nat):Nat:=(p.getD j 0).toNat*65536+(p.getD (j+1) 0).toNat*256+(p.getD (j+2) 0).toNat
def Zay (p:List UInt8):Nat→Nat→Option Nat
  | 0,_=>none
  | i+1,k=>if i+3≤p.length∧V5 p i=k then some i else Zay p i k
theorem Zk1 {p:List UInt8} {k j:Nat}:∀ {i:Nat},Zay p i k=some j→j<i∧j+3≤p.length∧V5 p j=k∧∀ m,j<m→m<i→m+3≤p.length→V5 p m≠k:=by
  intro i
  induction i with
  | zero=>intro h;cases h
  | succ i ih =>
    intro h
    unfold Zay at h
    split at h
    · rename_i hc
      cases h
      exact ⟨by omega,hc.1,hc.2,fun m h1 h2=>by omega⟩
    · rename_i hc
      obtain ⟨a,b,c,d⟩:=ih h
      refine ⟨by omega,b,c,fun m h1 h2 h3=>?_⟩
      by_cases hm:m=i
      · subst hm;exact fun e=>hc ⟨h3,e⟩
      · exact d m h1 (by omega) h3
theorem Zk2 {p:List UInt8} {k:Nat}:∀ {i:Nat},Zay p i k=none→∀ m,m<i→m+3≤p.length→V5 p m≠k:=by
  intro i
  induction i with
  | zero=>intro _ m h;omega
  | succ i ih =>
    intro h m h1 h2
    unfold Zay at h
    split at h
    · cases h
    · rename_i hc
      by_cases hm:m=i
      · subst hm;exact fun e=>hc ⟨h2,e⟩
      · exact ih h m (by omega) h2
theorem Zyp {p:List UInt8} {i j:Nat}:V5 p i=V5 p j↔p.getD i 0=p.getD j 0∧p.getD (i+1) 0=p.getD (j+1) 0∧p.getD (i+2) 0=p.getD (j+2) 0:=by
  unfold V5
  have a1:=(p.getD i 0).toNat_lt
  have a2:=(p.getD (i+1) 0).toNat_lt
  have a3:=(p.getD (i+2) 0).toNat_lt
  have b1:=(p.getD j 0).toNat_lt
  have b2:=(p.getD (j+1) 0).toNat_lt
  have b3:=(p.getD (j+2) 0).toNat_lt
  constructor
  · intro h
    exact ⟨UInt8.toNat_inj.1 (by omega),UInt8.toNat_inj.1 (by omega),UInt8.toNat_inj.1 (by omega)⟩
  · rintro ⟨h1,h2,h3⟩
    rw [h1,h2,h3]
theorem Za6 {p:List UInt8} {k i j:Nat} (hi:i<p.length) (hj:j<p.length):cpl (k+1) (p.drop i) (p.drop j)=if p.getD i 0=p.getD j 0 then cpl k (p.drop (i+1)) (p.drop (j+1))+1 else 0:=by
  rw [Yho hi,Yho hj]
  simp only [cpl]
  have e1:p.getD i 0=p[i]:=by simp [List.getD,hi]
  have e2:p.getD j 0=p[j]:=by simp [List.getD,hj]
  rw [e1,e2]
theorem Zw2 {p:List UInt8} {i j:Nat} (hj:j<i) (hi:i+3≤p.length) (h:V5 p j=V5 p i):Zbm p i j=3+cpl 255 (p.drop (i+3)) (p.drop (j+3)):=by
  obtain ⟨h1,h2,h3⟩:=Zyp.1 h
  unfold Zbm
  rw [Za6 (by omega) (by omega),if_pos h1.symm,Za6 (by omega) (by omega),if_pos h2.symm,Za6 (by omega) (by omega),if_pos h3.symm]
  show cpl 255 (p.drop (i+3)) (p.drop (j+3))+1+1+1=_
  omega
theorem Zho {p:List UInt8} {i j:Nat} (hj:j<i) (hi:i+3≤p.length) (h:V5 p j≠V5 p i):Zbm p i j<3:=by
  unfold Zbm
  rw [Za6 (by omega) (by omega)]
  split
  · rename_i h1
    rw [Za6 (by omega) (by omega)]
    split
    · rename_i h2
      rw [Za6 (by omega) (by omega)]
      split
      · rename_i h3
        exact absurd (Zyp.2 ⟨h1.symm,h2.symm,h3.symm⟩) h
      · omega
    · omega
  · omega
theorem Zk3 {p:List UInt8} {i j:Nat}:Zbm p i j≤p.length-i:=by
  have:=(Zw1 258 (p.drop i) (p.drop j)).2.1
  rw [Yfr] at this
  exact this
theorem Zsw {p:List UInt8} {i j:Nat}:Zbm p i j≤258:=(Zw1 258 _ _).1
theorem Zck {p:List UInt8} {i:Nat}:∀ (m m':Nat) (b:Nat × Nat),m'≤m→m≤i→(∀ j,m'≤j→j<m→¬ (3≤Zbm p i j∧b.1<Zbm p i j))→Zbr p i m b=Zbr p i m' b:=by
  intro m
  induction m with
  | zero =>
    intro m' b h _ _
    have e:m'=0:=by omega
    rw [e]
  | succ m ih =>
    intro m' b h hm hs
    by_cases he:m'=m+1
    · rw [he]
    · by_cases hw:i-m≤32768
      · rw [Zbr,if_pos hw,if_neg (hs m (by omega) (by omega))]
        exact ih m' b (by omega) (by omega) fun j h1 h2=>hs j h1 (by omega)
      · rw [Zbr,if_neg hw]
        cases m' with
        | zero=>rfl
        | succ m'=>rw [Zbr,if_neg (by omega)]
theorem Zmo {p:List UInt8} {i m:Nat} {b:Nat × Nat} (hm:m≤i) (h:∀ j,j<m→Zbm p i j≤b.1):Zbr p i m b=b:=by
  rw [Zck m 0 b (by omega) hm fun j _ h2=>by have:=h j h2;omega]
  rfl
structure MapF (p:List UInt8) (i:Nat) (ks:List Nat) (vs:List Int):Prop where
  len:vs.length=ks.length
  yes:∀ k j,Zay p i k=some j→k∈ks∧vs[ks.idxOf k]? = some (j:Int)
  no:∀ k,Zay p i k=none→k∉ks
def ahead (p:List UInt8) (j:Nat):Int:=match Zay p j (V5 p j) with|some m=>m|none => -1
structure PrevF (p:List UInt8) (i:Nat) (pr:List Int):Prop where
  len:pr.length=p.length
  at_:∀ j,j<i→j+3≤p.length→pr.getD j 0=ahead p j
theorem MapF.skip {p:List UInt8} {i:Nat} {ks:List Nat} {vs:List Int} (h:MapF p i ks vs) (hi:p.length<i+3):MapF p (i+1) ks vs:=by
  have e:∀ k,Zay p (i+1) k=Zay p i k:=fun k=>by rw [Zay,if_neg (by omega)]
  exact ⟨h.len,fun k j hk=>h.yes k j (by rw [←e];exact hk),fun k hk=>h.no k (by rw [←e];exact hk)⟩
theorem PrevF.skip {p:List UInt8} {i:Nat} {pr:List Int} (h:PrevF p i pr) (hi:p.length<i+3):PrevF p (i+1) pr :=
  ⟨h.len,fun j h1 h2=>h.at_ j (by omega) h2⟩
theorem MapF.old {p:List UInt8} {i:Nat} {ks:List Nat} {vs:List Int} (h:MapF p i ks vs) (hi:i+3≤p.length) (hk:V5 p i∈ks):MapF p (i+1) ks (vs.set (ks.idxOf (V5 p i)) (i:Int)):=by
  have hlt:ks.idxOf (V5 p i)<vs.length:=by rw [h.len];exact Yh9 hk
  refine ⟨by rw [Yhv];exact h.len,fun k j hj=>?_,fun k hj=>?_⟩
  · rw [Zay] at hj
    split at hj
    · rename_i hc
      cases hj
      rw [←hc.2]
      exact ⟨hk,by rw [List.getElem?_set_self hlt]⟩
    · rename_i hc
      obtain ⟨a,b⟩:=h.yes k j hj
      refine ⟨a,?_⟩
      have hne:V5 p i≠k:=fun e=>hc ⟨hi,e⟩
      rw [List.getElem?_set_ne,b]
      intro e
      have e1:=Yg0 (Yh9 hk)
      have e2:=Yg0 (Yh9 a)
      simp only [e] at e1
      exact hne (e1.symm.trans e2)
  · rw [Zay] at hj
    split at hj
    · cases hj
    · exact h.no k hj
theorem MapF.new {p:List UInt8} {i:Nat} {ks:List Nat} {vs:List Int} (h:MapF p i ks vs) (hi:i+3≤p.length) (hk:V5 p i∉ks):MapF p (i+1) (ks++[V5 p i]) (vs++[(i:Int)]):=by
  have hix:(ks++[V5 p i]).idxOf (V5 p i)=ks.length:=by rw [Yia,if_neg hk];simp
  refine ⟨by simp [h.len],fun k j hj=>?_,fun k hj=>?_⟩
  · rw [Zay] at hj
    split at hj
    · rename_i hc
      cases hj
      rw [←hc.2,hix]
      exact ⟨by simp,by rw [List.getElem?_append_right (by rw [h.len];omega),h.len];simp⟩
    · rename_i hc
      obtain ⟨a,b⟩:=h.yes k j hj
      refine ⟨by simp [a],?_⟩
      have hl:ks.idxOf k<vs.length:=by rw [h.len];exact Yh9 a
      rw [Yia,if_pos a,List.getElem?_append_left hl,b]
  · rw [Zay] at hj
    split at hj
    · cases hj
    · rename_i hc
      have:=h.no k hj
      simp only [List.mem_append,List.mem_singleton,not_or]
      exact ⟨this,fun e=>hc ⟨hi,e.symm⟩⟩
theorem MapF.zero (p:List UInt8):MapF p 0 [] []:=⟨rfl,(fun k j h=>by cases h),(fun k _=>by simp)⟩
theorem PrevF.next {p:List UInt8} {i:Nat} {pr:List Int} (h:PrevF p i pr) (hi:i+3≤p.length) {x:Int} (hx:x=ahead p i):PrevF p (i+1) (pr.set i x):=by
  refine ⟨by rw [Yhv];exact h.len,fun j h1 h2=>?_⟩
  by_cases e:j=i
  · subst e
    rw [List.getD_eq_getElem?_getD,List.getElem?_set_self (by rw [h.len];omega),hx];rfl
  · rw [List.getD_eq_getElem?_getD,List.getElem?_set_ne (fun e2=>e e2.symm),←List.getD_eq_getElem?_getD]
    exact h.at_ j (by omega) h2
def H0 (k:IntKind) (l:List Nat):List AV:=l.map fun n:Nat=>AV.int k (n:Int)
theorem Zk4 (k:IntKind) (n:Nat):∀ (ks:List Nat) (j:Nat),Zah false (.int k (n:Int)) (H0 k ks) j=some (if n∈ks then some (j+ks.idxOf n) else none):=by
  intro ks
  induction ks with
  | nil=>intro j;rfl
  | cons a ks ih =>
    intro j
    show Zah false (.int k (n:Int)) (.int k (a:Int)::H0 k ks) j=_
    unfold Zah
    by_cases h:n=a
    · subst h
      simp [Zge]
    · have e:Zge false (.int k (n:Int)) (.int k (a:Int))=some false:=by
        simp [Zge];omega
      rw [e]
      simp only
      rw [ih (j+1)]
      by_cases hm:n∈ks
      · have e2:(a::ks).idxOf n=ks.idxOf n+1:=by
          rw [List.idxOf_cons]
          have:(a==n)=false:=by simp [Ne.symm h]
          rw [this];rfl
        rw [if_pos hm,if_pos (List.mem_cons_of_mem _ hm),e2]
        congr 2;omega
      · rw [if_neg hm,if_neg (by simp [h,hm])]
end Cod
namespace Cod
open Go
theorem Zfc {k:IntKind} {n:Nat} (h:n<2^(k.bits-1)):k.wrap (n:Int)=n:=by
  cases k<;>simp [IntKind.bits] at h<;>simp [IntKind.wrap,IntKind.signed,IntKind.bits]<;>omega
theorem Zsx (k:IntKind):2^(k.bits-1)≤2^k.bits:=Yib (by omega) (by omega)
theorem Z95 {k:IntKind} {a b:Nat} (ha:a<2^(k.bits-1)) (hb:b<2^(k.bits-1)):Zh5 k (a:Int) (b:Int)=((a &&& b:Nat):Int):=by
  have h:=Zsx k
  unfold Zh5
  rw [Yic,Yic,BitVec.toNat_and,Yid,Yid,Yie (by omega),Yie (by omega)]
  exact Zfc (Nat.lt_of_le_of_lt Nat.and_le_left ha)
theorem Zfy {k:IntKind} {a n:Nat} (ha:a<2^(k.bits-1)) (hn:n<k.bits):Zh5 k (a:Int) ((2^n-1:Nat):Int)=((a%2^n:Nat):Int):=by
  have h:2^n≤2^(k.bits-1):=Yib (by omega) (by omega)
  have h2:0<2^n:=Nat.pow_pos (by omega)
  rw [Z95 ha (by omega),Nat.and_two_pow_sub_one_eq_mod]
theorem Zpl {k:IntKind} {a b:Nat} (ha:a<2^(k.bits-1)) (hb:b<2^(k.bits-1)):ior k (a:Int) (b:Int)=((a ||| b:Nat):Int):=by
  have h:=Zsx k
  unfold ior
  rw [Yic,Yic,BitVec.toNat_or,Yid,Yid,Yie (by omega),Yie (by omega)]
  exact Zfc (Nat.or_lt_two_pow ha hb)
theorem Yet {k:IntKind} {a b n:Nat} (ha:a<2^n) (hb:a+b*2^n<2^(k.bits-1)):ior k (a:Int) ((b*2^n:Nat):Int)=((a+b*2^n:Nat):Int):=by
  rw [Zpl (by omega) (by omega),Nat.or_comm,Yh7,←Nat.two_pow_add_eq_or_of_lt ha,Nat.add_comm]
theorem Zhp {k:IntKind} {a b:Nat} (hb:b≤k.bits) (h:a*2^b<2^(k.bits-1)):Zcy k (a:Int) (b:Int)=((a*2^b:Nat):Int):=by
  unfold Zcy
  rw [Yif,show Nat.min b k.bits=b from Yhd hb]
  rw [show (a:Int)*2^b=((a*2^b:Nat):Int) by rw [Int.natCast_mul,Yh1];rfl]
  exact Zfc h
theorem Z1 {k:IntKind} {a b:Nat} (hb:b≤k.bits):Zcq k (a:Int) (b:Int)=((a/2^b:Nat):Int):=by
  unfold Zcq
  rw [Yif,show Nat.min b k.bits=b from Yhd hb,Int.fdiv_eq_ediv_of_nonneg _ (Int.pow_nonneg (by omega))]
  rw [Yh5,Yh1]
  rfl
end Cod
namespace Cod
open Go
structure BitI (p:List UInt8) (st:Bst):Prop where
  len:p.length=(st.2+7)/8
  le:leN p=st.1
  lt:st.1<2^st.2
theorem Z96 (q:List UInt8) (c:UInt8):leN (q++[c])=leN q+2^(8*q.length)*c.toNat:=by
  rw [Zw0,pow256];simp [leN]
theorem G9:Zlg []=.tup []:=rfl
def Zk5 (y z:Site) (g g':Nat):Prop:=(z=.up y∧g'=g)∨(z=.r 1∧g'=0)
end Cod
namespace Cod
structure HTab where
  cnt:List Nat
  sym:List Nat
def Zie (l:List Nat) (n:Nat):Nat:=if n=0 then 0 else l.count n
def Zw3 (l:List Nat) (n:Nat):List Nat:=(List.range l.length).filter fun i=>l.getD i 0==n
def Zyq (l:List Nat):Nat→List Nat
  | 0=>[]
  | n+1=>Zyq l n++Zw3 l (n+1)
def Z7 (l:List Nat):HTab:=⟨(List.range 16).map (Zie l),Zyq l 15⟩
def lenB (s:Nat):Nat:=if s=285 then 258 else if s<265 then s-254 else 3+(4+(s-261)%4)*2^((s-261)/4)
def lenM (s:Nat):Nat:=if s=285 then 0 else if s<265 then 0 else (s-261)/4
def disB (s:Nat):Nat:=if s<4 then s+1 else 1+(2+s%2)*2^(s/2-1)
def disM (s:Nat):Nat:=if s<4 then 0 else s/2-1
end Cod
namespace Cod
theorem Zsy:∀ m<256,Zag (m+3)<286∧256<Zag (m+3)∧lenM (Zag (m+3))=Y3 (m+3)∧lenB (Zag (m+3))+lmV (m+3)=m+3∧lmV (m+3)<2^Y3 (m+3):=by decide +kernel
theorem Zsz {n:Nat} (h1:1≤n) (h2:n≤32768):Zct n<30∧disM (Zct n)=U8 n∧disB (Zct n)+Zfa n=n∧Zfa n<2^U8 n∧U8 n≤13:=by
  by_cases h5:n<5
  · unfold disM disB Zct Zfa U8
    simp only [if_pos h5]
    rw [if_pos (by omega),if_pos (by omega)]
    omega
  · have hv:n-1≠0:=by omega
    have a1:=Nat.log2_self_le hv
    have a2:=Nat.lt_log2_self (n:=n-1)
    have a3:2≤(n-1).log2:=(Nat.le_log2 hv).2 (by omega)
    have a4:(n-1).log2<15:=(Nat.log2_lt hv).2 (by omega)
    obtain ⟨x,hx⟩:∃ x,(n-1).log2=x+1:=⟨(n-1).log2-1,by omega⟩
    have e1:U8 n=x:=by unfold U8;rw [if_neg h5,hx];omega
    have p1:0<2^x:=Nat.pow_pos (by omega)
    rw [hx,Yh6] at a1
    rw [hx,Yh6,Yh6] at a2
    have q1:2≤(n-1)/2^x:=(Nat.le_div_iff_mul_le p1).2 (by omega)
    have q2:(n-1)/2^x<4:=(Nat.div_lt_iff_lt_mul p1).2 (by omega)
    have q3:=Nat.div_add_mod (n-1) (2^x)
    have q4:=Nat.mod_lt (n-1) p1
    have e2:Zct n=2*x+2+(n-1)/2^x%2:=by unfold Zct;rw [if_neg h5,e1]
    have e3:Zfa n=(n-1)%2^x:=by unfold Zfa;rw [if_neg h5,e1]
    have e4:disM (Zct n)=x:=by unfold disM;rw [e2,if_neg (by omega)];omega
    have e5:disB (Zct n)=1+((n-1)/2^x)*2^x:=by
      unfold disB;rw [e2,if_neg (by omega)]
      rw [show (2*x+2+(n-1)/2^x%2)/2-1=x by omega,show 2+(2*x+2+(n-1)/2^x%2)%2=(n-1)/2^x by omega]
    rw [e1,e3,e4,e5,e2]
    rw [Yh7] at q3
    exact ⟨by omega,rfl,by omega,q4,by omega⟩
def valC:List (Nat × Nat)→Nat
  | []=>0
  | (v,n)::r=>v+2^n*valC r
def T4:List (Nat × Nat)→Nat
  | []=>0
  | (_,n)::r=>n+T4 r
theorem Zfd (s:Bst) (cs:List (Nat × Nat)):O7 s cs=(s.1+2^s.2*valC cs,s.2+T4 cs):=by
  induction cs generalizing s with
  | nil=>simp [O7,valC,T4]
  | cons x cs ih =>
    obtain ⟨v,n⟩:=x
    simp only [O7,ih,Zc0,valC,T4,Nat.pow_add,Nat.mul_add,Nat.add_assoc,Nat.mul_assoc,Yh7 v]
theorem Zfe (a b:List (Nat × Nat)):T4 (a++b)=T4 a+T4 b:=by
  induction a with
  | nil=>simp [T4]
  | cons x a ih=>obtain ⟨v,n⟩:=x;simp only [Yfm,T4,ih];omega
end Cod
namespace Cod
open Go
theorem Zmp (s:Nat) (hs:s<288):(s<144∧P4 s=(Zdq 8 (48+s),8))∨(144≤s∧s<256∧P4 s=(Zdq 9 (256+s),9))∨(256≤s∧s<280∧P4 s=(Zdq 7 (s-256),7))∨(280≤s∧P4 s=(Zdq 8 (s-88),8)):=by
  unfold P4 symN symV
  by_cases h1:s<144
  · left;simp [h1]
  · by_cases h2:s<256
    · right;left;simp [h1,h2];omega
    · by_cases h3:s<280
      · right;right;left;simp [h1,h2,h3];omega
      · right;right;right;simp [h1,h2,h3];omega
end Cod

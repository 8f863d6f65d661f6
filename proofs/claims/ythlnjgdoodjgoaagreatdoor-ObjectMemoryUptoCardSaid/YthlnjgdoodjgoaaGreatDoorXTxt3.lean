/- SHA-256: padding and sums, the program's. -/
import Derived.KernelRfl
import Derived.Lib.ItoaLen
import Derived.Test.YthlnjgdoodjgoaaGreatDoorXTxt2
set_option linter.unusedSimpArgs false
set_option linter.unusedVariables false
open List renaming any_cons → Ysl, append_assoc → Yqy, cons_append → Yp9, drop_drop → Yq4, drop_eq_getElem_cons → Yr9, drop_length → Yst, drop_of_length_le → Yr8, drop_zero → Yrp, foldl_cons → Yqk, foldl_nil → Ysu, length_append → Yqx, length_cons → Yqm, length_drop → Yqe, length_nil → Yrj, length_take → Yqd, mem_cons_of_mem → Yra, mem_cons_self → Ysx, nil_append → Yry
open Nat renaming le_refl → Yp6, sub_zero → Yq7
open Int renaming cast_ofNat_Int → Ysh, natCast_add → Ysn, zero_sub → Ysw
open Bool renaming and_eq_true → Yql, and_false → Ysv, and_true → Yq5, false_and → Ysk, false_eq_true → Yqn, false_or → Ysj, not_false → Ysb, not_true → Ysa, true_and → Ysi
open Option renaming getD_some → Yre
open Nat renaming reduceEqDiff → B2, reduceAdd → B3, reduceSub → B4, reduceMul → B5, reduceDiv → B6, reduceMod → B7, reduceBEq → B8, reduceLeDiff → B9, reduceLT → C0
open Int renaming reduceEq → C1, reduceNe → C2, reduceLT → C3, reduceLE → C4, reduceBEq → C5, reduceBNe → C6, reduceToNat → C7, reduceAdd → C8, reduceSub → C9, reduceMul → D0, reduceNeg → A4
namespace Cod
open Go
def h0w:List (BitVec 32):=[0x6a09e667,0xbb67ae85,0x3c6ef372,0xa54ff53a,0x510e527f,0x9b05688c,0x1f83d9ab,0x5be0cd19]
def X9:Nat→List (BitVec 32)→List UInt8→List (BitVec 32)
  | 0,h,_=>h
  | m+1,h,l=>X9 m (Zla h (l.take 64)) (l.drop 64)
def be8 (v:Nat):List UInt8:=[UInt8.ofNat (v/2^56%256),UInt8.ofNat (v/2^48%256),UInt8.ofNat (v/2^40%256),UInt8.ofNat (v/2^32%256),UInt8.ofNat (v/2^24%256),UInt8.ofNat (v/2^16%256),UInt8.ofNat (v/2^8%256),UInt8.ofNat (v/2^0%256)]
def Zmh (n:Nat):List UInt8:=128::(List.replicate ((119-n%64)%64) 0++be8 (8*n))
def Zy8 (h:List (BitVec 32)):List UInt8:=(List.range 32).map fun i=>wb (h.getD (i/4) 0 >>> (24-8*(i%4)))
def Zmi (p:List UInt8):List UInt8 :=
  Zy8 (X9 ((p.drop (p.length/64*64)++Zmh p.length).length/64) (X9 (p.length/64) h0w p) (p.drop (p.length/64*64)++Zmh p.length))
theorem Zj7:∀ (m:Nat) (h:List (BitVec 32)) (l:List UInt8),h.length=8→(X9 m h l).length=8:=by
  intro m
  induction m with
  | zero=>intro h l hh;exact hh
  | succ m ih=>intro h l _;exact ih _ _ (Zce _ _)
def Zg8 (n:Nat):Nat→Nat→List UInt8→List UInt8
  | 0,_,l=>l
  | m+1,i,l=>Zg8 n m (i+1) (l.set (l.length-1-i) (UInt8.ofNat (8*n/2^(8*i)%256)))
theorem pad_l0 {n:Nat} (hn:n≤1000000000000) (k:List It):∀ (m i:Nat) (l:List UInt8),i+m=8→8≤l.length→l.length≤100 →
    X E [.tmp 2] (.c L.U1.x0::.lp [0,3,16] L.U1.x0::.blk 0::k) ⟨[(0,.int .i64 n),(3,.buf (.s 1000000 0) 0 0 (l).length 1),(16,.int .i64 i)],[(.s 1000000 0,⟨0,true,true,false,A1 l⟩)]⟩=X E [.tmp 2] k ⟨[(0,.int .i64 n),(3,.buf (.s 1000000 0) 0 0 ((Zg8 n m i l)).length 1),(16,.int .i64 8),(17,.bool false)],[(.s 1000000 0,⟨0,true,true,false,A1 (Zg8 n m i l)⟩)]⟩:=by
  intro m
  induction m with
  | zero =>
    intro i l h1 h2 h3
    obtain rfl:i=8:=by omega
    rw [G9 L.U1.x0.eq_1]
    simp -dsimp (disch:=first|omega|(simp only [A5]<;>omega)|fail) only [go_sem,reduceIte,reduceCtorEq,B2,B3,B4,B5,B6,B7,B8,B9,C0,C1,C2,C3,C4,C5,C6,C7,C8,C9,D0,A4,E2,D9,D6,BYs,Zg8,Ysh]
  | succ m ih =>
    intro i l h1 h2 h3
    have e0:((l.length:Int)-1-i).toNat=l.length-1-i:=by omega
    have e1:Zxh .u64 (Z16 .u64 (n:Int) 3) (8*(i:Int))=((8*n/2^(8*i):Nat):Int):=by
      rw [show (8*(i:Int))=((8*i:Nat):Int) by omega,Zyb (by simp [IntKind.bits];omega),show (3:Int)=((3:Nat):Int) from rfl,Yhc (by omega),Int.natCast_ediv,Int.natCast_pow]
      congr 1
      omega
    have e2:((8*n/2^(8*i):Nat):Int)%256=((8*n/2^(8*i)%256:Nat):Int):=by omega
    have e3:(((8*n/2^(8*i)%256:Nat):Int)).toNat=8*n/2^(8*i)%256:=by omega
    rw [G9 L.U1.x0.eq_1]
    simp -dsimp (disch:=first|omega|(simp only [A5]<;>omega)|fail) only [go_sem,reduceIte,reduceCtorEq,B2,B3,B4,B5,B6,B7,B8,B9,C0,C1,C2,C3,C4,C5,C6,C7,C8,C9,D0,A4,E2,D9,D6,BYs,Zg8,e0,e1,e2,e3]
    have:=ih (i+1) (l.set (l.length-1-i) (UInt8.ofNat (8*n/2^(8*i)%256))) (by omega) (by simpa using h2) (by simpa using h3)
    simp only [Ysn,Ysh,List.length_set] at this
    exact this
theorem Z3y (n z:Nat) (a:List UInt8):Zg8 n 8 0 (a++List.replicate 8 0)=a++be8 (8*n):=by
  have key:∀ (i:Nat) (x:UInt8) (t:List UInt8),t.length=8→i<8→(a++t).set ((a++t).length-1-i) x=a++t.set (7-i) x:=by
    intro i x t ht hi
    rw [Yqx,ht,List.set_append,if_neg (by omega)]
    congr 2
    omega
  simp only [Zg8]
  rw [key 0 _ _ (by simp) (by omega),key 1 _ _ (by simp) (by omega),key 2 _ _ (by simp) (by omega),key 3 _ _ (by simp) (by omega),key 4 _ _ (by simp) (by omega),key 5 _ _ (by simp) (by omega),key 6 _ _ (by simp) (by omega),key 7 _ _ (by simp) (by omega)]
  rfl
theorem Yic (m:Nat):rep [AV.int .u8 0] m=A1 (List.replicate m 0):=by
  induction m with
  | zero=>rfl
  | succ m ih=>rw [rep,ih];rfl
theorem go_pad {n:Nat} (h1:n≤1000000000000):S E F.U1 [.int .i64 n] []=some (.buf (.r 0) 0 0 (Zmh n).length 1,[(.r 0,⟨0,true,true,false,A1 (Zmh n)⟩)]):=by
  have hm3:(1+(119-(n:Int)%64)%64+8).toNat=(119-n%64)%64+9:=by omega
  have hlt:(119-n%64)%64<64:=by omega
  have hr:List.replicate ((119-n%64)%64+9) (0:UInt8)=0::(List.replicate ((119-n%64)%64) 0++List.replicate 8 0):=by
    rw [List.replicate_append_replicate];rfl
  have hn0:¬ (n:Int)<0:=by omega
  generalize hz:(119-n%64)%64=z at *
  have hl:=pad_l0 h1 [.c L.U1.r0] 8 0 (128::(List.replicate z 0++List.replicate 8 0)) (by omega) (by simp) (by simp;omega)
  have hp:Zg8 n 8 0 (128::(List.replicate z 0++List.replicate 8 0))=Zmh n:=by
    have:=Z3y n z (128::List.replicate z 0)
    rw [Yp9] at this
    rw [this,Zmh,hz];rfl
  rw [hp] at hl
  have hlen:(Zmh n).length=z+9:=by rw [Zmh,hz];simp [be8]
  simp only [Ysh] at hl
  rw [S_of Z28 rfl rfl]
  simp -dsimp (disch:=first|omega|(simp only [A5]<;>omega)|fail) only [L.U1,go_sem,reduceIte,reduceCtorEq,B2,B3,B4,B5,B6,B7,B8,B9,C0,C1,C2,C3,C4,C5,C6,C7,C8,C9,D0,A4,E2,D9,D6,BYs,hn0,hm3,Yic,hr,List.set_cons_zero,Int.toNat_zero,UInt8.reduceOfNat]
  have hb:(128::(List.replicate z 0++List.replicate 8 (0:UInt8))).length=z+9:=by simp
  rw [hb] at hl
  rw [hl]
  simp -dsimp (disch:=first|omega|(simp only [A5]<;>omega)|fail) only [L.U1.r0,go_sem,reduceIte,reduceCtorEq,B2,B3,B4,B5,B6,B7,B8,B9,C0,C1,C2,C3,C4,C5,C6,C7,C8,C9,D0,A4,E2,D9,D6,BYs,hlen]
theorem sum_l0 {p:List UInt8} (k:List It):∀ (m:Nat) (r:List UInt8) (n:Nat) (h:List (BitVec 32)),n=r.length→n/64=m→n≤1000000000000→h.length=8 →
    X E [.cell 2 (some 32)] (.c L.G5.x0::.lp [0,2,3,4] L.G5.x0::.blk 0::k) ⟨[(0,.lst (A1 p) p.length),(2,.ref (.s 1000000 0) 0 0),(3,.ref (.s 1000000 1) 0 0),(4,.lst (A1 r) n)],[(.s 1000000 0,⟨0,true,true,true,A1 (List.replicate 32 0)⟩),(.s 1000000 1,⟨0,true,true,true,F4 h⟩)]⟩ =
    X E [.cell 2 (some 32)] k ⟨[(0,.lst (A1 p) p.length),(2,.ref (.s 1000000 0) 0 0),(3,.ref (.s 1000000 1) 0 0),(4,.lst (A1 (r.drop (64*m))) (n-64*m)),(13,.bool false)],[(.s 1000000 0,⟨0,true,true,true,A1 (List.replicate 32 0)⟩),(.s 1000000 1,⟨0,true,true,true,F4 (X9 m h r)⟩)]⟩:=by
  intro m
  induction m with
  | zero =>
    intro r n h h1 h2 h3 h4
    rw [G9 L.G5.x0.eq_1]
    simp -dsimp (disch:=first|omega|(simp only [A5]<;>omega)|fail) only [go_sem,reduceIte,reduceCtorEq,B2,B3,B4,B5,B6,B7,B8,B9,C0,C1,C2,C3,C4,C5,C6,C7,C8,C9,D0,A4,E2,D9,D6,BYs,WDs,X9,Yrp,Yq7,Nat.mul_zero]
  | succ m ih =>
    intro r n h h1 h2 h3 h4
    have hb:(r.take 64).length=64:=by rw [Yqd];omega
    have hbl:=Zce h (r.take 64)
    rw [G9 L.G5.x0.eq_1]
    simp -dsimp (disch:=first|omega|(simp only [A5]<;>omega)|fail) only [go_sem,reduceIte,reduceCtorEq,B2,B3,B4,B5,B6,B7,B8,B9,C0,C1,C2,C3,C4,C5,C6,C7,C8,C9,D0,A4,E2,D9,D6,BYs,WDs,X9,Zy7 h4 hb]
    have:=ih (r.drop 64) (n-64) (Zla h (r.take 64)) (by simp [h1]) (by omega) (by omega) (Zce _ _)
    rw [Yq4,show 64+64*m=64*(m+1) by omega,show n-64-64*m=n-64*(m+1) by omega] at this
    exact this
theorem sum_l1 {full:List UInt8} (hf:full.length≤1000000000100) (k:List It):∀ (m off n:Nat) (h:List (BitVec 32)),off+n=full.length→n/64=m→h.length=8 →
    X E [.cell 2 (some 32)] (.c L.G5.x1::.lp [2,3,4] L.G5.x1::.blk 2::k) ⟨[(2,.ref (.s 1000000 0) 0 0),(3,.ref (.s 1000000 1) 0 0),(4,.buf (.s 1000000 2) 0 off n 1)],[(.s 1000000 0,⟨0,true,true,true,A1 (List.replicate 32 0)⟩),(.s 1000000 1,⟨0,true,true,true,F4 h⟩),(.s 1000000 2,⟨0,true,true,false,A1 full⟩)]⟩ =
    X E [.cell 2 (some 32)] k ⟨[(2,.ref (.s 1000000 0) 0 0),(3,.ref (.s 1000000 1) 0 0),(4,.buf (.s 1000000 2) 0 (off+64*m) (n-64*m) 1),(29,.bool false)],[(.s 1000000 0,⟨0,true,true,true,A1 (List.replicate 32 0)⟩),(.s 1000000 1,⟨0,true,true,true,F4 (X9 m h (full.drop off))⟩),(.s 1000000 2,⟨0,true,true,false,A1 full⟩)]⟩:=by
  intro m
  induction m with
  | zero =>
    intro off n h h1 h2 h4
    rw [G9 L.G5.x1.eq_1]
    simp -dsimp (disch:=first|omega|(simp only [A5]<;>omega)|fail) only [go_sem,reduceIte,reduceCtorEq,B2,B3,B4,B5,B6,B7,B8,B9,C0,C1,C2,C3,C4,C5,C6,C7,C8,C9,D0,A4,E2,D9,D6,BYs,WDs,X9,Yrp,Yq7,Nat.mul_zero]
  | succ m ih =>
    intro off n h h1 h2 h4
    have hb:((full.drop off).take 64).length=64:=by rw [Yqd,Yqe];omega
    have hbl:=Zce h ((full.drop off).take 64)
    have hs:sub full off 64=(full.drop off).take 64:=rfl
    rw [G9 L.G5.x1.eq_1]
    simp -dsimp (disch:=first|omega|(simp only [A5]<;>omega)|fail) only [go_sem,reduceIte,reduceCtorEq,B2,B3,B4,B5,B6,B7,B8,B9,C0,C1,C2,C3,C4,C5,C6,C7,C8,C9,D0,A4,E2,D9,D6,BYs,WDs,X9,hs,Zy7 h4 hb]
    have:=ih (off+64) (n-64) (Zla h ((full.drop off).take 64)) (by omega) (by omega) (Zce _ _)
    rw [show off+64+64*m=off+64*(m+1) by omega,show n-64-64*m=n-64*(m+1) by omega,←Yq4] at this
    exact this
def Zg9 (x:BitVec 32) (i:Nat):Nat→Nat→List UInt8→List UInt8
  | 0,_,l=>l
  | m+1,j,l=>Zg9 x i m (j+1) (l.set (4*i+j) (wb (x >>> (24-8*j))))
def Zp6 (h:List (BitVec 32)):Nat→Nat→List UInt8→List UInt8
  | 0,_,l=>l
  | m+1,i,l=>Zp6 h m (i+1) (Zg9 (h.getD i 0) i 4 0 l)
theorem Zuw (x:BitVec 32) (i:Nat):∀ m j l,(Zg9 x i m j l).length=l.length:=by
  intro m
  induction m with
  | zero=>intro j l;rfl
  | succ m ih=>intro j l;simp [Zg9,ih]
theorem sum_l3 {h:List (BitVec 32)} {x:BitVec 32} {i:Nat} (hi:i<8) (k:List It):∀ (m j:Nat) (l:List UInt8),j+m=4→l.length=32 →
    X E [.cell 2 (some 32)] (.c L.G5.x3::.lp [2,5,6,7,37,38,42] L.G5.x3::.blk 6::k) ⟨[(2,.ref (.s 1000000 0) 0 0),(5,.ref (.s 1000000 1) 0 0),(6,.int .i64 i),(7,W x),(37,.agg (F4 h)),(38,.int .i64 i),(42,.int .i64 j)],[(.s 1000000 0,⟨0,true,true,true,A1 (List.replicate 32 0)⟩),(.s 1000000 1,⟨0,true,true,true,A1 l⟩)]⟩ =
    X E [.cell 2 (some 32)] k ⟨[(2,.ref (.s 1000000 0) 0 0),(5,.ref (.s 1000000 1) 0 0),(6,.int .i64 i),(7,W x),(37,.agg (F4 h)),(38,.int .i64 i),(42,.int .i64 4),(43,.bool false)],[(.s 1000000 0,⟨0,true,true,true,A1 (List.replicate 32 0)⟩),(.s 1000000 1,⟨0,true,true,true,A1 (Zg9 x i m j l)⟩)]⟩:=by
  intro m
  induction m with
  | zero =>
    intro j l h1 h2
    obtain rfl:j=4:=by omega
    rw [G9 L.G5.x3.eq_1]
    simp -dsimp (disch:=first|omega|(simp only [A5]<;>omega)|fail) only [go_sem,reduceIte,reduceCtorEq,B2,B3,B4,B5,B6,B7,B8,B9,C0,C1,C2,C3,C4,C5,C6,C7,C8,C9,D0,A4,E2,D9,D6,BYs,WDs,Zg9,Ysh]
  | succ m ih =>
    intro j l h1 h2
    have e0:(4*(i:Int)+j).toNat=4*i+j:=by omega
    have e1:(24-8*(j:Int)).toNat=24-8*j:=by omega
    have hw:=(wb (x >>> (24-8*j))).toNat_lt
    have e2:UInt8.ofNat (wb (x >>> (24-8*j))).toNat=wb (x >>> (24-8*j)):=UInt8.ofNat_toNat
    rw [G9 L.G5.x3.eq_1]
    simp -dsimp (disch:=first|omega|(simp only [A5]<;>omega)|fail) only [go_sem,reduceIte,reduceCtorEq,B2,B3,B4,B5,B6,B7,B8,B9,C0,C1,C2,C3,C4,C5,C6,C7,C8,C9,D0,A4,E2,D9,D6,BYs,WDs,Zg9,e0,e1,e2]
    have:=ih (j+1) (l.set (4*i+j) (wb (x >>> (24-8*j)))) (by omega) (by simpa using h2)
    simp only [Ysn,Ysh] at this
    exact this
theorem sum_l2 {h:List (BitVec 32)} (hh:h.length=8) (k:List It):∀ (m i:Nat) (l:List UInt8),i+m=8→l.length=32 →
    X E [.cell 2 (some 32)] (.c L.G5.x2::.lp [2,5,37,38] L.G5.x2::.blk 4::k) ⟨[(2,.ref (.s 1000000 0) 0 0),(5,.ref (.s 1000000 1) 0 0),(37,.agg (F4 h)),(38,.int .i64 i)],[(.s 1000000 0,⟨0,true,true,true,A1 (List.replicate 32 0)⟩),(.s 1000000 1,⟨0,true,true,true,A1 l⟩)]⟩ =
    X E [.cell 2 (some 32)] k ⟨[(2,.ref (.s 1000000 0) 0 0),(5,.ref (.s 1000000 1) 0 0),(37,.agg (F4 h)),(38,.int .i64 8),(39,.bool false)],[(.s 1000000 0,⟨0,true,true,true,A1 (List.replicate 32 0)⟩),(.s 1000000 1,⟨0,true,true,true,A1 (Zp6 h m i l)⟩)]⟩:=by
  intro m
  induction m with
  | zero =>
    intro i l h1 h2
    obtain rfl:i=8:=by omega
    rw [G9 L.G5.x2.eq_1]
    simp -dsimp (disch:=first|omega|(simp only [A5]<;>omega)|fail) only [go_sem,reduceIte,reduceCtorEq,B2,B3,B4,B5,B6,B7,B8,B9,C0,C1,C2,C3,C4,C5,C6,C7,C8,C9,D0,A4,E2,D9,D6,BYs,WDs,Zp6,Ysh]
  | succ m ih =>
    intro i l h1 h2
    rw [G9 L.G5.x2.eq_1]
    simp -dsimp (disch:=first|omega|(simp only [A5]<;>omega)|fail) only [go_sem,reduceIte,reduceCtorEq,B2,B3,B4,B5,B6,B7,B8,B9,C0,C1,C2,C3,C4,C5,C6,C7,C8,C9,D0,A4,E2,D9,D6,BYs,WDs,Zp6]
    have h3:=sum_l3 (h:=h) (x:=h.getD i 0) (i:=i) (by omega) (.blk 5::.c L.G5.r2::.lp [2,5,37,38] L.G5.x2::.blk 4::k) 4 0 l (by omega) h2
    simp only [Ysh] at h3
    rw [h3]
    simp -dsimp (disch:=first|omega|(simp only [A5]<;>omega)|fail) only [L.G5.r2,go_sem,reduceIte,reduceCtorEq,B2,B3,B4,B5,B6,B7,B8,B9,C0,C1,C2,C3,C4,C5,C6,C7,C8,C9,D0,A4,E2,D9,D6,BYs,WDs]
    have:=ih (i+1) (Zg9 (h.getD i 0) i 4 0 l) (by omega) (by rw [Zuw];exact h2)
    simp only [Ysn,Ysh] at this
    exact this
theorem Yid {h:List (BitVec 32)} (hh:h.length=8):Zp6 h 8 0 (List.replicate 32 0)=Zy8 h:=by
  match h,hh with
  | [a,b,c,d,e,f,g,i],_ =>
    show Zp6 [a,b,c,d,e,f,g,i] 8 0 (List.replicate 32 0)=Zy8 [a,b,c,d,e,f,g,i]
    kernel_rfl
theorem Yoj {sl loc:List (Nat × AV)}:Zb1 (evR E sl loc) [(0,1,.k (.int .u32 1779033703)),(1,1,.k (.int .u32 3144134277)),(2,1,.k (.int .u32 1013904242)),(3,1,.k (.int .u32 2773480762)),(4,1,.k (.int .u32 1359893119)),(5,1,.k (.int .u32 2600822924)),(6,1,.k (.int .u32 528734635)),(7,1,.k (.int .u32 1541459225))] (some (F4 (List.replicate 8 0)))=some (F4 h0w):=by kernel_rfl
theorem Yie {p:List UInt8} (hp:p.length≤1000000000000):S E F.G5 [.lst (A1 p) p.length] []=some (.agg (A1 (Zmi p)),[]):=by
  have hh0:h0w.length=8:=rfl
  have hbl:=Zj7 (p.length/64) h0w p hh0
  have hpl:(Zmh p.length).length≤100:=by rw [Zmh];simp [be8];omega
  rw [S_of Z27 rfl rfl]
  simp -dsimp (disch:=first|omega|(simp only [A5]<;>omega)|fail) only [↓Yoj,L.G5,go_sem,reduceIte,reduceCtorEq,B2,B3,B4,B5,B6,B7,B8,B9,C0,C1,C2,C3,C4,C5,C6,C7,C8,C9,D0,A4,E2,D9,D6,WDs,BYs]
  rw [sum_l0 (p:=p) [.c L.G5.r0] (p.length/64) p p.length h0w rfl rfl hp hh0]
  simp -dsimp (disch:=first|omega|(simp only [A5]<;>omega)|fail) only [L.G5.r0,go_sem,reduceIte,reduceCtorEq,B2,B3,B4,B5,B6,B7,B8,B9,C0,C1,C2,C3,C4,C5,C6,C7,C8,C9,D0,A4,E2,D9,D6,WDs,BYs,Yns,go_pad hp]
  generalize hfull:p.drop (64*(p.length/64))++Zmh p.length=full
  have hfl:full.length=p.length-64*(p.length/64)+(Zmh p.length).length:=by rw [←hfull];simp
  have:=sum_l1 (full:=full) (by omega) [.c L.G5.r1] (full.length/64) 0 full.length (X9 (p.length/64) h0w p) (by omega) rfl hbl
  simp only [Nat.zero_add,Yrp] at this
  rw [←hfl,this]
  clear this
  have hbl2:=Zj7 (full.length/64) (X9 (p.length/64) h0w p) full hbl
  simp -dsimp (disch:=first|omega|(simp only [A5]<;>omega)|fail) only [L.G5.r1,go_sem,reduceIte,reduceCtorEq,B2,B3,B4,B5,B6,B7,B8,B9,C0,C1,C2,C3,C4,C5,C6,C7,C8,C9,D0,A4,E2,D9,D6,WDs,BYs]
  have:=sum_l2 hbl2 [.c L.G5.r3] 8 0 (List.replicate 32 0) (by omega) (by simp)
  simp only [Ysh] at this
  rw [this,Yid hbl2]
  clear this
  have hid:(Zy8 (X9 (full.length/64) (X9 (p.length/64) h0w p) full)).length=32:=by simp [Zy8]
  have hsha:Zmi p=Zy8 (X9 (full.length/64) (X9 (p.length/64) h0w p) full):=by
    rw [Zmi,show p.length/64*64=64*(p.length/64) by omega,hfull]
  rw [hsha]
  simp -dsimp (disch:=first|omega|(simp only [A5]<;>omega)|fail) only [L.G5.r3,go_sem,reduceIte,reduceCtorEq,B2,B3,B4,B5,B6,B7,B8,B9,C0,C1,C2,C3,C4,C5,C6,C7,C8,C9,D0,A4,E2,D9,D6,WDs,BYs]
end Cod
namespace Cod
open Go
def Zl6 (k:Int):List UInt8:=if k=1 then [99,111,109,109,105,116] else if k=2 then [116,114,101,101] else if k=3 then [98,108,111,98] else if k=4 then [116,97,103] else []
theorem Zp7 (k:Int):(Zl6 k).length≤6:=by unfold Zl6;split<;>(try split)<;>(try split)<;>(try split)<;>simp
theorem Zj8 {k:Int}:S E F.L7 [.int .i64 k] []=some (.str (Zl6 k),[]):=by
  rw [S_of Zsq rfl rfl]
  unfold Zl6
  by_cases a:k=1
  · simp -dsimp (disch:=first|omega|(simp only [A5,A3]<;>omega)|fail) only [L.L7,go_sem,reduceIte,reduceCtorEq,B2,B3,B4,B5,B6,B7,B8,B9,C0,C1,C2,C3,C4,C5,C6,C7,C8,C9,D0,A4,a]
  · by_cases b:k=2
    · simp -dsimp (disch:=first|omega|(simp only [A5,A3]<;>omega)|fail) only [L.L7,go_sem,reduceIte,reduceCtorEq,B2,B3,B4,B5,B6,B7,B8,B9,C0,C1,C2,C3,C4,C5,C6,C7,C8,C9,D0,A4,a,b]
    · by_cases c:k=3
      · simp -dsimp (disch:=first|omega|(simp only [A5,A3]<;>omega)|fail) only [L.L7,go_sem,reduceIte,reduceCtorEq,B2,B3,B4,B5,B6,B7,B8,B9,C0,C1,C2,C3,C4,C5,C6,C7,C8,C9,D0,A4,a,b,c]
      · by_cases d:k=4
        · simp -dsimp (disch:=first|omega|(simp only [A5,A3]<;>omega)|fail) only [L.L7,go_sem,reduceIte,reduceCtorEq,B2,B3,B4,B5,B6,B7,B8,B9,C0,C1,C2,C3,C4,C5,C6,C7,C8,C9,D0,A4,a,b,c,d]
        · simp -dsimp (disch:=first|omega|(simp only [A5,A3]<;>omega)|fail) only [L.L7,go_sem,reduceIte,reduceCtorEq,B2,B3,B4,B5,B6,B7,B8,B9,C0,C1,C2,C3,C4,C5,C6,C7,C8,C9,D0,A4,a,b,c,d]
theorem Zy9 {b:Bool} {e:Int}:S E F.L9 [.bool b,.int .i64 e] []=some (.int .i64 (if b then e else 0),[]):=by
  rw [S_of Zx0 rfl rfl]
  cases b<;>simp -dsimp (disch:=first|omega|(simp only [A5,A3]<;>omega)|fail) only [L.L9,go_sem,reduceIte,reduceCtorEq,B2,B3,B4,B5,B6,B7,B8,B9,C0,C1,C2,C3,C4,C5,C6,C7,C8,C9,D0,A4]
theorem Yay {l:List Int} (hl:l.length≤1000000):∀ (m i:Nat) (w:Int),i+m=l.length →
    X E [.tmp 2] (.c L.H6.x0::.lp [3,6,7,8] L.H6.x0::.blk 0::[.c L.H6.r0]) ⟨[(3,.int .i64 w),(6,.lst (N8 l) l.length),(7,.int .i64 l.length),(8,.int .i64 i)],[]⟩=some (.int .i64 ((l.drop i).foldl Zgh w),[]):=by
  intro m
  induction m with
  | zero =>
    intro i w h
    obtain rfl:i=l.length:=by omega
    rw [G9 L.H6.x0.eq_1,Yst]
    simp -dsimp (disch:=first|omega|(simp only [A5,A3]<;>omega)|fail) only [go_sem,reduceIte,reduceCtorEq,B2,B3,B4,B5,B6,B7,B8,B9,C0,C1,C2,C3,C4,C5,C6,C7,C8,C9,D0,A4,L.H6.r0,P8,N2,U4]
    rfl
  | succ m ih =>
    intro i w h
    have hlt:i<l.length:=by omega
    have h1:=ih (i+1) (Zgh w (l.getD i 0)) (by omega)
    simp only [Ysn,Ysh] at h1
    have hg:=Zy2 hlt
    rw [G9 L.H6.x0.eq_1,Yr9 hlt,Yqk,show l[i]=l.getD i 0 by simp [List.getD,hlt]]
    generalize l.getD i 0=e at *
    unfold Zgh at h1 ⊢
    by_cases e0:e=0
    · subst e0
      rw [if_neg (by simp)] at h1 ⊢
      simp -dsimp (disch:=first|omega|(simp only [A5,A3]<;>omega)|fail) only [go_sem,reduceIte,reduceCtorEq,B2,B3,B4,B5,B6,B7,B8,B9,C0,C1,C2,C3,C4,C5,C6,C7,C8,C9,D0,A4,P8,N2,U4,hg,h1]
    · by_cases w0:w=0
      · subst w0
        rw [if_pos (by simp [e0])] at h1 ⊢
        simp -dsimp (disch:=first|omega|(simp only [A5,A3]<;>omega)|fail) only [go_sem,reduceIte,reduceCtorEq,B2,B3,B4,B5,B6,B7,B8,B9,C0,C1,C2,C3,C4,C5,C6,C7,C8,C9,D0,A4,P8,N2,U4,hg,h1,e0]
      · by_cases lt:e<w
        · rw [if_pos (by simp [e0,lt])] at h1 ⊢
          simp -dsimp (disch:=first|omega|(simp only [A5,A3]<;>omega)|fail) only [go_sem,reduceIte,reduceCtorEq,B2,B3,B4,B5,B6,B7,B8,B9,C0,C1,C2,C3,C4,C5,C6,C7,C8,C9,D0,A4,P8,N2,U4,hg,h1,e0,w0,lt]
        · rw [if_neg (by simp [e0,lt,w0])] at h1 ⊢
          simp -dsimp (disch:=first|omega|(simp only [A5,A3]<;>omega)|fail) only [go_sem,reduceIte,reduceCtorEq,B2,B3,B4,B5,B6,B7,B8,B9,C0,C1,C2,C3,C4,C5,C6,C7,C8,C9,D0,A4,P8,N2,U4,hg,h1,e0,w0,lt]
theorem Zlb {l:List Int} (hl:l.length≤1000000):S E F.H6 [.lst (N8 l) l.length] []=some (.int .i64 (Zbc l),[]):=by
  have h:=Yay hl l.length 0 0 (by omega)
  simp only [Ysh,Yrp] at h
  rw [S_of Zs7 rfl rfl]
  simp -dsimp (disch:=first|omega|(simp only [A5,A3]<;>omega)|fail) only [L.H6,go_sem,reduceIte,reduceCtorEq,B2,B3,B4,B5,B6,B7,B8,B9,C0,C1,C2,C3,C4,C5,C6,C7,C8,C9,D0,A4,P8,N2,U4,h]
  rfl
theorem Zlc {a b:Int}:S E F.F7 [.lst [.int .i64 a,.int .i64 b] 2] []=some (.int .i64 (Zbc [a,b]),[]):=Zj5 (l:=[a,b]) (by simp)
theorem Z3z {a b:Int}:S E F.H6 [.lst [.int .i64 a,.int .i64 b] 2] []=some (.int .i64 (Zbc [a,b]),[]):=Zlb (l:=[a,b]) (by simp)
def Zux (k n:Int):List UInt8:=Zl6 k++[32]++Lib.itoa n++[0]
def Zn8 (n:Int):Int:=if (decide (n<0)||decide (1048576<n))=true then 1 else 0
def Zj9 (k:Int):Int:=if (Zl6 k == [])=true then 9 else 0
def Z30 (k n:Int):Int:=Zbc [Zn8 n,Zj9 k]
def hdrV (k n:Int):AV:=if Z30 k n=0 then .tup [.str (Zux k n),.int .i64 0] else .tup [.str [],.int .i64 (Z30 k n)]
theorem Yif {k n:Int} (h1 : -9223372036854775808≤n) (h2:n≤9223372036854775807):(Zux k n).length≤40:=by
  have:=Lib.itoa_length_le n h1 h2
  have:=Zp7 k
  unfold Zux
  simp only [Yqx,Yqm,Yrj]
  omega
theorem Yaz {k n:Int} (h1 : -9223372036854775808≤n) (h2:n≤9223372036854775807):S E F.O5 [.int .i64 k,.int .i64 n] []=some (hdrV k n,[]):=by
  have hi:=Zn2 (n:=n) ⟨h1,h2⟩
  have hl:=Lib.itoa_length_le n h1 h2
  have hw:=Zp7 k
  rw [S_of Zse rfl rfl]
  unfold hdrV
  have w2:S E F.E8 [.bool (Zl6 k == []),.int .i64 9] []=some (.int .i64 (Zj9 k),[]):=X3
  have hd:S E F.F7 [.lst [.int .i64 (Zn8 n),.int .i64 (Zj9 k)] 2] []=some (.int .i64 (Z30 k n),[]):=Zlc
  by_cases a:n<0
  · have w1:S E F.E8 [.bool true,.int .i64 1] []=some (.int .i64 (Zn8 n),[]):=by
      rw [X3,Zn8,decide_eq_true a,Bool.true_or]
    by_cases e:Z30 k n=0
    · simp -dsimp (disch:=first|omega|(simp only [A5,A3]<;>omega)|fail) only [L.O5,go_sem,reduceIte,reduceCtorEq,B2,B3,B4,B5,B6,B7,B8,B9,C0,C1,C2,C3,C4,C5,C6,C7,C8,C9,D0,A4,Zj8,a,w1,w2,hd,e,hi]
      rfl
    · simp -dsimp (disch:=first|omega|(simp only [A5,A3]<;>omega)|fail) only [L.O5,go_sem,reduceIte,reduceCtorEq,B2,B3,B4,B5,B6,B7,B8,B9,C0,C1,C2,C3,C4,C5,C6,C7,C8,C9,D0,A4,Zj8,a,w1,w2,hd,e,hi]
  · have w1:S E F.E8 [.bool (decide (1048576<n)),.int .i64 1] []=some (.int .i64 (Zn8 n),[]):=by
      rw [X3,Zn8,decide_eq_false a,Ysj]
    by_cases e:Z30 k n=0
    · simp -dsimp (disch:=first|omega|(simp only [A5,A3]<;>omega)|fail) only [L.O5,go_sem,reduceIte,reduceCtorEq,B2,B3,B4,B5,B6,B7,B8,B9,C0,C1,C2,C3,C4,C5,C6,C7,C8,C9,D0,A4,Zj8,a,w1,w2,hd,e,hi]
      rfl
    · simp -dsimp (disch:=first|omega|(simp only [A5,A3]<;>omega)|fail) only [L.O5,go_sem,reduceIte,reduceCtorEq,B2,B3,B4,B5,B6,B7,B8,B9,C0,C1,C2,C3,C4,C5,C6,C7,C8,C9,D0,A4,Zj8,a,w1,w2,hd,e,hi]
def Zox (k:Int) (n:Nat):Int:=Zbc [if (decide (1048576<n))=true then 2 else 0,Zj9 k]
def Z6f (n:Nat):Int:=if (decide (1048576<(n:Int)))=true then 2 else 0
theorem Yok (k:Int) (n:Nat):Zox k n=Zbc [Z6f n,Zj9 k]:=by
  unfold Zox Z6f
  rw [show decide (1048576<(n:Int))=decide (1048576<n) from decide_eq_decide.2 (by omega)]
theorem Yig {k:Int} {p:List UInt8} {n:Nat} (hn:n=p.length) (hp:p.length≤1000000000000):S E F.V2 [.agg [.int .i64 k,.lst (A1 p) n]] []=some (.int .i64 (Zox k p.length),[]):=by
  subst hn
  have w1:S E F.E8 [.bool (decide (1048576<(p.length:Int))),.int .i64 2] []=some (.int .i64 (Z6f p.length),[]):=X3
  have w2:S E F.E8 [.bool (Zl6 k == []),.int .i64 9] []=some (.int .i64 (Zj9 k),[]):=X3
  have hd:S E F.F7 [.lst [.int .i64 (Z6f p.length),.int .i64 (Zj9 k)] 2] []=some (.int .i64 (Zox k p.length),[]):=by rw [Yok];exact Zlc
  rw [S_of Zsx rfl rfl]
  simp -dsimp (disch:=first|omega|(simp only [A5,A3]<;>omega)|fail) only [L.V2,go_sem,reduceIte,reduceCtorEq,B2,B3,B4,B5,B6,B7,B8,B9,C0,C1,C2,C3,C4,C5,C6,C7,C8,C9,D0,A4,BYs,Zj8,w1,w2,hd]
end Cod
namespace Cod
open Go
theorem Ya0 (n:Nat):rep [.int .u8 0] n=A1 (List.replicate n 0):=by
  induction n with
  | zero=>rfl
  | succ n ih=>rw [rep,ih,List.replicate_succ];rfl
theorem Zn9 {t:Site} {sz bytes m:Nat} {vs:List AV} {u:Ups} {ss:List Site}:Zit t sz bytes m vs u ss .nils=if m*bytes≤140737488355328 then Zdf t vs m sz u else .fail:=rfl
theorem Zoa {t:Site} {sz bytes:Nat} {zero:List AV} {s:AV} {m:Int}:Zo0 t sz bytes zero s (.int .i64 m)=if 0≤m∧m≤140737488355328 then Zit t sz bytes m.toNat (rep zero m.toNat) [] [] s else .fail:=rfl
theorem Yih {n:Nat} (h0:0<n) (hn:n≤4000000):S E F.V6 [.nils,.int .i64 n] [] =
    some (.buf (.r 0) 0 0 0 1,[(.r 0,⟨0,true,true,false,A1 (List.replicate n 0)⟩)]):=by
  rw [S_of Ztl rfl rfl]
  simp -dsimp (disch:=first|omega|(simp only [A5,A3]<;>omega)|fail) only [L.V6,go_sem,reduceIte,reduceCtorEq,B2,B3,B4,B5,B6,B7,B8,B9,C0,C1,C2,C3,C4,C5,C6,C7,C8,C9,D0,A4,BYs,Int.sub_zero,Ya0,Zn9,Zoa]
theorem Yol (l:List UInt8):sub l 0 0=[]:=by simp [sub]
theorem Ya1 {l:List UInt8} {n:Nat} (h:n=l.length):sub l 0 n=l:=by simp [sub,h]
theorem Z31 {a b:List UInt8} (h0:0<a.length) (ha:a.length≤1000000) (hb:b.length≤2000000) :
    S E F.I0 [.lst [.lst (A1 a) a.length,.lst (A1 b) b.length] 2] [] =
    some (.buf (.r 0) 0 0 (a++b).length 1,[(.r 0,⟨0,true,true,false,A1 (a++b)⟩)]):=by
  have hg:=Yih (n:=a.length+b.length) (by omega) (by omega)
  have e1:(0+(a.length:Int)+b.length)=((a.length+b.length:Nat):Int):=by omega
  rw [S_of Zsy rfl rfl]
  simp -dsimp (disch:=first|omega|(simp only [A5,A3]<;>omega)|fail) only [L.I0,L.I0.x0,go_sem,reduceIte,reduceCtorEq,B2,B3,B4,B5,B6,B7,B8,B9,C0,C1,C2,C3,C4,C5,C6,C7,C8,C9,D0,A4,BYs]
  rw [e1]
  simp -dsimp (disch:=first|omega|(simp only [A5,A3]<;>omega)|fail) only [L.I0.r0,L.I0.x1,L.I0.r1,go_sem,reduceIte,reduceCtorEq,B2,B3,B4,B5,B6,B7,B8,B9,C0,C1,C2,C3,C4,C5,C6,C7,C8,C9,D0,A4,BYs,hg,Zn9,Zoa,Yol,Nat.zero_mul,Nat.zero_add,Ya1,Yry]
  rw [Yqx]
def idF (k:Int) (p:List UInt8):List UInt8:=if Zox k p.length=0 then Zmi (Zux k p.length++p) else List.replicate 32 0
def idV (k:Int) (p:List UInt8):AV:=.tup [.agg (A1 (idF k p)),.int .i64 (Zox k p.length)]
theorem Z32 {k:Int} {n:Nat} (h:Zox k n=0):Z30 k n=0∧n≤1048576:=by
  unfold Zox Z30 Zn8 at *
  unfold Zbc at *
  simp only [Yqk,Ysu,Zgh] at *
  have:n≤1048576:=by
    by_cases h1:1048576<n
    · exfalso
      rw [decide_eq_true h1] at h
      generalize Zj9 k=w at h
      simp only [if_true] at h
      by_cases a:w=0<;>by_cases b:w<2<;>simp [a,b] at h
    · omega
  refine ⟨?_,this⟩
  rw [decide_eq_false (by omega:¬ 1048576<n)] at h
  rw [decide_eq_false (by omega:¬ (n:Int)<0),decide_eq_false (by omega:¬ 1048576<(n:Int))]
  generalize Zj9 k=w at h
  simpa using h
theorem Yii (k n:Int):0<(Zux k n).length:=by unfold Zux;simp only [Yqx,Yqm,Yrj];omega
theorem go_oid {k:Int} {p:List UInt8} {n:Nat} (hn:n=p.length) (hp:p.length≤1000000000000):S E F.Y2 [.agg [.int .i64 k,.lst (A1 p) n]] []=some (idV k p,[]):=by
  subst hn
  have h1:=Yig (k:=k) (p:=p) rfl hp
  have h2:=Yaz (k:=k) (n:=p.length) (by omega) (by omega)
  rw [S_of Zsf rfl rfl]
  unfold idV idF
  by_cases e:Zox k p.length=0
  · obtain ⟨e1,e2⟩:=Z32 e
    unfold hdrV at h2
    rw [if_pos e1] at h2
    have hl:=Yif (k:=k) (n:=p.length) (by omega) (by omega)
    have h0:=Yii k p.length
    generalize Zux k p.length=t at *
    have h3:=Z31 (a:=t) (b:=p) h0 (by omega) (by omega)
    have h4:=Yie (p:=t++p) (by rw [Yqx];omega)
    have hs:(Zmi (t++p)).length=32:=by unfold Zmi;simp [Zy8]
    simp -dsimp (disch:=first|omega|(simp only [A5,A3]<;>omega)|fail) only [L.Y2,go_sem,reduceIte,reduceCtorEq,B2,B3,B4,B5,B6,B7,B8,B9,C0,C1,C2,C3,C4,C5,C6,C7,C8,C9,D0,A4,BYs,h1,e,h2,h3,h4]
  · simp -dsimp (disch:=first|omega|(simp only [A5,A3]<;>omega)|fail) only [L.Y2,go_sem,reduceIte,reduceCtorEq,B2,B3,B4,B5,B6,B7,B8,B9,C0,C1,C2,C3,C4,C5,C6,C7,C8,C9,D0,A4,BYs,h1,e,List.length_replicate]
end Cod
namespace Cod
open Go
theorem Zp8 (s:List UInt8) (i:Nat):S E F.P2 [.int .u8 (bat s i)] []=some (.int .u8 ((Zgc (s.getD i 0)).toNat:Int),[]):=by
  have h:=R4 s i
  have hb:bat s i=((s.getD i 0).toNat:Int):=rfl
  rw [S_of Zt2 rfl rfl]
  unfold Zgc
  by_cases h1:65≤bat s i
  · by_cases h2:bat s i≤90
    · have h3:65≤s.getD i 0∧s.getD i 0≤90:=by
        rw [UInt8.le_iff_toNat_le,UInt8.le_iff_toNat_le]
        simp only [UInt8.reduceToNat]
        omega
      rw [if_pos h3]
      have h4:(bat s i+32)%256=((s.getD i 0+32).toNat:Int):=by
        rw [UInt8.toNat_add]
        simp only [UInt8.reduceToNat]
        omega
      simp -dsimp (disch:=first|omega|(simp only [A5]<;>omega)|fail) only [L.P2,go_sem,reduceIte,reduceCtorEq,B2,B3,B4,B5,B6,B7,B8,B9,C0,C1,C2,C3,C4,C5,C6,C7,C8,C9,D0,A4,h4]
    · have h3:¬ (65≤s.getD i 0∧s.getD i 0≤90):=by
        rw [UInt8.le_iff_toNat_le,UInt8.le_iff_toNat_le]
        simp only [UInt8.reduceToNat]
        omega
      rw [if_neg h3,←hb]
      simp -dsimp (disch:=first|omega|(simp only [A5]<;>omega)|fail) only [L.P2,go_sem,reduceIte,reduceCtorEq,B2,B3,B4,B5,B6,B7,B8,B9,C0,C1,C2,C3,C4,C5,C6,C7,C8,C9,D0,A4]
  · have h3:¬ (65≤s.getD i 0∧s.getD i 0≤90):=by
      rw [UInt8.le_iff_toNat_le,UInt8.le_iff_toNat_le]
      simp only [UInt8.reduceToNat]
      omega
    rw [if_neg h3,←hb]
    simp -dsimp (disch:=first|omega|(simp only [A5]<;>omega)|fail) only [L.P2,go_sem,reduceIte,reduceCtorEq,B2,B3,B4,B5,B6,B7,B8,B9,C0,C1,C2,C3,C4,C5,C6,C7,C8,C9,D0,A4]
theorem Z6g {s:List UInt8}:S E F.Za1 [.str s] []=some (.bool (Zgd s),[]):=by
  rw [S_of Ztq rfl rfl]
  by_cases hl:s.length=4
  · have hg:Zgd s=(s.getD 0 0==46&&Zgc (s.getD 1 0)==103&&Zgc (s.getD 2 0)==105&&Zgc (s.getD 3 0)==116):=by
      match s,hl with
      | [a,b,c,d],_=>rfl
    rw [hg]
    have b1:byt 46=46:=rfl
    have b2:byt 103=103:=rfl
    have b3:byt 105=105:=rfl
    have b4:byt 116=116:=rfl
    simp -dsimp (disch:=first|omega|(simp only [A5]<;>omega)|fail) only [L.Za1,go_sem,reduceIte,reduceCtorEq,B2,B3,B4,B5,B6,B7,B8,B9,C0,C1,C2,C3,C4,C5,C6,C7,C8,C9,D0,A4,Zp8,Zmq,Z3h,b1,b2,b3,b4]
    repeat' (refine Zw3 (fun h=>?_) (fun h=>?_)<;>(try simp -dsimp (disch:=first|omega|(simp only [A5]<;>omega)|fail) only [go_sem,reduceIte,reduceCtorEq,B2,B3,B4,B5,B6,B7,B8,B9,C0,C1,C2,C3,C4,C5,C6,C7,C8,C9,D0,A4,Zp8,Zmq,Z3h,b1,b2,b3,b4,h]))
  · have hg:Zgd s=false:=by
      match s,hl with
      | [],_=>rfl
      | [_],_=>rfl
      | [_,_],_=>rfl
      | [_,_,_],_=>rfl
      | [_,_,_,_],h=>exact absurd rfl h
      | _::_::_::_::_::_,_=>rfl
    rw [hg]
    simp -dsimp (disch:=first|omega|(simp only [A5]<;>omega)|fail) only [L.Za1,go_sem,reduceIte,reduceCtorEq,B2,B3,B4,B5,B6,B7,B8,B9,C0,C1,C2,C3,C4,C5,C6,C7,C8,C9,D0,A4]
theorem has_l0 {s:List UInt8} (hs:s.length≤1000000000000) {c:Int} (h0:0≤c) (h1:c<256) (k:List It):∀ (m i:Nat),i+m=s.length →
    X E [.tmp 4] (.c L.J7.x0::.lp [0,1,5] L.J7.x0::.blk 0::k) ⟨[(0,.str s),(1,.int .u8 c),(5,.int .i64 i)],[]⟩ =
    if (s.drop i).contains (byt c) then some (.bool true,[]) else X E [.tmp 4] k ⟨[(0,.str s),(1,.int .u8 c),(5,.int .i64 s.length),(9,.bool false)],[]⟩:=by
  intro m
  induction m with
  | zero =>
    intro i h
    obtain rfl:i=s.length:=by omega
    rw [G9 L.J7.x0.eq_1]
    simp -dsimp (disch:=first|omega|(simp only [A5]<;>omega)|fail) only [go_sem,reduceIte,reduceCtorEq,B2,B3,B4,B5,B6,B7,B8,B9,C0,C1,C2,C3,C4,C5,C6,C7,C8,C9,D0,A4,Yst,List.contains_nil,Yqn]
  | succ m ih =>
    intro i h
    have:=ih (i+1) (by omega)
    simp only [Ysn,Ysh] at this
    have hd:s.drop i=s.getD i 0::s.drop (i+1):=by
      rw [List.getD_eq_getElem?_getD,List.getElem?_eq_getElem (by omega),Yre]
      exact Yr9 (by omega)
    rw [G9 L.J7.x0.eq_1]
    rw [hd,List.contains_cons]
    cases hb:(s.getD i 0==byt c) with
    | true =>
      have hb':(byt c==s.getD i 0)=true:=by rw [BEq.comm];exact hb
      simp -dsimp (disch:=first|omega|(simp only [A5]<;>omega)|fail) only [go_sem,reduceIte,reduceCtorEq,B2,B3,B4,B5,B6,B7,B8,B9,C0,C1,C2,C3,C4,C5,C6,C7,C8,C9,D0,A4,Zmq,hb,hb',Bool.true_or]
    | false =>
      have hb':(byt c==s.getD i 0)=false:=by rw [BEq.comm];exact hb
      simp -dsimp (disch:=first|omega|(simp only [A5]<;>omega)|fail) only [go_sem,reduceIte,reduceCtorEq,B2,B3,B4,B5,B6,B7,B8,B9,C0,C1,C2,C3,C4,C5,C6,C7,C8,C9,D0,A4,Zmq,hb,hb',Ysj,this]
theorem Zf7 {s:List UInt8} (hs:s.length≤1000000000000) {c:Int} (h0:0≤c) (h1:c<256):S E F.J7 [.str s,.int .u8 c] []=some (.bool (s.contains (byt c)),[]):=by
  have h:=fun k=>has_l0 hs h0 h1 k s.length 0 (by omega)
  simp only [Ysh,Yrp] at h
  rw [S_of Ztd rfl rfl]
  simp -dsimp (disch:=first|omega|(simp only [A5]<;>omega)|fail) only [L.J7,go_sem,reduceIte,reduceCtorEq,B2,B3,B4,B5,B6,B7,B8,B9,C0,C1,C2,C3,C4,C5,C6,C7,C8,C9,D0,A4]
  rw [h]
  cases hc:s.contains (byt c) with
  | true=>simp
  | false =>
    simp -dsimp (disch:=first|omega|(simp only [A5]<;>omega)|fail) only [L.J7.r0,go_sem,reduceIte,reduceCtorEq,B2,B3,B4,B5,B6,B7,B8,B9,C0,C1,C2,C3,C4,C5,C6,C7,C8,C9,D0,A4,Yqn]
theorem Yij {s:List UInt8} (hs:s.length≤1000000000000):S E F.X6 [.str s] []=some (.bool (P3 s),[]):=by
  have c1:=Zf7 hs (c:=47) (by omega) (by omega)
  have c2:=Zf7 hs (c:=0) (by omega) (by omega)
  rw [show byt 47=47 from rfl] at c1
  rw [show byt 0=0 from rfl] at c2
  rw [S_of Zs4 rfl rfl]
  by_cases h1:1≤s.length
  · by_cases h2:s.length≤100
    · simp -dsimp (disch:=first|omega|(simp only [A5]<;>omega)|fail) only [L.X6,go_sem,reduceIte,reduceCtorEq,B2,B3,B4,B5,B6,B7,B8,B9,C0,C1,C2,C3,C4,C5,C6,C7,C8,C9,D0,A4,c1,c2,Z6g]
      repeat' (refine Zw3 (fun h=>?_) (fun h=>?_)<;>(try simp -dsimp (disch:=first|omega|(simp only [A5]<;>omega)|fail) only [go_sem,reduceIte,reduceCtorEq,B2,B3,B4,B5,B6,B7,B8,B9,C0,C1,C2,C3,C4,C5,C6,C7,C8,C9,D0,A4,c1,c2,Z6g,h]))
      all_goals simp_all [P3]
    · have:P3 s=false:=by simp [P3,h2]
      rw [this]
      simp -dsimp (disch:=first|omega|(simp only [A5]<;>omega)|fail) only [L.X6,go_sem,reduceIte,reduceCtorEq,B2,B3,B4,B5,B6,B7,B8,B9,C0,C1,C2,C3,C4,C5,C6,C7,C8,C9,D0,A4]
  · have:P3 s=false:=by simp [P3,h1]
    rw [this]
    simp -dsimp (disch:=first|omega|(simp only [A5]<;>omega)|fail) only [L.X6,go_sem,reduceIte,reduceCtorEq,B2,B3,B4,B5,B6,B7,B8,B9,C0,C1,C2,C3,C4,C5,C6,C7,C8,C9,D0,A4]
end Cod
namespace Cod
open Go
def two (n:Int):List UInt8:=[byt (48+n/10),byt (48+n%10)]
theorem E4 (n:Int):(two n).length=2:=rfl
structure Idt where
  name:List UInt8
  email:List UInt8
  time:Int
  zone:Int
def Idt.cells (i:Idt):List AV:=[.str i.name,.str i.email,.int .i64 i.time,.int .i64 i.zone]
theorem Yom (i:Idt):sub i.cells 0 4=i.cells:=rfl
theorem Ya2 (i:Idt):flats i.cells=true:=rfl
theorem Yon (i:Idt):i.cells.length=4:=rfl
theorem Yik (f:Site→Nat→Option (Site × Nat)) (i:Idt):rens f i.cells=i.cells:=rens_flats _ rfl
theorem Yil (i:Idt):refsOfs i.cells=[]:=rfl
theorem Ya3 (i:Idt):J9 i.cells=true:=rfl
theorem Ya4 (i:Idt):leadss i.cells=false:=rfl
attribute [go_sem] Yom Ya2 Yon Yik Yil Ya3 Ya4
def Y0 (s:List UInt8):Bool:=decide (s.length≤100)&&(!s.contains 0&&(!s.contains 10&&(!s.contains 60 && !s.contains 62)))
def E6 (i:Idt):Bool:=Y0 i.name&&(Y0 i.email&&(decide (0≤i.time)&&(decide (i.time≤1099511627776)&&(decide (-1439≤i.zone)&&decide (i.zone≤1439)))))
theorem Zp9 {s:List UInt8} (hs:s.length≤1000000000000):S E F.T6 [.str s] []=some (.bool (Y0 s),[]):=by
  have h0:=Zf7 hs (c:=0) (by omega) (by omega)
  have h1:=Zf7 hs (c:=10) (by omega) (by omega)
  have h2:=Zf7 hs (c:=60) (by omega) (by omega)
  have h3:=Zf7 hs (c:=62) (by omega) (by omega)
  rw [show byt 0=0 from rfl] at h0
  rw [show byt 10=10 from rfl] at h1
  rw [show byt 60=60 from rfl] at h2
  rw [show byt 62=62 from rfl] at h3
  rw [S_of Ztw rfl rfl]
  unfold Y0
  by_cases hl:s.length≤100
  · cases c0:s.contains 0<;>cases c1:s.contains 10<;>cases c2:s.contains 60<;>cases c3:s.contains 62<;>simp -dsimp (disch:=first|omega|(simp only [A5,E4]<;>omega)|fail) only [L.T6,go_sem,reduceIte,reduceCtorEq,B2,B3,B4,B5,B6,B7,B8,B9,C0,C1,C2,C3,C4,C5,C6,C7,C8,C9,D0,A4,h0,h1,h2,h3,hl,c0,c1,c2,c3,Ysa,Ysb,decide_true,Yq5,Ysv,Ysi]
  · simp -dsimp (disch:=first|omega|(simp only [A5,E4]<;>omega)|fail) only [L.T6,go_sem,reduceIte,reduceCtorEq,B2,B3,B4,B5,B6,B7,B8,B9,C0,C1,C2,C3,C4,C5,C6,C7,C8,C9,D0,A4,hl,decide_false,Ysk]
theorem Zld {i:Idt} (hn:i.name.length≤1000000000000) (he:i.email.length≤1000000000000):S E F.K3 [.agg i.cells] []=some (.bool (E6 i),[]):=by
  have h0:=Zp9 hn
  have h1:=Zp9 he
  rw [S_of Ztf rfl rfl]
  unfold E6
  cases c0:Y0 i.name
  · simp -dsimp (disch:=first|omega|(simp only [A5,E4]<;>omega)|fail) only [L.K3,go_sem,reduceIte,reduceCtorEq,B2,B3,B4,B5,B6,B7,B8,B9,C0,C1,C2,C3,C4,C5,C6,C7,C8,C9,D0,A4,Idt.cells,h0,c0,Ysk]
  · cases c1:Y0 i.email
    · simp -dsimp (disch:=first|omega|(simp only [A5,E4]<;>omega)|fail) only [L.K3,go_sem,reduceIte,reduceCtorEq,B2,B3,B4,B5,B6,B7,B8,B9,C0,C1,C2,C3,C4,C5,C6,C7,C8,C9,D0,A4,Idt.cells,h0,c0,h1,c1,Ysk,Ysv]
    · by_cases t0:0≤i.time
      · by_cases t1:i.time≤1099511627776
        · by_cases z0 : -1439≤i.zone
          · by_cases z1:i.zone≤1439<;>simp -dsimp (disch:=first|omega|(simp only [A5,E4]<;>omega)|fail) only [L.K3,go_sem,reduceIte,reduceCtorEq,B2,B3,B4,B5,B6,B7,B8,B9,C0,C1,C2,C3,C4,C5,C6,C7,C8,C9,D0,A4,Idt.cells,h0,c0,h1,c1,t0,t1,z0,z1,decide_true,decide_false,Ysi,Yq5]
          · simp -dsimp (disch:=first|omega|(simp only [A5,E4]<;>omega)|fail) only [L.K3,go_sem,reduceIte,reduceCtorEq,B2,B3,B4,B5,B6,B7,B8,B9,C0,C1,C2,C3,C4,C5,C6,C7,C8,C9,D0,A4,Idt.cells,h0,c0,h1,c1,t0,t1,z0,decide_true,decide_false,Ysi,Ysk]
        · simp -dsimp (disch:=first|omega|(simp only [A5,E4]<;>omega)|fail) only [L.K3,go_sem,reduceIte,reduceCtorEq,B2,B3,B4,B5,B6,B7,B8,B9,C0,C1,C2,C3,C4,C5,C6,C7,C8,C9,D0,A4,Idt.cells,h0,c0,h1,c1,t0,t1,decide_true,decide_false,Ysi,Ysk]
      · simp -dsimp (disch:=first|omega|(simp only [A5,E4]<;>omega)|fail) only [L.K3,go_sem,reduceIte,reduceCtorEq,B2,B3,B4,B5,B6,B7,B8,B9,C0,C1,C2,C3,C4,C5,C6,C7,C8,C9,D0,A4,Idt.cells,h0,c0,h1,c1,t0,decide_true,decide_false,Ysi,Ysk]
theorem Zle {n:Int} (h0:0≤n) (h1:n<256):((byt n).toNat:Int)=n:=by
  have:=Zmr h0 h1
  simp only [AV.int.injEq,true_and] at this
  exact this.symm
theorem Zuy {n:Int} (h0:0≤n) (h1:n<100):S E F.Za3 [.int .i64 n] []=some (.str (two n),[]):=by
  rw [S_of Ztx rfl rfl]
  have e1:IntKind.u8.wrap (48+n/10)=((byt (48+n/10)).toNat:Int):=by rw [Zcz,Zle (by omega) (by omega)];omega
  have e2:IntKind.u8.wrap (48+n%10)=((byt (48+n%10)).toNat:Int):=by rw [Zcz,Zle (by omega) (by omega)];omega
  simp -dsimp (disch:=first|omega|(simp only [A5,E4]<;>omega)|fail) only [L.Za3,go_sem,reduceIte,reduceCtorEq,B2,B3,B4,B5,B6,B7,B8,B9,C0,C1,C2,C3,C4,C5,C6,C7,C8,C9,D0,A4,R8,T9,e1,e2,UInt8.ofNat_toNat,two]
def Zbd (z:Int):List UInt8:=(if z<0 then 45 else 43)::(two ((if z<0 then -z else z)/60)++two ((if z<0 then -z else z)%60))
def H7 (i:Idt):List UInt8:=i.name++[32,60]++i.email++[62,32]++Lib.itoa i.time++[32]++Zbd i.zone
theorem R0 (i:Idt):E6 i=true↔Y0 i.name=true∧Y0 i.email=true∧0≤i.time∧i.time≤1099511627776 ∧ -1439≤i.zone∧i.zone≤1439:=by
  unfold E6;simp only [Yql,decide_eq_true_eq]
theorem Zag {s:List UInt8} (h:Y0 s=true):s.length≤100:=by
  unfold Y0 at h;simp only [Yql,decide_eq_true_eq] at h;exact h.1
theorem Zmv {i:Idt} (h:E6 i=true):S E F.Y3 [.agg i.cells] []=some (.str (H7 i),[]):=by
  obtain ⟨_,_,t0,t1,z0,z1⟩:=(R0 i).1 h
  have hi:=Zn2 (n:=i.time) (by omega)
  have hl:=Lib.itoa_length_le i.time (by omega) (by omega)
  have hn:=Zag (by assumption:Y0 i.name=true)
  have he:=Zag (by assumption:Y0 i.email=true)
  rw [S_of Zth rfl rfl]
  by_cases hz:i.zone<0
  · have h1:=Zuy (n := -i.zone/60) (by omega) (by omega)
    have h2:=Zuy (n := -i.zone%60) (by omega) (by omega)
    simp -dsimp (disch:=first|omega|(simp only [A5,E4]<;>omega)|fail) only [L.Y3,go_sem,reduceIte,reduceCtorEq,B2,B3,B4,B5,B6,B7,B8,B9,C0,C1,C2,C3,C4,C5,C6,C7,C8,C9,D0,A4,Idt.cells,hi,hz,Ysw,R8,T9,h1,h2]
    simp only [H7,Zbd,hz,if_true,Yqy,Yp9,Yry]
  · have h1:=Zuy (n:=i.zone/60) (by omega) (by omega)
    have h2:=Zuy (n:=i.zone%60) (by omega) (by omega)
    simp -dsimp (disch:=first|omega|(simp only [A5,E4]<;>omega)|fail) only [L.Y3,go_sem,reduceIte,reduceCtorEq,B2,B3,B4,B5,B6,B7,B8,B9,C0,C1,C2,C3,C4,C5,C6,C7,C8,C9,D0,A4,Idt.cells,hi,hz,Ysw,R8,T9,h1,h2]
    simp only [H7,Zbd,hz,if_false,Yqy,Yp9,Yry]
def Z33 (i:Idt):AV:=if E6 i=true then .tup [.str (H7 i),.int .i64 0] else .tup [.str [],.int .i64 3]
end Cod
namespace Cod
open Go
def Zob:List UInt8→Int→Int
  | [],v=>v
  | c::r,v=>if c.toNat<48∨57<c.toNat then -1 else Zob r (10*v+(c.toNat-48))
def Zoc (s:List UInt8):Int:=if s=[]∨13<s.length then -1 else Zob s 0
theorem num_l0 {s:List UInt8} (hs:s.length≤13):∀ (m i:Nat) (v:Int),i+m=s.length→0≤v→v<10^i →
    X E [.tmp 2] (.c L.G7.x0::.lp [0,3,4] L.G7.x0::.blk 0::[.c L.G7.r0]) ⟨[(0,.str s),(3,.int .i64 v),(4,.int .i64 i)],[]⟩=some (.int .i64 (Zob (s.drop i) v),[]):=by
  intro m
  induction m with
  | zero =>
    intro i v hi h0 h1
    obtain rfl:i=s.length:=by omega
    rw [G9 L.G7.x0.eq_1,Yst,Zob]
    simp -dsimp (disch:=first|omega|(simp only [A5]<;>omega)|fail) only [go_sem,reduceIte,reduceCtorEq,B2,B3,B4,B5,B6,B7,B8,B9,C0,C1,C2,C3,C4,C5,C6,C7,C8,C9,D0,A4,L.G7.r0]
  | succ m ih =>
    intro i v hi h0 h1
    have hp:i<s.length:=by omega
    have hd:s.drop i=s.getD i 0::s.drop (i+1):=by
      rw [Yr9 hp];simp [hp]
    rw [G9 L.G7.x0.eq_1,hd,Zob]
    have hb:=R4 s i
    have he:bat s i=((s.getD i 0).toNat:Int):=rfl
    have hpow:(10:Int)^i≤10^12:=by
      have:i≤12:=by omega
      exact_mod_cast Nat.pow_le_pow_right (by omega) this
    by_cases hc:(s.getD i 0).toNat<48∨57<(s.getD i 0).toNat
    · rw [if_pos hc]
      by_cases hc1:bat s i<48
      · simp -dsimp (disch:=first|omega|(simp only [A5]<;>omega)|fail) only [go_sem,reduceIte,reduceCtorEq,B2,B3,B4,B5,B6,B7,B8,B9,C0,C1,C2,C3,C4,C5,C6,C7,C8,C9,D0,A4,hp,hc1]
      · have hc2:57<bat s i:=by rw [he] at hc1 ⊢;omega
        simp -dsimp (disch:=first|omega|(simp only [A5]<;>omega)|fail) only [go_sem,reduceIte,reduceCtorEq,B2,B3,B4,B5,B6,B7,B8,B9,C0,C1,C2,C3,C4,C5,C6,C7,C8,C9,D0,A4,hp,hc1,hc2]
    · rw [if_neg hc]
      have hc1:¬ bat s i<48:=by rw [he];omega
      have hc2:¬ 57<bat s i:=by rw [he];omega
      rw [←ih (i+1) (10*v+((s.getD i 0).toNat-48)) (by omega) (by omega) (by rw [Int.pow_succ];omega)]
      have hw:IntKind.u8.wrap (bat s i-48)=bat s i-48:=by rw [Zcz];omega
      simp -dsimp (disch:=first|omega|(simp only [A5]<;>omega)|fail) only [go_sem,reduceIte,reduceCtorEq,B2,B3,B4,B5,B6,B7,B8,B9,C0,C1,C2,C3,C4,C5,C6,C7,C8,C9,D0,A4,hp,hc1,hc2,hw]
      rw [he,Ysn];rfl
theorem Zqa {s:List UInt8}:S E F.G7 [.str s] []=some (.int .i64 (Zoc s),[]):=by
  rw [S_of Ztk rfl rfl]
  unfold Zoc
  by_cases h0:s=[]
  · subst h0
    simp -dsimp (disch:=first|omega|(simp only [A5]<;>omega)|fail) only [L.G7,go_sem,reduceIte,reduceCtorEq,B2,B3,B4,B5,B6,B7,B8,B9,C0,C1,C2,C3,C4,C5,C6,C7,C8,C9,D0,A4,true_or,if_true]
  · have he:(s == [])=false:=by simp [h0]
    by_cases h1:13<s.length
    · rw [if_pos (.inr h1)]
      simp -dsimp (disch:=first|omega|(simp only [A5]<;>omega)|fail) only [L.G7,go_sem,reduceIte,reduceCtorEq,B2,B3,B4,B5,B6,B7,B8,B9,C0,C1,C2,C3,C4,C5,C6,C7,C8,C9,D0,A4,he,h1]
    · rw [if_neg (by simp [h0,h1])]
      have h2:=num_l0 (s:=s) (by omega) s.length 0 0 (by omega) (by omega) (by simp)
      simp only [Ysh,Yrp] at h2
      simp -dsimp (disch:=first|omega|(simp only [A5]<;>omega)|fail) only [L.G7,go_sem,reduceIte,reduceCtorEq,B2,B3,B4,B5,B6,B7,B8,B9,C0,C1,C2,C3,C4,C5,C6,C7,C8,C9,D0,A4,he,h1,h2]
end Cod
namespace Cod
open Go
def Zfj (s t:List UInt8):Bool:=decide (t.length≤s.length)&&(s.drop (s.length-t.length)==t)
theorem Zqb {s t:List UInt8} (hs:s.length≤1000000000000) (ht:t.length≤1000000000000):S E F.X0 [.str s,.str t] []=some (.bool (Zfj s t),[]):=by
  have h0:S E F.T0 [.str s,.str t] []=some (.bool (Zfj s t),[]):=by
    rw [S_of Zt7 rfl rfl]
    unfold Zfj
    by_cases h:t.length≤s.length
    · have e1:sub s (((s.length:Int)-t.length).toNat) (s.length-((s.length:Int)-t.length).toNat)=s.drop (s.length-t.length):=by
        rw [show ((s.length:Int)-t.length).toNat=s.length-t.length by omega]
        unfold sub;exact List.take_of_length_le (by rw [Yqe];exact Yp6 _)
      simp -dsimp (disch:=first|omega|(simp only [A5]<;>omega)|fail) only [L.T0,go_sem,reduceIte,reduceCtorEq,B2,B3,B4,B5,B6,B7,B8,B9,C0,C1,C2,C3,C4,C5,C6,C7,C8,C9,D0,A4,h,decide_true,Ysi]
      rw [e1]
    · simp -dsimp (disch:=first|omega|(simp only [A5]<;>omega)|fail) only [L.T0,go_sem,reduceIte,reduceCtorEq,B2,B3,B4,B5,B6,B7,B8,B9,C0,C1,C2,C3,C4,C5,C6,C7,C8,C9,D0,A4,h,decide_false,Ysk]
  rw [S_of Zt5 rfl rfl]
  simp -dsimp (disch:=first|omega|(simp only [A5]<;>omega)|fail) only [L.X0,go_sem,reduceIte,reduceCtorEq,B2,B3,B4,B5,B6,B7,B8,B9,C0,C1,C2,C3,C4,C5,C6,C7,C8,C9,D0,A4,h0]
def Zbw (s:List UInt8) (c:UInt8):Nat→Int
  | 0 => -1
  | n+1=>if s.getD n 0=c then (n:Int) else Zbw s c n
theorem Yoo {s:List UInt8} {c:UInt8} (hs:s.length≤1000000000000):∀ n:Nat,n≤s.length →
    X E [.tmp 4] (.c L.I5.x0::.lp [0,1,5] L.I5.x0::.blk 0::[.c L.I5.r0]) ⟨[(0,.str s),(1,.int .u8 c.toNat),(5,.int .i64 ((n:Int)-1))],[]⟩=some (.int .i64 (Zbw s c n),[]):=by
  intro n
  induction n with
  | zero =>
    intro h
    rw [G9 L.I5.x0.eq_1,Zbw]
    simp -dsimp (disch:=first|omega|(simp only [A5]<;>omega)|fail) only [go_sem,reduceIte,reduceCtorEq,B2,B3,B4,B5,B6,B7,B8,B9,C0,C1,C2,C3,C4,C5,C6,C7,C8,C9,D0,A4,L.I5.r0]
  | succ n ih =>
    intro h
    have h1:=ih (by omega)
    rw [G9 L.I5.x0.eq_1,Zbw]
    have e:((n+1:Nat):Int)-1=n:=by omega
    rw [e]
    by_cases hc:s.getD n 0=c
    · have hb:(bat s n==(c.toNat:Int))=true:=by rw [←hc];exact Znx rfl
      rw [if_pos hc]
      simp -dsimp (disch:=first|omega|(simp only [A5]<;>omega)|fail) only [go_sem,reduceIte,reduceCtorEq,B2,B3,B4,B5,B6,B7,B8,B9,C0,C1,C2,C3,C4,C5,C6,C7,C8,C9,D0,A4,hb]
    · have hb:(bat s n==(c.toNat:Int))=false:=Zey (fun h=>hc (UInt8.toNat_inj.1 (by unfold bat at h;omega)))
      rw [if_neg hc,←h1]
      simp -dsimp (disch:=first|omega|(simp only [A5]<;>omega)|fail) only [go_sem,reduceIte,reduceCtorEq,B2,B3,B4,B5,B6,B7,B8,B9,C0,C1,C2,C3,C4,C5,C6,C7,C8,C9,D0,A4,hb]
theorem Yim {s:List UInt8} {c:UInt8} (hs:s.length≤1000000000000):S E F.S9 [.str s,.int .u8 c.toNat] []=some (.int .i64 (Zbw s c s.length),[]):=by
  have h0:S E F.I5 [.str s,.int .u8 c.toNat] []=some (.int .i64 (Zbw s c s.length),[]):=by
    rw [S_of Zt6 rfl rfl]
    simp -dsimp (disch:=first|omega|(simp only [A5]<;>omega)|fail) only [L.I5,go_sem,reduceIte,reduceCtorEq,B2,B3,B4,B5,B6,B7,B8,B9,C0,C1,C2,C3,C4,C5,C6,C7,C8,C9,D0,A4,Yoo hs s.length (Yp6 _)]
  rw [S_of Zt4 rfl rfl]
  simp -dsimp (disch:=first|omega|(simp only [A5]<;>omega)|fail) only [L.S9,go_sem,reduceIte,reduceCtorEq,B2,B3,B4,B5,B6,B7,B8,B9,C0,C1,C2,C3,C4,C5,C6,C7,C8,C9,D0,A4,h0]
end Cod
namespace Cod
open Go
theorem Zl7 (s:List UInt8) (c:UInt8):∀ n,Zbw s c n = -1∨∃ i:Nat,Zbw s c n=i∧i<n∧s.getD i 0=c:=by
  intro n
  induction n with
  | zero=>left;rfl
  | succ n ih =>
    unfold Zbw
    split
    · rename_i h
      right;exact ⟨n,rfl,by omega,h⟩
    · rcases ih with ih|⟨i,h1,h2,h3⟩
      · left;exact ih
      · right;exact ⟨i,h1,by omega,h3⟩
theorem tn1 (i:Nat):((i:Int)+1).toNat=i+1:=by omega
theorem tn2 (i:Nat):((i:Int)+2).toNat=i+2:=by omega
theorem Zct {s:List UInt8} (hs:s.length≤1000000000000):S E F.S9 [.str s,.int .u8 32] []=some (.int .i64 (Zbw s 32 s.length),[]):=Yim (c:=32) hs
theorem cut_a {s:List UInt8} (hs:s.length≤1000000000000) (h:Zbw s 32 s.length = -1):S E F.H1 [.str s] []=some (.tup [.agg [.str [],.str [],.str [],.str []],.bool false],[]):=by
  have hl:=Zct hs
  have hk:=Zuk (s:=s) (t:=[32,60]) (by omega)
  rw [h] at hl
  rw [S_of Zdz rfl rfl]
  simp -dsimp (disch:=first|omega|(simp only [A5]<;>omega)|fail) only [L.H1,L.H1.x0,go_sem,reduceIte,reduceCtorEq,B2,B3,B4,B5,B6,B7,B8,B9,C0,C1,C2,C3,C4,C5,C6,C7,C8,C9,D0,A4,tn1,tn2,Yq7,hl,hk]
  simp -dsimp (disch:=first|omega|(simp only [A5]<;>omega)|fail) only [L.H1.r0,go_sem,reduceIte,reduceCtorEq,B2,B3,B4,B5,B6,B7,B8,B9,C0,C1,C2,C3,C4,C5,C6,C7,C8,C9,D0,A4]
theorem cut_b {s z r:List UInt8} {i:Nat} (hs:s.length≤1000000000000) (h:Zbw s 32 s.length=i) (hi:i<s.length) (hr:sub s 0 i=r) (hz:sub s (i+1) (s.length-(i+1))=z) (h1:Zbw r 32 r.length = -1):S E F.H1 [.str s] []=some (.tup [.agg [.str [],.str [],.str [],.str z],.bool false],[]):=by
  have hl:=Zct hs
  have hrl:r.length≤1000000000000:=by rw [←hr];unfold sub;rw [Yqd,Yqe];omega
  have hl1:=Zct hrl
  have hk:=Zuk (s:=r) (t:=[32,60]) (by omega)
  rw [h] at hl
  rw [h1] at hl1
  rw [S_of Zdz rfl rfl]
  simp -dsimp (disch:=first|omega|(simp only [A5]<;>omega)|fail) only [L.H1,L.H1.x0,go_sem,reduceIte,reduceCtorEq,B2,B3,B4,B5,B6,B7,B8,B9,C0,C1,C2,C3,C4,C5,C6,C7,C8,C9,D0,A4,tn1,tn2,Yq7,hl,hl1,hk,hr,hz]
  simp -dsimp (disch:=first|omega|(simp only [A5]<;>omega)|fail) only [L.H1.r0,go_sem,reduceIte,reduceCtorEq,B2,B3,B4,B5,B6,B7,B8,B9,C0,C1,C2,C3,C4,C5,C6,C7,C8,C9,D0,A4]
set_option maxRecDepth 4000 in
theorem cut_c {s z r t q:List UInt8} {i j:Nat} (hs:s.length≤1000000000000) (h:Zbw s 32 s.length=i) (hi:i<s.length) (hr:sub s 0 i=r) (hz:sub s (i+1) (s.length-(i+1))=z) (h1:Zbw r 32 r.length=j) (hj:j<r.length) (hq:sub r 0 j=q) (ht:sub r (j+1) (r.length-(j+1))=t)
    (h2:Lib.lastIndex q [32,60]<0∨Zfj q [62]=false):S E F.H1 [.str s] []=some (.tup [.agg [.str [],.str [],.str t,.str z],.bool false],[]):=by
  have hl:=Zct hs
  have hrl:r.length≤1000000000000:=by rw [←hr];unfold sub;rw [Yqd,Yqe];omega
  have hql:q.length≤1000000000000:=by rw [←hq];unfold sub;rw [Yqd,Yqe];omega
  have hl1:=Zct hrl
  have hk:=Zuk (s:=q) (t:=[32,60]) (by omega)
  have hf:=Zqb (s:=q) (t:=[62]) hql (by decide)
  rw [h] at hl
  rw [h1] at hl1
  rw [S_of Zdz rfl rfl]
  by_cases h3:Lib.lastIndex q [32,60]<0
  · simp -dsimp (disch:=first|omega|(simp only [A5]<;>omega)|fail) only [L.H1,L.H1.x0,go_sem,reduceIte,reduceCtorEq,B2,B3,B4,B5,B6,B7,B8,B9,C0,C1,C2,C3,C4,C5,C6,C7,C8,C9,D0,A4,tn1,tn2,Yq7,hl,hl1,hk,hr,hz,hq,ht,h3]
    simp -dsimp (disch:=first|omega|(simp only [A5]<;>omega)|fail) only [L.H1.r0,go_sem,reduceIte,reduceCtorEq,B2,B3,B4,B5,B6,B7,B8,B9,C0,C1,C2,C3,C4,C5,C6,C7,C8,C9,D0,A4]
  · have h4:Zfj q [62]=false:=by rcases h2 with h2|h2;exact absurd h2 h3;exact h2
    rw [h4] at hf
    simp -dsimp (disch:=first|omega|(simp only [A5]<;>omega)|fail) only [L.H1,L.H1.x0,go_sem,reduceIte,reduceCtorEq,B2,B3,B4,B5,B6,B7,B8,B9,C0,C1,C2,C3,C4,C5,C6,C7,C8,C9,D0,A4,tn1,tn2,Yq7,hl,hl1,hk,hf,hr,hz,hq,ht,h3]
    simp -dsimp (disch:=first|omega|(simp only [A5]<;>omega)|fail) only [L.H1.r0,go_sem,reduceIte,reduceCtorEq,B2,B3,B4,B5,B6,B7,B8,B9,C0,C1,C2,C3,C4,C5,C6,C7,C8,C9,D0,A4]
set_option maxRecDepth 4000 in
theorem cut_d {s z r t q:List UInt8} {i j k:Nat} (hs:s.length≤1000000000000) (h:Zbw s 32 s.length=i) (hi:i<s.length) (hr:sub s 0 i=r) (hz:sub s (i+1) (s.length-(i+1))=z) (h1:Zbw r 32 r.length=j) (hj:j<r.length) (hq:sub r 0 j=q) (ht:sub r (j+1) (r.length-(j+1))=t)
    (h2:Lib.lastIndex q [32,60]=k) (hk2:k+2<q.length) (h4:Zfj q [62]=true):S E F.H1 [.str s] []=some (.tup [.agg [.str (sub q 0 k),.str (sub q (k+2) (q.length-1-(k+2))),.str t,.str z],.bool true],[]):=by
  have hl:=Zct hs
  have hrl:r.length≤1000000000000:=by rw [←hr];unfold sub;rw [Yqd,Yqe];omega
  have hql:q.length≤1000000000000:=by rw [←hq];unfold sub;rw [Yqd,Yqe];omega
  have hl1:=Zct hrl
  have hk:=Zuk (s:=q) (t:=[32,60]) (by omega)
  have hf:=Zqb (s:=q) (t:=[62]) hql (by decide)
  rw [h] at hl
  rw [h1] at hl1
  rw [h4] at hf
  rw [h2] at hk
  rw [S_of Zdz rfl rfl]
  have e:((q.length:Int)-1).toNat=q.length-1:=by omega
  simp -dsimp (disch:=first|omega|(simp only [A5]<;>omega)|fail) only [L.H1,L.H1.x0,go_sem,reduceIte,reduceCtorEq,B2,B3,B4,B5,B6,B7,B8,B9,C0,C1,C2,C3,C4,C5,C6,C7,C8,C9,D0,A4,tn1,tn2,Yq7,hl,hl1,hk,hf,hr,hz,hq,ht,e]
  simp -dsimp (disch:=first|omega|(simp only [A5]<;>omega)|fail) only [L.H1.r0,go_sem,reduceIte,reduceCtorEq,B2,B3,B4,B5,B6,B7,B8,B9,C0,C1,C2,C3,C4,C5,C6,C7,C8,C9,D0,A4]
end Cod
namespace Cod
open Go
def Zcf (c:UInt8):Prop:=48≤c.toNat∧c.toNat≤57
def dstep (acc:Nat) (c:UInt8):Nat:=acc*10+(c.toNat-48)
def dv (acc:Nat) (l:List UInt8):Nat:=l.foldl dstep acc
theorem Zod (acc:Nat):dv acc []=acc:=by unfold dv;rw [Ysu]
theorem Ze1 (acc:Nat) (c:UInt8) (r:List UInt8):dv acc (c::r)=dv (acc*10+(c.toNat-48)) r:=by unfold dv;rw [Yqk,dstep]
theorem Yop (c:UInt8):∀ (l:List UInt8) (acc:Nat),dv acc (l++[c])=dv acc l*10+(c.toNat-48):=by
  intro l
  induction l with
  | nil=>intro acc;rw [Yry,Ze1,Zod,Zod]
  | cons a l ih=>intro acc;rw [Yp9,Ze1,Ze1,ih]
theorem dv_ge (l:List UInt8):∀ acc,acc≤dv acc l:=by
  induction l with
  | nil=>intro acc;exact Yp6 _
  | cons a l ih=>intro acc;have:=ih (acc*10+(a.toNat-48));rw [Ze1];omega
theorem Zqc (n:Nat) (h:n<10):Zcf (UInt8.ofNat (48+n))∧(UInt8.ofNat (48+n)).toNat-48=n:=by
  have:(UInt8.ofNat (48+n)).toNat=48+n:=by simp;omega
  unfold Zcf
  omega
theorem Zuz:∀ (k u:Nat),u<k→(∀ c∈Lib.decDigits u,Zcf c)∧dv 0 (Lib.decDigits u)=u∧Lib.decDigits u≠[]:=by
  intro k
  induction k with
  | zero=>intro u h;omega
  | succ k ih =>
    intro u h
    rw [Lib.decDigits]
    split
    · rename_i h0
      obtain ⟨h1,h2⟩:=Zqc u h0
      refine ⟨?_,?_,by simp⟩
      · intro c hc;rw [List.mem_singleton.1 hc];exact h1
      · simp only [Zod,Ze1,h2];omega
    · rename_i h0
      obtain ⟨h1,h2⟩:=Zqc (u%10) (by omega)
      obtain ⟨i1,i2,i3⟩:=ih (u/10) (by omega)
      refine ⟨?_,?_,by simp⟩
      · intro c hc
        rcases List.mem_append.1 hc with hc|hc
        · exact i1 c hc
        · rw [List.mem_singleton.1 hc];exact h1
      · rw [Yop,i2,h2];omega
theorem Ya5:∀ (l:List UInt8) (acc:Nat),(∀ c∈l,Zcf c)→dv acc l<1000000000000000000→Lib.parseUint10 acc l=.ok (dv acc l):=by
  intro l
  induction l with
  | nil=>intro acc _ _;rfl
  | cons c r ih =>
    intro acc hd hl
    have hc:=hd c Ysx
    simp only [Zod,Ze1] at hl ⊢
    have hg:=dv_ge r (acc*10+(c.toNat-48))
    unfold Lib.parseUint10
    rw [if_pos (show 48≤c.toNat∧c.toNat≤57 from hc),if_neg (by omega),if_neg (by omega)]
    exact ih _ (fun c hc=>hd c (Yra _ hc)) hl
theorem Zza {l:List UInt8} (h0:l≠[]) (hd:∀ c∈l,Zcf c) (hl:dv 0 l<1000000000000000000):Lib.atoiAll l=.ok (dv 0 l):=by
  cases l with
  | nil=>exact absurd rfl h0
  | cons c r =>
    have hc:=hd c Ysx
    unfold Zcf at hc
    unfold Lib.atoiAll
    have e:¬ (c.toNat=43∨c.toNat=45):=by omega
    have e2:¬ c.toNat=45:=by omega
    have hp:Lib.parseMag (c::r)=.ok (dv 0 (c::r)):=by unfold Lib.parseMag;rw [if_neg h0,Ya5 (c::r) 0 hd hl]
    generalize dv 0 (c::r)=d at *
    simp only [if_neg e,hp,if_neg e2]
    rw [if_neg (fun h=>by omega),if_neg (fun h=>e2 h.1)]
theorem Yoq:∀ (l:List UInt8) (acc:Nat),(∀ c∈l,Zcf c)→Zob l acc=dv acc l:=by
  intro l
  induction l with
  | nil=>intro acc _;rfl
  | cons c r ih =>
    intro acc hd
    have hc:=hd c Ysx
    unfold Zcf at hc
    have e:((acc*10+(c.toNat-48):Nat):Int)=10*(acc:Int)+((c.toNat:Int)-48):=by omega
    simp only [Zob,Ze1]
    rw [if_neg (by omega),←ih _ (fun c hc=>hd c (Yra _ hc)),e]
theorem Zzb {l:List UInt8} (h0:l≠[]) (h1:l.length≤13) (hd:∀ c∈l,Zcf c):Zoc l=dv 0 l:=by
  unfold Zoc
  rw [if_neg (by simp [h0];omega)]
  exact Yoq l 0 hd
theorem Zmw (n:Int) (h0:0≤n) (h1:n<10):Zcf (byt (48+n))∧(((byt (48+n)).toNat-48:Nat):Int)=n:=by
  have:=Zle (n:=48+n) (by omega) (by omega)
  unfold Zcf
  omega
theorem Z6h {a b:Int} (ha0:0≤a) (ha1:a<100) (hb0:0≤b) (hb1:b<100):(∀ c∈two a++two b,Zcf c)∧(dv 0 (two a++two b):Int)=a*100+b:=by
  obtain ⟨p1,p2⟩:=Zmw (a/10) (by omega) (by omega)
  obtain ⟨q1,q2⟩:=Zmw (a%10) (by omega) (by omega)
  obtain ⟨r1,r2⟩:=Zmw (b/10) (by omega) (by omega)
  obtain ⟨s1,s2⟩:=Zmw (b%10) (by omega) (by omega)
  constructor
  · intro c hc
    simp only [two,Yp9,Yry,List.mem_cons,List.not_mem_nil,or_false] at hc
    rcases hc with hc|hc|hc|hc<;>rw [hc]<;>assumption
  · simp only [two,Yp9,Yry,Zod,Ze1]
    omega
theorem Zu0 {l:List UInt8} (hd:∀ c∈l,Zcf c) {x:UInt8} (hx:¬ Zcf x):x∉l:=fun h=>hx (hd x h)
theorem Zka {t:Int} (h0:0≤t):(∀ c∈Lib.itoa t,Zcf c)∧(dv 0 (Lib.itoa t):Int)=t∧Lib.itoa t≠[]:=by
  obtain ⟨u,rfl⟩:∃ u:Nat,t=u:=⟨t.toNat,by omega⟩
  rw [Lib.itoa_nonneg]
  obtain ⟨h1,h2,h3⟩:=Zuz (u+1) u (by omega)
  exact ⟨h1,by rw [h2],h3⟩
theorem Yin (s:List UInt8) (c:UInt8) (k:Nat) (hk:s.getD k 0=c):∀ n,k<n→(∀ j,k<j→j<n→s.getD j 0≠c)→Zbw s c n=k:=by
  intro n
  induction n with
  | zero=>intro h;omega
  | succ n ih =>
    intro h hj
    unfold Zbw
    by_cases hn:n=k
    · rw [hn,if_pos hk]
    · rw [if_neg (hj n (by omega) (by omega))]
      exact ih (by omega) (fun j h1 h2=>hj j h1 (by omega))
theorem Zqd {a v:List UInt8} {c:UInt8} (h:c∉v):Zbw (a++c::v) c (a++c::v).length=a.length:=by
  apply Yin
  · simp [List.getD]
  · simp
  · intro j h1 h2 h3
    apply h
    rw [Yqx,Yqm] at h2
    rw [List.getD_eq_getElem?_getD,List.getElem?_append_right (by omega),show j-a.length=(j-a.length-1)+1 by omega,List.getElem?_cons_succ,List.getElem?_eq_getElem (by omega)] at h3
    rw [←h3]
    exact List.getElem_mem _
theorem occ2 (q:List UInt8) (i:Nat):Lib.occAt q [32,60] i=true↔q[i]? = some 32∧q[i+1]? = some 60:=by
  unfold Lib.occAt
  have e0:q[i]? = (q.drop i)[0]? := by rw [List.getElem?_drop];rfl
  have e1:q[i+1]? = (q.drop i)[1]? := by rw [List.getElem?_drop]
  rw [e0,e1]
  generalize q.drop i=l
  cases l with
  | nil=>simp [List.isPrefixOf]
  | cons a l=>cases l with
    | nil=>simp [List.isPrefixOf]
    | cons b l=>simp [List.isPrefixOf];constructor<;>rintro ⟨rfl,rfl⟩<;>exact ⟨rfl,rfl⟩
theorem Yio {a b:List UInt8} (h:60∉b):Lib.lastIndex (a++[32,60]++b) [32,60]=a.length:=by
  unfold Lib.lastIndex
  rw [if_pos (by simp only [Yqx,Yqm,Yrj];omega)]
  have hocc:Lib.occAt (a++[32,60]++b) [32,60] a.length=true:=by
    rw [occ2]
    constructor<;>simp
  rcases Lib.lastOcc_spec (a++[32,60]++b) [32,60] ((a++[32,60]++b).length - [(32:UInt8),60].length+1) with ⟨_,hn⟩|⟨i,h1,h2,h3,h4⟩
  · have:=hn a.length (by simp only [Yqx,Yqm,Yrj];omega)
    rw [hocc] at this;cases this
  · rw [h2]
    by_cases hlt:i<a.length
    · have:=h4 a.length hlt (by simp only [Yqx,Yqm,Yrj];omega)
      rw [hocc] at this;cases this
    · by_cases he:i=a.length
      · rw [he]
      · exfalso
        rw [occ2] at h3
        apply h
        have h5:=h3.2
        rw [Yqy,List.getElem?_append_right (by omega),List.getElem?_append_right (by simp;omega)] at h5
        exact List.mem_of_getElem? h5
theorem ends1 (q:List UInt8) (c:UInt8):Zfj q [c]=true↔q≠[]∧q[q.length-1]? = some c:=by
  unfold Zfj
  simp only [Yqm,Yrj,Yql,decide_eq_true_eq,beq_iff_eq]
  cases q with
  | nil=>simp
  | cons a q =>
    simp only [Yqm,ne_eq,reduceCtorEq,not_false_eq_true,true_and]
    have e:(a::q)[q.length+1-1]? = ((a::q).drop (q.length+1-(0+1)))[0]? := by rw [List.getElem?_drop];rfl
    rw [e]
    have hl:((a::q).drop (q.length+1-(0+1))).length=1:=by rw [Yqe,Yqm];omega
    generalize (a::q).drop (q.length+1-(0+1))=l at *
    cases l with
    | nil=>simp at hl
    | cons x l=>cases l with
      | nil=>simp
      | cons y l=>simp at hl
theorem Ya6 {q:List UInt8} {k:Nat} (h:Lib.lastIndex q [32,60]=k) (he:Zfj q [62]=true):k+2<q.length:=by
  unfold Lib.lastIndex at h
  split at h
  · rcases Lib.lastOcc_spec q [32,60] (q.length - [(32:UInt8),60].length+1) with ⟨h1,_⟩|⟨i,h1,h2,h3,_⟩
    · rw [h1] at h;omega
    · rw [h2] at h
      obtain rfl:i=k:=by omega
      obtain ⟨_,e2⟩:=(ends1 q 62).1 he
      obtain ⟨_,e1⟩:=(occ2 q i).1 h3
      have hlt:i+1<q.length:=(List.getElem?_eq_some_iff.1 e1).1
      by_cases hx:i+1=q.length-1
      · rw [hx,e2] at e1;cases e1
      · omega
  · omega
theorem Z34 (q:List UInt8):Lib.lastIndex q [32,60]<0∨∃ k:Nat,Lib.lastIndex q [32,60]=k:=by
  by_cases h:Lib.lastIndex q [32,60]<0
  · left;exact h
  · right;exact ⟨(Lib.lastIndex q [32,60]).toNat,by omega⟩
end Cod
namespace Cod
open Go
set_option maxRecDepth 100000
theorem Ya7 {r:Int} (h0:128≤r) (h1:r≤1114111):2≤(Zbj r).length∧(Zbj r).length≤4∧128≤bat (Zbj r) ((Zbj r).length-1):=by
  unfold Zbj Utf8.encode Utf8.runeError
  simp only []
  generalize hc:(if Utf8.valid r=true then r.toNat else 65533)=c
  have hc0:128≤c:=by
    rw [←hc];split
    · omega
    · omega
  rw [if_neg (by omega)]
  split
  · refine ⟨by simp,by simp,?_⟩
    simp [bat]
    omega
  · split
    · refine ⟨by simp,by simp,?_⟩
      simp [bat]
      omega
    · refine ⟨by simp,by simp,?_⟩
      simp [bat]
      omega
theorem Zu1:S E0 F.D1 [.str [0,10,60,62],.int .i32 65533] []=some (.int .i64 (-1),[]):=Zec.2 ⟨300,by kernel_rfl⟩
theorem Zkb {r:Int} (h0:0≤r) (h1:r<128):S E0 F.D1 [.str [0,10,60,62],.int .i32 r] []=some (.int .i64 (J1 [0,10,60,62] (byt r)),[]):=by
  rw [Zc9 Zdy rfl rfl]
  have h2:IntKind.u8.wrap r=r:=by rw [Zcz];omega
  simp -dsimp (disch:=first|omega|(simp only [A5]<;>omega)|fail) only [L.D1,go_sem,reduceIte,reduceCtorEq,B2,B3,B4,B5,B6,B7,B8,B9,C0,C1,C2,C3,C4,C5,C6,C7,C8,C9,D0,A4,M0 h0,M0 h1,h2,Zcs]
theorem Zu2 {r:Int} (h0:128≤r) (h1:r≤1114111):S E0 F.D1 [.str [0,10,60,62],.int .i32 r] []=some (.int .i64 (-1),[]):=by
  by_cases he:r=65533
  · subst he;exact Zu1
  · have h2:¬ r<128:=by omega
    have h3:(0:Int)≤r:=by omega
    rw [Zc9 Zdy rfl rfl]
    have hvv:S E0 F.K9 [.int .i32 r] []=some (.bool (decide (r<55296)||decide (57343<r)),[]):=by rw [Zyy h0,M0 h1,Yq5]
    cases hv:(decide (r<55296)||decide (57343<r)) with
    | false=>simp -dsimp (disch:=first|omega|(simp only [A5]<;>omega)|fail) only [L.D1,go_sem,reduceIte,reduceCtorEq,B2,B3,B4,B5,B6,B7,B8,B9,C0,C1,C2,C3,C4,C5,C6,C7,C8,C9,D0,A4,M0 h3,Zba h2,Zey he,hvv,hv]
    | true =>
      obtain ⟨e1,e2,e3⟩:=Ya7 h0 h1
      simp -dsimp (disch:=first|omega|(simp only [A5]<;>omega)|fail) only [L.D1,go_sem,reduceIte,reduceCtorEq,B2,B3,B4,B5,B6,B7,B8,B9,C0,C1,C2,C3,C4,C5,C6,C7,C8,C9,D0,A4,M0 h3,Zba h2,Zey he,hvv,hv]
      rw [G9 L.D1.x1.eq_1]
      have hb:=R4 (Zbj r) ((Zbj r).length-1)
      have hno:∀ l:List UInt8,(∀ c∈l,c.toNat<128)→J1 l (byt (bat (Zbj r) ((Zbj r).length-1))) = -1:=by
        intro l hl
        unfold J1
        rw [if_neg]
        intro hm
        have:=hl _ hm
        have h5:((byt (bat (Zbj r) ((Zbj r).length-1))).toNat:Int)=bat (Zbj r) ((Zbj r).length-1):=by
          have:=Zmr hb.1 hb.2
          simp only [AV.int.injEq,true_and] at this
          exact this.symm
        omega
      have b4:=hno [60,62] (by simp)
      have b5:=hno [62] (by simp)
      have b6:=hno [] (by simp)
      have hk:(Zbj r).length=2∨(Zbj r).length=3∨(Zbj r).length=4:=by omega
      rcases hk with e4|e4|e4<;>rw [e4] at e3 b4 b5 b6<;>simp only [Nat.reduceSub] at e3 b4 b5 b6
      · have b1:bat [0,10,60,62] 1=10:=rfl
        have b2:((((10:UInt8).toNat:Nat):Int) != bat (Zbj r) 1)=true:=Zny (by show (10:Int)≠_;omega)
        have b3:(((2:Nat):Int)-1).toNat=1:=rfl
        have b7:List.drop (((2:Nat):Int)-1+1).toNat ([0,10,60,62]:List UInt8)=[60,62]:=rfl
        simp -dsimp (disch:=first|omega|(simp only [A5]<;>omega)|fail) only [go_sem,reduceIte,reduceCtorEq,B2,B3,B4,B5,B6,B7,B8,B9,C0,C1,C2,C3,C4,C5,C6,C7,C8,C9,D0,A4,L.D1.r2,e4,b1,b2,b3,Zcs,E2,D9,D6,b7,b4]
      · have b1:bat [0,10,60,62] 2=60:=rfl
        have b2:((((60:UInt8).toNat:Nat):Int) != bat (Zbj r) 2)=true:=Zny (by show (60:Int)≠_;omega)
        have b3:(((3:Nat):Int)-1).toNat=2:=rfl
        have b7:List.drop (((3:Nat):Int)-1+1).toNat ([0,10,60,62]:List UInt8)=[62]:=rfl
        simp -dsimp (disch:=first|omega|(simp only [A5]<;>omega)|fail) only [go_sem,reduceIte,reduceCtorEq,B2,B3,B4,B5,B6,B7,B8,B9,C0,C1,C2,C3,C4,C5,C6,C7,C8,C9,D0,A4,L.D1.r2,e4,b1,b2,b3,Zcs,E2,D9,D6,b7,b5]
      · have b1:bat [0,10,60,62] 3=62:=rfl
        have b2:((((62:UInt8).toNat:Nat):Int) != bat (Zbj r) 3)=true:=Zny (by show (62:Int)≠_;omega)
        have b3:(((4:Nat):Int)-1).toNat=3:=rfl
        have b7:List.drop (((4:Nat):Int)-1+1).toNat ([0,10,60,62]:List UInt8)=[]:=rfl
        simp -dsimp (disch:=first|omega|(simp only [A5]<;>omega)|fail) only [go_sem,reduceIte,reduceCtorEq,B2,B3,B4,B5,B6,B7,B8,B9,C0,C1,C2,C3,C4,C5,C6,C7,C8,C9,D0,A4,L.D1.r2,e4,b1,b2,b3,Zcs,E2,D9,D6,b7,b6]
def Zdb (b:UInt8):Bool:=b==0||(b==10||(b==60||b==62))
theorem Yip:∀ n:Nat,n<256→decide (0≤J1 [0,10,60,62] (UInt8.ofNat n))=Zdb (UInt8.ofNat n):=by decide +kernel
theorem Yiq (b:UInt8):(0≤J1 [0,10,60,62] b)↔Zdb b=true:=by
  have:=Yip b.toNat b.toNat_lt
  rw [UInt8.ofNat_toNat] at this
  rw [←this,decide_eq_true_eq]
theorem Yor:∀ n:Nat,n<256→128≤n→Zdb (UInt8.ofNat n)=false:=by decide +kernel
theorem Ya8 {s:List UInt8} (hs:s.length≤1000000):∀ (m p:Nat),p+m≤s.length→s.length≤p+m→∃ i:Int,((0≤i)↔(s.drop p).any Zdb=true) ∧
    X E0 [.tmp 4] (.c L.B1.x1::.lp [1,45] L.B1.x1::.blk 2::.c L.B1.r2::[]) ⟨[(1,.str [0,10,60,62]),(45,.it (.s 1000000 0) 0)],[(.s 1000000 0,⟨0,true,true,true,[.itr s p]⟩)]⟩=some (.int .i64 i,[]):=by
  intro m
  induction m using Nat.strongRecOn with
  | _ m ih =>
    intro p h1 h2
    rw [G9 L.B1.x1.eq_1]
    by_cases hp:p<s.length
    · have hd:s.drop p=s.getD p 0::s.drop (p+1):=by
        rw [Yr9 hp];simp [hp]
      rcases Zp2 hp with ⟨e1,e2,e3⟩|⟨e1,e2,e3,e4,e5⟩
      · cases hbad:Zdb (s.getD p 0) with
        | true =>
          have h3:=(Yiq (byt (bat s p))).2 (by rw [Zd4];exact hbad)
          refine ⟨p,⟨fun _=>by rw [hd,Ysl,hbad];rfl,fun _=>by omega⟩,?_⟩
          simp -dsimp (disch:=first|omega|(simp only [A5]<;>omega)|fail) only [go_sem,reduceIte,reduceCtorEq,B2,B3,B4,B5,B6,B7,B8,B9,C0,C1,C2,C3,C4,C5,C6,C7,C8,C9,D0,A4,hp,e2,e3,Zkb (R4 s p).1 e1,M0 h3]
        | false =>
          have h3:¬ 0≤J1 [0,10,60,62] (byt (bat s p)):=fun h=>by rw [Yiq,Zd4,hbad] at h;cases h
          obtain ⟨i,h4,h5⟩:=ih (m-1) (by omega) (p+1) (by omega) (by omega)
          refine ⟨i,by rw [h4,hd,Ysl,hbad,Ysj],?_⟩
          rw [←h5]
          simp -dsimp (disch:=first|omega|(simp only [A5]<;>omega)|fail) only [go_sem,reduceIte,reduceCtorEq,B2,B3,B4,B5,B6,B7,B8,B9,C0,C1,C2,C3,C4,C5,C6,C7,C8,C9,D0,A4,hp,e2,e3,Zkb (R4 s p).1 e1,Zba h3]
      · have hw:p+(Zbi s p).2≤s.length:=by
          have:=(e5 (p+(Zbi s p).2-1) (by omega) (by omega)).1
          omega
        obtain ⟨i,h4,h5⟩:=ih (m-(Zbi s p).2) (by omega) (p+(Zbi s p).2) (by omega) (by omega)
        refine ⟨i,?_,?_⟩
        · rw [h4]
          have:∀ w,p+w≤s.length→(∀ j,p≤j→j<p+w→j<s.length∧128≤bat s j)→(s.drop p).any Zdb=(s.drop (p+w)).any Zdb:=by
            intro w
            induction w with
            | zero=>intro _ _;rfl
            | succ w ihw =>
              intro hw1 hw2
              rw [ihw (by omega) (fun j j1 j2=>hw2 j j1 (by omega)),Yr9 (by omega:p+w<s.length),Ysl]
              have hh:=(hw2 (p+w) (by omega) (by omega)).2
              have:Zdb s[p+w]=false:=by
                unfold bat at hh
                rw [List.getD_eq_getElem?_getD,List.getElem?_eq_getElem (by omega),Yre] at hh
                have h9:=Yor s[p+w].toNat (UInt8.toNat_lt _) (by omega)
                rwa [UInt8.ofNat_toNat] at h9
              rw [this,Ysj]
              rfl
          rw [this _ hw e5]
        · rw [←h5]
          have h6:=Zu2 (r:=((Zbi s p).1:Int)) (by omega) (by omega)
          simp -dsimp (disch:=first|omega|(simp only [A5]<;>omega)|fail) only [go_sem,reduceIte,reduceCtorEq,B2,B3,B4,B5,B6,B7,B8,B9,C0,C1,C2,C3,C4,C5,C6,C7,C8,C9,D0,A4,hp,h6]
    · refine ⟨-1,⟨fun h=>by omega,fun h=>by rw [Yr8 (by omega)] at h;simp at h⟩,?_⟩
      simp -dsimp (disch:=first|omega|(simp only [A5]<;>omega)|fail) only [go_sem,reduceIte,reduceCtorEq,B2,B3,B4,B5,B6,B7,B8,B9,C0,C1,C2,C3,C4,C5,C6,C7,C8,C9,D0,A4,hp,L.B1.r2]
def Zh0:List AV:=(List.range 256).map fun i=>.bool (i==0||(i==10||(i==60||i==62)))
theorem Yos:S E0 F.Q4 [.str [0,10,60,62]] []=some (.tup [.agg Zh0,.bool true],[]):=Zec.2 ⟨300,by kernel_rfl⟩
theorem Yir:∀ n:Nat,n<256→Zh0[n]? = some (.bool (Zdb (UInt8.ofNat n))):=by
  intro n hn
  simp only [Zh0,List.getElem?_map,List.getElem?_range hn,Option.map_some,Zdb]
  have:∀ n:Nat,n<256→(n==0||(n==10||(n==60||n==62)))=(UInt8.ofNat n==0||(UInt8.ofNat n==10||(UInt8.ofNat n==60||UInt8.ofNat n==62))):=by decide +kernel
  rw [this n hn]
theorem Zbo:flats Zh0=true:=by kernel_rfl
theorem Zbx:Zh0.length=256:=by simp [Zh0]
theorem Yot {b:Int} (h0:0≤b) (h1:b<256):Zh0[b.toNat]? = some (.bool (Zdb (byt b))):=Yir b.toNat (by omega)
theorem Zqe:leadss Zh0=false:=by kernel_rfl
theorem Zqf:refsOfs Zh0=[]:=by kernel_rfl
theorem Zqg (f:Site→Nat→Option (Site × Nat)):rens f Zh0=Zh0:=rens_flats Zh0 Zbo
theorem Zlf:J9 Zh0=true:=by kernel_rfl
theorem Zkc {x:Site} {b:Int} (h0:0≤b) (h1:b<256):S E0 F.Q5 [.ref (.up x) 0 0,.int .u8 b] [(.up x,⟨0,true,true,true,Zh0⟩)]=some (.bool (Zdb (byt b)),[(.up x,⟨0,true,true,true,Zh0⟩)]):=by
  rw [Zc9 Zjs rfl rfl]
  simp -dsimp (disch:=first|omega|(simp only [A5]<;>omega)|fail) only [L.Q5,go_sem,reduceIte,reduceCtorEq,B2,B3,B4,B5,B6,B7,B8,B9,C0,C1,C2,C3,C4,C5,C6,C7,C8,C9,D0,A4,Zbx,Zbo,Zqe,Zqf,Zqg,Zlf,Yot h0 h1]
theorem Ya9 {s:List UInt8} (hs:s.length≤1000000):∀ (m p:Nat),p+m=s.length→∃ i:Int,((0≤i)↔(s.drop p).any Zdb=true) ∧
    X E0 [.tmp 4] (.c L.B1.x0::.lp [0,6,8] L.B1.x0::.blk 0::.c L.B1.r0::.c L.B1.r1::[]) ⟨[(0,.str s),(6,.ref (.s 1000000 0) 0 0),(8,.int .i64 p)],[(.s 1000000 0,⟨0,true,true,true,Zh0⟩)]⟩=some (.int .i64 i,[]):=by
  intro m
  induction m with
  | zero =>
    intro p h
    refine ⟨-1,⟨fun h=>by omega,fun h=>by rw [Yr8 (by omega)] at h;simp at h⟩,?_⟩
    rw [G9 L.B1.x0.eq_1]
    simp -dsimp (disch:=first|omega|(simp only [A5]<;>omega)|fail) only [go_sem,reduceIte,reduceCtorEq,B2,B3,B4,B5,B6,B7,B8,B9,C0,C1,C2,C3,C4,C5,C6,C7,C8,C9,D0,A4,Zbx,Zbo,Zqe,Zqf,Zqg,Zlf,L.B1.r0]
  | succ m ih =>
    intro p h
    have hp:p<s.length:=by omega
    have hd:s.drop p=s.getD p 0::s.drop (p+1):=by
      rw [Yr9 hp];simp [hp]
    obtain ⟨b0,b1⟩:=R4 s p
    cases hbad:Zdb (s.getD p 0) with
    | true =>
      have h3:Zdb (byt (bat s p))=true:=by rw [Zd4];exact hbad
      refine ⟨p,⟨fun _=>by rw [hd,Ysl,hbad];rfl,fun _=>by omega⟩,?_⟩
      rw [G9 L.B1.x0.eq_1]
      simp -dsimp (disch:=first|omega|(simp only [A5]<;>omega)|fail) only [go_sem,reduceIte,reduceCtorEq,B2,B3,B4,B5,B6,B7,B8,B9,C0,C1,C2,C3,C4,C5,C6,C7,C8,C9,D0,A4,Zbx,Zbo,Zqe,Zqf,Zqg,Zlf,Zkc b0 b1,h3]
    | false =>
      have h3:Zdb (byt (bat s p))=false:=by rw [Zd4];exact hbad
      obtain ⟨i,h4,h5⟩:=ih (p+1) (by omega)
      refine ⟨i,by rw [h4,hd,Ysl,hbad,Ysj],?_⟩
      rw [←h5,G9 L.B1.x0.eq_1]
      simp -dsimp (disch:=first|omega|(simp only [A5]<;>omega)|fail) only [go_sem,reduceIte,reduceCtorEq,B2,B3,B4,B5,B6,B7,B8,B9,C0,C1,C2,C3,C4,C5,C6,C7,C8,C9,D0,A4,Zbx,Zbo,Zqe,Zqf,Zqg,Zlf,Zkc b0 b1,h3]
      rfl
theorem You {s:List UInt8} (hs:s.length≤1000000):∃ i:Int,((0≤i)↔s.any Zdb=true)∧S E0 F.B1 [.str s,.str [0,10,60,62]] []=some (.int .i64 i,[]):=by
  rw [Zc9 Zjo rfl rfl]
  have e0:(([0,10,60,62]:List UInt8) == [])=false:=rfl
  by_cases h8:8<s.length
  · obtain ⟨i,h1,h2⟩:=Ya9 hs s.length 0 (by omega)
    refine ⟨i,by simpa using h1,?_⟩
    rw [←h2]
    have h9:decide (8<(s.length:Int))=true:=by simp;omega
    simp -dsimp (disch:=first|omega|(simp only [A5]<;>omega)|fail) only [L.B1,go_sem,reduceIte,reduceCtorEq,B2,B3,B4,B5,B6,B7,B8,B9,C0,C1,C2,C3,C4,C5,C6,C7,C8,C9,D0,A4,Zbx,Zbo,Zqe,Zqf,Zqg,Zlf,e0,Zur,h9,Yos]
    rfl
  · obtain ⟨i,h1,h2⟩:=Ya8 hs s.length 0 (by omega) (by omega)
    refine ⟨i,by simpa using h1,?_⟩
    rw [←h2]
    have h9:decide (8<(s.length:Int))=false:=by simp;omega
    simp -dsimp (disch:=first|omega|(simp only [A5]<;>omega)|fail) only [L.B1,go_sem,reduceIte,reduceCtorEq,B2,B3,B4,B5,B6,B7,B8,B9,C0,C1,C2,C3,C4,C5,C6,C7,C8,C9,D0,A4,Zbx,Zbo,Zqe,Zqf,Zqg,Zlf,e0,Zur,h9,L.B1.r1]
theorem Zu3 {s:List UInt8} (hs:s.length≤1000000):S E0 F.M1 [.str s,.str [0,10,60,62]] []=some (.bool (s.any Zdb),[]):=by
  rw [Zc9 Zji rfl rfl]
  obtain ⟨i,h1,h2⟩:=You hs
  have h3:decide (0≤i)=s.any Zdb:=by
    cases h:s.any Zdb with
    | true=>simp [h1.2 h]
    | false=>rw [decide_eq_false_iff_not,h1,h];simp
  simp -dsimp (disch:=first|omega|(simp only [A5]<;>omega)|fail) only [L.M1,go_sem,reduceIte,reduceCtorEq,B2,B3,B4,B5,B6,B7,B8,B9,C0,C1,C2,C3,C4,C5,C6,C7,C8,C9,D0,A4,h2,h3]
end Cod
namespace Cod
open Go
theorem Zkd {s:List UInt8} (hs:s.length≤1000000):S E F.M1 [.str s,.str [0,10,60,62]] []=some (.bool (s.any Zdb),[]):=R9 ext0 (Zu3 hs)
theorem Yis (s:List UInt8):s.any Zdb=(s.contains 0||(s.contains 10||(s.contains 60||s.contains 62))):=by
  rw [Bool.eq_iff_iff]
  simp only [List.any_eq_true,Zdb,Bool.or_eq_true,beq_iff_eq,List.contains_iff_mem]
  constructor
  · rintro ⟨b,hb,h|h|h|h⟩<;>subst h<;>simp [hb]
  · rintro (h|h|h|h)
    · exact ⟨_,h,.inl rfl⟩
    · exact ⟨_,h,.inr (.inl rfl)⟩
    · exact ⟨_,h,.inr (.inr (.inl rfl))⟩
    · exact ⟨_,h,.inr (.inr (.inr rfl))⟩
theorem Zqh (s:List UInt8):Y0 s=(decide (s.length≤100) && !s.any Zdb):=by
  unfold Y0
  rw [Yis]
  simp only [Bool.not_or]
theorem Yba {i:Idt}:S E F.F3 [.agg i.cells] []=some (.bool (E6 i),[]):=by
  rw [S_of Ztu rfl rfl]
  unfold E6
  rw [Zqh,Zqh]
  by_cases l0:100<i.name.length
  · simp -dsimp (disch:=first|omega|(simp only [A5]<;>omega)|fail) only [L.F3,L.F3.x0,go_sem,reduceIte,reduceCtorEq,B2,B3,B4,B5,B6,B7,B8,B9,C0,C1,C2,C3,C4,C5,C6,C7,C8,C9,D0,A4,Idt.cells,l0]
  · have h0:=Zkd (s:=i.name) (by omega)
    have l0':i.name.length≤100:=by omega
    cases c0:i.name.any Zdb
    · by_cases l1:100<i.email.length
      · simp -dsimp (disch:=first|omega|(simp only [A5]<;>omega)|fail) only [L.F3,L.F3.x0,go_sem,reduceIte,reduceCtorEq,B2,B3,B4,B5,B6,B7,B8,B9,C0,C1,C2,C3,C4,C5,C6,C7,C8,C9,D0,A4,Idt.cells,l0,l0',l1,h0,c0,Ysv,Ysk]
      · have h1:=Zkd (s:=i.email) (by omega)
        have l1':i.email.length≤100:=by omega
        cases c1:i.email.any Zdb
        · have e1:decide (-1440<i.zone)=decide (-1439≤i.zone):=by rw [decide_eq_decide];omega
          have e2:decide (i.zone<1440)=decide (i.zone≤1439):=by rw [decide_eq_decide];omega
          by_cases t0:0≤i.time
          · by_cases t1:i.time≤1099511627776
            · by_cases z0 : -1439≤i.zone
              · by_cases z1:i.zone≤1439<;>simp -dsimp (disch:=first|omega|(simp only [A5]<;>omega)|fail) only [L.F3,L.F3.x0,L.F3.r0,go_sem,reduceIte,reduceCtorEq,B2,B3,B4,B5,B6,B7,B8,B9,C0,C1,C2,C3,C4,C5,C6,C7,C8,C9,D0,A4,Idt.cells,l0,l0',l1,l1',h0,c0,h1,c1,t0,t1,z0,z1,decide_true,decide_false,Ysb,Yq5,Ysi]
              · simp -dsimp (disch:=first|omega|(simp only [A5]<;>omega)|fail) only [L.F3,L.F3.x0,L.F3.r0,go_sem,reduceIte,reduceCtorEq,B2,B3,B4,B5,B6,B7,B8,B9,C0,C1,C2,C3,C4,C5,C6,C7,C8,C9,D0,A4,Idt.cells,l0,l0',l1,l1',h0,c0,h1,c1,t0,t1,z0,decide_true,decide_false,Ysb,Yq5,Ysi,Ysk]
            · simp -dsimp (disch:=first|omega|(simp only [A5]<;>omega)|fail) only [L.F3,L.F3.x0,L.F3.r0,go_sem,reduceIte,reduceCtorEq,B2,B3,B4,B5,B6,B7,B8,B9,C0,C1,C2,C3,C4,C5,C6,C7,C8,C9,D0,A4,Idt.cells,l0,l0',l1,l1',h0,c0,h1,c1,t0,t1,decide_true,decide_false,Ysb,Yq5,Ysi,Ysk]
          · simp -dsimp (disch:=first|omega|(simp only [A5]<;>omega)|fail) only [L.F3,L.F3.x0,L.F3.r0,go_sem,reduceIte,reduceCtorEq,B2,B3,B4,B5,B6,B7,B8,B9,C0,C1,C2,C3,C4,C5,C6,C7,C8,C9,D0,A4,Idt.cells,l0,l0',l1,l1',h0,c0,h1,c1,t0,decide_true,decide_false,Ysb,Yq5,Ysi,Ysk]
        · simp -dsimp (disch:=first|omega|(simp only [A5]<;>omega)|fail) only [L.F3,L.F3.x0,go_sem,reduceIte,reduceCtorEq,B2,B3,B4,B5,B6,B7,B8,B9,C0,C1,C2,C3,C4,C5,C6,C7,C8,C9,D0,A4,Idt.cells,l0,l0',l1,l1',h0,c0,h1,c1,Ysa,Ysv,Ysk]
    · simp -dsimp (disch:=first|omega|(simp only [A5]<;>omega)|fail) only [L.F3,L.F3.x0,go_sem,reduceIte,reduceCtorEq,B2,B3,B4,B5,B6,B7,B8,B9,C0,C1,C2,C3,C4,C5,C6,C7,C8,C9,D0,A4,Idt.cells,l0,l0',h0,c0,Ysa,Ysv,Ysk]
end Cod
namespace Cod
open Go
theorem Zl8:∀ n:Nat,n<1440→(Lib.itoa (10000+(n:Int)/60*100+(n:Int)%60)).drop 1=two ((n:Int)/60)++two ((n:Int)%60)∧(Lib.itoa (10000+(n:Int)/60*100+(n:Int)%60)).length=5:=by
  intro n hn
  have e:(10000+(n:Int)/60*100+(n:Int)%60)=((10000+n/60*100+n%60:Nat):Int):=by omega
  rw [e]
  have h1:n/60<24:=by omega
  have h2:n%60<60:=by omega
  rw [Lib.itoa_nonneg]
  generalize ha:n/60=a at *
  generalize hb:n%60=b at *
  have d:Lib.decDigits (10000+a*100+b)=[49,UInt8.ofNat (48+a/10),UInt8.ofNat (48+a%10),UInt8.ofNat (48+b/10),UInt8.ofNat (48+b%10)]:=by
    rw [Lib.decDigits,dif_neg (by omega),Lib.decDigits,dif_neg (by omega),Lib.decDigits,dif_neg (by omega),Lib.decDigits,dif_neg (by omega),Lib.decDigits,dif_pos (by omega)]
    rw [show (10000+a*100+b)/10/10/10/10=1 by omega,show (10000+a*100+b)/10/10/10%10=a/10 by omega,show (10000+a*100+b)/10/10%10=a%10 by omega,show (10000+a*100+b)/10%10=b/10 by omega,show (10000+a*100+b)%10=b%10 by omega]
    rfl
  rw [d]
  refine ⟨?_,rfl⟩
  unfold two byt
  rw [show (48+((n:Int)/60)/10).toNat=48+a/10 by omega,show (48+((n:Int)/60)%10).toNat=48+a%10 by omega,show (48+((n:Int)%60)/10).toNat=48+b/10 by omega,show (48+((n:Int)%60)%10).toNat=48+b%10 by omega]
  rfl
theorem idt_0 (i:Idt):i.cells[0]? = some (.str i.name):=rfl
theorem idt_1 (i:Idt):i.cells[1]? = some (.str i.email):=rfl
theorem idt_2 (i:Idt):i.cells[2]? = some (.int .i64 i.time):=rfl
theorem idt_3 (i:Idt):i.cells[3]? = some (.int .i64 i.zone):=rfl
theorem Zha {i:Idt}:S E F.K5 [.agg i.cells] []=some (Z33 i,[]):=by
  have h0:=Yba (i:=i)
  rw [S_of Ztc rfl rfl]
  unfold Z33
  cases h:E6 i
  · simp -dsimp (disch:=first|omega|(simp only [A5,E4]<;>omega)|fail) only [L.K5,go_sem,reduceIte,reduceCtorEq,B2,B3,B4,B5,B6,B7,B8,B9,C0,C1,C2,C3,C4,C5,C6,C7,C8,C9,D0,A4,h0,h,Ysb]
  · obtain ⟨p0,p1,t0,t1,z0,z1⟩:=(R0 i).1 h
    have hi:=Zn2 (n:=i.time) (by omega)
    have hl:=Lib.itoa_length_le i.time (by omega) (by omega)
    have hn:=Zag p0
    have he:=Zag p1
    by_cases hz:i.zone<0
    · obtain ⟨m,hm⟩:∃ m:Nat,-i.zone=m:=⟨(-i.zone).toNat,by omega⟩
      have hj:=Zn2 (n:=10000+(m:Int)/60*100+(m:Int)%60) (by omega)
      obtain ⟨d1,d2⟩:=Zl8 m (by omega)
      have d3:sub (Lib.itoa (10000+(m:Int)/60*100+(m:Int)%60)) 1 4=two ((m:Int)/60)++two ((m:Int)%60):=by
        unfold sub;rw [d1];rfl
      simp -dsimp (disch:=first|omega|(simp only [A5,E4]<;>omega)|fail) only [L.K5,go_sem,reduceIte,reduceCtorEq,B2,B3,B4,B5,B6,B7,B8,B9,C0,C1,C2,C3,C4,C5,C6,C7,C8,C9,D0,A4,h0,h,Ysa,idt_0,idt_1,idt_2,idt_3,hi,hz,Ysw,hm,R8,T9,hj,d2,d3]
      simp only [H7,Zbd,hz,if_true,hm,Yqy,Yp9,Yry]
    · obtain ⟨m,hm⟩:∃ m:Nat,i.zone=m:=⟨i.zone.toNat,by omega⟩
      have hj:=Zn2 (n:=10000+(m:Int)/60*100+(m:Int)%60) (by omega)
      obtain ⟨d1,d2⟩:=Zl8 m (by omega)
      have d3:sub (Lib.itoa (10000+(m:Int)/60*100+(m:Int)%60)) 1 4=two ((m:Int)/60)++two ((m:Int)%60):=by
        unfold sub;rw [d1];rfl
      have hz2:¬ (m:Int)<0:=by omega
      simp -dsimp (disch:=first|omega|(simp only [A5,E4]<;>omega)|fail) only [L.K5,go_sem,reduceIte,reduceCtorEq,B2,B3,B4,B5,B6,B7,B8,B9,C0,C1,C2,C3,C4,C5,C6,C7,C8,C9,D0,A4,h0,h,Ysa,idt_0,idt_1,idt_2,idt_3,hi,hz2,hm,R8,T9,hj,d2,d3]
      simp only [H7,Zbd,hm,hz2,if_false,Yqy,Yp9,Yry]
end Cod

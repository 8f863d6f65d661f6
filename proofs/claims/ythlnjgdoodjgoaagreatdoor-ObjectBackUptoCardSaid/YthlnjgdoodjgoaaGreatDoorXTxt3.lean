/- SHA-256: padding and sums, the program's. -/
import Derived.KernelRfl
import Derived.Lib.ItoaLen
import Derived.Test.YthlnjgdoodjgoaaGreatDoorXTxt2
set_option linter.unusedSimpArgs false
set_option linter.unusedVariables false
open List renaming any_cons → Ypm, append_assoc → Ynz, cons_append → Yna, drop_drop → Yn5, drop_eq_getElem_cons → Ypa, drop_of_length_le → Yo9, drop_zero → Yoq, foldl_cons → Ynl, foldl_nil → Ypu, length_append → Yny, length_cons → Ynn, length_drop → Ynf, length_nil → Yok, length_take → Yne, mem_cons_of_mem → Yob, mem_cons_self → Ypv, nil_append → Yoz
open Nat renaming le_refl → Ym7, sub_zero → Yn8
open Int renaming cast_ofNat_Int → Ypi, natCast_add → Ypo
open Bool renaming and_eq_true → Ynm, and_false → Ypw, and_true → Yn6, false_and → Ypl, false_or → Ypk, not_false → Ypc, not_true → Ypb, true_and → Ypj
open Nat renaming reduceEqDiff → B9, reduceAdd → C0, reduceSub → C1, reduceMul → C2, reduceDiv → C3, reduceMod → C4, reduceBEq → C5, reduceLeDiff → C6, reduceLT → C7
open Int renaming reduceEq → C8, reduceNe → C9, reduceLT → D0, reduceLE → D1, reduceBEq → D2, reduceBNe → D3, reduceToNat → D4, reduceAdd → D5, reduceSub → D6, reduceMul → D7, reduceNeg → A3
namespace Cod
open Go
def h0w:List (BitVec 32):=[0x6a09e667,0xbb67ae85,0x3c6ef372,0xa54ff53a,0x510e527f,0x9b05688c,0x1f83d9ab,0x5be0cd19]
def T5:Nat→List (BitVec 32)→List UInt8→List (BitVec 32)
  | 0,h,_=>h
  | m+1,h,l=>T5 m (Zkb h (l.take 64)) (l.drop 64)
def be8 (v:Nat):List UInt8:=[UInt8.ofNat (v/2^56%256),UInt8.ofNat (v/2^48%256),UInt8.ofNat (v/2^40%256),UInt8.ofNat (v/2^32%256),UInt8.ofNat (v/2^24%256),UInt8.ofNat (v/2^16%256),UInt8.ofNat (v/2^8%256),UInt8.ofNat (v/2^0%256)]
def Zld (n:Nat):List UInt8:=128::(List.replicate ((119-n%64)%64) 0++be8 (8*n))
def Zw2 (h:List (BitVec 32)):List UInt8:=(List.range 32).map fun i=>wb (h.getD (i/4) 0 >>> (24-8*(i%4)))
def Zle (p:List UInt8):List UInt8 :=
  Zw2 (T5 ((p.drop (p.length/64*64)++Zld p.length).length/64) (T5 (p.length/64) h0w p) (p.drop (p.length/64*64)++Zld p.length))
theorem Zi7:∀ (m:Nat) (h:List (BitVec 32)) (l:List UInt8),h.length=8→(T5 m h l).length=8:=by
  intro m
  induction m with
  | zero=>intro h l hh;exact hh
  | succ m ih=>intro h l _;exact ih _ _ (Zbc _ _)
def Zf6 (n:Nat):Nat→Nat→List UInt8→List UInt8
  | 0,_,l=>l
  | m+1,i,l=>Zf6 n m (i+1) (l.set (l.length-1-i) (UInt8.ofNat (8*n/2^(8*i)%256)))
theorem pad_l0 {n:Nat} (hn:n≤1000000000000) (k:List It):∀ (m i:Nat) (l:List UInt8),i+m=8→8≤l.length→l.length≤100 →
    X E [.tmp 2] (.c L.R0.x0::.lp [0,3,16] L.R0.x0::.blk 0::k) ⟨[(0,.int .i64 n),(3,.buf (.s 1000000 0) 0 0 (l).length 1),(16,.int .i64 i)],[(.s 1000000 0,⟨0,true,true,false,A0 l⟩)]⟩=X E [.tmp 2] k ⟨[(0,.int .i64 n),(3,.buf (.s 1000000 0) 0 0 ((Zf6 n m i l)).length 1),(16,.int .i64 8),(17,.bool false)],[(.s 1000000 0,⟨0,true,true,false,A0 (Zf6 n m i l)⟩)]⟩:=by
  intro m
  induction m with
  | zero =>
    intro i l h1 h2 h3
    obtain rfl:i=8:=by omega
    rw [K4 L.R0.x0.eq_1]
    simp -dsimp (disch:=first|omega|(simp only [A4]<;>omega)|fail) only [go_sem,reduceIte,reduceCtorEq,B9,C0,C1,C2,C3,C4,C5,C6,C7,C8,C9,D0,D1,D2,D3,D4,D5,D6,D7,A3,B7,B6,B5,BYs,Zf6,Ypi]
  | succ m ih =>
    intro i l h1 h2 h3
    have e0:((l.length:Int)-1-i).toNat=l.length-1-i:=by omega
    have e1:Zvd .u64 (Zzx .u64 (n:Int) 3) (8*(i:Int))=((8*n/2^(8*i):Nat):Int):=by
      rw [show (8*(i:Int))=((8*i:Nat):Int) by omega,Zv7 (by simp [IntKind.bits];omega),show (3:Int)=((3:Nat):Int) from rfl,Yer (by omega),Int.natCast_ediv,Int.natCast_pow]
      congr 1
      omega
    have e2:((8*n/2^(8*i):Nat):Int)%256=((8*n/2^(8*i)%256:Nat):Int):=by omega
    have e3:(((8*n/2^(8*i)%256:Nat):Int)).toNat=8*n/2^(8*i)%256:=by omega
    rw [K4 L.R0.x0.eq_1]
    simp -dsimp (disch:=first|omega|(simp only [A4]<;>omega)|fail) only [go_sem,reduceIte,reduceCtorEq,B9,C0,C1,C2,C3,C4,C5,C6,C7,C8,C9,D0,D1,D2,D3,D4,D5,D6,D7,A3,B7,B6,B5,BYs,Zf6,e0,e1,e2,e3]
    have:=ih (i+1) (l.set (l.length-1-i) (UInt8.ofNat (8*n/2^(8*i)%256))) (by omega) (by simpa using h2) (by simpa using h3)
    simp only [Ypo,Ypi,List.length_set] at this
    exact this
theorem Z1p (n z:Nat) (a:List UInt8):Zf6 n 8 0 (a++List.replicate 8 0)=a++be8 (8*n):=by
  have key:∀ (i:Nat) (x:UInt8) (t:List UInt8),t.length=8→i<8→(a++t).set ((a++t).length-1-i) x=a++t.set (7-i) x:=by
    intro i x t ht hi
    rw [Yny,ht,List.set_append,if_neg (by omega)]
    congr 2
    omega
  simp only [Zf6]
  rw [key 0 _ _ (by simp) (by omega),key 1 _ _ (by simp) (by omega),key 2 _ _ (by simp) (by omega),key 3 _ _ (by simp) (by omega),key 4 _ _ (by simp) (by omega),key 5 _ _ (by simp) (by omega),key 6 _ _ (by simp) (by omega),key 7 _ _ (by simp) (by omega)]
  rfl
theorem Yfq (m:Nat):rep [AV.int .u8 0] m=A0 (List.replicate m 0):=by
  induction m with
  | zero=>rfl
  | succ m ih=>rw [rep,ih];rfl
theorem go_pad {n:Nat} (h1:n≤1000000000000):S E F.R0 [.int .i64 n] []=some (.buf (.r 0) 0 0 (Zld n).length 1,[(.r 0,⟨0,true,true,false,A0 (Zld n)⟩)]):=by
  have hm3:(1+(119-(n:Int)%64)%64+8).toNat=(119-n%64)%64+9:=by omega
  have hlt:(119-n%64)%64<64:=by omega
  have hr:List.replicate ((119-n%64)%64+9) (0:UInt8)=0::(List.replicate ((119-n%64)%64) 0++List.replicate 8 0):=by
    rw [List.replicate_append_replicate];rfl
  have hn0:¬ (n:Int)<0:=by omega
  generalize hz:(119-n%64)%64=z at *
  have hl:=pad_l0 h1 [.c L.R0.r0] 8 0 (128::(List.replicate z 0++List.replicate 8 0)) (by omega) (by simp) (by simp;omega)
  have hp:Zf6 n 8 0 (128::(List.replicate z 0++List.replicate 8 0))=Zld n:=by
    have:=Z1p n z (128::List.replicate z 0)
    rw [Yna] at this
    rw [this,Zld,hz];rfl
  rw [hp] at hl
  have hlen:(Zld n).length=z+9:=by rw [Zld,hz];simp [be8]
  simp only [Ypi] at hl
  rw [S_of Z0z rfl rfl]
  simp -dsimp (disch:=first|omega|(simp only [A4]<;>omega)|fail) only [L.R0,go_sem,reduceIte,reduceCtorEq,B9,C0,C1,C2,C3,C4,C5,C6,C7,C8,C9,D0,D1,D2,D3,D4,D5,D6,D7,A3,B7,B6,B5,BYs,hn0,hm3,Yfq,hr,List.set_cons_zero,Int.toNat_zero,UInt8.reduceOfNat]
  have hb:(128::(List.replicate z 0++List.replicate 8 (0:UInt8))).length=z+9:=by simp
  rw [hb] at hl
  rw [hl]
  simp -dsimp (disch:=first|omega|(simp only [A4]<;>omega)|fail) only [L.R0.r0,go_sem,reduceIte,reduceCtorEq,B9,C0,C1,C2,C3,C4,C5,C6,C7,C8,C9,D0,D1,D2,D3,D4,D5,D6,D7,A3,B7,B6,B5,BYs,hlen]
theorem sum_l0 {p:List UInt8} (k:List It):∀ (m:Nat) (r:List UInt8) (n:Nat) (h:List (BitVec 32)),n=r.length→n/64=m→n≤1000000000000→h.length=8 →
    X E [.cell 2 (some 32)] (.c L.F5.x0::.lp [0,2,3,4] L.F5.x0::.blk 0::k) ⟨[(0,.lst (A0 p) p.length),(2,.ref (.s 1000000 0) 0 0),(3,.ref (.s 1000000 1) 0 0),(4,.lst (A0 r) n)],[(.s 1000000 0,⟨0,true,true,true,A0 (List.replicate 32 0)⟩),(.s 1000000 1,⟨0,true,true,true,F1 h⟩)]⟩ =
    X E [.cell 2 (some 32)] k ⟨[(0,.lst (A0 p) p.length),(2,.ref (.s 1000000 0) 0 0),(3,.ref (.s 1000000 1) 0 0),(4,.lst (A0 (r.drop (64*m))) (n-64*m)),(13,.bool false)],[(.s 1000000 0,⟨0,true,true,true,A0 (List.replicate 32 0)⟩),(.s 1000000 1,⟨0,true,true,true,F1 (T5 m h r)⟩)]⟩:=by
  intro m
  induction m with
  | zero =>
    intro r n h h1 h2 h3 h4
    rw [K4 L.F5.x0.eq_1]
    simp -dsimp (disch:=first|omega|(simp only [A4]<;>omega)|fail) only [go_sem,reduceIte,reduceCtorEq,B9,C0,C1,C2,C3,C4,C5,C6,C7,C8,C9,D0,D1,D2,D3,D4,D5,D6,D7,A3,B7,B6,B5,BYs,WDs,T5,Yoq,Yn8,Nat.mul_zero]
  | succ m ih =>
    intro r n h h1 h2 h3 h4
    have hb:(r.take 64).length=64:=by rw [Yne];omega
    have hbl:=Zbc h (r.take 64)
    rw [K4 L.F5.x0.eq_1]
    simp -dsimp (disch:=first|omega|(simp only [A4]<;>omega)|fail) only [go_sem,reduceIte,reduceCtorEq,B9,C0,C1,C2,C3,C4,C5,C6,C7,C8,C9,D0,D1,D2,D3,D4,D5,D6,D7,A3,B7,B6,B5,BYs,WDs,T5,Zw1 h4 hb]
    have:=ih (r.drop 64) (n-64) (Zkb h (r.take 64)) (by simp [h1]) (by omega) (by omega) (Zbc _ _)
    rw [Yn5,show 64+64*m=64*(m+1) by omega,show n-64-64*m=n-64*(m+1) by omega] at this
    exact this
theorem sum_l1 {full:List UInt8} (hf:full.length≤1000000000100) (k:List It):∀ (m off n:Nat) (h:List (BitVec 32)),off+n=full.length→n/64=m→h.length=8 →
    X E [.cell 2 (some 32)] (.c L.F5.x1::.lp [2,3,4] L.F5.x1::.blk 2::k) ⟨[(2,.ref (.s 1000000 0) 0 0),(3,.ref (.s 1000000 1) 0 0),(4,.buf (.s 1000000 2) 0 off n 1)],[(.s 1000000 0,⟨0,true,true,true,A0 (List.replicate 32 0)⟩),(.s 1000000 1,⟨0,true,true,true,F1 h⟩),(.s 1000000 2,⟨0,true,true,false,A0 full⟩)]⟩ =
    X E [.cell 2 (some 32)] k ⟨[(2,.ref (.s 1000000 0) 0 0),(3,.ref (.s 1000000 1) 0 0),(4,.buf (.s 1000000 2) 0 (off+64*m) (n-64*m) 1),(29,.bool false)],[(.s 1000000 0,⟨0,true,true,true,A0 (List.replicate 32 0)⟩),(.s 1000000 1,⟨0,true,true,true,F1 (T5 m h (full.drop off))⟩),(.s 1000000 2,⟨0,true,true,false,A0 full⟩)]⟩:=by
  intro m
  induction m with
  | zero =>
    intro off n h h1 h2 h4
    rw [K4 L.F5.x1.eq_1]
    simp -dsimp (disch:=first|omega|(simp only [A4]<;>omega)|fail) only [go_sem,reduceIte,reduceCtorEq,B9,C0,C1,C2,C3,C4,C5,C6,C7,C8,C9,D0,D1,D2,D3,D4,D5,D6,D7,A3,B7,B6,B5,BYs,WDs,T5,Yoq,Yn8,Nat.mul_zero]
  | succ m ih =>
    intro off n h h1 h2 h4
    have hb:((full.drop off).take 64).length=64:=by rw [Yne,Ynf];omega
    have hbl:=Zbc h ((full.drop off).take 64)
    have hs:sub full off 64=(full.drop off).take 64:=rfl
    rw [K4 L.F5.x1.eq_1]
    simp -dsimp (disch:=first|omega|(simp only [A4]<;>omega)|fail) only [go_sem,reduceIte,reduceCtorEq,B9,C0,C1,C2,C3,C4,C5,C6,C7,C8,C9,D0,D1,D2,D3,D4,D5,D6,D7,A3,B7,B6,B5,BYs,WDs,T5,hs,Zw1 h4 hb]
    have:=ih (off+64) (n-64) (Zkb h ((full.drop off).take 64)) (by omega) (by omega) (Zbc _ _)
    rw [show off+64+64*m=off+64*(m+1) by omega,show n-64-64*m=n-64*(m+1) by omega,←Yn5] at this
    exact this
def Zf7 (x:BitVec 32) (i:Nat):Nat→Nat→List UInt8→List UInt8
  | 0,_,l=>l
  | m+1,j,l=>Zf7 x i m (j+1) (l.set (4*i+j) (wb (x >>> (24-8*j))))
def Zo3 (h:List (BitVec 32)):Nat→Nat→List UInt8→List UInt8
  | 0,_,l=>l
  | m+1,i,l=>Zo3 h m (i+1) (Zf7 (h.getD i 0) i 4 0 l)
theorem Zs2 (x:BitVec 32) (i:Nat):∀ m j l,(Zf7 x i m j l).length=l.length:=by
  intro m
  induction m with
  | zero=>intro j l;rfl
  | succ m ih=>intro j l;simp [Zf7,ih]
theorem sum_l3 {h:List (BitVec 32)} {x:BitVec 32} {i:Nat} (hi:i<8) (k:List It):∀ (m j:Nat) (l:List UInt8),j+m=4→l.length=32 →
    X E [.cell 2 (some 32)] (.c L.F5.x3::.lp [2,5,6,7,37,38,42] L.F5.x3::.blk 6::k) ⟨[(2,.ref (.s 1000000 0) 0 0),(5,.ref (.s 1000000 1) 0 0),(6,.int .i64 i),(7,W x),(37,.agg (F1 h)),(38,.int .i64 i),(42,.int .i64 j)],[(.s 1000000 0,⟨0,true,true,true,A0 (List.replicate 32 0)⟩),(.s 1000000 1,⟨0,true,true,true,A0 l⟩)]⟩ =
    X E [.cell 2 (some 32)] k ⟨[(2,.ref (.s 1000000 0) 0 0),(5,.ref (.s 1000000 1) 0 0),(6,.int .i64 i),(7,W x),(37,.agg (F1 h)),(38,.int .i64 i),(42,.int .i64 4),(43,.bool false)],[(.s 1000000 0,⟨0,true,true,true,A0 (List.replicate 32 0)⟩),(.s 1000000 1,⟨0,true,true,true,A0 (Zf7 x i m j l)⟩)]⟩:=by
  intro m
  induction m with
  | zero =>
    intro j l h1 h2
    obtain rfl:j=4:=by omega
    rw [K4 L.F5.x3.eq_1]
    simp -dsimp (disch:=first|omega|(simp only [A4]<;>omega)|fail) only [go_sem,reduceIte,reduceCtorEq,B9,C0,C1,C2,C3,C4,C5,C6,C7,C8,C9,D0,D1,D2,D3,D4,D5,D6,D7,A3,B7,B6,B5,BYs,WDs,Zf7,Ypi]
  | succ m ih =>
    intro j l h1 h2
    have e0:(4*(i:Int)+j).toNat=4*i+j:=by omega
    have e1:(24-8*(j:Int)).toNat=24-8*j:=by omega
    have hw:=(wb (x >>> (24-8*j))).toNat_lt
    have e2:UInt8.ofNat (wb (x >>> (24-8*j))).toNat=wb (x >>> (24-8*j)):=UInt8.ofNat_toNat
    rw [K4 L.F5.x3.eq_1]
    simp -dsimp (disch:=first|omega|(simp only [A4]<;>omega)|fail) only [go_sem,reduceIte,reduceCtorEq,B9,C0,C1,C2,C3,C4,C5,C6,C7,C8,C9,D0,D1,D2,D3,D4,D5,D6,D7,A3,B7,B6,B5,BYs,WDs,Zf7,e0,e1,e2]
    have:=ih (j+1) (l.set (4*i+j) (wb (x >>> (24-8*j)))) (by omega) (by simpa using h2)
    simp only [Ypo,Ypi] at this
    exact this
theorem sum_l2 {h:List (BitVec 32)} (hh:h.length=8) (k:List It):∀ (m i:Nat) (l:List UInt8),i+m=8→l.length=32 →
    X E [.cell 2 (some 32)] (.c L.F5.x2::.lp [2,5,37,38] L.F5.x2::.blk 4::k) ⟨[(2,.ref (.s 1000000 0) 0 0),(5,.ref (.s 1000000 1) 0 0),(37,.agg (F1 h)),(38,.int .i64 i)],[(.s 1000000 0,⟨0,true,true,true,A0 (List.replicate 32 0)⟩),(.s 1000000 1,⟨0,true,true,true,A0 l⟩)]⟩ =
    X E [.cell 2 (some 32)] k ⟨[(2,.ref (.s 1000000 0) 0 0),(5,.ref (.s 1000000 1) 0 0),(37,.agg (F1 h)),(38,.int .i64 8),(39,.bool false)],[(.s 1000000 0,⟨0,true,true,true,A0 (List.replicate 32 0)⟩),(.s 1000000 1,⟨0,true,true,true,A0 (Zo3 h m i l)⟩)]⟩:=by
  intro m
  induction m with
  | zero =>
    intro i l h1 h2
    obtain rfl:i=8:=by omega
    rw [K4 L.F5.x2.eq_1]
    simp -dsimp (disch:=first|omega|(simp only [A4]<;>omega)|fail) only [go_sem,reduceIte,reduceCtorEq,B9,C0,C1,C2,C3,C4,C5,C6,C7,C8,C9,D0,D1,D2,D3,D4,D5,D6,D7,A3,B7,B6,B5,BYs,WDs,Zo3,Ypi]
  | succ m ih =>
    intro i l h1 h2
    rw [K4 L.F5.x2.eq_1]
    simp -dsimp (disch:=first|omega|(simp only [A4]<;>omega)|fail) only [go_sem,reduceIte,reduceCtorEq,B9,C0,C1,C2,C3,C4,C5,C6,C7,C8,C9,D0,D1,D2,D3,D4,D5,D6,D7,A3,B7,B6,B5,BYs,WDs,Zo3]
    have h3:=sum_l3 (h:=h) (x:=h.getD i 0) (i:=i) (by omega) (.blk 5::.c L.F5.r2::.lp [2,5,37,38] L.F5.x2::.blk 4::k) 4 0 l (by omega) h2
    simp only [Ypi] at h3
    rw [h3]
    simp -dsimp (disch:=first|omega|(simp only [A4]<;>omega)|fail) only [L.F5.r2,go_sem,reduceIte,reduceCtorEq,B9,C0,C1,C2,C3,C4,C5,C6,C7,C8,C9,D0,D1,D2,D3,D4,D5,D6,D7,A3,B7,B6,B5,BYs,WDs]
    have:=ih (i+1) (Zf7 (h.getD i 0) i 4 0 l) (by omega) (by rw [Zs2];exact h2)
    simp only [Ypo,Ypi] at this
    exact this
theorem Yfr {h:List (BitVec 32)} (hh:h.length=8):Zo3 h 8 0 (List.replicate 32 0)=Zw2 h:=by
  match h,hh with
  | [a,b,c,d,e,f,g,i],_ =>
    show Zo3 [a,b,c,d,e,f,g,i] 8 0 (List.replicate 32 0)=Zw2 [a,b,c,d,e,f,g,i]
    kernel_rfl
theorem Yll {sl loc:List (Nat × AV)}:Zay (evR E sl loc) [(0,1,.k (.int .u32 1779033703)),(1,1,.k (.int .u32 3144134277)),(2,1,.k (.int .u32 1013904242)),(3,1,.k (.int .u32 2773480762)),(4,1,.k (.int .u32 1359893119)),(5,1,.k (.int .u32 2600822924)),(6,1,.k (.int .u32 528734635)),(7,1,.k (.int .u32 1541459225))] (some (F1 (List.replicate 8 0)))=some (F1 h0w):=by kernel_rfl
theorem Yfs {p:List UInt8} (hp:p.length≤1000000000000):S E F.F5 [.lst (A0 p) p.length] []=some (.agg (A0 (Zle p)),[]):=by
  have hh0:h0w.length=8:=rfl
  have hbl:=Zi7 (p.length/64) h0w p hh0
  have hpl:(Zld p.length).length≤100:=by rw [Zld];simp [be8];omega
  rw [S_of Z0y rfl rfl]
  simp -dsimp (disch:=first|omega|(simp only [A4]<;>omega)|fail) only [↓Yll,L.F5,go_sem,reduceIte,reduceCtorEq,B9,C0,C1,C2,C3,C4,C5,C6,C7,C8,C9,D0,D1,D2,D3,D4,D5,D6,D7,A3,B7,B6,B5,WDs,BYs]
  rw [sum_l0 (p:=p) [.c L.F5.r0] (p.length/64) p p.length h0w rfl rfl hp hh0]
  simp -dsimp (disch:=first|omega|(simp only [A4]<;>omega)|fail) only [L.F5.r0,go_sem,reduceIte,reduceCtorEq,B9,C0,C1,C2,C3,C4,C5,C6,C7,C8,C9,D0,D1,D2,D3,D4,D5,D6,D7,A3,B7,B6,B5,WDs,BYs,Ykv,go_pad hp]
  generalize hfull:p.drop (64*(p.length/64))++Zld p.length=full
  have hfl:full.length=p.length-64*(p.length/64)+(Zld p.length).length:=by rw [←hfull];simp
  have:=sum_l1 (full:=full) (by omega) [.c L.F5.r1] (full.length/64) 0 full.length (T5 (p.length/64) h0w p) (by omega) rfl hbl
  simp only [Nat.zero_add,Yoq] at this
  rw [←hfl,this]
  clear this
  have hbl2:=Zi7 (full.length/64) (T5 (p.length/64) h0w p) full hbl
  simp -dsimp (disch:=first|omega|(simp only [A4]<;>omega)|fail) only [L.F5.r1,go_sem,reduceIte,reduceCtorEq,B9,C0,C1,C2,C3,C4,C5,C6,C7,C8,C9,D0,D1,D2,D3,D4,D5,D6,D7,A3,B7,B6,B5,WDs,BYs]
  have:=sum_l2 hbl2 [.c L.F5.r3] 8 0 (List.replicate 32 0) (by omega) (by simp)
  simp only [Ypi] at this
  rw [this,Yfr hbl2]
  clear this
  have hid:(Zw2 (T5 (full.length/64) (T5 (p.length/64) h0w p) full)).length=32:=by simp [Zw2]
  have hsha:Zle p=Zw2 (T5 (full.length/64) (T5 (p.length/64) h0w p) full):=by
    rw [Zle,show p.length/64*64=64*(p.length/64) by omega,hfull]
  rw [hsha]
  simp -dsimp (disch:=first|omega|(simp only [A4]<;>omega)|fail) only [L.F5.r3,go_sem,reduceIte,reduceCtorEq,B9,C0,C1,C2,C3,C4,C5,C6,C7,C8,C9,D0,D1,D2,D3,D4,D5,D6,D7,A3,B7,B6,B5,WDs,BYs]
end Cod
namespace Cod
open Go
def V9 (k:Int):List UInt8:=if k=1 then [99,111,109,109,105,116] else if k=2 then [116,114,101,101] else if k=3 then [98,108,111,98] else if k=4 then [116,97,103] else []
theorem Zgw (k:Int):(V9 k).length≤6:=by unfold V9;split<;>(try split)<;>(try split)<;>(try split)<;>simp
theorem Ze6 {k:Int}:S E F.I3 [.int .i64 k] []=some (.str (V9 k),[]):=by
  rw [S_of Zrg rfl rfl]
  unfold V9
  by_cases a:k=1
  · simp -dsimp (disch:=first|omega|(simp only [A4,A8]<;>omega)|fail) only [L.I3,go_sem,reduceIte,reduceCtorEq,B9,C0,C1,C2,C3,C4,C5,C6,C7,C8,C9,D0,D1,D2,D3,D4,D5,D6,D7,A3,a]
  · by_cases b:k=2
    · simp -dsimp (disch:=first|omega|(simp only [A4,A8]<;>omega)|fail) only [L.I3,go_sem,reduceIte,reduceCtorEq,B9,C0,C1,C2,C3,C4,C5,C6,C7,C8,C9,D0,D1,D2,D3,D4,D5,D6,D7,A3,a,b]
    · by_cases c:k=3
      · simp -dsimp (disch:=first|omega|(simp only [A4,A8]<;>omega)|fail) only [L.I3,go_sem,reduceIte,reduceCtorEq,B9,C0,C1,C2,C3,C4,C5,C6,C7,C8,C9,D0,D1,D2,D3,D4,D5,D6,D7,A3,a,b,c]
      · by_cases d:k=4
        · simp -dsimp (disch:=first|omega|(simp only [A4,A8]<;>omega)|fail) only [L.I3,go_sem,reduceIte,reduceCtorEq,B9,C0,C1,C2,C3,C4,C5,C6,C7,C8,C9,D0,D1,D2,D3,D4,D5,D6,D7,A3,a,b,c,d]
        · simp -dsimp (disch:=first|omega|(simp only [A4,A8]<;>omega)|fail) only [L.I3,go_sem,reduceIte,reduceCtorEq,B9,C0,C1,C2,C3,C4,C5,C6,C7,C8,C9,D0,D1,D2,D3,D4,D5,D6,D7,A3,a,b,c,d]
theorem Zkc {a b:Int}:S E F.E8 [.lst [.int .i64 a,.int .i64 b] 2] []=some (.int .i64 (Zcz [a,b]),[]):=Zi5 (l:=[a,b]) (by simp)
def Zs3 (k n:Int):List UInt8:=V9 k++[32]++Lib.itoa n++[0]
def Zm5 (n:Int):Int:=if (decide (n<0)||decide (1048576<n))=true then 1 else 0
def Zb6 (k:Int):Int:=if (V9 k == [])=true then 9 else 0
def Z1q (k n:Int):Int:=Zcz [Zm5 n,Zb6 k]
def hdrV (k n:Int):AV:=if Z1q k n=0 then .tup [.str (Zs3 k n),.int .i64 0] else .tup [.str [],.int .i64 (Z1q k n)]
theorem Yft {k n:Int} (h1 : -9223372036854775808≤n) (h2:n≤9223372036854775807):(Zs3 k n).length≤40:=by
  have:=Lib.itoa_length_le n h1 h2
  have:=Zgw k
  unfold Zs3
  simp only [Yny,Ynn,Yok]
  omega
theorem Z8f {k n:Int} (h1 : -9223372036854775808≤n) (h2:n≤9223372036854775807):S E F.N0 [.int .i64 k,.int .i64 n] []=some (hdrV k n,[]):=by
  have hi:=Zsp (n:=n) ⟨h1,h2⟩
  have hl:=Lib.itoa_length_le n h1 h2
  have hw:=Zgw k
  rw [S_of Zq7 rfl rfl]
  unfold hdrV
  have w2:S E F.E2 [.bool (V9 k == []),.int .i64 9] []=some (.int .i64 (Zb6 k),[]):=Q2
  have hd:S E F.E8 [.lst [.int .i64 (Zm5 n),.int .i64 (Zb6 k)] 2] []=some (.int .i64 (Z1q k n),[]):=Zkc
  by_cases a:n<0
  · have w1:S E F.E2 [.bool true,.int .i64 1] []=some (.int .i64 (Zm5 n),[]):=by
      rw [Q2,Zm5,decide_eq_true a,Bool.true_or]
    by_cases e:Z1q k n=0
    · simp -dsimp (disch:=first|omega|(simp only [A4,A8]<;>omega)|fail) only [L.N0,go_sem,reduceIte,reduceCtorEq,B9,C0,C1,C2,C3,C4,C5,C6,C7,C8,C9,D0,D1,D2,D3,D4,D5,D6,D7,A3,Ze6,a,w1,w2,hd,e,hi]
      rfl
    · simp -dsimp (disch:=first|omega|(simp only [A4,A8]<;>omega)|fail) only [L.N0,go_sem,reduceIte,reduceCtorEq,B9,C0,C1,C2,C3,C4,C5,C6,C7,C8,C9,D0,D1,D2,D3,D4,D5,D6,D7,A3,Ze6,a,w1,w2,hd,e,hi]
  · have w1:S E F.E2 [.bool (decide (1048576<n)),.int .i64 1] []=some (.int .i64 (Zm5 n),[]):=by
      rw [Q2,Zm5,decide_eq_false a,Ypk]
    by_cases e:Z1q k n=0
    · simp -dsimp (disch:=first|omega|(simp only [A4,A8]<;>omega)|fail) only [L.N0,go_sem,reduceIte,reduceCtorEq,B9,C0,C1,C2,C3,C4,C5,C6,C7,C8,C9,D0,D1,D2,D3,D4,D5,D6,D7,A3,Ze6,a,w1,w2,hd,e,hi]
      rfl
    · simp -dsimp (disch:=first|omega|(simp only [A4,A8]<;>omega)|fail) only [L.N0,go_sem,reduceIte,reduceCtorEq,B9,C0,C1,C2,C3,C4,C5,C6,C7,C8,C9,D0,D1,D2,D3,D4,D5,D6,D7,A3,Ze6,a,w1,w2,hd,e,hi]
def Zm6 (k:Int) (n:Nat):Int:=Zcz [if (decide (1048576<n))=true then 2 else 0,Zb6 k]
def Zo4 (n:Nat):Int:=if (decide (1048576<(n:Int)))=true then 2 else 0
theorem Z30 (k:Int) (n:Nat):Zm6 k n=Zcz [Zo4 n,Zb6 k]:=by
  unfold Zm6 Zo4
  rw [show decide (1048576<(n:Int))=decide (1048576<n) from decide_eq_decide.2 (by omega)]
theorem Zw3 {k:Int} {p:List UInt8} {n:Nat} (hn:n=p.length) (hp:p.length≤1000000000000):S E F.P3 [.agg [.int .i64 k,.lst (A0 p) n]] []=some (.int .i64 (Zm6 k p.length),[]):=by
  subst hn
  have w1:S E F.E2 [.bool (decide (1048576<(p.length:Int))),.int .i64 2] []=some (.int .i64 (Zo4 p.length),[]):=Q2
  have w2:S E F.E2 [.bool (V9 k == []),.int .i64 9] []=some (.int .i64 (Zb6 k),[]):=Q2
  have hd:S E F.E8 [.lst [.int .i64 (Zo4 p.length),.int .i64 (Zb6 k)] 2] []=some (.int .i64 (Zm6 k p.length),[]):=by rw [Z30];exact Zkc
  rw [S_of Zrj rfl rfl]
  simp -dsimp (disch:=first|omega|(simp only [A4,A8]<;>omega)|fail) only [L.P3,go_sem,reduceIte,reduceCtorEq,B9,C0,C1,C2,C3,C4,C5,C6,C7,C8,C9,D0,D1,D2,D3,D4,D5,D6,D7,A3,BYs,Ze6,w1,w2,hd]
end Cod
namespace Cod
open Go
theorem Z8g (n:Nat):rep [.int .u8 0] n=A0 (List.replicate n 0):=by
  induction n with
  | zero=>rfl
  | succ n ih=>rw [rep,ih,List.replicate_succ];rfl
theorem Zm7 {t:Site} {sz bytes m:Nat} {vs:List AV} {u:Ups} {ss:List Site}:Zhy t sz bytes m vs u ss .nils=if m*bytes≤140737488355328 then Zcb t vs m sz u else .fail:=rfl
theorem Zm8 {t:Site} {sz bytes:Nat} {zero:List AV} {s:AV} {m:Int}:Zn0 t sz bytes zero s (.int .i64 m)=if 0≤m∧m≤140737488355328 then Zhy t sz bytes m.toNat (rep zero m.toNat) [] [] s else .fail:=rfl
theorem Yfu {n:Nat} (h0:0<n) (hn:n≤4000000):S E F.S2 [.nils,.int .i64 n] [] =
    some (.buf (.r 0) 0 0 0 1,[(.r 0,⟨0,true,true,false,A0 (List.replicate n 0)⟩)]):=by
  rw [S_of Zru rfl rfl]
  simp -dsimp (disch:=first|omega|(simp only [A4,A8]<;>omega)|fail) only [L.S2,go_sem,reduceIte,reduceCtorEq,B9,C0,C1,C2,C3,C4,C5,C6,C7,C8,C9,D0,D1,D2,D3,D4,D5,D6,D7,A3,BYs,Int.sub_zero,Z8g,Zm7,Zm8]
theorem Ylm (l:List UInt8):sub l 0 0=[]:=by simp [sub]
theorem Z8h {l:List UInt8} {n:Nat} (h:n=l.length):sub l 0 n=l:=by simp [sub,h]
theorem Z1r {a b:List UInt8} (h0:0<a.length) (ha:a.length≤1000000) (hb:b.length≤2000000) :
    S E F.G5 [.lst [.lst (A0 a) a.length,.lst (A0 b) b.length] 2] [] =
    some (.buf (.r 0) 0 0 (a++b).length 1,[(.r 0,⟨0,true,true,false,A0 (a++b)⟩)]):=by
  have hg:=Yfu (n:=a.length+b.length) (by omega) (by omega)
  have e1:(0+(a.length:Int)+b.length)=((a.length+b.length:Nat):Int):=by omega
  rw [S_of Zrk rfl rfl]
  simp -dsimp (disch:=first|omega|(simp only [A4,A8]<;>omega)|fail) only [L.G5,L.G5.x0,go_sem,reduceIte,reduceCtorEq,B9,C0,C1,C2,C3,C4,C5,C6,C7,C8,C9,D0,D1,D2,D3,D4,D5,D6,D7,A3,BYs]
  rw [e1]
  simp -dsimp (disch:=first|omega|(simp only [A4,A8]<;>omega)|fail) only [L.G5.r0,L.G5.x1,L.G5.r1,go_sem,reduceIte,reduceCtorEq,B9,C0,C1,C2,C3,C4,C5,C6,C7,C8,C9,D0,D1,D2,D3,D4,D5,D6,D7,A3,BYs,hg,Zm7,Zm8,Ylm,Nat.zero_mul,Nat.zero_add,Z8h,Yoz]
  rw [Yny]
theorem Zs4 {a:List UInt8} {n:Nat} (hn:n=a.length) (h:a.length≤1000000000000):S E F.T0 [.lst (A0 a) n] []=some (.buf (.r 0) 0 0 n 1,[(.r 0,⟨0,true,true,false,A0 a⟩)]):=by
  rw [S_of Zqy rfl rfl]
  simp -dsimp (disch:=first|omega|(simp only [A4,A8]<;>omega)|fail) only [L.T0,go_sem,reduceIte,reduceCtorEq,B9,C0,C1,C2,C3,C4,C5,C6,C7,C8,C9,D0,D1,D2,D3,D4,D5,D6,D7,A3,BYs]
def idF (k:Int) (p:List UInt8):List UInt8:=if Zm6 k p.length=0 then Zle (Zs3 k p.length++p) else List.replicate 32 0
def idV (k:Int) (p:List UInt8):AV:=.tup [.agg (A0 (idF k p)),.int .i64 (Zm6 k p.length)]
theorem Z1s {k:Int} {n:Nat} (h:Zm6 k n=0):Z1q k n=0∧n≤1048576:=by
  unfold Zm6 Z1q Zm5 at *
  unfold Zcz at *
  simp only [Ynl,Ypu,Zlc] at *
  have:n≤1048576:=by
    by_cases h1:1048576<n
    · exfalso
      rw [decide_eq_true h1] at h
      generalize Zb6 k=w at h
      simp only [if_true] at h
      by_cases a:w=0<;>by_cases b:w<2<;>simp [a,b] at h
    · omega
  refine ⟨?_,this⟩
  rw [decide_eq_false (by omega:¬ 1048576<n)] at h
  rw [decide_eq_false (by omega:¬ (n:Int)<0),decide_eq_false (by omega:¬ 1048576<(n:Int))]
  generalize Zb6 k=w at h
  simpa using h
theorem Yfv (k n:Int):0<(Zs3 k n).length:=by unfold Zs3;simp only [Yny,Ynn,Yok];omega
theorem go_oid {k:Int} {p:List UInt8} {n:Nat} (hn:n=p.length) (hp:p.length≤1000000000000):S E F.T7 [.agg [.int .i64 k,.lst (A0 p) n]] []=some (idV k p,[]):=by
  subst hn
  have h1:=Zw3 (k:=k) (p:=p) rfl hp
  have h2:=Z8f (k:=k) (n:=p.length) (by omega) (by omega)
  rw [S_of Zq8 rfl rfl]
  unfold idV idF
  by_cases e:Zm6 k p.length=0
  · obtain ⟨e1,e2⟩:=Z1s e
    unfold hdrV at h2
    rw [if_pos e1] at h2
    have hl:=Yft (k:=k) (n:=p.length) (by omega) (by omega)
    have h0:=Yfv k p.length
    generalize Zs3 k p.length=t at *
    have h3:=Z1r (a:=t) (b:=p) h0 (by omega) (by omega)
    have h4:=Yfs (p:=t++p) (by rw [Yny];omega)
    have hs:(Zle (t++p)).length=32:=by unfold Zle;simp [Zw2]
    simp -dsimp (disch:=first|omega|(simp only [A4,A8]<;>omega)|fail) only [L.T7,go_sem,reduceIte,reduceCtorEq,B9,C0,C1,C2,C3,C4,C5,C6,C7,C8,C9,D0,D1,D2,D3,D4,D5,D6,D7,A3,BYs,h1,e,h2,h3,h4]
  · simp -dsimp (disch:=first|omega|(simp only [A4,A8]<;>omega)|fail) only [L.T7,go_sem,reduceIte,reduceCtorEq,B9,C0,C1,C2,C3,C4,C5,C6,C7,C8,C9,D0,D1,D2,D3,D4,D5,D6,D7,A3,BYs,h1,e,List.length_replicate]
end Cod
namespace Cod
open Go
end Cod
namespace Cod
open Go
def two (n:Int):List UInt8:=[byt (48+n/10),byt (48+n%10)]
theorem N3 (n:Int):(two n).length=2:=rfl
structure Idt where
  name:List UInt8
  email:List UInt8
  time:Int
  zone:Int
def Idt.cells (i:Idt):List AV:=[.str i.name,.str i.email,.int .i64 i.time,.int .i64 i.zone]
theorem Yln (i:Idt):sub i.cells 0 4=i.cells:=rfl
theorem Z8i (i:Idt):flats i.cells=true:=rfl
theorem Ylo (i:Idt):i.cells.length=4:=rfl
theorem Yfw (f:Site→Nat→Option (Site × Nat)) (i:Idt):rens f i.cells=i.cells:=rens_flats _ rfl
theorem Yfx (i:Idt):refsOfs i.cells=[]:=rfl
theorem Z8j (i:Idt):I7 i.cells=true:=rfl
theorem Z8k (i:Idt):leadss i.cells=false:=rfl
attribute [go_sem] Yln Z8i Ylo Yfw Yfx Z8j Z8k
def Zbw (s:List UInt8):Bool:=decide (s.length≤100)&&(!s.contains 0&&(!s.contains 10&&(!s.contains 60 && !s.contains 62)))
def F8 (i:Idt):Bool:=Zbw i.name&&(Zbw i.email&&(decide (0≤i.time)&&(decide (i.time≤1099511627776)&&(decide (-1439≤i.zone)&&decide (i.zone≤1439)))))
theorem Z8l {n:Int} (h0:0≤n) (h1:n<256):((byt n).toNat:Int)=n:=by
  have:=Zll h0 h1
  simp only [AV.int.injEq,true_and] at this
  exact this.symm
def Zbd (z:Int):List UInt8:=(if z<0 then 45 else 43)::(two ((if z<0 then -z else z)/60)++two ((if z<0 then -z else z)%60))
def I5 (i:Idt):List UInt8:=i.name++[32,60]++i.email++[62,32]++Lib.itoa i.time++[32]++Zbd i.zone
theorem U2 (i:Idt):F8 i=true↔Zbw i.name=true∧Zbw i.email=true∧0≤i.time∧i.time≤1099511627776 ∧ -1439≤i.zone∧i.zone≤1439:=by
  unfold F8;simp only [Ynm,decide_eq_true_eq]
theorem Zc5 {s:List UInt8} (h:Zbw s=true):s.length≤100:=by
  unfold Zbw at h;simp only [Ynm,decide_eq_true_eq] at h;exact h.1
def Zw4 (i:Idt):AV:=if F8 i=true then .tup [.str (I5 i),.int .i64 0] else .tup [.str [],.int .i64 3]
end Cod
namespace Cod
open Go
def numL:List UInt8→Int→Int
  | [],v=>v
  | c::r,v=>if c.toNat<48∨57<c.toNat then -1 else numL r (10*v+(c.toNat-48))
def numF (s:List UInt8):Int:=if s=[]∨13<s.length then -1 else numL s 0
end Cod
namespace Cod
open Go
def Zef (s t:List UInt8):Bool:=decide (t.length≤s.length)&&(s.drop (s.length-t.length)==t)
theorem Zo5 {s t:List UInt8} (hs:s.length≤1000000000000) (ht:t.length≤1000000000000):S E F.S6 [.str s,.str t] []=some (.bool (Zef s t),[]):=by
  have h0:S E F.Q0 [.str s,.str t] []=some (.bool (Zef s t),[]):=by
    rw [S_of Zsb rfl rfl]
    unfold Zef
    by_cases h:t.length≤s.length
    · have e1:sub s (((s.length:Int)-t.length).toNat) (s.length-((s.length:Int)-t.length).toNat)=s.drop (s.length-t.length):=by
        rw [show ((s.length:Int)-t.length).toNat=s.length-t.length by omega]
        unfold sub;exact List.take_of_length_le (by rw [Ynf];exact Ym7 _)
      simp -dsimp (disch:=first|omega|(simp only [A4]<;>omega)|fail) only [L.Q0,go_sem,reduceIte,reduceCtorEq,B9,C0,C1,C2,C3,C4,C5,C6,C7,C8,C9,D0,D1,D2,D3,D4,D5,D6,D7,A3,h,decide_true,Ypj]
      rw [e1]
    · simp -dsimp (disch:=first|omega|(simp only [A4]<;>omega)|fail) only [L.Q0,go_sem,reduceIte,reduceCtorEq,B9,C0,C1,C2,C3,C4,C5,C6,C7,C8,C9,D0,D1,D2,D3,D4,D5,D6,D7,A3,h,decide_false,Ypl]
  rw [S_of Zr9 rfl rfl]
  simp -dsimp (disch:=first|omega|(simp only [A4]<;>omega)|fail) only [L.S6,go_sem,reduceIte,reduceCtorEq,B9,C0,C1,C2,C3,C4,C5,C6,C7,C8,C9,D0,D1,D2,D3,D4,D5,D6,D7,A3,h0]
def Zar (s:List UInt8) (c:UInt8):Nat→Int
  | 0 => -1
  | n+1=>if s.getD n 0=c then (n:Int) else Zar s c n
theorem Ylp {s:List UInt8} {c:UInt8} (hs:s.length≤1000000000000):∀ n:Nat,n≤s.length →
    X E [.tmp 4] (.c L.H3.x0::.lp [0,1,5] L.H3.x0::.blk 0::[.c L.H3.r0]) ⟨[(0,.str s),(1,.int .u8 c.toNat),(5,.int .i64 ((n:Int)-1))],[]⟩=some (.int .i64 (Zar s c n),[]):=by
  intro n
  induction n with
  | zero =>
    intro h
    rw [K4 L.H3.x0.eq_1,Zar]
    simp -dsimp (disch:=first|omega|(simp only [A4]<;>omega)|fail) only [go_sem,reduceIte,reduceCtorEq,B9,C0,C1,C2,C3,C4,C5,C6,C7,C8,C9,D0,D1,D2,D3,D4,D5,D6,D7,A3,L.H3.r0]
  | succ n ih =>
    intro h
    have h1:=ih (by omega)
    rw [K4 L.H3.x0.eq_1,Zar]
    have e:((n+1:Nat):Int)-1=n:=by omega
    rw [e]
    by_cases hc:s.getD n 0=c
    · have hb:(bat s n==(c.toNat:Int))=true:=by rw [←hc];exact Zos rfl
      rw [if_pos hc]
      simp -dsimp (disch:=first|omega|(simp only [A4]<;>omega)|fail) only [go_sem,reduceIte,reduceCtorEq,B9,C0,C1,C2,C3,C4,C5,C6,C7,C8,C9,D0,D1,D2,D3,D4,D5,D6,D7,A3,hb]
    · have hb:(bat s n==(c.toNat:Int))=false:=Zd9 (fun h=>hc (UInt8.toNat_inj.1 (by unfold bat at h;omega)))
      rw [if_neg hc,←h1]
      simp -dsimp (disch:=first|omega|(simp only [A4]<;>omega)|fail) only [go_sem,reduceIte,reduceCtorEq,B9,C0,C1,C2,C3,C4,C5,C6,C7,C8,C9,D0,D1,D2,D3,D4,D5,D6,D7,A3,hb]
theorem Yfy {s:List UInt8} {c:UInt8} (hs:s.length≤1000000000000):S E F.P9 [.str s,.int .u8 c.toNat] []=some (.int .i64 (Zar s c s.length),[]):=by
  have h0:S E F.H3 [.str s,.int .u8 c.toNat] []=some (.int .i64 (Zar s c s.length),[]):=by
    rw [S_of Zsa rfl rfl]
    simp -dsimp (disch:=first|omega|(simp only [A4]<;>omega)|fail) only [L.H3,go_sem,reduceIte,reduceCtorEq,B9,C0,C1,C2,C3,C4,C5,C6,C7,C8,C9,D0,D1,D2,D3,D4,D5,D6,D7,A3,Ylp hs s.length (Ym7 _)]
  rw [S_of Zr8 rfl rfl]
  simp -dsimp (disch:=first|omega|(simp only [A4]<;>omega)|fail) only [L.P9,go_sem,reduceIte,reduceCtorEq,B9,C0,C1,C2,C3,C4,C5,C6,C7,C8,C9,D0,D1,D2,D3,D4,D5,D6,D7,A3,h0]
end Cod
namespace Cod
open Go
theorem Zk4 (s:List UInt8) (c:UInt8):∀ n,Zar s c n = -1∨∃ i:Nat,Zar s c n=i∧i<n∧s.getD i 0=c:=by
  intro n
  induction n with
  | zero=>left;rfl
  | succ n ih =>
    unfold Zar
    split
    · rename_i h
      right;exact ⟨n,rfl,by omega,h⟩
    · rcases ih with ih|⟨i,h1,h2,h3⟩
      · left;exact ih
      · right;exact ⟨i,h1,by omega,h3⟩
theorem tn1 (i:Nat):((i:Int)+1).toNat=i+1:=by omega
theorem tn2 (i:Nat):((i:Int)+2).toNat=i+2:=by omega
theorem Zbq {s:List UInt8} (hs:s.length≤1000000000000):S E F.P9 [.str s,.int .u8 32] []=some (.int .i64 (Zar s 32 s.length),[]):=Yfy (c:=32) hs
theorem cut_a {s:List UInt8} (hs:s.length≤1000000000000) (h:Zar s 32 s.length = -1):S E F.G1 [.str s] []=some (.tup [.agg [.str [],.str [],.str [],.str []],.bool false],[]):=by
  have hl:=Zbq hs
  have hk:=Zsr (s:=s) (t:=[32,60]) (by omega)
  rw [h] at hl
  rw [S_of Zcu rfl rfl]
  simp -dsimp (disch:=first|omega|(simp only [A4]<;>omega)|fail) only [L.G1,L.G1.x0,go_sem,reduceIte,reduceCtorEq,B9,C0,C1,C2,C3,C4,C5,C6,C7,C8,C9,D0,D1,D2,D3,D4,D5,D6,D7,A3,tn1,tn2,Yn8,hl,hk]
  simp -dsimp (disch:=first|omega|(simp only [A4]<;>omega)|fail) only [L.G1.r0,go_sem,reduceIte,reduceCtorEq,B9,C0,C1,C2,C3,C4,C5,C6,C7,C8,C9,D0,D1,D2,D3,D4,D5,D6,D7,A3]
theorem cut_b {s z r:List UInt8} {i:Nat} (hs:s.length≤1000000000000) (h:Zar s 32 s.length=i) (hi:i<s.length) (hr:sub s 0 i=r) (hz:sub s (i+1) (s.length-(i+1))=z) (h1:Zar r 32 r.length = -1):S E F.G1 [.str s] []=some (.tup [.agg [.str [],.str [],.str [],.str z],.bool false],[]):=by
  have hl:=Zbq hs
  have hrl:r.length≤1000000000000:=by rw [←hr];unfold sub;rw [Yne,Ynf];omega
  have hl1:=Zbq hrl
  have hk:=Zsr (s:=r) (t:=[32,60]) (by omega)
  rw [h] at hl
  rw [h1] at hl1
  rw [S_of Zcu rfl rfl]
  simp -dsimp (disch:=first|omega|(simp only [A4]<;>omega)|fail) only [L.G1,L.G1.x0,go_sem,reduceIte,reduceCtorEq,B9,C0,C1,C2,C3,C4,C5,C6,C7,C8,C9,D0,D1,D2,D3,D4,D5,D6,D7,A3,tn1,tn2,Yn8,hl,hl1,hk,hr,hz]
  simp -dsimp (disch:=first|omega|(simp only [A4]<;>omega)|fail) only [L.G1.r0,go_sem,reduceIte,reduceCtorEq,B9,C0,C1,C2,C3,C4,C5,C6,C7,C8,C9,D0,D1,D2,D3,D4,D5,D6,D7,A3]
set_option maxRecDepth 4000 in
theorem cut_c {s z r t q:List UInt8} {i j:Nat} (hs:s.length≤1000000000000) (h:Zar s 32 s.length=i) (hi:i<s.length) (hr:sub s 0 i=r) (hz:sub s (i+1) (s.length-(i+1))=z) (h1:Zar r 32 r.length=j) (hj:j<r.length) (hq:sub r 0 j=q) (ht:sub r (j+1) (r.length-(j+1))=t)
    (h2:Lib.lastIndex q [32,60]<0∨Zef q [62]=false):S E F.G1 [.str s] []=some (.tup [.agg [.str [],.str [],.str t,.str z],.bool false],[]):=by
  have hl:=Zbq hs
  have hrl:r.length≤1000000000000:=by rw [←hr];unfold sub;rw [Yne,Ynf];omega
  have hql:q.length≤1000000000000:=by rw [←hq];unfold sub;rw [Yne,Ynf];omega
  have hl1:=Zbq hrl
  have hk:=Zsr (s:=q) (t:=[32,60]) (by omega)
  have hf:=Zo5 (s:=q) (t:=[62]) hql (by decide)
  rw [h] at hl
  rw [h1] at hl1
  rw [S_of Zcu rfl rfl]
  by_cases h3:Lib.lastIndex q [32,60]<0
  · simp -dsimp (disch:=first|omega|(simp only [A4]<;>omega)|fail) only [L.G1,L.G1.x0,go_sem,reduceIte,reduceCtorEq,B9,C0,C1,C2,C3,C4,C5,C6,C7,C8,C9,D0,D1,D2,D3,D4,D5,D6,D7,A3,tn1,tn2,Yn8,hl,hl1,hk,hr,hz,hq,ht,h3]
    simp -dsimp (disch:=first|omega|(simp only [A4]<;>omega)|fail) only [L.G1.r0,go_sem,reduceIte,reduceCtorEq,B9,C0,C1,C2,C3,C4,C5,C6,C7,C8,C9,D0,D1,D2,D3,D4,D5,D6,D7,A3]
  · have h4:Zef q [62]=false:=by rcases h2 with h2|h2;exact absurd h2 h3;exact h2
    rw [h4] at hf
    simp -dsimp (disch:=first|omega|(simp only [A4]<;>omega)|fail) only [L.G1,L.G1.x0,go_sem,reduceIte,reduceCtorEq,B9,C0,C1,C2,C3,C4,C5,C6,C7,C8,C9,D0,D1,D2,D3,D4,D5,D6,D7,A3,tn1,tn2,Yn8,hl,hl1,hk,hf,hr,hz,hq,ht,h3]
    simp -dsimp (disch:=first|omega|(simp only [A4]<;>omega)|fail) only [L.G1.r0,go_sem,reduceIte,reduceCtorEq,B9,C0,C1,C2,C3,C4,C5,C6,C7,C8,C9,D0,D1,D2,D3,D4,D5,D6,D7,A3]
set_option maxRecDepth 4000 in
theorem cut_d {s z r t q:List UInt8} {i j k:Nat} (hs:s.length≤1000000000000) (h:Zar s 32 s.length=i) (hi:i<s.length) (hr:sub s 0 i=r) (hz:sub s (i+1) (s.length-(i+1))=z) (h1:Zar r 32 r.length=j) (hj:j<r.length) (hq:sub r 0 j=q) (ht:sub r (j+1) (r.length-(j+1))=t)
    (h2:Lib.lastIndex q [32,60]=k) (hk2:k+2<q.length) (h4:Zef q [62]=true):S E F.G1 [.str s] []=some (.tup [.agg [.str (sub q 0 k),.str (sub q (k+2) (q.length-1-(k+2))),.str t,.str z],.bool true],[]):=by
  have hl:=Zbq hs
  have hrl:r.length≤1000000000000:=by rw [←hr];unfold sub;rw [Yne,Ynf];omega
  have hql:q.length≤1000000000000:=by rw [←hq];unfold sub;rw [Yne,Ynf];omega
  have hl1:=Zbq hrl
  have hk:=Zsr (s:=q) (t:=[32,60]) (by omega)
  have hf:=Zo5 (s:=q) (t:=[62]) hql (by decide)
  rw [h] at hl
  rw [h1] at hl1
  rw [h4] at hf
  rw [h2] at hk
  rw [S_of Zcu rfl rfl]
  have e:((q.length:Int)-1).toNat=q.length-1:=by omega
  simp -dsimp (disch:=first|omega|(simp only [A4]<;>omega)|fail) only [L.G1,L.G1.x0,go_sem,reduceIte,reduceCtorEq,B9,C0,C1,C2,C3,C4,C5,C6,C7,C8,C9,D0,D1,D2,D3,D4,D5,D6,D7,A3,tn1,tn2,Yn8,hl,hl1,hk,hf,hr,hz,hq,ht,e]
  simp -dsimp (disch:=first|omega|(simp only [A4]<;>omega)|fail) only [L.G1.r0,go_sem,reduceIte,reduceCtorEq,B9,C0,C1,C2,C3,C4,C5,C6,C7,C8,C9,D0,D1,D2,D3,D4,D5,D6,D7,A3]
end Cod
namespace Cod
open Go
def Zbe (c:UInt8):Prop:=48≤c.toNat∧c.toNat≤57
def dstep (acc:Nat) (c:UInt8):Nat:=acc*10+(c.toNat-48)
def dv (acc:Nat) (l:List UInt8):Nat:=l.foldl dstep acc
theorem Zm9 (acc:Nat):dv acc []=acc:=by unfold dv;rw [Ypu]
theorem Zdu (acc:Nat) (c:UInt8) (r:List UInt8):dv acc (c::r)=dv (acc*10+(c.toNat-48)) r:=by unfold dv;rw [Ynl,dstep]
theorem Ylq (c:UInt8):∀ (l:List UInt8) (acc:Nat),dv acc (l++[c])=dv acc l*10+(c.toNat-48):=by
  intro l
  induction l with
  | nil=>intro acc;rw [Yoz,Zdu,Zm9,Zm9]
  | cons a l ih=>intro acc;rw [Yna,Zdu,Zdu,ih]
theorem dv_ge (l:List UInt8):∀ acc,acc≤dv acc l:=by
  induction l with
  | nil=>intro acc;exact Ym7 _
  | cons a l ih=>intro acc;have:=ih (acc*10+(a.toNat-48));rw [Zdu];omega
theorem Zo6 (n:Nat) (h:n<10):Zbe (UInt8.ofNat (48+n))∧(UInt8.ofNat (48+n)).toNat-48=n:=by
  have:(UInt8.ofNat (48+n)).toNat=48+n:=by simp;omega
  unfold Zbe
  omega
theorem Zs5:∀ (k u:Nat),u<k→(∀ c∈Lib.decDigits u,Zbe c)∧dv 0 (Lib.decDigits u)=u∧Lib.decDigits u≠[]:=by
  intro k
  induction k with
  | zero=>intro u h;omega
  | succ k ih =>
    intro u h
    rw [Lib.decDigits]
    split
    · rename_i h0
      obtain ⟨h1,h2⟩:=Zo6 u h0
      refine ⟨?_,?_,by simp⟩
      · intro c hc;rw [List.mem_singleton.1 hc];exact h1
      · simp only [Zm9,Zdu,h2];omega
    · rename_i h0
      obtain ⟨h1,h2⟩:=Zo6 (u%10) (by omega)
      obtain ⟨i1,i2,i3⟩:=ih (u/10) (by omega)
      refine ⟨?_,?_,by simp⟩
      · intro c hc
        rcases List.mem_append.1 hc with hc|hc
        · exact i1 c hc
        · rw [List.mem_singleton.1 hc];exact h1
      · rw [Ylq,i2,h2];omega
theorem Z8m:∀ (l:List UInt8) (acc:Nat),(∀ c∈l,Zbe c)→dv acc l<1000000000000000000→Lib.parseUint10 acc l=.ok (dv acc l):=by
  intro l
  induction l with
  | nil=>intro acc _ _;rfl
  | cons c r ih =>
    intro acc hd hl
    have hc:=hd c Ypv
    simp only [Zm9,Zdu] at hl ⊢
    have hg:=dv_ge r (acc*10+(c.toNat-48))
    unfold Lib.parseUint10
    rw [if_pos (show 48≤c.toNat∧c.toNat≤57 from hc),if_neg (by omega),if_neg (by omega)]
    exact ih _ (fun c hc=>hd c (Yob _ hc)) hl
theorem Zw5 {l:List UInt8} (h0:l≠[]) (hd:∀ c∈l,Zbe c) (hl:dv 0 l<1000000000000000000):Lib.atoiAll l=.ok (dv 0 l):=by
  cases l with
  | nil=>exact absurd rfl h0
  | cons c r =>
    have hc:=hd c Ypv
    unfold Zbe at hc
    unfold Lib.atoiAll
    have e:¬ (c.toNat=43∨c.toNat=45):=by omega
    have e2:¬ c.toNat=45:=by omega
    have hp:Lib.parseMag (c::r)=.ok (dv 0 (c::r)):=by unfold Lib.parseMag;rw [if_neg h0,Z8m (c::r) 0 hd hl]
    generalize dv 0 (c::r)=d at *
    simp only [if_neg e,hp,if_neg e2]
    rw [if_neg (fun h=>by omega),if_neg (fun h=>e2 h.1)]
theorem Ylr:∀ (l:List UInt8) (acc:Nat),(∀ c∈l,Zbe c)→numL l acc=dv acc l:=by
  intro l
  induction l with
  | nil=>intro acc _;rfl
  | cons c r ih =>
    intro acc hd
    have hc:=hd c Ypv
    unfold Zbe at hc
    have e:((acc*10+(c.toNat-48):Nat):Int)=10*(acc:Int)+((c.toNat:Int)-48):=by omega
    simp only [numL,Zdu]
    rw [if_neg (by omega),←ih _ (fun c hc=>hd c (Yob _ hc)),e]
theorem Zw6 {l:List UInt8} (h0:l≠[]) (h1:l.length≤13) (hd:∀ c∈l,Zbe c):numF l=dv 0 l:=by
  unfold numF
  rw [if_neg (by simp [h0];omega)]
  exact Ylr l 0 hd
theorem Zlp (n:Int) (h0:0≤n) (h1:n<10):Zbe (byt (48+n))∧(((byt (48+n)).toNat-48:Nat):Int)=n:=by
  have:=Z8l (n:=48+n) (by omega) (by omega)
  unfold Zbe
  omega
theorem Z31 {a b:Int} (ha0:0≤a) (ha1:a<100) (hb0:0≤b) (hb1:b<100):(∀ c∈two a++two b,Zbe c)∧(dv 0 (two a++two b):Int)=a*100+b:=by
  obtain ⟨p1,p2⟩:=Zlp (a/10) (by omega) (by omega)
  obtain ⟨q1,q2⟩:=Zlp (a%10) (by omega) (by omega)
  obtain ⟨r1,r2⟩:=Zlp (b/10) (by omega) (by omega)
  obtain ⟨s1,s2⟩:=Zlp (b%10) (by omega) (by omega)
  constructor
  · intro c hc
    simp only [two,Yna,Yoz,List.mem_cons,List.not_mem_nil,or_false] at hc
    rcases hc with hc|hc|hc|hc<;>rw [hc]<;>assumption
  · simp only [two,Yna,Yoz,Zm9,Zdu]
    omega
theorem Zs6 {l:List UInt8} (hd:∀ c∈l,Zbe c) {x:UInt8} (hx:¬ Zbe x):x∉l:=fun h=>hx (hd x h)
theorem Zi8 {t:Int} (h0:0≤t):(∀ c∈Lib.itoa t,Zbe c)∧(dv 0 (Lib.itoa t):Int)=t∧Lib.itoa t≠[]:=by
  obtain ⟨u,rfl⟩:∃ u:Nat,t=u:=⟨t.toNat,by omega⟩
  rw [Lib.itoa_nonneg]
  obtain ⟨h1,h2,h3⟩:=Zs5 (u+1) u (by omega)
  exact ⟨h1,by rw [h2],h3⟩
theorem Yfz (s:List UInt8) (c:UInt8) (k:Nat) (hk:s.getD k 0=c):∀ n,k<n→(∀ j,k<j→j<n→s.getD j 0≠c)→Zar s c n=k:=by
  intro n
  induction n with
  | zero=>intro h;omega
  | succ n ih =>
    intro h hj
    unfold Zar
    by_cases hn:n=k
    · rw [hn,if_pos hk]
    · rw [if_neg (hj n (by omega) (by omega))]
      exact ih (by omega) (fun j h1 h2=>hj j h1 (by omega))
theorem Zo7 {a v:List UInt8} {c:UInt8} (h:c∉v):Zar (a++c::v) c (a++c::v).length=a.length:=by
  apply Yfz
  · simp [List.getD]
  · simp
  · intro j h1 h2 h3
    apply h
    rw [Yny,Ynn] at h2
    rw [List.getD_eq_getElem?_getD,List.getElem?_append_right (by omega),show j-a.length=(j-a.length-1)+1 by omega,List.getElem?_cons_succ,List.getElem?_eq_getElem (by omega)] at h3
    rw [←h3]
    exact List.getElem_mem _
theorem occ2 (q:List UInt8) (i:Nat):Lib.occAt q [32,60] i=true↔q[i]? = some 32∧q[i+1]? = some 60:=by
  unfold Lib.occAt
  have e0:q[i]? = (q.drop i)[0]? := by rw [List.getElem?_drop];rfl
  have e1:q[i+1]? = (q.drop i)[1]? := by rw [List.getElem?_drop]
  rw [e0,e1]
  generalize q.drop i=l
  cases l with
  | nil=>simp [List.isPrefixOf]
  | cons a l=>cases l with
    | nil=>simp [List.isPrefixOf]
    | cons b l=>simp [List.isPrefixOf];constructor<;>rintro ⟨rfl,rfl⟩<;>exact ⟨rfl,rfl⟩
theorem Yf0 {a b:List UInt8} (h:60∉b):Lib.lastIndex (a++[32,60]++b) [32,60]=a.length:=by
  unfold Lib.lastIndex
  rw [if_pos (by simp only [Yny,Ynn,Yok];omega)]
  have hocc:Lib.occAt (a++[32,60]++b) [32,60] a.length=true:=by
    rw [occ2]
    constructor<;>simp
  rcases Lib.lastOcc_spec (a++[32,60]++b) [32,60] ((a++[32,60]++b).length - [(32:UInt8),60].length+1) with ⟨_,hn⟩|⟨i,h1,h2,h3,h4⟩
  · have:=hn a.length (by simp only [Yny,Ynn,Yok];omega)
    rw [hocc] at this;cases this
  · rw [h2]
    by_cases hlt:i<a.length
    · have:=h4 a.length hlt (by simp only [Yny,Ynn,Yok];omega)
      rw [hocc] at this;cases this
    · by_cases he:i=a.length
      · rw [he]
      · exfalso
        rw [occ2] at h3
        apply h
        have h5:=h3.2
        rw [Ynz,List.getElem?_append_right (by omega),List.getElem?_append_right (by simp;omega)] at h5
        exact List.mem_of_getElem? h5
theorem ends1 (q:List UInt8) (c:UInt8):Zef q [c]=true↔q≠[]∧q[q.length-1]? = some c:=by
  unfold Zef
  simp only [Ynn,Yok,Ynm,decide_eq_true_eq,beq_iff_eq]
  cases q with
  | nil=>simp
  | cons a q =>
    simp only [Ynn,ne_eq,reduceCtorEq,not_false_eq_true,true_and]
    have e:(a::q)[q.length+1-1]? = ((a::q).drop (q.length+1-(0+1)))[0]? := by rw [List.getElem?_drop];rfl
    rw [e]
    have hl:((a::q).drop (q.length+1-(0+1))).length=1:=by rw [Ynf,Ynn];omega
    generalize (a::q).drop (q.length+1-(0+1))=l at *
    cases l with
    | nil=>simp at hl
    | cons x l=>cases l with
      | nil=>simp
      | cons y l=>simp at hl
theorem Z8n {q:List UInt8} {k:Nat} (h:Lib.lastIndex q [32,60]=k) (he:Zef q [62]=true):k+2<q.length:=by
  unfold Lib.lastIndex at h
  split at h
  · rcases Lib.lastOcc_spec q [32,60] (q.length - [(32:UInt8),60].length+1) with ⟨h1,_⟩|⟨i,h1,h2,h3,_⟩
    · rw [h1] at h;omega
    · rw [h2] at h
      obtain rfl:i=k:=by omega
      obtain ⟨_,e2⟩:=(ends1 q 62).1 he
      obtain ⟨_,e1⟩:=(occ2 q i).1 h3
      have hlt:i+1<q.length:=(List.getElem?_eq_some_iff.1 e1).1
      by_cases hx:i+1=q.length-1
      · rw [hx,e2] at e1;cases e1
      · omega
  · omega
theorem Z1t (q:List UInt8):Lib.lastIndex q [32,60]<0∨∃ k:Nat,Lib.lastIndex q [32,60]=k:=by
  by_cases h:Lib.lastIndex q [32,60]<0
  · left;exact h
  · right;exact ⟨(Lib.lastIndex q [32,60]).toNat,by omega⟩
end Cod
namespace Cod
open Go
set_option maxRecDepth 100000
theorem Z8o {r:Int} (h0:128≤r) (h1:r≤1114111):2≤(X4 r).length∧(X4 r).length≤4∧128≤bat (X4 r) ((X4 r).length-1):=by
  unfold X4 Utf8.encode Utf8.runeError
  simp only []
  generalize hc:(if Utf8.valid r=true then r.toNat else 65533)=c
  have hc0:128≤c:=by
    rw [←hc];split
    · omega
    · omega
  rw [if_neg (by omega)]
  split
  · refine ⟨by simp,by simp,?_⟩
    simp [bat]
    omega
  · split
    · refine ⟨by simp,by simp,?_⟩
      simp [bat]
      omega
    · refine ⟨by simp,by simp,?_⟩
      simp [bat]
      omega
theorem Zs7:S E0 F.A7 [.str [0,10,60,62],.int .i32 65533] []=some (.int .i64 (-1),[]):=Zby.2 ⟨300,by kernel_rfl⟩
theorem Zi9 {r:Int} (h0:0≤r) (h1:r<128):S E0 F.A7 [.str [0,10,60,62],.int .i32 r] []=some (.int .i64 (G6 [0,10,60,62] (byt r)),[]):=by
  rw [Zab Z3 rfl rfl]
  have h2:IntKind.u8.wrap r=r:=by rw [Zew];omega
  simp -dsimp (disch:=first|omega|(simp only [A4]<;>omega)|fail) only [L.A7,go_sem,reduceIte,reduceCtorEq,B9,C0,C1,C2,C3,C4,C5,C6,C7,C8,C9,D0,D1,D2,D3,D4,D5,D6,D7,A3,J1 h0,J1 h1,h2,Z6]
theorem Zs8 {r:Int} (h0:128≤r) (h1:r≤1114111):S E0 F.A7 [.str [0,10,60,62],.int .i32 r] []=some (.int .i64 (-1),[]):=by
  by_cases he:r=65533
  · subst he;exact Zs7
  · have h2:¬ r<128:=by omega
    have h3:(0:Int)≤r:=by omega
    rw [Zab Z3 rfl rfl]
    have hvv:S E0 F.J0 [.int .i32 r] []=some (.bool (decide (r<55296)||decide (57343<r)),[]):=by rw [Zm3 h0,J1 h1,Yn6]
    cases hv:(decide (r<55296)||decide (57343<r)) with
    | false=>simp -dsimp (disch:=first|omega|(simp only [A4]<;>omega)|fail) only [L.A7,go_sem,reduceIte,reduceCtorEq,B9,C0,C1,C2,C3,C4,C5,C6,C7,C8,C9,D0,D1,D2,D3,D4,D5,D6,D7,A3,J1 h3,X2 h2,Zd9 he,hvv,hv]
    | true =>
      obtain ⟨e1,e2,e3⟩:=Z8o h0 h1
      simp -dsimp (disch:=first|omega|(simp only [A4]<;>omega)|fail) only [L.A7,go_sem,reduceIte,reduceCtorEq,B9,C0,C1,C2,C3,C4,C5,C6,C7,C8,C9,D0,D1,D2,D3,D4,D5,D6,D7,A3,J1 h3,X2 h2,Zd9 he,hvv,hv]
      rw [K4 L.A7.x1.eq_1]
      have hb:=T8 (X4 r) ((X4 r).length-1)
      have hno:∀ l:List UInt8,(∀ c∈l,c.toNat<128)→G6 l (byt (bat (X4 r) ((X4 r).length-1))) = -1:=by
        intro l hl
        unfold G6
        rw [if_neg]
        intro hm
        have:=hl _ hm
        have h5:((byt (bat (X4 r) ((X4 r).length-1))).toNat:Int)=bat (X4 r) ((X4 r).length-1):=by
          have:=Zll hb.1 hb.2
          simp only [AV.int.injEq,true_and] at this
          exact this.symm
        omega
      have b4:=hno [60,62] (by simp)
      have b5:=hno [62] (by simp)
      have b6:=hno [] (by simp)
      have hk:(X4 r).length=2∨(X4 r).length=3∨(X4 r).length=4:=by omega
      rcases hk with e4|e4|e4<;>rw [e4] at e3 b4 b5 b6<;>simp only [Nat.reduceSub] at e3 b4 b5 b6
      · have b1:bat [0,10,60,62] 1=10:=rfl
        have b2:((((10:UInt8).toNat:Nat):Int) != bat (X4 r) 1)=true:=Zot (by show (10:Int)≠_;omega)
        have b3:(((2:Nat):Int)-1).toNat=1:=rfl
        have b7:List.drop (((2:Nat):Int)-1+1).toNat ([0,10,60,62]:List UInt8)=[60,62]:=rfl
        simp -dsimp (disch:=first|omega|(simp only [A4]<;>omega)|fail) only [go_sem,reduceIte,reduceCtorEq,B9,C0,C1,C2,C3,C4,C5,C6,C7,C8,C9,D0,D1,D2,D3,D4,D5,D6,D7,A3,L.A7.r2,e4,b1,b2,b3,Z6,B7,B6,B5,b7,b4]
      · have b1:bat [0,10,60,62] 2=60:=rfl
        have b2:((((60:UInt8).toNat:Nat):Int) != bat (X4 r) 2)=true:=Zot (by show (60:Int)≠_;omega)
        have b3:(((3:Nat):Int)-1).toNat=2:=rfl
        have b7:List.drop (((3:Nat):Int)-1+1).toNat ([0,10,60,62]:List UInt8)=[62]:=rfl
        simp -dsimp (disch:=first|omega|(simp only [A4]<;>omega)|fail) only [go_sem,reduceIte,reduceCtorEq,B9,C0,C1,C2,C3,C4,C5,C6,C7,C8,C9,D0,D1,D2,D3,D4,D5,D6,D7,A3,L.A7.r2,e4,b1,b2,b3,Z6,B7,B6,B5,b7,b5]
      · have b1:bat [0,10,60,62] 3=62:=rfl
        have b2:((((62:UInt8).toNat:Nat):Int) != bat (X4 r) 3)=true:=Zot (by show (62:Int)≠_;omega)
        have b3:(((4:Nat):Int)-1).toNat=3:=rfl
        have b7:List.drop (((4:Nat):Int)-1+1).toNat ([0,10,60,62]:List UInt8)=[]:=rfl
        simp -dsimp (disch:=first|omega|(simp only [A4]<;>omega)|fail) only [go_sem,reduceIte,reduceCtorEq,B9,C0,C1,C2,C3,C4,C5,C6,C7,C8,C9,D0,D1,D2,D3,D4,D5,D6,D7,A3,L.A7.r2,e4,b1,b2,b3,Z6,B7,B6,B5,b7,b6]
def Zb7 (b:UInt8):Bool:=b==0||(b==10||(b==60||b==62))
theorem Yf1:∀ n:Nat,n<256→decide (0≤G6 [0,10,60,62] (UInt8.ofNat n))=Zb7 (UInt8.ofNat n):=by decide +kernel
theorem Yf2 (b:UInt8):(0≤G6 [0,10,60,62] b)↔Zb7 b=true:=by
  have:=Yf1 b.toNat b.toNat_lt
  rw [UInt8.ofNat_toNat] at this
  rw [←this,decide_eq_true_eq]
theorem Yls:∀ n:Nat,n<256→128≤n→Zb7 (UInt8.ofNat n)=false:=by decide +kernel
theorem Z8p {s:List UInt8} (hs:s.length≤1000000):∀ (m p:Nat),p+m≤s.length→s.length≤p+m→∃ i:Int,((0≤i)↔(s.drop p).any Zb7=true) ∧
    X E0 [.tmp 4] (.c L.A5.x1::.lp [1,45] L.A5.x1::.blk 2::.c L.A5.r2::[]) ⟨[(1,.str [0,10,60,62]),(45,.it (.s 1000000 0) 0)],[(.s 1000000 0,⟨0,true,true,true,[.itr s p]⟩)]⟩=some (.int .i64 i,[]):=by
  intro m
  induction m using Nat.strongRecOn with
  | _ m ih =>
    intro p h1 h2
    rw [K4 L.A5.x1.eq_1]
    by_cases hp:p<s.length
    · have hd:s.drop p=s.getD p 0::s.drop (p+1):=by
        rw [Ypa hp];simp [hp]
      rcases Zj7 hp with ⟨e1,e2,e3⟩|⟨e1,e2,e3,e4,e5⟩
      · cases hbad:Zb7 (s.getD p 0) with
        | true =>
          have h3:=(Yf2 (byt (bat s p))).2 (by rw [Z7];exact hbad)
          refine ⟨p,⟨fun _=>by rw [hd,Ypm,hbad];rfl,fun _=>by omega⟩,?_⟩
          simp -dsimp (disch:=first|omega|(simp only [A4]<;>omega)|fail) only [go_sem,reduceIte,reduceCtorEq,B9,C0,C1,C2,C3,C4,C5,C6,C7,C8,C9,D0,D1,D2,D3,D4,D5,D6,D7,A3,hp,e2,e3,Zi9 (T8 s p).1 e1,J1 h3]
        | false =>
          have h3:¬ 0≤G6 [0,10,60,62] (byt (bat s p)):=fun h=>by rw [Yf2,Z7,hbad] at h;cases h
          obtain ⟨i,h4,h5⟩:=ih (m-1) (by omega) (p+1) (by omega) (by omega)
          refine ⟨i,by rw [h4,hd,Ypm,hbad,Ypk],?_⟩
          rw [←h5]
          simp -dsimp (disch:=first|omega|(simp only [A4]<;>omega)|fail) only [go_sem,reduceIte,reduceCtorEq,B9,C0,C1,C2,C3,C4,C5,C6,C7,C8,C9,D0,D1,D2,D3,D4,D5,D6,D7,A3,hp,e2,e3,Zi9 (T8 s p).1 e1,X2 h3]
      · have hw:p+(X3 s p).2≤s.length:=by
          have:=(e5 (p+(X3 s p).2-1) (by omega) (by omega)).1
          omega
        obtain ⟨i,h4,h5⟩:=ih (m-(X3 s p).2) (by omega) (p+(X3 s p).2) (by omega) (by omega)
        refine ⟨i,?_,?_⟩
        · rw [h4]
          have:∀ w,p+w≤s.length→(∀ j,p≤j→j<p+w→j<s.length∧128≤bat s j)→(s.drop p).any Zb7=(s.drop (p+w)).any Zb7:=by
            intro w
            induction w with
            | zero=>intro _ _;rfl
            | succ w ihw =>
              intro hw1 hw2
              rw [ihw (by omega) (fun j j1 j2=>hw2 j j1 (by omega)),Ypa (by omega:p+w<s.length),Ypm]
              have hh:=(hw2 (p+w) (by omega) (by omega)).2
              have:Zb7 s[p+w]=false:=by
                unfold bat at hh
                rw [List.getD_eq_getElem?_getD,List.getElem?_eq_getElem (by omega),Option.getD_some] at hh
                have h9:=Yls s[p+w].toNat (UInt8.toNat_lt _) (by omega)
                rwa [UInt8.ofNat_toNat] at h9
              rw [this,Ypk]
              rfl
          rw [this _ hw e5]
        · rw [←h5]
          have h6:=Zs8 (r:=((X3 s p).1:Int)) (by omega) (by omega)
          simp -dsimp (disch:=first|omega|(simp only [A4]<;>omega)|fail) only [go_sem,reduceIte,reduceCtorEq,B9,C0,C1,C2,C3,C4,C5,C6,C7,C8,C9,D0,D1,D2,D3,D4,D5,D6,D7,A3,hp,h6]
    · refine ⟨-1,⟨fun h=>by omega,fun h=>by rw [Yo9 (by omega)] at h;simp at h⟩,?_⟩
      simp -dsimp (disch:=first|omega|(simp only [A4]<;>omega)|fail) only [go_sem,reduceIte,reduceCtorEq,B9,C0,C1,C2,C3,C4,C5,C6,C7,C8,C9,D0,D1,D2,D3,D4,D5,D6,D7,A3,hp,L.A5.r2]
def Zg6:List AV:=(List.range 256).map fun i=>.bool (i==0||(i==10||(i==60||i==62)))
theorem Ylt:S E0 F.N2 [.str [0,10,60,62]] []=some (.tup [.agg Zg6,.bool true],[]):=Zby.2 ⟨300,by kernel_rfl⟩
theorem Yf3:∀ n:Nat,n<256→Zg6[n]? = some (.bool (Zb7 (UInt8.ofNat n))):=by
  intro n hn
  simp only [Zg6,List.getElem?_map,List.getElem?_range hn,Option.map_some,Zb7]
  have:∀ n:Nat,n<256→(n==0||(n==10||(n==60||n==62)))=(UInt8.ofNat n==0||(UInt8.ofNat n==10||(UInt8.ofNat n==60||UInt8.ofNat n==62))):=by decide +kernel
  rw [this n hn]
theorem Zak:flats Zg6=true:=by kernel_rfl
theorem Zas:Zg6.length=256:=by simp [Zg6]
theorem Ylu {b:Int} (h0:0≤b) (h1:b<256):Zg6[b.toNat]? = some (.bool (Zb7 (byt b))):=Yf3 b.toNat (by omega)
theorem Zo8:leadss Zg6=false:=by kernel_rfl
theorem Zo9:refsOfs Zg6=[]:=by kernel_rfl
theorem Zpa (f:Site→Nat→Option (Site × Nat)):rens f Zg6=Zg6:=rens_flats Zg6 Zak
theorem Zkd:I7 Zg6=true:=by kernel_rfl
theorem Zja {x:Site} {b:Int} (h0:0≤b) (h1:b<256):S E0 F.K8 [.ref (.up x) 0 0,.int .u8 b] [(.up x,⟨0,true,true,true,Zg6⟩)]=some (.bool (Zb7 (byt b)),[(.up x,⟨0,true,true,true,Zg6⟩)]):=by
  rw [Zab Zev rfl rfl]
  simp -dsimp (disch:=first|omega|(simp only [A4]<;>omega)|fail) only [L.K8,go_sem,reduceIte,reduceCtorEq,B9,C0,C1,C2,C3,C4,C5,C6,C7,C8,C9,D0,D1,D2,D3,D4,D5,D6,D7,A3,Zas,Zak,Zo8,Zo9,Zpa,Zkd,Ylu h0 h1]
theorem Z8q {s:List UInt8} (hs:s.length≤1000000):∀ (m p:Nat),p+m=s.length→∃ i:Int,((0≤i)↔(s.drop p).any Zb7=true) ∧
    X E0 [.tmp 4] (.c L.A5.x0::.lp [0,6,8] L.A5.x0::.blk 0::.c L.A5.r0::.c L.A5.r1::[]) ⟨[(0,.str s),(6,.ref (.s 1000000 0) 0 0),(8,.int .i64 p)],[(.s 1000000 0,⟨0,true,true,true,Zg6⟩)]⟩=some (.int .i64 i,[]):=by
  intro m
  induction m with
  | zero =>
    intro p h
    refine ⟨-1,⟨fun h=>by omega,fun h=>by rw [Yo9 (by omega)] at h;simp at h⟩,?_⟩
    rw [K4 L.A5.x0.eq_1]
    simp -dsimp (disch:=first|omega|(simp only [A4]<;>omega)|fail) only [go_sem,reduceIte,reduceCtorEq,B9,C0,C1,C2,C3,C4,C5,C6,C7,C8,C9,D0,D1,D2,D3,D4,D5,D6,D7,A3,Zas,Zak,Zo8,Zo9,Zpa,Zkd,L.A5.r0]
  | succ m ih =>
    intro p h
    have hp:p<s.length:=by omega
    have hd:s.drop p=s.getD p 0::s.drop (p+1):=by
      rw [Ypa hp];simp [hp]
    obtain ⟨b0,b1⟩:=T8 s p
    cases hbad:Zb7 (s.getD p 0) with
    | true =>
      have h3:Zb7 (byt (bat s p))=true:=by rw [Z7];exact hbad
      refine ⟨p,⟨fun _=>by rw [hd,Ypm,hbad];rfl,fun _=>by omega⟩,?_⟩
      rw [K4 L.A5.x0.eq_1]
      simp -dsimp (disch:=first|omega|(simp only [A4]<;>omega)|fail) only [go_sem,reduceIte,reduceCtorEq,B9,C0,C1,C2,C3,C4,C5,C6,C7,C8,C9,D0,D1,D2,D3,D4,D5,D6,D7,A3,Zas,Zak,Zo8,Zo9,Zpa,Zkd,Zja b0 b1,h3]
    | false =>
      have h3:Zb7 (byt (bat s p))=false:=by rw [Z7];exact hbad
      obtain ⟨i,h4,h5⟩:=ih (p+1) (by omega)
      refine ⟨i,by rw [h4,hd,Ypm,hbad,Ypk],?_⟩
      rw [←h5,K4 L.A5.x0.eq_1]
      simp -dsimp (disch:=first|omega|(simp only [A4]<;>omega)|fail) only [go_sem,reduceIte,reduceCtorEq,B9,C0,C1,C2,C3,C4,C5,C6,C7,C8,C9,D0,D1,D2,D3,D4,D5,D6,D7,A3,Zas,Zak,Zo8,Zo9,Zpa,Zkd,Zja b0 b1,h3]
      rfl
theorem Ylv {s:List UInt8} (hs:s.length≤1000000):∃ i:Int,((0≤i)↔s.any Zb7=true)∧S E0 F.A5 [.str s,.str [0,10,60,62]] []=some (.int .i64 i,[]):=by
  rw [Zab Zeu rfl rfl]
  have e0:(([0,10,60,62]:List UInt8) == [])=false:=rfl
  by_cases h8:8<s.length
  · obtain ⟨i,h1,h2⟩:=Z8q hs s.length 0 (by omega)
    refine ⟨i,by simpa using h1,?_⟩
    rw [←h2]
    have h9:decide (8<(s.length:Int))=true:=by simp;omega
    simp -dsimp (disch:=first|omega|(simp only [A4]<;>omega)|fail) only [L.A5,go_sem,reduceIte,reduceCtorEq,B9,C0,C1,C2,C3,C4,C5,C6,C7,C8,C9,D0,D1,D2,D3,D4,D5,D6,D7,A3,Zas,Zak,Zo8,Zo9,Zpa,Zkd,e0,Zj9,h9,Ylt]
    rfl
  · obtain ⟨i,h1,h2⟩:=Z8p hs s.length 0 (by omega) (by omega)
    refine ⟨i,by simpa using h1,?_⟩
    rw [←h2]
    have h9:decide (8<(s.length:Int))=false:=by simp;omega
    simp -dsimp (disch:=first|omega|(simp only [A4]<;>omega)|fail) only [L.A5,go_sem,reduceIte,reduceCtorEq,B9,C0,C1,C2,C3,C4,C5,C6,C7,C8,C9,D0,D1,D2,D3,D4,D5,D6,D7,A3,Zas,Zak,Zo8,Zo9,Zpa,Zkd,e0,Zj9,h9,L.A5.r1]
theorem Zs9 {s:List UInt8} (hs:s.length≤1000000):S E0 F.H9 [.str s,.str [0,10,60,62]] []=some (.bool (s.any Zb7),[]):=by
  rw [Zab Zes rfl rfl]
  obtain ⟨i,h1,h2⟩:=Ylv hs
  have h3:decide (0≤i)=s.any Zb7:=by
    cases h:s.any Zb7 with
    | true=>simp [h1.2 h]
    | false=>rw [decide_eq_false_iff_not,h1,h];simp
  simp -dsimp (disch:=first|omega|(simp only [A4]<;>omega)|fail) only [L.H9,go_sem,reduceIte,reduceCtorEq,B9,C0,C1,C2,C3,C4,C5,C6,C7,C8,C9,D0,D1,D2,D3,D4,D5,D6,D7,A3,h2,h3]
end Cod
namespace Cod
open Go
theorem Zjb {s:List UInt8} (hs:s.length≤1000000):S E F.H9 [.str s,.str [0,10,60,62]] []=some (.bool (s.any Zb7),[]):=K5 ext0 (Zs9 hs)
theorem Yf4 (s:List UInt8):s.any Zb7=(s.contains 0||(s.contains 10||(s.contains 60||s.contains 62))):=by
  rw [Bool.eq_iff_iff]
  simp only [List.any_eq_true,Zb7,Bool.or_eq_true,beq_iff_eq,List.contains_iff_mem]
  constructor
  · rintro ⟨b,hb,h|h|h|h⟩<;>subst h<;>simp [hb]
  · rintro (h|h|h|h)
    · exact ⟨_,h,.inl rfl⟩
    · exact ⟨_,h,.inr (.inl rfl)⟩
    · exact ⟨_,h,.inr (.inr (.inl rfl))⟩
    · exact ⟨_,h,.inr (.inr (.inr rfl))⟩
theorem Zpb (s:List UInt8):Zbw s=(decide (s.length≤100) && !s.any Zb7):=by
  unfold Zbw
  rw [Yf4]
  simp only [Bool.not_or]
theorem Z8r {i:Idt}:S E F.F0 [.agg i.cells] []=some (.bool (F8 i),[]):=by
  rw [S_of Zr1 rfl rfl]
  unfold F8
  rw [Zpb,Zpb]
  by_cases l0:100<i.name.length
  · simp -dsimp (disch:=first|omega|(simp only [A4]<;>omega)|fail) only [L.F0,L.F0.x0,go_sem,reduceIte,reduceCtorEq,B9,C0,C1,C2,C3,C4,C5,C6,C7,C8,C9,D0,D1,D2,D3,D4,D5,D6,D7,A3,Idt.cells,l0]
  · have h0:=Zjb (s:=i.name) (by omega)
    have l0':i.name.length≤100:=by omega
    cases c0:i.name.any Zb7
    · by_cases l1:100<i.email.length
      · simp -dsimp (disch:=first|omega|(simp only [A4]<;>omega)|fail) only [L.F0,L.F0.x0,go_sem,reduceIte,reduceCtorEq,B9,C0,C1,C2,C3,C4,C5,C6,C7,C8,C9,D0,D1,D2,D3,D4,D5,D6,D7,A3,Idt.cells,l0,l0',l1,h0,c0,Ypw,Ypl]
      · have h1:=Zjb (s:=i.email) (by omega)
        have l1':i.email.length≤100:=by omega
        cases c1:i.email.any Zb7
        · have e1:decide (-1440<i.zone)=decide (-1439≤i.zone):=by rw [decide_eq_decide];omega
          have e2:decide (i.zone<1440)=decide (i.zone≤1439):=by rw [decide_eq_decide];omega
          by_cases t0:0≤i.time
          · by_cases t1:i.time≤1099511627776
            · by_cases z0 : -1439≤i.zone
              · by_cases z1:i.zone≤1439<;>simp -dsimp (disch:=first|omega|(simp only [A4]<;>omega)|fail) only [L.F0,L.F0.x0,L.F0.r0,go_sem,reduceIte,reduceCtorEq,B9,C0,C1,C2,C3,C4,C5,C6,C7,C8,C9,D0,D1,D2,D3,D4,D5,D6,D7,A3,Idt.cells,l0,l0',l1,l1',h0,c0,h1,c1,t0,t1,z0,z1,decide_true,decide_false,Ypc,Yn6,Ypj]
              · simp -dsimp (disch:=first|omega|(simp only [A4]<;>omega)|fail) only [L.F0,L.F0.x0,L.F0.r0,go_sem,reduceIte,reduceCtorEq,B9,C0,C1,C2,C3,C4,C5,C6,C7,C8,C9,D0,D1,D2,D3,D4,D5,D6,D7,A3,Idt.cells,l0,l0',l1,l1',h0,c0,h1,c1,t0,t1,z0,decide_true,decide_false,Ypc,Yn6,Ypj,Ypl]
            · simp -dsimp (disch:=first|omega|(simp only [A4]<;>omega)|fail) only [L.F0,L.F0.x0,L.F0.r0,go_sem,reduceIte,reduceCtorEq,B9,C0,C1,C2,C3,C4,C5,C6,C7,C8,C9,D0,D1,D2,D3,D4,D5,D6,D7,A3,Idt.cells,l0,l0',l1,l1',h0,c0,h1,c1,t0,t1,decide_true,decide_false,Ypc,Yn6,Ypj,Ypl]
          · simp -dsimp (disch:=first|omega|(simp only [A4]<;>omega)|fail) only [L.F0,L.F0.x0,L.F0.r0,go_sem,reduceIte,reduceCtorEq,B9,C0,C1,C2,C3,C4,C5,C6,C7,C8,C9,D0,D1,D2,D3,D4,D5,D6,D7,A3,Idt.cells,l0,l0',l1,l1',h0,c0,h1,c1,t0,decide_true,decide_false,Ypc,Yn6,Ypj,Ypl]
        · simp -dsimp (disch:=first|omega|(simp only [A4]<;>omega)|fail) only [L.F0,L.F0.x0,go_sem,reduceIte,reduceCtorEq,B9,C0,C1,C2,C3,C4,C5,C6,C7,C8,C9,D0,D1,D2,D3,D4,D5,D6,D7,A3,Idt.cells,l0,l0',l1,l1',h0,c0,h1,c1,Ypb,Ypw,Ypl]
    · simp -dsimp (disch:=first|omega|(simp only [A4]<;>omega)|fail) only [L.F0,L.F0.x0,go_sem,reduceIte,reduceCtorEq,B9,C0,C1,C2,C3,C4,C5,C6,C7,C8,C9,D0,D1,D2,D3,D4,D5,D6,D7,A3,Idt.cells,l0,l0',h0,c0,Ypb,Ypw,Ypl]
end Cod
namespace Cod
open Go
theorem Zk5:∀ n:Nat,n<1440→(Lib.itoa (10000+(n:Int)/60*100+(n:Int)%60)).drop 1=two ((n:Int)/60)++two ((n:Int)%60)∧(Lib.itoa (10000+(n:Int)/60*100+(n:Int)%60)).length=5:=by
  intro n hn
  have e:(10000+(n:Int)/60*100+(n:Int)%60)=((10000+n/60*100+n%60:Nat):Int):=by omega
  rw [e]
  have h1:n/60<24:=by omega
  have h2:n%60<60:=by omega
  rw [Lib.itoa_nonneg]
  generalize ha:n/60=a at *
  generalize hb:n%60=b at *
  have d:Lib.decDigits (10000+a*100+b)=[49,UInt8.ofNat (48+a/10),UInt8.ofNat (48+a%10),UInt8.ofNat (48+b/10),UInt8.ofNat (48+b%10)]:=by
    rw [Lib.decDigits,dif_neg (by omega),Lib.decDigits,dif_neg (by omega),Lib.decDigits,dif_neg (by omega),Lib.decDigits,dif_neg (by omega),Lib.decDigits,dif_pos (by omega)]
    rw [show (10000+a*100+b)/10/10/10/10=1 by omega,show (10000+a*100+b)/10/10/10%10=a/10 by omega,show (10000+a*100+b)/10/10%10=a%10 by omega,show (10000+a*100+b)/10%10=b/10 by omega,show (10000+a*100+b)%10=b%10 by omega]
    rfl
  rw [d]
  refine ⟨?_,rfl⟩
  unfold two byt
  rw [show (48+((n:Int)/60)/10).toNat=48+a/10 by omega,show (48+((n:Int)/60)%10).toNat=48+a%10 by omega,show (48+((n:Int)%60)/10).toNat=48+b/10 by omega,show (48+((n:Int)%60)%10).toNat=48+b%10 by omega]
  rfl
theorem idt_0 (i:Idt):i.cells[0]? = some (.str i.name):=rfl
theorem idt_1 (i:Idt):i.cells[1]? = some (.str i.email):=rfl
theorem idt_2 (i:Idt):i.cells[2]? = some (.int .i64 i.time):=rfl
theorem idt_3 (i:Idt):i.cells[3]? = some (.int .i64 i.zone):=rfl
theorem Zf8 {i:Idt}:S E F.J6 [.agg i.cells] []=some (Zw4 i,[]):=by
  have h0:=Z8r (i:=i)
  rw [S_of Zrs rfl rfl]
  unfold Zw4
  cases h:F8 i
  · simp -dsimp (disch:=first|omega|(simp only [A4,N3]<;>omega)|fail) only [L.J6,go_sem,reduceIte,reduceCtorEq,B9,C0,C1,C2,C3,C4,C5,C6,C7,C8,C9,D0,D1,D2,D3,D4,D5,D6,D7,A3,h0,h,Ypc]
  · obtain ⟨p0,p1,t0,t1,z0,z1⟩:=(U2 i).1 h
    have hi:=Zsp (n:=i.time) (by omega)
    have hl:=Lib.itoa_length_le i.time (by omega) (by omega)
    have hn:=Zc5 p0
    have he:=Zc5 p1
    by_cases hz:i.zone<0
    · obtain ⟨m,hm⟩:∃ m:Nat,-i.zone=m:=⟨(-i.zone).toNat,by omega⟩
      have hj:=Zsp (n:=10000+(m:Int)/60*100+(m:Int)%60) (by omega)
      obtain ⟨d1,d2⟩:=Zk5 m (by omega)
      have d3:sub (Lib.itoa (10000+(m:Int)/60*100+(m:Int)%60)) 1 4=two ((m:Int)/60)++two ((m:Int)%60):=by
        unfold sub;rw [d1];rfl
      simp -dsimp (disch:=first|omega|(simp only [A4,N3]<;>omega)|fail) only [L.J6,go_sem,reduceIte,reduceCtorEq,B9,C0,C1,C2,C3,C4,C5,C6,C7,C8,C9,D0,D1,D2,D3,D4,D5,D6,D7,A3,h0,h,Ypb,idt_0,idt_1,idt_2,idt_3,hi,hz,Int.zero_sub,hm,Zfx,Zfw,hj,d2,d3]
      simp only [I5,Zbd,hz,if_true,hm,Ynz,Yna,Yoz]
    · obtain ⟨m,hm⟩:∃ m:Nat,i.zone=m:=⟨i.zone.toNat,by omega⟩
      have hj:=Zsp (n:=10000+(m:Int)/60*100+(m:Int)%60) (by omega)
      obtain ⟨d1,d2⟩:=Zk5 m (by omega)
      have d3:sub (Lib.itoa (10000+(m:Int)/60*100+(m:Int)%60)) 1 4=two ((m:Int)/60)++two ((m:Int)%60):=by
        unfold sub;rw [d1];rfl
      have hz2:¬ (m:Int)<0:=by omega
      simp -dsimp (disch:=first|omega|(simp only [A4,N3]<;>omega)|fail) only [L.J6,go_sem,reduceIte,reduceCtorEq,B9,C0,C1,C2,C3,C4,C5,C6,C7,C8,C9,D0,D1,D2,D3,D4,D5,D6,D7,A3,h0,h,Ypb,idt_0,idt_1,idt_2,idt_3,hi,hz2,hm,Zfx,Zfw,hj,d2,d3]
      simp only [I5,Zbd,hm,hz2,if_false,Ynz,Yna,Yoz]
end Cod

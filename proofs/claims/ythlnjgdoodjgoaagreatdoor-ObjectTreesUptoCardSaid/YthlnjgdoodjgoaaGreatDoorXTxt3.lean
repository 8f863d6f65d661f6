/- How entries of a tree follow one another, the reference's way. -/
import Derived.KernelRfl
import Derived.Lib.ItoaLen
import Derived.Test.YthlnjgdoodjgoaaGreatDoorXTxt2
import Derived.Test.YthlnjgdoodjgoaaGreatDoorXTxt1
set_option linter.unusedSimpArgs false
set_option linter.unusedVariables false
open List renaming append_assoc → Yel, drop_drop → Yer, drop_eq_getElem_cons → Yfw, drop_length → Ygf, drop_zero → Yfc, foldl_cons → Yd7, length_append → Yek, length_cons → Yd9, length_drop → Yd1, length_nil → Ye6, length_replicate → Ygo, length_set → Ygp, length_take → Yd0, nil_append → Yfl, take_succ_eq_append_getElem → Ygd, take_zero → Ygq
open Nat renaming div_eq_of_lt → Ygl, min_eq_left → Yfm, min_eq_right → Ygj, mul_le_mul_right → Yei, pow_le_pow_right → Ygm, sub_zero → Yeu, zero_add → Yen
open Int renaming cast_ofNat_Int → Yf4, emod_eq_of_lt → Ygh, eq_ofNat_of_zero_le → Ygn, natCast_add → Yga, natCast_ediv → Ygk, natCast_pow → Ygi
open Bool renaming false_eq_true → Yea, false_or → Yf6, not_false → Yfy, not_true → Yfx, or_false → Ygr, true_or → Ygg
open Nat renaming reduceEqDiff → D1, reduceAdd → D2, reduceSub → D3, reduceMul → D4, reduceDiv → D5, reduceMod → D6, reduceBEq → D7, reduceLeDiff → D8, reduceLT → D9
open Int renaming reduceEq → E2, reduceNe → E3, reduceLT → E4, reduceLE → E5, reduceBEq → E6, reduceBNe → E7, reduceToNat → E8, reduceAdd → E9, reduceSub → F0, reduceMul → F1, reduceNeg → A5
namespace Cod
open Go
theorem Zxh {e:Ety} (h:e.name.length≤1000000000000):S E F.R8 [.agg e.cells] []=some (.str (Zbu e),[]):=by
  rw [N6 Zm2 rfl rfl]
  unfold Zbu
  by_cases hm:e.mode=16384
  · rw [if_pos hm]
    simp -dsimp (disch:=first|omega|(simp only [A8]<;>omega)|fail) only [L.R8,go_sem,reduceIte,reduceCtorEq,D1,D2,D3,D4,D5,D6,D7,D8,D9,E2,E3,E4,E5,E6,E7,E8,E9,F0,F1,A5,hm]
  · rw [if_neg hm]
    simp -dsimp (disch:=first|omega|(simp only [A8]<;>omega)|fail) only [L.R8,go_sem,reduceIte,reduceCtorEq,D1,D2,D3,D4,D5,D6,D7,D8,D9,E2,E3,E4,E5,E6,E7,E8,E9,F0,F1,A5,hm]
theorem Z1u {a b:Ety} (ha:a.name.length≤1000000000000) (hb:b.name.length≤1000000000000):S E F.P3 [.agg a.cells,.agg b.cells] []=some (.int .i64 (Zin (Zbu a) (Zbu b)),[]):=by
  have h1:=Zxh ha
  have h2:=Zxh hb
  rw [N6 Zmo rfl rfl]
  unfold Zin
  generalize Zbu a=x at *
  generalize Zbu b=y at *
  by_cases he:x=y
  · subst he
    have hs:(x==x)=true:=by simp
    simp -dsimp (disch:=first|omega|(simp only [A8]<;>omega)|fail) only [L.P3,go_sem,reduceIte,reduceCtorEq,D1,D2,D3,D4,D5,D6,D7,D8,D9,E2,E3,E4,E5,E6,E7,E8,E9,F0,F1,A5,h1,h2,Zka,hs,Yfx]
  · have hs:(x==y)=false:=by simp [he]
    rw [if_neg he]
    cases c1:Op.bytesLess x y<;>simp -dsimp (disch:=first|omega|(simp only [A8]<;>omega)|fail) only [L.P3,go_sem,reduceIte,reduceCtorEq,D1,D2,D3,D4,D5,D6,D7,D8,D9,E2,E3,E4,E5,E6,E7,E8,E9,F0,F1,A5,h1,h2,c1,hs,Yfy]
end Cod
namespace Cod
open Go
theorem Zkk (s:List UInt8) (i:Nat):S E F.K5 [.int .u8 (bat s i)] []=some (.int .u8 ((Zcs (s.getD i 0)).toNat:Int),[]):=by
  have h:=Z9 s i
  have hb:bat s i=((s.getD i 0).toNat:Int):=rfl
  rw [N6 Zna rfl rfl]
  unfold Zcs
  by_cases h1:65≤bat s i
  · by_cases h2:bat s i≤90
    · have h3:65≤s.getD i 0∧s.getD i 0≤90:=by
        rw [UInt8.le_iff_toNat_le,UInt8.le_iff_toNat_le]
        simp only [UInt8.reduceToNat]
        omega
      rw [if_pos h3]
      have h4:(bat s i+32)%256=((s.getD i 0+32).toNat:Int):=by
        rw [UInt8.toNat_add]
        simp only [UInt8.reduceToNat]
        omega
      simp -dsimp (disch:=first|omega|(simp only [A8]<;>omega)|fail) only [L.K5,go_sem,reduceIte,reduceCtorEq,D1,D2,D3,D4,D5,D6,D7,D8,D9,E2,E3,E4,E5,E6,E7,E8,E9,F0,F1,A5,h4]
    · have h3:¬ (65≤s.getD i 0∧s.getD i 0≤90):=by
        rw [UInt8.le_iff_toNat_le,UInt8.le_iff_toNat_le]
        simp only [UInt8.reduceToNat]
        omega
      rw [if_neg h3,←hb]
      simp -dsimp (disch:=first|omega|(simp only [A8]<;>omega)|fail) only [L.K5,go_sem,reduceIte,reduceCtorEq,D1,D2,D3,D4,D5,D6,D7,D8,D9,E2,E3,E4,E5,E6,E7,E8,E9,F0,F1,A5]
  · have h3:¬ (65≤s.getD i 0∧s.getD i 0≤90):=by
      rw [UInt8.le_iff_toNat_le,UInt8.le_iff_toNat_le]
      simp only [UInt8.reduceToNat]
      omega
    rw [if_neg h3,←hb]
    simp -dsimp (disch:=first|omega|(simp only [A8]<;>omega)|fail) only [L.K5,go_sem,reduceIte,reduceCtorEq,D1,D2,D3,D4,D5,D6,D7,D8,D9,E2,E3,E4,E5,E6,E7,E8,E9,F0,F1,A5]
theorem Zxi {s:List UInt8}:S E F.U2 [.str s] []=some (.bool (Zct s),[]):=by
  rw [N6 Zm1 rfl rfl]
  by_cases hl:s.length=4
  · have hg:Zct s=(s.getD 0 0==46&&Zcs (s.getD 1 0)==103&&Zcs (s.getD 2 0)==105&&Zcs (s.getD 3 0)==116):=by
      match s,hl with
      | [a,b,c,d],_=>rfl
    rw [hg]
    have b1:byt 46=46:=rfl
    have b2:byt 103=103:=rfl
    have b3:byt 105=105:=rfl
    have b4:byt 116=116:=rfl
    simp -dsimp (disch:=first|omega|(simp only [A8]<;>omega)|fail) only [L.U2,go_sem,reduceIte,reduceCtorEq,D1,D2,D3,D4,D5,D6,D7,D8,D9,E2,E3,E4,E5,E6,E7,E8,E9,F0,F1,A5,Zkk,Zhk,Zu7,b1,b2,b3,b4]
    repeat' (refine Zpk (fun h=>?_) (fun h=>?_)<;>(try simp -dsimp (disch:=first|omega|(simp only [A8]<;>omega)|fail) only [go_sem,reduceIte,reduceCtorEq,D1,D2,D3,D4,D5,D6,D7,D8,D9,E2,E3,E4,E5,E6,E7,E8,E9,F0,F1,A5,Zkk,Zhk,Zu7,b1,b2,b3,b4,h]))
  · have hg:Zct s=false:=by
      match s,hl with
      | [],_=>rfl
      | [_],_=>rfl
      | [_,_],_=>rfl
      | [_,_,_],_=>rfl
      | [_,_,_,_],h=>exact absurd rfl h
      | _::_::_::_::_::_,_=>rfl
    rw [hg]
    simp -dsimp (disch:=first|omega|(simp only [A8]<;>omega)|fail) only [L.U2,go_sem,reduceIte,reduceCtorEq,D1,D2,D3,D4,D5,D6,D7,D8,D9,E2,E3,E4,E5,E6,E7,E8,E9,F0,F1,A5]
theorem has_l0 {s:List UInt8} (hs:s.length≤1000000000000) {c:Int} (h0:0≤c) (h1:c<256) (k:List It):∀ (m i:Nat),i+m=s.length →
    X E [.tmp 4] (.c L.I3.x0::.lp [0,1,5] L.I3.x0::.blk 0::k) ⟨[(0,.str s),(1,.int .u8 c),(5,.int .i64 i)],[]⟩ =
    if (s.drop i).contains (byt c) then some (.bool true,[]) else X E [.tmp 4] k ⟨[(0,.str s),(1,.int .u8 c),(5,.int .i64 s.length),(9,.bool false)],[]⟩:=by
  intro m
  induction m with
  | zero =>
    intro i h
    obtain rfl:i=s.length:=by omega
    rw [H7 L.I3.x0.eq_1]
    simp -dsimp (disch:=first|omega|(simp only [A8]<;>omega)|fail) only [go_sem,reduceIte,reduceCtorEq,D1,D2,D3,D4,D5,D6,D7,D8,D9,E2,E3,E4,E5,E6,E7,E8,E9,F0,F1,A5,Ygf,List.contains_nil,Yea]
  | succ m ih =>
    intro i h
    have:=ih (i+1) (by omega)
    simp only [Yga,Yf4] at this
    have hd:s.drop i=s.getD i 0::s.drop (i+1):=by
      rw [List.getD_eq_getElem?_getD,List.getElem?_eq_getElem (by omega),Option.getD_some]
      exact Yfw (by omega)
    rw [H7 L.I3.x0.eq_1]
    rw [hd,List.contains_cons]
    cases hb:(s.getD i 0==byt c) with
    | true =>
      have hb':(byt c==s.getD i 0)=true:=by rw [BEq.comm];exact hb
      simp -dsimp (disch:=first|omega|(simp only [A8]<;>omega)|fail) only [go_sem,reduceIte,reduceCtorEq,D1,D2,D3,D4,D5,D6,D7,D8,D9,E2,E3,E4,E5,E6,E7,E8,E9,F0,F1,A5,Zhk,hb,hb',Ygg]
    | false =>
      have hb':(byt c==s.getD i 0)=false:=by rw [BEq.comm];exact hb
      simp -dsimp (disch:=first|omega|(simp only [A8]<;>omega)|fail) only [go_sem,reduceIte,reduceCtorEq,D1,D2,D3,D4,D5,D6,D7,D8,D9,E2,E3,E4,E5,E6,E7,E8,E9,F0,F1,A5,Zhk,hb,hb',Yf6,this]
theorem Zxj {s:List UInt8} (hs:s.length≤1000000000000) {c:Int} (h0:0≤c) (h1:c<256):S E F.I3 [.str s,.int .u8 c] []=some (.bool (s.contains (byt c)),[]):=by
  have h:=fun k=>has_l0 hs h0 h1 k s.length 0 (by omega)
  simp only [Yf4,Yfc] at h
  rw [N6 Zmv rfl rfl]
  simp -dsimp (disch:=first|omega|(simp only [A8]<;>omega)|fail) only [L.I3,go_sem,reduceIte,reduceCtorEq,D1,D2,D3,D4,D5,D6,D7,D8,D9,E2,E3,E4,E5,E6,E7,E8,E9,F0,F1,A5]
  rw [h]
  cases hc:s.contains (byt c) with
  | true=>simp
  | false =>
    simp -dsimp (disch:=first|omega|(simp only [A8]<;>omega)|fail) only [L.I3.r0,go_sem,reduceIte,reduceCtorEq,D1,D2,D3,D4,D5,D6,D7,D8,D9,E2,E3,E4,E5,E6,E7,E8,E9,F0,F1,A5,Yea]
theorem Z8d {s:List UInt8} (hs:s.length≤1000000000000):S E F.Q2 [.str s] []=some (.bool (K6 s),[]):=by
  have c1:=Zxj hs (c:=47) (by omega) (by omega)
  have c2:=Zxj hs (c:=0) (by omega) (by omega)
  rw [show byt 47=47 from rfl] at c1
  rw [show byt 0=0 from rfl] at c2
  rw [N6 Zmm rfl rfl]
  by_cases h1:1≤s.length
  · by_cases h2:s.length≤100
    · simp -dsimp (disch:=first|omega|(simp only [A8]<;>omega)|fail) only [L.Q2,go_sem,reduceIte,reduceCtorEq,D1,D2,D3,D4,D5,D6,D7,D8,D9,E2,E3,E4,E5,E6,E7,E8,E9,F0,F1,A5,c1,c2,Zxi]
      repeat' (refine Zpk (fun h=>?_) (fun h=>?_)<;>(try simp -dsimp (disch:=first|omega|(simp only [A8]<;>omega)|fail) only [go_sem,reduceIte,reduceCtorEq,D1,D2,D3,D4,D5,D6,D7,D8,D9,E2,E3,E4,E5,E6,E7,E8,E9,F0,F1,A5,c1,c2,Zxi,h]))
      all_goals simp_all [K6]
    · have:K6 s=false:=by simp [K6,h2]
      rw [this]
      simp -dsimp (disch:=first|omega|(simp only [A8]<;>omega)|fail) only [L.Q2,go_sem,reduceIte,reduceCtorEq,D1,D2,D3,D4,D5,D6,D7,D8,D9,E2,E3,E4,E5,E6,E7,E8,E9,F0,F1,A5]
  · have:K6 s=false:=by simp [K6,h1]
    rw [this]
    simp -dsimp (disch:=first|omega|(simp only [A8]<;>omega)|fail) only [L.Q2,go_sem,reduceIte,reduceCtorEq,D1,D2,D3,D4,D5,D6,D7,D8,D9,E2,E3,E4,E5,E6,E7,E8,E9,F0,F1,A5]
end Cod
namespace Cod
open Go
theorem Zel (x:Int):IntKind.u32.wrap x=x%4294967296:=by
  simp only [IntKind.wrap,IntKind.signed,IntKind.bits]
  simp
theorem Zcq (a:BitVec 32):BitVec.ofInt 32 (a.toNat:Int)=a:=by
  apply BitVec.eq_of_toNat_eq
  rw [BitVec.toNat_ofInt]
  have:=a.isLt
  omega
theorem Zcr (a:BitVec 32):(a.toNat:Int)<4294967296:=by have:=a.isLt;omega
theorem w_add (a b:BitVec 32):G6 .add (W a) (W b)=some (W (a+b)):=by
  simp only [W,Zwx,Zel,BitVec.toNat_add]
  simp
theorem w_and (a b:BitVec 32):G6 .and (W a) (W b)=some (W (a &&& b)):=by
  rw [W,W,Zwy,Ztw]
  show some (AV.int .u32 (IntKind.u32.wrap (((BitVec.ofInt 32 (a.toNat:Int)) &&& (BitVec.ofInt 32 (b.toNat:Int))).toNat:Int)))=some (AV.int .u32 ((a &&& b).toNat:Int))
  rw [Zcq,Zcq,Zel,Ygh (by omega) (Zcr _)]
theorem w_or (a b:BitVec 32):G6 .or (W a) (W b)=some (W (a ||| b)):=by
  rw [W,W,Z5w,ior]
  show some (AV.int .u32 (IntKind.u32.wrap (((BitVec.ofInt 32 (a.toNat:Int)) ||| (BitVec.ofInt 32 (b.toNat:Int))).toNat:Int)))=some (AV.int .u32 ((a ||| b).toNat:Int))
  rw [Zcq,Zcq,Zel,Ygh (by omega) (Zcr _)]
theorem w_xor (a b:BitVec 32):G6 .xor (W a) (W b)=some (W (a ^^^ b)):=by
  rw [W,W,Zwz,ixor]
  show some (AV.int .u32 (IntKind.u32.wrap (((BitVec.ofInt 32 (a.toNat:Int)) ^^^ (BitVec.ofInt 32 (b.toNat:Int))).toNat:Int)))=some (AV.int .u32 ((a ^^^ b).toNat:Int))
  rw [Zcq,Zcq,Zel,Ygh (by omega) (Zcr _)]
theorem w_not (a:BitVec 32):Zkt .xor (W a)=some (W (~~~a)):=by
  rw [W,Z58,inot]
  show some (AV.int .u32 (IntKind.u32.wrap (((BitVec.allOnes 32) ^^^ (BitVec.ofInt 32 (a.toNat:Int))).toNat:Int)))=some (AV.int .u32 ((~~~a).toNat:Int))
  rw [Zcq,BitVec.allOnes_xor,Zel,Ygh (by omega) (Zcr _)]
theorem w_shl' (a:BitVec 32) (k:IntKind) (n:Nat):G6 .shl (W a) (.int k (n:Int))=some (W (a <<< n)):=by
  rw [W,Zw0 (by omega),ishl]
  show some (AV.int .u32 (IntKind.u32.wrap ((a.toNat:Int)*2^(Nat.min n 32))))=some (AV.int .u32 ((a <<< n).toNat:Int))
  rw [Zel,BitVec.toNat_shiftLeft,Nat.shiftLeft_eq]
  by_cases h:n≤32
  · rw [show Nat.min n 32=n from Yfm h,Int.natCast_emod,Int.natCast_mul,Ygi]
    rfl
  · rw [show Nat.min n 32=32 from Ygj (by omega)]
    obtain ⟨m,rfl⟩:∃ m,n=32+m:=⟨n-32,by omega⟩
    have h1:a.toNat*2^(32+m)%2^32=0:=by
      rw [Nat.pow_add,←Nat.mul_assoc,Nat.mul_right_comm]
      exact Nat.mul_mod_left _ _
    rw [h1]
    have h2:(a.toNat:Int)*2^32%4294967296=0:=by omega
    rw [h2];rfl
theorem w_shr' (a:BitVec 32) (k:IntKind) (n:Nat):G6 .shr (W a) (.int k (n:Int))=some (W (a >>> n)):=by
  rw [W,Zw1 (by omega),Zpz]
  show some (AV.int .u32 ((a.toNat:Int).fdiv (2^(Nat.min n 32))))=some (AV.int .u32 ((a >>> n).toNat:Int))
  rw [BitVec.toNat_ushiftRight,Nat.shiftRight_eq_div_pow]
  have key:∀ m:Nat,((a.toNat:Int)).fdiv (2^m)=((a.toNat/2^m:Nat):Int):=by
    intro m
    rw [Int.fdiv_eq_ediv_of_nonneg _ (Int.le_of_lt (Int.pow_pos (by omega))),Ygk,Ygi]
    rfl
  rw [key]
  by_cases h:n≤32
  · rw [show Nat.min n 32=n from Yfm h]
  · rw [show Nat.min n 32=32 from Ygj (by omega)]
    have h1:a.toNat/2^32=0:=Ygl a.isLt
    have h2:a.toNat/2^n=0:=Ygl (Nat.lt_of_lt_of_le a.isLt (Ygm (by omega) (by omega)))
    rw [h1,h2]
theorem w_shl (a:BitVec 32) (k:IntKind) (n:Int) (h:0≤n):G6 .shl (W a) (.int k n)=some (W (a <<< n.toNat)):=by
  obtain ⟨m,rfl⟩:=Ygn h
  rw [w_shl'];rfl
theorem w_shr (a:BitVec 32) (k:IntKind) (n:Int) (h:0≤n):G6 .shr (W a) (.int k n)=some (W (a >>> n.toNat)):=by
  obtain ⟨m,rfl⟩:=Ygn h
  rw [w_shr'];rfl
theorem Z1v (n:Nat):zer (.int .u32 0) n=C3 (List.replicate n 0):=by simp [zer,C3,W]
theorem Zrm (l:List (BitVec 32)):flats (C3 l)=true:=by
  induction l with
  | nil=>rfl
  | cons x l ih=>simpa [C3,flats,J6,W] using ih
theorem Zrn (l:List (BitVec 32)):N3 (C3 l)=true:=by
  induction l with
  | nil=>rfl
  | cons x l ih=>simpa [C3,N3,P9,W] using ih
theorem Znz (l:List (BitVec 32)):leadss (C3 l)=false:=by
  induction l with
  | nil=>rfl
  | cons x l ih=>simpa [C3,leadss,O1,W] using ih
theorem Zn0 (l:List (BitVec 32)):refsOfs (C3 l)=[]:=by
  induction l with
  | nil=>rfl
  | cons x l ih=>simpa [C3,refsOfs,U7,W] using ih
theorem Zvr (f:Site→Nat→Option (Site × Nat)) (l:List (BitVec 32)):rens f (C3 l)=C3 l:=by
  induction l with
  | nil=>rfl
  | cons x l ih=>simpa [C3,rens,ren,W] using ih
theorem Z1w {l:List (BitVec 32)} {i:Nat} (h:i<l.length):(C3 l)[i]? = some (W (l.getD i 0)):=by simp [C3,h]
theorem Zvs {l:List (BitVec 32)} {i:Nat} {x:BitVec 32} (h:i<l.length):over (C3 l) i [W x]=C3 (l.set i x):=by
  unfold over C3
  rw [List.length_singleton,List.map_set,List.set_eq_take_append_cons_drop,if_pos (by simpa using h)]
  simp
theorem Zvt (l:List (BitVec 32)) (n:Nat):(C3 l).take n=C3 (l.take n):=by simp [C3,List.map_take]
theorem Zvu (l:List (BitVec 32)) (n:Nat):(C3 l).drop n=C3 (l.drop n):=by simp [C3,List.map_drop]
theorem Z1x (l:List (BitVec 32)) (i n:Nat):sub (C3 l) i n=C3 (sub l i n):=by simp [sub,C3,List.map_drop,List.map_take]
theorem Zn1 {l m:List (BitVec 32)} (h:m.length=l.length):over (C3 l) 0 (C3 m)=C3 m:=by
  unfold over;exact Znk (by rw [Za6,Za6,h])
theorem hard_W (x:BitVec 32):P9 (W x)=true:=rfl
theorem flat_W (x:BitVec 32):J6 (W x)=true:=rfl
theorem Z8e (x:BitVec 32):U7 (W x)=[]:=rfl
theorem Yc1 (x:BitVec 32):O1 (W x)=false:=rfl
theorem ren_W (f:Site→Nat→Option (Site × Nat)) (x:BitVec 32):ren f (W x)=W x:=rfl
theorem view_W (x:BitVec 32):Zag (W x)=.ret (W x,[]):=rfl
theorem Yc2 (x:BitVec 32):S0 (W x)=.ret (W x,[]):=rfl
theorem Z8f (x:BitVec 32):H3 (W x)=some [W x]:=rfl
def bw (l:List UInt8) (i:Nat):BitVec 32:=BitVec.ofNat 32 (l.getD i 0).toNat
theorem cvi_bw (l:List UInt8) (i:Nat):Zkv .u32 (.int .u8 (bat l i))=.ret (W (bw l i),[]):=by
  have h:=(l.getD i 0).toNat_lt
  have:IntKind.u32.wrap (bat l i)=((bw l i).toNat:Int):=by
    rw [Zel];unfold bat bw
    rw [BitVec.toNat_ofNat]
    omega
  rw [Zig,this];rfl
def wb (x:BitVec 32):UInt8:=UInt8.ofNat x.toNat
theorem cvi_wb (x:BitVec 32):Zkv .u8 (W x)=.ret (.int .u8 ((wb x).toNat:Int),[]):=by
  have:IntKind.u8.wrap (x.toNat:Int)=((wb x).toNat:Int):=by
    rw [Zd1];unfold wb
    simp
  rw [W,Zig,this]
theorem WDs:(∀ (l:List (BitVec 32)) (n:Nat),(C3 l).take n=C3 (l.take n))∧(∀ (l:List (BitVec 32)) (n:Nat),(C3 l).drop n=C3 (l.drop n))∧(∀ (l:List (BitVec 32)) (i n:Nat),sub (C3 l) i n=C3 (sub l i n))∧(∀ l m:List (BitVec 32),m.length=l.length→over (C3 l) 0 (C3 m)=C3 m)∧(∀ n:Nat,zer (.int .u32 0) n=C3 (List.replicate n 0))∧(∀ a b:BitVec 32,G6 .add (W a) (W b)=some (W (a+b)))∧(∀ a b:BitVec 32,G6 .and (W a) (W b)=some (W (a &&& b)))∧(∀ a b:BitVec 32,G6 .or (W a) (W b)=some (W (a ||| b)))∧(∀ a b:BitVec 32,G6 .xor (W a) (W b)=some (W (a ^^^ b)))∧(∀ a:BitVec 32,Zkt .xor (W a)=some (W (~~~a)))∧(∀ (a:BitVec 32) (k:IntKind) (n:Int),0≤n→G6 .shl (W a) (.int k n)=some (W (a <<< n.toNat)))∧(∀ (a:BitVec 32) (k:IntKind) (n:Int),0≤n→G6 .shr (W a) (.int k n)=some (W (a >>> n.toNat)))∧(∀ l:List (BitVec 32),flats (C3 l)=true)∧(∀ l:List (BitVec 32),N3 (C3 l)=true)∧(∀ l:List (BitVec 32),leadss (C3 l)=false)∧(∀ l:List (BitVec 32),refsOfs (C3 l)=[])∧(∀ (f:Site→Nat→Option (Site × Nat)) (l:List (BitVec 32)),rens f (C3 l)=C3 l)∧(∀ l:List (BitVec 32),(C3 l).length=l.length)∧(∀ (l:List (BitVec 32)) (i:Nat),i<l.length→(C3 l)[i]? = some (W (l.getD i 0)))∧(∀ (l:List (BitVec 32)) (i:Nat) (x:BitVec 32),i<l.length→over (C3 l) i [W x]=C3 (l.set i x))∧(∀ x:BitVec 32,P9 (W x)=true)∧(∀ x:BitVec 32,J6 (W x)=true)∧(∀ x:BitVec 32,U7 (W x)=[])∧(∀ x:BitVec 32,O1 (W x)=false)∧(∀ (f:Site→Nat→Option (Site × Nat)) (x:BitVec 32),ren f (W x)=W x)∧(∀ x:BitVec 32,Zag (W x)=.ret (W x,[]))∧(∀ x:BitVec 32,S0 (W x)=.ret (W x,[]))∧(∀ x:BitVec 32,H3 (W x)=some [W x])∧(∀ (l:List UInt8) (i:Nat),Zkv .u32 (.int .u8 (bat l i))=.ret (W (bw l i),[]))∧(∀ x:BitVec 32,Zkv .u8 (W x)=.ret (.int .u8 ((wb x).toNat:Int),[])) :=
  ⟨Zvt,Zvu,Z1x,fun _ _ h=>Zn1 h,Z1v,w_add,w_and,w_or,w_xor,w_not,w_shl,w_shr,Zrm,Zrn,Znz,Zn0,Zvr,Za6,fun _ _ h=>Z1w h,fun _ _ _ h=>Zvs h,hard_W,flat_W,Z8e,Yc1,ren_W,view_W,Yc2,Z8f,cvi_bw,cvi_wb⟩
end Cod
namespace Cod
open Go
def Zbj (x:BitVec 32) (n:Nat):BitVec 32:=x >>> n ||| x <<< (32-n)
theorem Zbv {x:BitVec 32} {k:Int} {n:Nat} (hn:n≤32) (hk:Ztw .u64 (IntKind.u64.wrap k) 31=((32-n:Nat):Int)) :
    S E F.C5 [W x,.int .i64 k] []=some (W (Zbj x n),[]):=by
  have h1:IntKind.u64.wrap (32-((32-n:Nat):Int))=(n:Int):=by
    simp only [IntKind.wrap,IntKind.signed,IntKind.bits]
    simp
    omega
  rw [N6 Zmx rfl rfl]
  simp (disch:=omega) only [L.C5,go_sem,reduceIte,reduceCtorEq,D1,D2,D3,D4,D5,D6,D7,D8,D9,E2,E3,E4,E5,E6,E7,E8,E9,F0,F1,A5,WDs,hk,h1]
  rw [Zbj,BitVec.or_comm]
theorem rot_7 {x:BitVec 32}:S E F.C5 [W x,.int .i64 (-7)] []=some (W (Zbj x 7),[]):=Zbv (by omega) (by decide)
theorem rot_18 {x:BitVec 32}:S E F.C5 [W x,.int .i64 (-18)] []=some (W (Zbj x 18),[]):=Zbv (by omega) (by decide)
theorem rot_17 {x:BitVec 32}:S E F.C5 [W x,.int .i64 (-17)] []=some (W (Zbj x 17),[]):=Zbv (by omega) (by decide)
theorem rot_19 {x:BitVec 32}:S E F.C5 [W x,.int .i64 (-19)] []=some (W (Zbj x 19),[]):=Zbv (by omega) (by decide)
theorem rot_6 {x:BitVec 32}:S E F.C5 [W x,.int .i64 (-6)] []=some (W (Zbj x 6),[]):=Zbv (by omega) (by decide)
theorem rot_11 {x:BitVec 32}:S E F.C5 [W x,.int .i64 (-11)] []=some (W (Zbj x 11),[]):=Zbv (by omega) (by decide)
theorem rot_25 {x:BitVec 32}:S E F.C5 [W x,.int .i64 (-25)] []=some (W (Zbj x 25),[]):=Zbv (by omega) (by decide)
theorem rot_2 {x:BitVec 32}:S E F.C5 [W x,.int .i64 (-2)] []=some (W (Zbj x 2),[]):=Zbv (by omega) (by decide)
theorem rot_13 {x:BitVec 32}:S E F.C5 [W x,.int .i64 (-13)] []=some (W (Zbj x 13),[]):=Zbv (by omega) (by decide)
theorem rot_22 {x:BitVec 32}:S E F.C5 [W x,.int .i64 (-22)] []=some (W (Zbj x 22),[]):=Zbv (by omega) (by decide)
def word4 (b:List UInt8) (i:Nat):BitVec 32:=bw b (4*i) <<< 24 ||| bw b (4*i+1) <<< 16 ||| bw b (4*i+2) <<< 8 ||| bw b (4*i+3)
def Zg4 (b:List UInt8):Nat→Nat→List (BitVec 32)→List (BitVec 32)
  | 0,_,ws=>ws
  | m+1,i,ws=>Zg4 b m (i+1) (ws.set i (word4 b i))
def sig0 (x:BitVec 32):BitVec 32:=Zbj x 7 ^^^ Zbj x 18 ^^^ x >>> 3
def sig1 (y:BitVec 32):BitVec 32:=Zbj y 17 ^^^ Zbj y 19 ^^^ y >>> 10
def sched (ws:List (BitVec 32)) (i:Nat):BitVec 32:=ws.getD (i-16) 0+sig0 (ws.getD (i-15) 0)+ws.getD (i-7) 0+sig1 (ws.getD (i-2) 0)
def Ziw:Nat→Nat→List (BitVec 32)→List (BitVec 32)
  | 0,_,ws=>ws
  | m+1,i,ws=>Ziw m (i+1) (ws.set i (sched ws i))
theorem Zfr (b:List UInt8):∀ m i ws,(Zg4 b m i ws).length=ws.length:=by
  intro m
  induction m with
  | zero=>intro i ws;rfl
  | succ m ih=>intro i ws;simp [Zg4,ih]
theorem Zn2:∀ m i ws,(Ziw m i ws).length=ws.length:=by
  intro m
  induction m with
  | zero=>intro i ws;rfl
  | succ m ih=>intro i ws;simp [Ziw,ih]
theorem Z8g {h:List (BitVec 32)} {b:List UInt8} (hh:h.length=8) (hb:b.length=64) (k:List It):∀ (m i:Nat) (ws:List (BitVec 32)),i+m=16→ws.length=64 →
    X E [.cell 4 (some 8)] (.c L.C1.x0::.lp [2,3,4,5,23] L.C1.x0::.blk 0::k) ⟨[(2,.ref (.s 1000000 0) 0 0),(3,.ref (.s 1000000 1) 0 0),(4,.ref (.s 1000000 2) 0 0),(5,.ref (.s 1000000 3) 0 0),(23,.int .i64 i)],[(.s 1000000 0,⟨0,true,true,true,C3 h⟩),(.s 1000000 1,⟨0,true,true,true,A1 b⟩),(.s 1000000 2,⟨0,true,true,true,C3 (List.replicate 8 0)⟩),(.s 1000000 3,⟨0,true,true,true,C3 ws⟩)]⟩=X E [.cell 4 (some 8)] k ⟨[(2,.ref (.s 1000000 0) 0 0),(3,.ref (.s 1000000 1) 0 0),(4,.ref (.s 1000000 2) 0 0),(5,.ref (.s 1000000 3) 0 0),(23,.int .i64 16),(24,.bool false)],[(.s 1000000 0,⟨0,true,true,true,C3 h⟩),(.s 1000000 1,⟨0,true,true,true,A1 b⟩),(.s 1000000 2,⟨0,true,true,true,C3 (List.replicate 8 0)⟩),(.s 1000000 3,⟨0,true,true,true,C3 (Zg4 b m i ws)⟩)]⟩:=by
  intro m
  induction m with
  | zero =>
    intro i ws h1 h2
    obtain rfl:i=16:=by omega
    rw [H7 L.C1.x0.eq_1]
    simp (disch:=omega) only [go_sem,reduceIte,reduceCtorEq,D1,D2,D3,D4,D5,D6,D7,D8,D9,E2,E3,E4,E5,E6,E7,E8,E9,F0,F1,A5,B8,B7,B5,WDs,BYs,Zg4,Yf4]
  | succ m ih =>
    intro i ws h1 h2
    have e0:(4*(i:Int)).toNat=4*i:=by omega
    have e1:(4*(i:Int)+1).toNat=4*i+1:=by omega
    have e2:(4*(i:Int)+2).toNat=4*i+2:=by omega
    have e3:(4*(i:Int)+3).toNat=4*i+3:=by omega
    rw [H7 L.C1.x0.eq_1]
    simp (disch:=omega) only [go_sem,reduceIte,reduceCtorEq,D1,D2,D3,D4,D5,D6,D7,D8,D9,E2,E3,E4,E5,E6,E7,E8,E9,F0,F1,A5,B8,B7,B5,WDs,BYs,Zg4,e0,e1,e2,e3]
    have:=ih (i+1) (ws.set i (word4 b i)) (by omega) (by simpa using h2)
    simp only [Yga,Yf4] at this
    exact this
theorem Z8h {h:List (BitVec 32)} (hh:h.length=8) (k:List It):∀ (m i:Nat) (ws:List (BitVec 32)),i+m=64→16≤i→ws.length=64 →
    X E [.cell 4 (some 8)] (.c L.C1.x1::.lp [2,4,5,7] L.C1.x1::.blk 2::k) ⟨[(2,.ref (.s 1000000 0) 0 0),(4,.ref (.s 1000000 1) 0 0),(5,.ref (.s 1000000 2) 0 0),(7,.int .i64 i)],[(.s 1000000 0,⟨0,true,true,true,C3 h⟩),(.s 1000000 1,⟨0,true,true,true,C3 (List.replicate 8 0)⟩),(.s 1000000 2,⟨0,true,true,true,C3 ws⟩)]⟩=X E [.cell 4 (some 8)] k ⟨[(2,.ref (.s 1000000 0) 0 0),(4,.ref (.s 1000000 1) 0 0),(5,.ref (.s 1000000 2) 0 0),(7,.int .i64 64),(59,.bool false)],[(.s 1000000 0,⟨0,true,true,true,C3 h⟩),(.s 1000000 1,⟨0,true,true,true,C3 (List.replicate 8 0)⟩),(.s 1000000 2,⟨0,true,true,true,C3 (Ziw m i ws)⟩)]⟩:=by
  intro m
  induction m with
  | zero =>
    intro i ws h1 h0 h2
    obtain rfl:i=64:=by omega
    rw [H7 L.C1.x1.eq_1]
    simp (disch:=omega) only [go_sem,reduceIte,reduceCtorEq,D1,D2,D3,D4,D5,D6,D7,D8,D9,E2,E3,E4,E5,E6,E7,E8,E9,F0,F1,A5,B8,B7,B5,WDs,BYs,Ziw,Yf4]
  | succ m ih =>
    intro i ws h1 h0 h2
    have e0:((i:Int)-16).toNat=i-16:=by omega
    have e1:((i:Int)-15).toNat=i-15:=by omega
    have e2:((i:Int)-7).toNat=i-7:=by omega
    have e3:((i:Int)-2).toNat=i-2:=by omega
    rw [H7 L.C1.x1.eq_1]
    simp (disch:=omega) only [go_sem,reduceIte,reduceCtorEq,D1,D2,D3,D4,D5,D6,D7,D8,D9,E2,E3,E4,E5,E6,E7,E8,E9,F0,F1,A5,B8,B7,B5,WDs,BYs,Ziw,e0,e1,e2,e3,rot_7,rot_18,rot_17,rot_19]
    have:=ih (i+1) (ws.set i (sched ws i)) (by omega) (by omega) (by simpa using h2)
    simp only [Yga,Yf4] at this
    exact this
structure S8 where
  a:BitVec 32
  b:BitVec 32
  c:BitVec 32
  d:BitVec 32
  e:BitVec 32
  f:BitVec 32
  g:BitVec 32
  h:BitVec 32
def su1 (e:BitVec 32):BitVec 32:=Zbj e 6 ^^^ Zbj e 11 ^^^ Zbj e 25
def su0 (a:BitVec 32):BitVec 32:=Zbj a 2 ^^^ Zbj a 13 ^^^ Zbj a 22
def rndU (k w:BitVec 32) (s:S8):BitVec 32:=s.h+su1 s.e+(s.e &&& s.f ||| ~~~s.e &&& s.g)+k+w
def rndV (s:S8):BitVec 32:=su0 s.a+(s.a &&& s.b ^^^ s.a &&& s.c ^^^ s.b &&& s.c)
def rnd (k w:BitVec 32) (s:S8):S8:=⟨rndU k w s+rndV s,s.a,s.b,s.c,s.d+rndU k w s,s.e,s.f,s.g⟩
def Zgk (ws:List (BitVec 32)):Nat→Nat→S8→S8
  | 0,_,s=>s
  | m+1,i,s=>Zgk ws m (i+1) (rnd (Znm.getD i 0) (ws.getD i 0) s)
def S8.of (h:List (BitVec 32)):S8:=⟨h.getD 0 0,h.getD 1 0,h.getD 2 0,h.getD 3 0,h.getD 4 0,h.getD 5 0,h.getD 6 0,h.getD 7 0⟩
def S8.plus (h:List (BitVec 32)) (s:S8):List (BitVec 32):=[h.getD 0 0+s.a,h.getD 1 0+s.b,h.getD 2 0+s.c,h.getD 3 0+s.d,h.getD 4 0+s.e,h.getD 5 0+s.f,h.getD 6 0+s.g,h.getD 7 0+s.h]
def msch (b:List UInt8):List (BitVec 32):=Ziw 48 16 (Zg4 b 16 0 (List.replicate 64 0))
def Zgl (h:List (BitVec 32)) (b:List UInt8):List (BitVec 32):=S8.plus h (Zgk (msch b) 64 0 (S8.of h))
theorem Zro (b:List UInt8):(msch b).length=64:=by rw [msch,Zn2,Zfr];simp
theorem Y6 (h:List (BitVec 32)) (b:List UInt8):(Zgl h b).length=8:=rfl
theorem Zrp:Znm.length=64:=rfl
theorem Z8i {h ws:List (BitVec 32)} (hh:h.length=8) (hw:ws.length=64) (k:List It):∀ (m i:Nat) (s:S8),i+m=64 →
    X E [.cell 4 (some 8)] (.c L.C1.x2::.lp [2,4,5,12,13,14,15,16,17,18,19,117] L.C1.x2::.blk 4::k) ⟨[(2,.ref (.s 1000000 0) 0 0),(4,.ref (.s 1000000 1) 0 0),(5,.ref (.s 1000000 2) 0 0),(12,W s.a),(13,W s.b),(14,W s.c),(15,W s.d),(16,W s.e),(17,W s.f),(18,W s.g),(19,W s.h),(117,.int .i64 i)],[(.s 1000000 0,⟨0,true,true,true,C3 h⟩),(.s 1000000 1,⟨0,true,true,true,C3 (List.replicate 8 0)⟩),(.s 1000000 2,⟨0,true,true,true,C3 ws⟩)]⟩=X E [.cell 4 (some 8)] k ⟨[(2,.ref (.s 1000000 0) 0 0),(4,.ref (.s 1000000 1) 0 0),(5,.ref (.s 1000000 2) 0 0),(12,W (Zgk ws m i s).a),(13,W (Zgk ws m i s).b),(14,W (Zgk ws m i s).c),(15,W (Zgk ws m i s).d),(16,W (Zgk ws m i s).e),(17,W (Zgk ws m i s).f),(18,W (Zgk ws m i s).g),(19,W (Zgk ws m i s).h),(117,.int .i64 64),(118,.bool false)],[(.s 1000000 0,⟨0,true,true,true,C3 h⟩),(.s 1000000 1,⟨0,true,true,true,C3 (List.replicate 8 0)⟩),(.s 1000000 2,⟨0,true,true,true,C3 ws⟩)]⟩:=by
  intro m
  have hk:=Zrp
  induction m with
  | zero =>
    intro i s h1
    obtain rfl:i=64:=by omega
    rw [H7 L.C1.x2.eq_1]
    simp (disch:=omega) only [go_sem,reduceIte,reduceCtorEq,D1,D2,D3,D4,D5,D6,D7,D8,D9,E2,E3,E4,E5,E6,E7,E8,E9,F0,F1,A5,B8,B7,B5,WDs,BYs,Zgk,Yf4]
  | succ m ih =>
    intro i s h1
    rw [H7 L.C1.x2.eq_1]
    simp (disch:=omega) only [go_sem,reduceIte,reduceCtorEq,D1,D2,D3,D4,D5,D6,D7,D8,D9,E2,E3,E4,E5,E6,E7,E8,E9,F0,F1,A5,B8,B7,B5,WDs,BYs,Zgk,glob_k,rot_6,rot_11,rot_25,rot_2,rot_13,rot_22]
    have:=ih (i+1) (rnd (Znm.getD i 0) (ws.getD i 0) s) (by omega)
    simp only [Yga,Yf4] at this
    exact this
theorem Z8j {h ws:List (BitVec 32)} (hh:h.length=8) (R:S8):X E [.cell 4 (some 8)] [.c L.C1.r2] ⟨[(2,.ref (.s 1000000 0) 0 0),(4,.ref (.s 1000000 1) 0 0),(5,.ref (.s 1000000 2) 0 0),(12,W R.a),(13,W R.b),(14,W R.c),(15,W R.d),(16,W R.e),(17,W R.f),(18,W R.g),(19,W R.h),(117,.int .i64 64),(118,.bool false)],[(.s 1000000 0,⟨0,true,true,true,C3 h⟩),(.s 1000000 1,⟨0,true,true,true,C3 (List.replicate 8 0)⟩),(.s 1000000 2,⟨0,true,true,true,C3 ws⟩)]⟩=some (.agg (C3 (S8.plus h R)),[]):=by
  simp -dsimp (disch:=first|omega|(simp only [A8]<;>omega)|fail) only [L.C1.r2,go_sem,reduceIte,reduceCtorEq,D1,D2,D3,D4,D5,D6,D7,D8,D9,E2,E3,E4,E5,E6,E7,E8,E9,F0,F1,A5,B8,B7,B5,WDs,BYs,Ygo,Ygp]
  rfl
theorem Z8k {h ws:List (BitVec 32)} (hh:h.length=8) (hw:ws.length=64):X E [.cell 4 (some 8)] [.c L.C1.r1] ⟨[(2,.ref (.s 1000000 0) 0 0),(4,.ref (.s 1000000 1) 0 0),(5,.ref (.s 1000000 2) 0 0),(7,.int .i64 64),(59,.bool false)],[(.s 1000000 0,⟨0,true,true,true,C3 h⟩),(.s 1000000 1,⟨0,true,true,true,C3 (List.replicate 8 0)⟩),(.s 1000000 2,⟨0,true,true,true,C3 ws⟩)]⟩=some (.agg (C3 (S8.plus h (Zgk ws 64 0 (S8.of h)))),[]):=by
  rw [←Z8j (ws:=ws) hh]
  have:=Z8i hh hw [.c L.C1.r2] 64 0 (S8.of h) (by omega)
  simp only [Yf4] at this
  rw [←this]
  simp -dsimp (disch:=first|omega|(simp only [A8]<;>omega)|fail) only [L.C1.r1,go_sem,reduceIte,reduceCtorEq,D1,D2,D3,D4,D5,D6,D7,D8,D9,E2,E3,E4,E5,E6,E7,E8,E9,F0,F1,A5,B8,B7,B5,WDs,BYs,S8.of]
theorem Zrq {h:List (BitVec 32)} {b:List UInt8} (hh:h.length=8) (hb:b.length=64):S E F.C1 [.agg (C3 h),.agg (A1 b)] []=some (.agg (C3 (Zgl h b)),[]):=by
  have l1:(Zg4 b 16 0 (List.replicate 64 0)).length=64:=by rw [Zfr];simp
  rw [Zgl,←Z8k hh (Zro b),msch]
  have:=Z8h hh [.c L.C1.r1] 48 16 _ (by omega) (by omega) l1
  simp only [Yf4] at this
  rw [←this]
  rw [N6 Zmh rfl rfl]
  simp -dsimp (disch:=first|omega|(simp only [A8]<;>omega)|fail) only [L.C1,go_sem,reduceIte,reduceCtorEq,D1,D2,D3,D4,D5,D6,D7,D8,D9,E2,E3,E4,E5,E6,E7,E8,E9,F0,F1,A5,B8,B7,B5,WDs,BYs]
  have:=Z8g hh hb [.c L.C1.r0] 16 0 (List.replicate 64 0) (by omega) (by simp)
  simp only [Yf4] at this
  rw [this]
  simp -dsimp (disch:=first|omega|(simp only [A8]<;>omega)|fail) only [L.C1.r0,go_sem,reduceIte,reduceCtorEq,D1,D2,D3,D4,D5,D6,D7,D8,D9,E2,E3,E4,E5,E6,E7,E8,E9,F0,F1,A5,B8,B7,B5,WDs,BYs]
end Cod
namespace Cod
open Go
def h0w:List (BitVec 32):=[0x6a09e667,0xbb67ae85,0x3c6ef372,0xa54ff53a,0x510e527f,0x9b05688c,0x1f83d9ab,0x5be0cd19]
def Q4:Nat→List (BitVec 32)→List UInt8→List (BitVec 32)
  | 0,h,_=>h
  | m+1,h,l=>Q4 m (Zgl h (l.take 64)) (l.drop 64)
def be8 (v:Nat):List UInt8:=[UInt8.ofNat (v/2^56%256),UInt8.ofNat (v/2^48%256),UInt8.ofNat (v/2^40%256),UInt8.ofNat (v/2^32%256),UInt8.ofNat (v/2^24%256),UInt8.ofNat (v/2^16%256),UInt8.ofNat (v/2^8%256),UInt8.ofNat (v/2^0%256)]
def Zhe (n:Nat):List UInt8:=128::(List.replicate ((119-n%64)%64) 0++be8 (8*n))
def Zrr (h:List (BitVec 32)):List UInt8:=(List.range 32).map fun i=>wb (h.getD (i/4) 0 >>> (24-8*(i%4)))
def Zhf (p:List UInt8):List UInt8 :=
  Zrr (Q4 ((p.drop (p.length/64*64)++Zhe p.length).length/64) (Q4 (p.length/64) h0w p) (p.drop (p.length/64*64)++Zhe p.length))
theorem Zfs:∀ (m:Nat) (h:List (BitVec 32)) (l:List UInt8),h.length=8→(Q4 m h l).length=8:=by
  intro m
  induction m with
  | zero=>intro h l hh;exact hh
  | succ m ih=>intro h l _;exact ih _ _ (Y6 _ _)
def Zdp (n:Nat):Nat→Nat→List UInt8→List UInt8
  | 0,_,l=>l
  | m+1,i,l=>Zdp n m (i+1) (l.set (l.length-1-i) (UInt8.ofNat (8*n/2^(8*i)%256)))
theorem pad_l0 {n:Nat} (hn:n≤1000000000000) (k:List It):∀ (m i:Nat) (l:List UInt8),i+m=8→8≤l.length→l.length≤100 →
    X E [.tmp 2] (.c L.N9.x0::.lp [0,3,16] L.N9.x0::.blk 0::k) ⟨[(0,.int .i64 n),(3,.buf (.s 1000000 0) 0 0 (l).length 1),(16,.int .i64 i)],[(.s 1000000 0,⟨0,true,true,false,A1 l⟩)]⟩=X E [.tmp 2] k ⟨[(0,.int .i64 n),(3,.buf (.s 1000000 0) 0 0 ((Zdp n m i l)).length 1),(16,.int .i64 8),(17,.bool false)],[(.s 1000000 0,⟨0,true,true,false,A1 (Zdp n m i l)⟩)]⟩:=by
  intro m
  induction m with
  | zero =>
    intro i l h1 h2 h3
    obtain rfl:i=8:=by omega
    rw [H7 L.N9.x0.eq_1]
    simp -dsimp (disch:=first|omega|(simp only [A8]<;>omega)|fail) only [go_sem,reduceIte,reduceCtorEq,D1,D2,D3,D4,D5,D6,D7,D8,D9,E2,E3,E4,E5,E6,E7,E8,E9,F0,F1,A5,B8,B7,B5,BYs,Zdp,Yf4]
  | succ m ih =>
    intro i l h1 h2 h3
    have e0:((l.length:Int)-1-i).toNat=l.length-1-i:=by omega
    have e1:Zpz .u64 (ishl .u64 (n:Int) 3) (8*(i:Int))=((8*n/2^(8*i):Nat):Int):=by
      rw [show (8*(i:Int))=((8*i:Nat):Int) by omega,Zqt (by simp [IntKind.bits];omega),show (3:Int)=((3:Nat):Int) from rfl,Z7b (by omega),Ygk,Ygi]
      congr 1
      omega
    have e2:((8*n/2^(8*i):Nat):Int)%256=((8*n/2^(8*i)%256:Nat):Int):=by omega
    have e3:(((8*n/2^(8*i)%256:Nat):Int)).toNat=8*n/2^(8*i)%256:=by omega
    rw [H7 L.N9.x0.eq_1]
    simp -dsimp (disch:=first|omega|(simp only [A8]<;>omega)|fail) only [go_sem,reduceIte,reduceCtorEq,D1,D2,D3,D4,D5,D6,D7,D8,D9,E2,E3,E4,E5,E6,E7,E8,E9,F0,F1,A5,B8,B7,B5,BYs,Zdp,e0,e1,e2,e3]
    have:=ih (i+1) (l.set (l.length-1-i) (UInt8.ofNat (8*n/2^(8*i)%256))) (by omega) (by simpa using h2) (by simpa using h3)
    simp only [Yga,Yf4,Ygp] at this
    exact this
theorem Zvv (n z:Nat) (a:List UInt8):Zdp n 8 0 (a++List.replicate 8 0)=a++be8 (8*n):=by
  have key:∀ (i:Nat) (x:UInt8) (t:List UInt8),t.length=8→i<8→(a++t).set ((a++t).length-1-i) x=a++t.set (7-i) x:=by
    intro i x t ht hi
    rw [Yek,ht,List.set_append,if_neg (by omega)]
    congr 2
    omega
  simp only [Zdp]
  rw [key 0 _ _ (by simp) (by omega),key 1 _ _ (by simp) (by omega),key 2 _ _ (by simp) (by omega),key 3 _ _ (by simp) (by omega),key 4 _ _ (by simp) (by omega),key 5 _ _ (by simp) (by omega),key 6 _ _ (by simp) (by omega),key 7 _ _ (by simp) (by omega)]
  rfl
theorem Z8l (m:Nat):rep [AV.int .u8 0] m=A1 (List.replicate m 0):=by
  induction m with
  | zero=>rfl
  | succ m ih=>rw [rep,ih];rfl
theorem go_pad {n:Nat} (h1:n≤1000000000000):S E F.N9 [.int .i64 n] []=some (.buf (.r 0) 0 0 (Zhe n).length 1,[(.r 0,⟨0,true,true,false,A1 (Zhe n)⟩)]):=by
  have hm3:(1+(119-(n:Int)%64)%64+8).toNat=(119-n%64)%64+9:=by omega
  have hlt:(119-n%64)%64<64:=by omega
  have hr:List.replicate ((119-n%64)%64+9) (0:UInt8)=0::(List.replicate ((119-n%64)%64) 0++List.replicate 8 0):=by
    rw [List.replicate_append_replicate];rfl
  have hn0:¬ (n:Int)<0:=by omega
  generalize hz:(119-n%64)%64=z at *
  have hl:=pad_l0 h1 [.c L.N9.r0] 8 0 (128::(List.replicate z 0++List.replicate 8 0)) (by omega) (by simp) (by simp;omega)
  have hp:Zdp n 8 0 (128::(List.replicate z 0++List.replicate 8 0))=Zhe n:=by
    have:=Zvv n z (128::List.replicate z 0)
    rw [List.cons_append] at this
    rw [this,Zhe,hz];rfl
  rw [hp] at hl
  have hlen:(Zhe n).length=z+9:=by rw [Zhe,hz];simp [be8]
  simp only [Yf4] at hl
  rw [N6 Zuy rfl rfl]
  simp -dsimp (disch:=first|omega|(simp only [A8]<;>omega)|fail) only [L.N9,go_sem,reduceIte,reduceCtorEq,D1,D2,D3,D4,D5,D6,D7,D8,D9,E2,E3,E4,E5,E6,E7,E8,E9,F0,F1,A5,B8,B7,B5,BYs,hn0,hm3,Z8l,hr,List.set_cons_zero,Int.toNat_zero,UInt8.reduceOfNat]
  have hb:(128::(List.replicate z 0++List.replicate 8 (0:UInt8))).length=z+9:=by simp
  rw [hb] at hl
  rw [hl]
  simp -dsimp (disch:=first|omega|(simp only [A8]<;>omega)|fail) only [L.N9.r0,go_sem,reduceIte,reduceCtorEq,D1,D2,D3,D4,D5,D6,D7,D8,D9,E2,E3,E4,E5,E6,E7,E8,E9,F0,F1,A5,B8,B7,B5,BYs,hlen]
theorem sum_l0 {p:List UInt8} (k:List It):∀ (m:Nat) (r:List UInt8) (n:Nat) (h:List (BitVec 32)),n=r.length→n/64=m→n≤1000000000000→h.length=8 →
    X E [.cell 2 (some 32)] (.c L.F2.x0::.lp [0,2,3,4] L.F2.x0::.blk 0::k) ⟨[(0,.lst (A1 p) p.length),(2,.ref (.s 1000000 0) 0 0),(3,.ref (.s 1000000 1) 0 0),(4,.lst (A1 r) n)],[(.s 1000000 0,⟨0,true,true,true,A1 (List.replicate 32 0)⟩),(.s 1000000 1,⟨0,true,true,true,C3 h⟩)]⟩ =
    X E [.cell 2 (some 32)] k ⟨[(0,.lst (A1 p) p.length),(2,.ref (.s 1000000 0) 0 0),(3,.ref (.s 1000000 1) 0 0),(4,.lst (A1 (r.drop (64*m))) (n-64*m)),(13,.bool false)],[(.s 1000000 0,⟨0,true,true,true,A1 (List.replicate 32 0)⟩),(.s 1000000 1,⟨0,true,true,true,C3 (Q4 m h r)⟩)]⟩:=by
  intro m
  induction m with
  | zero =>
    intro r n h h1 h2 h3 h4
    rw [H7 L.F2.x0.eq_1]
    simp -dsimp (disch:=first|omega|(simp only [A8]<;>omega)|fail) only [go_sem,reduceIte,reduceCtorEq,D1,D2,D3,D4,D5,D6,D7,D8,D9,E2,E3,E4,E5,E6,E7,E8,E9,F0,F1,A5,B8,B7,B5,BYs,WDs,Q4,Yfc,Yeu,Nat.mul_zero]
  | succ m ih =>
    intro r n h h1 h2 h3 h4
    have hb:(r.take 64).length=64:=by rw [Yd0];omega
    have hbl:=Y6 h (r.take 64)
    rw [H7 L.F2.x0.eq_1]
    simp -dsimp (disch:=first|omega|(simp only [A8]<;>omega)|fail) only [go_sem,reduceIte,reduceCtorEq,D1,D2,D3,D4,D5,D6,D7,D8,D9,E2,E3,E4,E5,E6,E7,E8,E9,F0,F1,A5,B8,B7,B5,BYs,WDs,Q4,Zrq h4 hb]
    have:=ih (r.drop 64) (n-64) (Zgl h (r.take 64)) (by simp [h1]) (by omega) (by omega) (Y6 _ _)
    rw [Yer,show 64+64*m=64*(m+1) by omega,show n-64-64*m=n-64*(m+1) by omega] at this
    exact this
theorem sum_l1 {full:List UInt8} (hf:full.length≤1000000000100) (k:List It):∀ (m off n:Nat) (h:List (BitVec 32)),off+n=full.length→n/64=m→h.length=8 →
    X E [.cell 2 (some 32)] (.c L.F2.x1::.lp [2,3,4] L.F2.x1::.blk 2::k) ⟨[(2,.ref (.s 1000000 0) 0 0),(3,.ref (.s 1000000 1) 0 0),(4,.buf (.s 1000000 2) 0 off n 1)],[(.s 1000000 0,⟨0,true,true,true,A1 (List.replicate 32 0)⟩),(.s 1000000 1,⟨0,true,true,true,C3 h⟩),(.s 1000000 2,⟨0,true,true,false,A1 full⟩)]⟩ =
    X E [.cell 2 (some 32)] k ⟨[(2,.ref (.s 1000000 0) 0 0),(3,.ref (.s 1000000 1) 0 0),(4,.buf (.s 1000000 2) 0 (off+64*m) (n-64*m) 1),(29,.bool false)],[(.s 1000000 0,⟨0,true,true,true,A1 (List.replicate 32 0)⟩),(.s 1000000 1,⟨0,true,true,true,C3 (Q4 m h (full.drop off))⟩),(.s 1000000 2,⟨0,true,true,false,A1 full⟩)]⟩:=by
  intro m
  induction m with
  | zero =>
    intro off n h h1 h2 h4
    rw [H7 L.F2.x1.eq_1]
    simp -dsimp (disch:=first|omega|(simp only [A8]<;>omega)|fail) only [go_sem,reduceIte,reduceCtorEq,D1,D2,D3,D4,D5,D6,D7,D8,D9,E2,E3,E4,E5,E6,E7,E8,E9,F0,F1,A5,B8,B7,B5,BYs,WDs,Q4,Yfc,Yeu,Nat.mul_zero]
  | succ m ih =>
    intro off n h h1 h2 h4
    have hb:((full.drop off).take 64).length=64:=by rw [Yd0,Yd1];omega
    have hbl:=Y6 h ((full.drop off).take 64)
    have hs:sub full off 64=(full.drop off).take 64:=rfl
    rw [H7 L.F2.x1.eq_1]
    simp -dsimp (disch:=first|omega|(simp only [A8]<;>omega)|fail) only [go_sem,reduceIte,reduceCtorEq,D1,D2,D3,D4,D5,D6,D7,D8,D9,E2,E3,E4,E5,E6,E7,E8,E9,F0,F1,A5,B8,B7,B5,BYs,WDs,Q4,hs,Zrq h4 hb]
    have:=ih (off+64) (n-64) (Zgl h ((full.drop off).take 64)) (by omega) (by omega) (Y6 _ _)
    rw [show off+64+64*m=off+64*(m+1) by omega,show n-64-64*m=n-64*(m+1) by omega,←Yer] at this
    exact this
def Zdq (x:BitVec 32) (i:Nat):Nat→Nat→List UInt8→List UInt8
  | 0,_,l=>l
  | m+1,j,l=>Zdq x i m (j+1) (l.set (4*i+j) (wb (x >>> (24-8*j))))
def Zkl (h:List (BitVec 32)):Nat→Nat→List UInt8→List UInt8
  | 0,_,l=>l
  | m+1,i,l=>Zkl h m (i+1) (Zdq (h.getD i 0) i 4 0 l)
theorem Zn3 (x:BitVec 32) (i:Nat):∀ m j l,(Zdq x i m j l).length=l.length:=by
  intro m
  induction m with
  | zero=>intro j l;rfl
  | succ m ih=>intro j l;simp [Zdq,ih]
theorem sum_l3 {h:List (BitVec 32)} {x:BitVec 32} {i:Nat} (hi:i<8) (k:List It):∀ (m j:Nat) (l:List UInt8),j+m=4→l.length=32 →
    X E [.cell 2 (some 32)] (.c L.F2.x3::.lp [2,5,6,7,37,38,42] L.F2.x3::.blk 6::k) ⟨[(2,.ref (.s 1000000 0) 0 0),(5,.ref (.s 1000000 1) 0 0),(6,.int .i64 i),(7,W x),(37,.agg (C3 h)),(38,.int .i64 i),(42,.int .i64 j)],[(.s 1000000 0,⟨0,true,true,true,A1 (List.replicate 32 0)⟩),(.s 1000000 1,⟨0,true,true,true,A1 l⟩)]⟩ =
    X E [.cell 2 (some 32)] k ⟨[(2,.ref (.s 1000000 0) 0 0),(5,.ref (.s 1000000 1) 0 0),(6,.int .i64 i),(7,W x),(37,.agg (C3 h)),(38,.int .i64 i),(42,.int .i64 4),(43,.bool false)],[(.s 1000000 0,⟨0,true,true,true,A1 (List.replicate 32 0)⟩),(.s 1000000 1,⟨0,true,true,true,A1 (Zdq x i m j l)⟩)]⟩:=by
  intro m
  induction m with
  | zero =>
    intro j l h1 h2
    obtain rfl:j=4:=by omega
    rw [H7 L.F2.x3.eq_1]
    simp -dsimp (disch:=first|omega|(simp only [A8]<;>omega)|fail) only [go_sem,reduceIte,reduceCtorEq,D1,D2,D3,D4,D5,D6,D7,D8,D9,E2,E3,E4,E5,E6,E7,E8,E9,F0,F1,A5,B8,B7,B5,BYs,WDs,Zdq,Yf4]
  | succ m ih =>
    intro j l h1 h2
    have e0:(4*(i:Int)+j).toNat=4*i+j:=by omega
    have e1:(24-8*(j:Int)).toNat=24-8*j:=by omega
    have hw:=(wb (x >>> (24-8*j))).toNat_lt
    have e2:UInt8.ofNat (wb (x >>> (24-8*j))).toNat=wb (x >>> (24-8*j)):=UInt8.ofNat_toNat
    rw [H7 L.F2.x3.eq_1]
    simp -dsimp (disch:=first|omega|(simp only [A8]<;>omega)|fail) only [go_sem,reduceIte,reduceCtorEq,D1,D2,D3,D4,D5,D6,D7,D8,D9,E2,E3,E4,E5,E6,E7,E8,E9,F0,F1,A5,B8,B7,B5,BYs,WDs,Zdq,e0,e1,e2]
    have:=ih (j+1) (l.set (4*i+j) (wb (x >>> (24-8*j)))) (by omega) (by simpa using h2)
    simp only [Yga,Yf4] at this
    exact this
theorem sum_l2 {h:List (BitVec 32)} (hh:h.length=8) (k:List It):∀ (m i:Nat) (l:List UInt8),i+m=8→l.length=32 →
    X E [.cell 2 (some 32)] (.c L.F2.x2::.lp [2,5,37,38] L.F2.x2::.blk 4::k) ⟨[(2,.ref (.s 1000000 0) 0 0),(5,.ref (.s 1000000 1) 0 0),(37,.agg (C3 h)),(38,.int .i64 i)],[(.s 1000000 0,⟨0,true,true,true,A1 (List.replicate 32 0)⟩),(.s 1000000 1,⟨0,true,true,true,A1 l⟩)]⟩ =
    X E [.cell 2 (some 32)] k ⟨[(2,.ref (.s 1000000 0) 0 0),(5,.ref (.s 1000000 1) 0 0),(37,.agg (C3 h)),(38,.int .i64 8),(39,.bool false)],[(.s 1000000 0,⟨0,true,true,true,A1 (List.replicate 32 0)⟩),(.s 1000000 1,⟨0,true,true,true,A1 (Zkl h m i l)⟩)]⟩:=by
  intro m
  induction m with
  | zero =>
    intro i l h1 h2
    obtain rfl:i=8:=by omega
    rw [H7 L.F2.x2.eq_1]
    simp -dsimp (disch:=first|omega|(simp only [A8]<;>omega)|fail) only [go_sem,reduceIte,reduceCtorEq,D1,D2,D3,D4,D5,D6,D7,D8,D9,E2,E3,E4,E5,E6,E7,E8,E9,F0,F1,A5,B8,B7,B5,BYs,WDs,Zkl,Yf4]
  | succ m ih =>
    intro i l h1 h2
    rw [H7 L.F2.x2.eq_1]
    simp -dsimp (disch:=first|omega|(simp only [A8]<;>omega)|fail) only [go_sem,reduceIte,reduceCtorEq,D1,D2,D3,D4,D5,D6,D7,D8,D9,E2,E3,E4,E5,E6,E7,E8,E9,F0,F1,A5,B8,B7,B5,BYs,WDs,Zkl]
    have h3:=sum_l3 (h:=h) (x:=h.getD i 0) (i:=i) (by omega) (.blk 5::.c L.F2.r2::.lp [2,5,37,38] L.F2.x2::.blk 4::k) 4 0 l (by omega) h2
    simp only [Yf4] at h3
    rw [h3]
    simp -dsimp (disch:=first|omega|(simp only [A8]<;>omega)|fail) only [L.F2.r2,go_sem,reduceIte,reduceCtorEq,D1,D2,D3,D4,D5,D6,D7,D8,D9,E2,E3,E4,E5,E6,E7,E8,E9,F0,F1,A5,B8,B7,B5,BYs,WDs]
    have:=ih (i+1) (Zdq (h.getD i 0) i 4 0 l) (by omega) (by rw [Zn3];exact h2)
    simp only [Yga,Yf4] at this
    exact this
theorem Z8m {h:List (BitVec 32)} (hh:h.length=8):Zkl h 8 0 (List.replicate 32 0)=Zrr h:=by
  match h,hh with
  | [a,b,c,d,e,f,g,i],_ =>
    show Zkl [a,b,c,d,e,f,g,i] 8 0 (List.replicate 32 0)=Zrr [a,b,c,d,e,f,g,i]
    kernel_rfl
theorem Yc3 {sl loc:List (Nat × AV)}:X3 (evR E sl loc) [(0,1,.k (.int .u32 1779033703)),(1,1,.k (.int .u32 3144134277)),(2,1,.k (.int .u32 1013904242)),(3,1,.k (.int .u32 2773480762)),(4,1,.k (.int .u32 1359893119)),(5,1,.k (.int .u32 2600822924)),(6,1,.k (.int .u32 528734635)),(7,1,.k (.int .u32 1541459225))] (some (C3 (List.replicate 8 0)))=some (C3 h0w):=by kernel_rfl
theorem Z8n {p:List UInt8} (hp:p.length≤1000000000000):S E F.F2 [.lst (A1 p) p.length] []=some (.agg (A1 (Zhf p)),[]):=by
  have hh0:h0w.length=8:=rfl
  have hbl:=Zfs (p.length/64) h0w p hh0
  have hpl:(Zhe p.length).length≤100:=by rw [Zhe];simp [be8];omega
  rw [N6 Zux rfl rfl]
  simp -dsimp (disch:=first|omega|(simp only [A8]<;>omega)|fail) only [↓Yc3,L.F2,go_sem,reduceIte,reduceCtorEq,D1,D2,D3,D4,D5,D6,D7,D8,D9,E2,E3,E4,E5,E6,E7,E8,E9,F0,F1,A5,B8,B7,B5,WDs,BYs]
  rw [sum_l0 (p:=p) [.c L.F2.r0] (p.length/64) p p.length h0w rfl rfl hp hh0]
  simp -dsimp (disch:=first|omega|(simp only [A8]<;>omega)|fail) only [L.F2.r0,go_sem,reduceIte,reduceCtorEq,D1,D2,D3,D4,D5,D6,D7,D8,D9,E2,E3,E4,E5,E6,E7,E8,E9,F0,F1,A5,B8,B7,B5,WDs,BYs,Ycc,go_pad hp]
  generalize hfull:p.drop (64*(p.length/64))++Zhe p.length=full
  have hfl:full.length=p.length-64*(p.length/64)+(Zhe p.length).length:=by rw [←hfull];simp
  have:=sum_l1 (full:=full) (by omega) [.c L.F2.r1] (full.length/64) 0 full.length (Q4 (p.length/64) h0w p) (by omega) rfl hbl
  simp only [Yen,Yfc] at this
  rw [←hfl,this]
  clear this
  have hbl2:=Zfs (full.length/64) (Q4 (p.length/64) h0w p) full hbl
  simp -dsimp (disch:=first|omega|(simp only [A8]<;>omega)|fail) only [L.F2.r1,go_sem,reduceIte,reduceCtorEq,D1,D2,D3,D4,D5,D6,D7,D8,D9,E2,E3,E4,E5,E6,E7,E8,E9,F0,F1,A5,B8,B7,B5,WDs,BYs]
  have:=sum_l2 hbl2 [.c L.F2.r3] 8 0 (List.replicate 32 0) (by omega) (by simp)
  simp only [Yf4] at this
  rw [this,Z8m hbl2]
  clear this
  have hid:(Zrr (Q4 (full.length/64) (Q4 (p.length/64) h0w p) full)).length=32:=by simp [Zrr]
  have hsha:Zhf p=Zrr (Q4 (full.length/64) (Q4 (p.length/64) h0w p) full):=by
    rw [Zhf,show p.length/64*64=64*(p.length/64) by omega,hfull]
  rw [hsha]
  simp -dsimp (disch:=first|omega|(simp only [A8]<;>omega)|fail) only [L.F2.r3,go_sem,reduceIte,reduceCtorEq,D1,D2,D3,D4,D5,D6,D7,D8,D9,E2,E3,E4,E5,E6,E7,E8,E9,F0,F1,A5,B8,B7,B5,WDs,BYs]
end Cod
namespace Cod
open Go
def Zg5 (k:Int):List UInt8:=if k=1 then [99,111,109,109,105,116] else if k=2 then [116,114,101,101] else if k=3 then [98,108,111,98] else if k=4 then [116,97,103] else []
theorem Zkm (k:Int):(Zg5 k).length≤6:=by unfold Zg5;split<;>(try split)<;>(try split)<;>(try split)<;>simp
theorem Zft {k:Int}:S E F.I1 [.int .i64 k] []=some (.str (Zg5 k),[]):=by
  rw [N6 Zme rfl rfl]
  unfold Zg5
  by_cases a:k=1
  · simp -dsimp (disch:=first|omega|(simp only [A8,A0]<;>omega)|fail) only [L.I1,go_sem,reduceIte,reduceCtorEq,D1,D2,D3,D4,D5,D6,D7,D8,D9,E2,E3,E4,E5,E6,E7,E8,E9,F0,F1,A5,a]
  · by_cases b:k=2
    · simp -dsimp (disch:=first|omega|(simp only [A8,A0]<;>omega)|fail) only [L.I1,go_sem,reduceIte,reduceCtorEq,D1,D2,D3,D4,D5,D6,D7,D8,D9,E2,E3,E4,E5,E6,E7,E8,E9,F0,F1,A5,a,b]
    · by_cases c:k=3
      · simp -dsimp (disch:=first|omega|(simp only [A8,A0]<;>omega)|fail) only [L.I1,go_sem,reduceIte,reduceCtorEq,D1,D2,D3,D4,D5,D6,D7,D8,D9,E2,E3,E4,E5,E6,E7,E8,E9,F0,F1,A5,a,b,c]
      · by_cases d:k=4
        · simp -dsimp (disch:=first|omega|(simp only [A8,A0]<;>omega)|fail) only [L.I1,go_sem,reduceIte,reduceCtorEq,D1,D2,D3,D4,D5,D6,D7,D8,D9,E2,E3,E4,E5,E6,E7,E8,E9,F0,F1,A5,a,b,c,d]
        · simp -dsimp (disch:=first|omega|(simp only [A8,A0]<;>omega)|fail) only [L.I1,go_sem,reduceIte,reduceCtorEq,D1,D2,D3,D4,D5,D6,D7,D8,D9,E2,E3,E4,E5,E6,E7,E8,E9,F0,F1,A5,a,b,c,d]
theorem go_if {b:Bool} {e:Int}:S E F.Q7 [.bool b,.int .i64 e] []=some (.int .i64 (if b then e else 0),[]):=by
  rw [N6 Zqh rfl rfl]
  cases b<;>simp -dsimp (disch:=first|omega|(simp only [A8,A0]<;>omega)|fail) only [L.Q7,go_sem,reduceIte,reduceCtorEq,D1,D2,D3,D4,D5,D6,D7,D8,D9,E2,E3,E4,E5,E6,E7,E8,E9,F0,F1,A5]
theorem Z1y {l:List Int} (hl:l.length≤1000000):∀ (m i:Nat) (w:Int),i+m=l.length →
    X E [.tmp 2] (.c L.G8.x0::.lp [3,6,7,8] L.G8.x0::.blk 0::[.c L.G8.r0]) ⟨[(3,.int .i64 w),(6,.lst (J8 l) l.length),(7,.int .i64 l.length),(8,.int .i64 i)],[]⟩=some (.int .i64 ((l.drop i).foldl Zgh w),[]):=by
  intro m
  induction m with
  | zero =>
    intro i w h
    obtain rfl:i=l.length:=by omega
    rw [H7 L.G8.x0.eq_1,Ygf]
    simp -dsimp (disch:=first|omega|(simp only [A8,A0]<;>omega)|fail) only [go_sem,reduceIte,reduceCtorEq,D1,D2,D3,D4,D5,D6,D7,D8,D9,E2,E3,E4,E5,E6,E7,E8,E9,F0,F1,A5,L.G8.r0,L3,J1,O3]
    rfl
  | succ m ih =>
    intro i w h
    have hlt:i<l.length:=by omega
    have h1:=ih (i+1) (Zgh w (l.getD i 0)) (by omega)
    simp only [Yga,Yf4] at h1
    have hg:=Zrh hlt
    rw [H7 L.G8.x0.eq_1,Yfw hlt,Yd7,show l[i]=l.getD i 0 by simp [List.getD,hlt]]
    generalize l.getD i 0=e at *
    unfold Zgh at h1 ⊢
    by_cases e0:e=0
    · subst e0
      rw [if_neg (by simp)] at h1 ⊢
      simp -dsimp (disch:=first|omega|(simp only [A8,A0]<;>omega)|fail) only [go_sem,reduceIte,reduceCtorEq,D1,D2,D3,D4,D5,D6,D7,D8,D9,E2,E3,E4,E5,E6,E7,E8,E9,F0,F1,A5,L3,J1,O3,hg,h1]
    · by_cases w0:w=0
      · subst w0
        rw [if_pos (by simp [e0])] at h1 ⊢
        simp -dsimp (disch:=first|omega|(simp only [A8,A0]<;>omega)|fail) only [go_sem,reduceIte,reduceCtorEq,D1,D2,D3,D4,D5,D6,D7,D8,D9,E2,E3,E4,E5,E6,E7,E8,E9,F0,F1,A5,L3,J1,O3,hg,h1,e0]
      · by_cases lt:e<w
        · rw [if_pos (by simp [e0,lt])] at h1 ⊢
          simp -dsimp (disch:=first|omega|(simp only [A8,A0]<;>omega)|fail) only [go_sem,reduceIte,reduceCtorEq,D1,D2,D3,D4,D5,D6,D7,D8,D9,E2,E3,E4,E5,E6,E7,E8,E9,F0,F1,A5,L3,J1,O3,hg,h1,e0,w0,lt]
        · rw [if_neg (by simp [e0,lt,w0])] at h1 ⊢
          simp -dsimp (disch:=first|omega|(simp only [A8,A0]<;>omega)|fail) only [go_sem,reduceIte,reduceCtorEq,D1,D2,D3,D4,D5,D6,D7,D8,D9,E2,E3,E4,E5,E6,E7,E8,E9,F0,F1,A5,L3,J1,O3,hg,h1,e0,w0,lt]
theorem Z1z {l:List Int} (hl:l.length≤1000000):S E F.G8 [.lst (J8 l) l.length] []=some (.int .i64 (Zdm l),[]):=by
  have h:=Z1y hl l.length 0 0 (by omega)
  simp only [Yf4,Yfc] at h
  rw [N6 Zmp rfl rfl]
  simp -dsimp (disch:=first|omega|(simp only [A8,A0]<;>omega)|fail) only [L.G8,go_sem,reduceIte,reduceCtorEq,D1,D2,D3,D4,D5,D6,D7,D8,D9,E2,E3,E4,E5,E6,E7,E8,E9,F0,F1,A5,L3,J1,O3,h]
  rfl
theorem Zkn {a b:Int}:S E F.F4 [.lst [.int .i64 a,.int .i64 b] 2] []=some (.int .i64 (Zdm [a,b]),[]):=Zit (l:=[a,b]) (by simp)
def Zn4 (k n:Int):List UInt8:=Zg5 k++[32]++Lib.itoa n++[0]
def Zix (n:Int):Int:=if (decide (n<0)||decide (1048576<n))=true then 1 else 0
def Zfu (k:Int):Int:=if (Zg5 k == [])=true then 9 else 0
def Zvw (k n:Int):Int:=Zdm [Zix n,Zfu k]
def hdrV (k n:Int):AV:=if Zvw k n=0 then .tup [.str (Zn4 k n),.int .i64 0] else .tup [.str [],.int .i64 (Zvw k n)]
theorem Z8o {k n:Int} (h1 : -9223372036854775808≤n) (h2:n≤9223372036854775807):(Zn4 k n).length≤40:=by
  have:=Lib.itoa_length_le n h1 h2
  have:=Zkm k
  unfold Zn4
  simp only [Yek,Yd9,Ye6]
  omega
theorem Z10 {k n:Int} (h1 : -9223372036854775808≤n) (h2:n≤9223372036854775807):S E F.K3 [.int .i64 k,.int .i64 n] []=some (hdrV k n,[]):=by
  have hi:=S_itoa (n:=n) ⟨h1,h2⟩
  have hl:=Lib.itoa_length_le n h1 h2
  have hw:=Zkm k
  rw [N6 Zl1 rfl rfl]
  unfold hdrV
  have w2:S E F.C6 [.bool (Zg5 k == []),.int .i64 9] []=some (.int .i64 (Zfu k),[]):=S2
  have hd:S E F.F4 [.lst [.int .i64 (Zix n),.int .i64 (Zfu k)] 2] []=some (.int .i64 (Zvw k n),[]):=Zkn
  by_cases a:n<0
  · have w1:S E F.C6 [.bool true,.int .i64 1] []=some (.int .i64 (Zix n),[]):=by
      rw [S2,Zix,decide_eq_true a,Ygg]
    by_cases e:Zvw k n=0
    · simp -dsimp (disch:=first|omega|(simp only [A8,A0]<;>omega)|fail) only [L.K3,go_sem,reduceIte,reduceCtorEq,D1,D2,D3,D4,D5,D6,D7,D8,D9,E2,E3,E4,E5,E6,E7,E8,E9,F0,F1,A5,Zft,a,w1,w2,hd,e,hi]
      rfl
    · simp -dsimp (disch:=first|omega|(simp only [A8,A0]<;>omega)|fail) only [L.K3,go_sem,reduceIte,reduceCtorEq,D1,D2,D3,D4,D5,D6,D7,D8,D9,E2,E3,E4,E5,E6,E7,E8,E9,F0,F1,A5,Zft,a,w1,w2,hd,e,hi]
  · have w1:S E F.C6 [.bool (decide (1048576<n)),.int .i64 1] []=some (.int .i64 (Zix n),[]):=by
      rw [S2,Zix,decide_eq_false a,Yf6]
    by_cases e:Zvw k n=0
    · simp -dsimp (disch:=first|omega|(simp only [A8,A0]<;>omega)|fail) only [L.K3,go_sem,reduceIte,reduceCtorEq,D1,D2,D3,D4,D5,D6,D7,D8,D9,E2,E3,E4,E5,E6,E7,E8,E9,F0,F1,A5,Zft,a,w1,w2,hd,e,hi]
      rfl
    · simp -dsimp (disch:=first|omega|(simp only [A8,A0]<;>omega)|fail) only [L.K3,go_sem,reduceIte,reduceCtorEq,D1,D2,D3,D4,D5,D6,D7,D8,D9,E2,E3,E4,E5,E6,E7,E8,E9,F0,F1,A5,Zft,a,w1,w2,hd,e,hi]
def Zi7 (k:Int) (n:Nat):Int:=Zdm [if (decide (1048576<n))=true then 2 else 0,Zfu k]
def Zxk (n:Nat):Int:=if (decide (1048576<(n:Int)))=true then 2 else 0
theorem Yc4 (k:Int) (n:Nat):Zi7 k n=Zdm [Zxk n,Zfu k]:=by
  unfold Zi7 Zxk
  rw [show decide (1048576<(n:Int))=decide (1048576<n) from decide_eq_decide.2 (by omega)]
theorem Z8p {k:Int} {p:List UInt8} {n:Nat} (hn:n=p.length) (hp:p.length≤1000000000000):S E F.P1 [.agg [.int .i64 k,.lst (A1 p) n]] []=some (.int .i64 (Zi7 k p.length),[]):=by
  subst hn
  have w1:S E F.C6 [.bool (decide (1048576<(p.length:Int))),.int .i64 2] []=some (.int .i64 (Zxk p.length),[]):=S2
  have w2:S E F.C6 [.bool (Zg5 k == []),.int .i64 9] []=some (.int .i64 (Zfu k),[]):=S2
  have hd:S E F.F4 [.lst [.int .i64 (Zxk p.length),.int .i64 (Zfu k)] 2] []=some (.int .i64 (Zi7 k p.length),[]):=by rw [Yc4];exact Zkn
  rw [N6 Zmf rfl rfl]
  simp -dsimp (disch:=first|omega|(simp only [A8,A0]<;>omega)|fail) only [L.P1,go_sem,reduceIte,reduceCtorEq,D1,D2,D3,D4,D5,D6,D7,D8,D9,E2,E3,E4,E5,E6,E7,E8,E9,F0,F1,A5,BYs,Zft,w1,w2,hd]
end Cod
namespace Cod
open Go
theorem Z11 (n:Nat):rep [.int .u8 0] n=A1 (List.replicate n 0):=by
  induction n with
  | zero=>rfl
  | succ n ih=>rw [rep,ih,List.replicate_succ];rfl
theorem Ziy {t:Site} {sz bytes m:Nat} {vs:List AV} {u:Ups} {ss:List Site}:Zer t sz bytes m vs u ss .nils=if m*bytes≤140737488355328 then Zar t vs m sz u else .fail:=rfl
theorem Ziz {t:Site} {sz bytes:Nat} {zero:List AV} {s:AV} {m:Int}:Zja t sz bytes zero s (.int .i64 m)=if 0≤m∧m≤140737488355328 then Zer t sz bytes m.toNat (rep zero m.toNat) [] [] s else .fail:=rfl
theorem Z8q {n:Nat} (h0:0<n) (hn:n≤4000000):S E F.P4 [.nils,.int .i64 n] [] =
    some (.buf (.r 0) 0 0 0 1,[(.r 0,⟨0,true,true,false,A1 (List.replicate n 0)⟩)]):=by
  rw [N6 Zmw rfl rfl]
  simp -dsimp (disch:=first|omega|(simp only [A8,A0]<;>omega)|fail) only [L.P4,go_sem,reduceIte,reduceCtorEq,D1,D2,D3,D4,D5,D6,D7,D8,D9,E2,E3,E4,E5,E6,E7,E8,E9,F0,F1,A5,BYs,Int.sub_zero,Z11,Ziy,Ziz]
theorem Yc5 (l:List UInt8):sub l 0 0=[]:=by simp [sub]
theorem Z12 {l:List UInt8} {n:Nat} (h:n=l.length):sub l 0 n=l:=by simp [sub,h]
theorem Zvx {a b:List UInt8} (h0:0<a.length) (ha:a.length≤1000000) (hb:b.length≤2000000) :
    S E F.F8 [.lst [.lst (A1 a) a.length,.lst (A1 b) b.length] 2] [] =
    some (.buf (.r 0) 0 0 (a++b).length 1,[(.r 0,⟨0,true,true,false,A1 (a++b)⟩)]):=by
  have hg:=Z8q (n:=a.length+b.length) (by omega) (by omega)
  have e1:(0+(a.length:Int)+b.length)=((a.length+b.length:Nat):Int):=by omega
  rw [N6 Zmg rfl rfl]
  simp -dsimp (disch:=first|omega|(simp only [A8,A0]<;>omega)|fail) only [L.F8,L.F8.x0,go_sem,reduceIte,reduceCtorEq,D1,D2,D3,D4,D5,D6,D7,D8,D9,E2,E3,E4,E5,E6,E7,E8,E9,F0,F1,A5,BYs]
  rw [e1]
  simp -dsimp (disch:=first|omega|(simp only [A8,A0]<;>omega)|fail) only [L.F8.r0,L.F8.x1,L.F8.r1,go_sem,reduceIte,reduceCtorEq,D1,D2,D3,D4,D5,D6,D7,D8,D9,E2,E3,E4,E5,E6,E7,E8,E9,F0,F1,A5,BYs,hg,Ziy,Ziz,Yc5,Nat.zero_mul,Yen,Z12,Yfl]
  rw [Yek]
theorem Yc6 {a:List UInt8} {n:Nat} (hn:n=a.length) (h:a.length≤1000000000000):S E F.T4 [.lst (A1 a) n] []=some (.buf (.r 0) 0 0 n 1,[(.r 0,⟨0,true,true,false,A1 a⟩)]):=by
  rw [N6 Zlx rfl rfl]
  simp -dsimp (disch:=first|omega|(simp only [A8,A0]<;>omega)|fail) only [L.T4,go_sem,reduceIte,reduceCtorEq,D1,D2,D3,D4,D5,D6,D7,D8,D9,E2,E3,E4,E5,E6,E7,E8,E9,F0,F1,A5,BYs]
def idF (k:Int) (p:List UInt8):List UInt8:=if Zi7 k p.length=0 then Zhf (Zn4 k p.length++p) else List.replicate 32 0
def idV (k:Int) (p:List UInt8):AV:=.tup [.agg (A1 (idF k p)),.int .i64 (Zi7 k p.length)]
theorem Zvy {k:Int} {n:Nat} (h:Zi7 k n=0):Zvw k n=0∧n≤1048576:=by
  unfold Zi7 Zvw Zix at *
  unfold Zdm at *
  simp only [Yd7,List.foldl_nil,Zgh] at *
  have:n≤1048576:=by
    by_cases h1:1048576<n
    · exfalso
      rw [decide_eq_true h1] at h
      generalize Zfu k=w at h
      simp only [if_true] at h
      by_cases a:w=0<;>by_cases b:w<2<;>simp [a,b] at h
    · omega
  refine ⟨?_,this⟩
  rw [decide_eq_false (by omega:¬ 1048576<n)] at h
  rw [decide_eq_false (by omega:¬ (n:Int)<0),decide_eq_false (by omega:¬ 1048576<(n:Int))]
  generalize Zfu k=w at h
  simpa using h
theorem Z8r (k n:Int):0<(Zn4 k n).length:=by unfold Zn4;simp only [Yek,Yd9,Ye6];omega
theorem go_oid {k:Int} {p:List UInt8} {n:Nat} (hn:n=p.length) (hp:p.length≤1000000000000):S E F.Q6 [.agg [.int .i64 k,.lst (A1 p) n]] []=some (idV k p,[]):=by
  subst hn
  have h1:=Z8p (k:=k) (p:=p) rfl hp
  have h2:=Z10 (k:=k) (n:=p.length) (by omega) (by omega)
  rw [N6 Zl2 rfl rfl]
  unfold idV idF
  by_cases e:Zi7 k p.length=0
  · obtain ⟨e1,e2⟩:=Zvy e
    unfold hdrV at h2
    rw [if_pos e1] at h2
    have hl:=Z8o (k:=k) (n:=p.length) (by omega) (by omega)
    have h0:=Z8r k p.length
    generalize Zn4 k p.length=t at *
    have h3:=Zvx (a:=t) (b:=p) h0 (by omega) (by omega)
    have h4:=Z8n (p:=t++p) (by rw [Yek];omega)
    have hs:(Zhf (t++p)).length=32:=by unfold Zhf;simp [Zrr]
    simp -dsimp (disch:=first|omega|(simp only [A8,A0]<;>omega)|fail) only [L.Q6,go_sem,reduceIte,reduceCtorEq,D1,D2,D3,D4,D5,D6,D7,D8,D9,E2,E3,E4,E5,E6,E7,E8,E9,F0,F1,A5,BYs,h1,e,h2,h3,h4]
  · simp -dsimp (disch:=first|omega|(simp only [A8,A0]<;>omega)|fail) only [L.Q6,go_sem,reduceIte,reduceCtorEq,D1,D2,D3,D4,D5,D6,D7,D8,D9,E2,E3,E4,E5,E6,E7,E8,E9,F0,F1,A5,BYs,h1,e,Ygo]
end Cod
namespace Cod
open Go
def mkT (v:Int) (n d:List UInt8):Ety:=if h:d.length=32 then ⟨v,n,d,h⟩ else default
theorem Zko {v:Int} {n d:List UInt8} (h:d.length=32):(mkT v n d).cells=.int .i64 v::.str n::A1 d:=by unfold mkT;rw [dif_pos h];rfl
theorem T8 (e:Ety) (l:List Ety):D0 (e::l)=Zek e++D0 l:=rfl
theorem Zrs {l:List Ety} {i:Nat} (h:i<l.length):l.drop i=eat l i::l.drop (i+1):=by
  rw [Yfw h];simp [eat,List.getD,h]
theorem Z8s {l:List Ety} {B:Nat} (h:∀ i,(eat l i).name.length≤B):(D0 l).length≤l.length*(B+60):=by
  have:∀ m i,i+m=l.length→(D0 (l.drop i)).length≤m*(B+60):=by
    intro m
    induction m with
    | zero=>intro i hi;rw [List.drop_of_length_le (by omega)];simp [D0]
    | succ m ih =>
      intro i hi
      rw [Zrs (by omega),T8,Yek,Zfq,Nat.succ_mul]
      have:=ih (i+1) (by omega)
      have:=h i
      have:=Zdk (eat l i).mode
      omega
  simpa using this l.length 0 (by omega)
theorem Z8t {l:List Ety} {B:Nat} (hb:∀ i,(eat l i).name.length≤B) (hB:B≤1000000000) (hl:l.length≤4096) (hm:∀ i,-9223372036854775808≤(eat l i).mode∧(eat l i).mode≤9223372036854775807):∀ (m i:Nat) (p:List UInt8),i+m=l.length→p.length≤i*(B+60) →
    X E [.tmp 2] (.c L.H2.x0::.lp [3,7,8,9] L.H2.x0::.blk 0::[.c L.H2.r0]) ⟨[(3,.buf (.s 1000000 0) 0 0 p.length 1),(7,.lst (J3 l) l.length),(8,.int .i64 l.length),(9,.int .i64 i)],[(.s 1000000 0,⟨0,true,true,false,A1 p⟩)]⟩ =
    some (.buf (.r 0) 0 0 (p++D0 (l.drop i)).length 1,[(.r 0,⟨0,true,true,false,A1 (p++D0 (l.drop i))⟩)]):=by
  intro m
  induction m with
  | zero =>
    intro i p hi hp
    obtain rfl:i=l.length:=by omega
    rw [H7 L.H2.x0.eq_1,Ygf,show D0 []=[] from rfl,List.append_nil]
    simp -dsimp (disch:=first|omega|(simp only [A8,A2,A0]<;>omega)|fail) only [go_sem,reduceIte,reduceCtorEq,D1,D2,D3,D4,D5,D6,D7,D8,D9,E2,E3,E4,E5,E6,E7,E8,E9,F0,F1,A5,BYs,L.H2.r0]
  | succ m ih =>
    intro i p hi hp
    have hlt:i<l.length:=by omega
    have hf:=Zei (hm i).1 (hm i).2
    have hol:=Zdk (eat l i).mode
    have hnl:=hb i
    have hid:=(eat l i).hid
    have hpp:p.length≤4096*(B+60):=Nat.le_trans hp (Yei _ (by omega))
    have h1:=ih (i+1) (p++Zek (eat l i)) (by omega) (by rw [Yek,Zfq,Nat.succ_mul];omega)
    simp only [Yga,Yf4] at h1
    rw [Yel,←T8,←Zrs hlt] at h1
    rw [H7 L.H2.x0.eq_1,←h1]
    have e:p++Zek (eat l i)=p++(K7 (eat l i).mode++[32]++(eat l i).name++[0])++(eat l i).id:=by unfold Zek;simp only [Yel]
    rw [e]
    have hln:(p++(K7 (eat l i).mode++[32]++(eat l i).name++[0])++(eat l i).id).length=p.length+(K7 (eat l i).mode++[32]++(eat l i).name++[0]).length+32:=by rw [Yek,Yek,hid]
    simp -dsimp (disch:=first|omega|(simp only [A8,A2,A0]<;>omega)|fail) only [go_sem,reduceIte,reduceCtorEq,D1,D2,D3,D4,D5,D6,D7,D8,D9,E2,E3,E4,E5,E6,E7,E8,E9,F0,F1,A5,BYs,hf,Z7s,hid]
    rw [hln]
theorem Zi0 {l:List Ety} {B:Nat} (hb:∀ i,(eat l i).name.length≤B) (hB:B≤1000000000) (hl:l.length≤4096) (hm:∀ i,-9223372036854775808≤(eat l i).mode∧(eat l i).mode≤9223372036854775807) :
    S E F.H2 [.lst (J3 l) l.length] []=some (.buf (.r 0) 0 0 (D0 l).length 1,[(.r 0,⟨0,true,true,false,A1 (D0 l)⟩)]):=by
  have h:=Z8t hb hB hl hm l.length 0 [] (by omega) (by simp)
  simp only [Yf4,Yfc,Yfl,Ye6] at h
  rw [Zan] at h
  rw [N6 Zl6 rfl rfl]
  simp -dsimp (disch:=first|omega|(simp only [A8,A2,A0]<;>omega)|fail) only [L.H2,go_sem,reduceIte,reduceCtorEq,D1,D2,D3,D4,D5,D6,D7,D8,D9,E2,E3,E4,E5,E6,E7,E8,E9,F0,F1,A5,BYs,h]
def tw (l:List Ety):Nat→Nat→Bool
  | 0,_=>false
  | m+1,i=>decide ((eat l i).name∈(l.take i).map (·.name))||tw l m (i+1)
def twI (l:List Ety) (i:Nat):Nat→Nat→Bool
  | 0,_=>false
  | m+1,j=>decide ((eat l i).name=(eat l j).name)||twI l i m (j+1)
theorem Zn5 {l:List Ety} {i:Nat} (h:i<l.length):(l.take (i+1)).map (·.name)=(l.take i).map (·.name)++[(eat l i).name]:=by
  rw [Ygd h,List.map_append]
  simp [eat,List.getD,h]
theorem Yc7 {l:List Ety} {i:Nat} (hi:i≤l.length):∀ (m j:Nat),j+m=i→(twI l i m j||decide ((eat l i).name∈(l.take j).map (·.name)))=decide ((eat l i).name∈(l.take i).map (·.name)):=by
  intro m
  induction m with
  | zero => intro j h; obtain rfl : j = i := by omega
            rw [twI,Yf6]
  | succ m ih =>
    intro j h
    rw [←ih (j+1) (by omega),Zn5 (by omega),twI]
    cases twI l i m (j+1)
    · by_cases h1:(eat l i).name=(eat l j).name<;>by_cases h2:(eat l i).name∈(l.take j).map (·.name)<;>simp [h1,h2]<;>simp_all
    · simp
theorem tw_l1 {l:List Ety} (hl:l.length≤4096) {i:Nat} (hi:i<l.length):∀ (m j:Nat),j+m=i →
    X E [.tmp 2] (.c L.B9.x1::.lp [0,3,6,7,13,14] L.B9.x1::.blk 2::.blk 1::.c L.B9.r0::.lp [0,6,7] L.B9.x0::.blk 0::[.c L.B9.r1]) ⟨[(0,.lst (J3 l) l.length),(3,.int .i64 i),(6,.int .i64 l.length),(7,.int .i64 i),(13,.int .i64 i),(14,.int .i64 j)],[]⟩ =
    if twI l i m j=true then some (.bool true,[]) else X E [.tmp 2] (.c L.B9.x0::.lp [0,6,7] L.B9.x0::.blk 0::[.c L.B9.r1]) ⟨[(0,.lst (J3 l) l.length),(6,.int .i64 l.length),(7,.int .i64 ((i+1:Nat):Int))],[]⟩:=by
  intro m
  induction m with
  | zero =>
    intro j h
    obtain rfl:j=i:=by omega
    rw [H7 L.B9.x1.eq_1,twI]
    simp -dsimp (disch:=first|omega|(simp only [A8,A2,A0]<;>omega)|fail) only [go_sem,reduceIte,reduceCtorEq,D1,D2,D3,D4,D5,D6,D7,D8,D9,E2,E3,E4,E5,E6,E7,E8,E9,F0,F1,A5,L.B9.r0]
    rfl
  | succ m ih =>
    intro j h
    have h1:=ih (j+1) (by omega)
    simp only [Yga,Yf4] at h1
    have g1:(J3 l)[i*34+1]? = some (.str (eat l i).name):=(Zxc hi (by omega)).trans (Z7q _)
    have g2:(J3 l)[j*34+1]? = some (.str (eat l j).name):=(Zxc (by omega) (by omega)).trans (Z7q _)
    rw [H7 L.B9.x1.eq_1,twI]
    by_cases hn:(eat l i).name=(eat l j).name
    · have hb:((eat l i).name==(eat l j).name)=true:=by simp [hn]
      rw [decide_eq_true hn,Ygg,if_pos rfl]
      simp -dsimp (disch:=first|omega|(simp only [A8,A2,A0]<;>omega)|fail) only [go_sem,reduceIte,reduceCtorEq,D1,D2,D3,D4,D5,D6,D7,D8,D9,E2,E3,E4,E5,E6,E7,E8,E9,F0,F1,A5,g1,g2,hb]
    · have hb:((eat l i).name==(eat l j).name)=false:=by simp [hn]
      rw [decide_eq_false hn,Yf6]
      simp -dsimp (disch:=first|omega|(simp only [A8,A2,A0]<;>omega)|fail) only [go_sem,reduceIte,reduceCtorEq,D1,D2,D3,D4,D5,D6,D7,D8,D9,E2,E3,E4,E5,E6,E7,E8,E9,F0,F1,A5,g1,g2,hb,h1]
      rfl
theorem tw_l0 {l:List Ety} (hl:l.length≤4096):∀ (m i:Nat),i+m=l.length →
    X E [.tmp 2] (.c L.B9.x0::.lp [0,6,7] L.B9.x0::.blk 0::[.c L.B9.r1]) ⟨[(0,.lst (J3 l) l.length),(6,.int .i64 l.length),(7,.int .i64 i)],[]⟩=some (.bool (tw l m i),[]):=by
  intro m
  induction m with
  | zero =>
    intro i h
    obtain rfl:i=l.length:=by omega
    rw [H7 L.B9.x0.eq_1,tw]
    simp -dsimp (disch:=first|omega|(simp only [A8,A2,A0]<;>omega)|fail) only [go_sem,reduceIte,reduceCtorEq,D1,D2,D3,D4,D5,D6,D7,D8,D9,E2,E3,E4,E5,E6,E7,E8,E9,F0,F1,A5,L.B9.r1]
  | succ m ih =>
    intro i h
    have h1:=tw_l1 hl (i:=i) (by omega) i 0 (by omega)
    have hm:=Yc7 (l:=l) (i:=i) (by omega) i 0 (by omega)
    simp only [Yf4] at h1
    rw [ih (i+1) (by omega)] at h1
    simp only [Ygq,List.map_nil,List.not_mem_nil,decide_false,Ygr] at hm
    rw [H7 L.B9.x0.eq_1,tw,←hm]
    simp -dsimp (disch:=first|omega|(simp only [A8,A2,A0]<;>omega)|fail) only [go_sem,reduceIte,reduceCtorEq,D1,D2,D3,D4,D5,D6,D7,D8,D9,E2,E3,E4,E5,E6,E7,E8,E9,F0,F1,A5,Yeu]
    rw [h1]
    cases twI l i i 0<;>simp
theorem Z8u {l:List Ety} (hl:l.length≤4096):S E F.B9 [.lst (J3 l) l.length] []=some (.bool (tw l l.length 0),[]):=by
  have h:=tw_l0 hl l.length 0 (by omega)
  simp only [Yf4] at h
  rw [N6 Zmq rfl rfl]
  simp -dsimp (disch:=first|omega|(simp only [A8,A2,A0]<;>omega)|fail) only [L.B9,go_sem,reduceIte,reduceCtorEq,D1,D2,D3,D4,D5,D6,D7,D8,D9,E2,E3,E4,E5,E6,E7,E8,E9,F0,F1,A5,h]
theorem Yc8 (m:Int):S E F.M4 [.int .i64 m] []=some (.bool (V6 m),[]):=by
  rw [N6 Zmn rfl rfl]
  unfold V6
  by_cases a:m=16384
  · simp -dsimp (disch:=first|omega|(simp only [A8,A2,A0]<;>omega)|fail) only [L.M4,go_sem,reduceIte,reduceCtorEq,D1,D2,D3,D4,D5,D6,D7,D8,D9,E2,E3,E4,E5,E6,E7,E8,E9,F0,F1,A5,a]
  · by_cases b:m=33188
    · simp -dsimp (disch:=first|omega|(simp only [A8,A2,A0]<;>omega)|fail) only [L.M4,go_sem,reduceIte,reduceCtorEq,D1,D2,D3,D4,D5,D6,D7,D8,D9,E2,E3,E4,E5,E6,E7,E8,E9,F0,F1,A5,a,b]
    · by_cases c:m=33261
      · simp -dsimp (disch:=first|omega|(simp only [A8,A2,A0]<;>omega)|fail) only [L.M4,go_sem,reduceIte,reduceCtorEq,D1,D2,D3,D4,D5,D6,D7,D8,D9,E2,E3,E4,E5,E6,E7,E8,E9,F0,F1,A5,a,b,c]
      · by_cases d:m=40960
        · simp -dsimp (disch:=first|omega|(simp only [A8,A2,A0]<;>omega)|fail) only [L.M4,go_sem,reduceIte,reduceCtorEq,D1,D2,D3,D4,D5,D6,D7,D8,D9,E2,E3,E4,E5,E6,E7,E8,E9,F0,F1,A5,a,b,c,d]
        · simp -dsimp (disch:=first|omega|(simp only [A8,A2,A0]<;>omega)|fail) only [L.M4,go_sem,reduceIte,reduceCtorEq,D1,D2,D3,D4,D5,D6,D7,D8,D9,E2,E3,E4,E5,E6,E7,E8,E9,F0,F1,A5,a,b,c,d]
def Zvz (n f d:Bool):Int:=if n then 3 else if f then 4 else if d then 8 else 0
theorem Z13 (n f d a b c g:Bool):Zdm [Zvz n f d,if a then 3 else 0,if b then 4 else 0,if c then 4 else 0,if g then 8 else 0]=Zvz (n||a) (f||b||c) (d||g):=by
  cases n<;>cases f<;>cases d<;>cases a<;>cases b<;>cases c<;>cases g<;>rfl
def ordB (l:List Ety) (i:Nat):Bool:=decide (0<i)&&decide (0≤Zin (Zbu (eat l (i-1))) (Zbu (eat l i)))
def nmI (l:List Ety):Nat→Nat→Bool→Bool
  | 0,_,n=>n
  | m+1,i,n=>nmI l m (i+1) (n || !K6 (eat l i).name)
def fmI (l:List Ety):Nat→Nat→Bool→Bool
  | 0,_,f=>f
  | m+1,i,f=>fmI l m (i+1) (f || !V6 (eat l i).mode||ordB l i)
theorem Z14 (l:List Ety):∀ (m i z:Nat) (n f d:Bool),(Zdn l m i (Zvz n f d) z).1=Zvz (nmI l m i n) (fmI l m i f) (d||tw l m i):=by
  intro m
  induction m with
  | zero=>intro i z n f d;rw [Zdn,nmI,fmI,tw,Ygr]
  | succ m ih =>
    intro i z n f d
    have e:Zdm [Zvz n f d,Ziu (eat l i),Ziv (eat l i),Zcz l i,Zhd l i]=Zvz (n || !K6 (eat l i).name) (f || !V6 (eat l i).mode||ordB l i) (d||decide ((eat l i).name∈(l.take i).map (·.name))):=Z13 _ _ _ _ _ _ _
    rw [Zdn,e,ih,nmI,fmI,tw]
    simp only [Bool.or_assoc]
def errT (n f d s:Bool):Int:=Zdm [if n then 3 else 0,if f then 4 else 0,if d then 8 else 0,if s then 2 else 0]
theorem Zxl (l:List Ety) (h:l.length≤4096):V7 l=errT (nmI l l.length 0 false) (fmI l l.length 0 false) (tw l l.length 0) (decide (1048576<(D0 l).length)):=by
  have h2:=Zrk l l.length 0 0 0 (by omega)
  have h1:=Z14 l l.length 0 0 false false false
  rw [show Zvz false false false=0 from rfl,Yf6] at h1
  rw [V7,if_neg (by omega),h1,h2,Yen,Yfc]
  generalize nmI l l.length 0 false=a
  generalize fmI l l.length 0 false=b
  generalize tw l l.length 0=c
  generalize decide (1048576<(D0 l).length)=d
  cases a<;>cases b<;>cases c<;>cases d<;>rfl
theorem if_e (b:Bool) (e:Int):S E F.Q7 [.bool b,.int .i64 e] []=some (.int .i64 (if b then e else 0),[]):=go_if
theorem Z8v {l:List Ety} {B:Nat} (hb:∀ i,(eat l i).name.length≤B) (hB:B≤1000000000) (hl:l.length≤4096) (k:List It):∀ (m i:Nat) (n f:Bool),i+m=l.length →
    X E [.tmp 2] (.c L.H1.x0::.lp [0,3,4,10,11,12] L.H1.x0::.blk 0::k) ⟨[(0,.lst (J3 l) l.length),(3,.bool n),(4,.bool f),(10,.lst (J3 l) l.length),(11,.int .i64 l.length),(12,.int .i64 i)],[]⟩ =
    X E [.tmp 2] k ⟨[(0,.lst (J3 l) l.length),(3,.bool (nmI l m i n)),(4,.bool (fmI l m i f)),(10,.lst (J3 l) l.length),(11,.int .i64 l.length),(12,.int .i64 l.length),(13,.bool false)],[]⟩:=by
  intro m
  induction m with
  | zero =>
    intro i n f h
    obtain rfl:i=l.length:=by omega
    rw [H7 L.H1.x0.eq_1,nmI,fmI]
    simp -dsimp (disch:=first|omega|(simp only [A8,A2,A0]<;>omega)|fail) only [go_sem,reduceIte,reduceCtorEq,D1,D2,D3,D4,D5,D6,D7,D8,D9,E2,E3,E4,E5,E6,E7,E8,E9,F0,F1,A5]
  | succ m ih =>
    intro i n f h
    have hlt:i<l.length:=by omega
    have h1:=ih (i+1) (n || !K6 (eat l i).name) (f || !V6 (eat l i).mode||ordB l i) (by omega)
    simp only [Yga,Yf4] at h1
    have hnm:=Z8d (s:=(eat l i).name) (by have:=hb i;omega)
    have hmd:=Yc8 (eat l i).mode
    have o1:=Z1u (a:=eat l (i-1)) (b:=eat l i) (by have:=hb (i-1);omega) (by have:=hb i;omega)
    rw [H7 L.H1.x0.eq_1,nmI,fmI,←h1]
    unfold ordB
    by_cases hi:0<i
    · have e1:((i:Int)-1).toNat=i-1:=by omega
      cases n<;>cases f<;>cases hM:V6 (eat l i).mode<;>simp -dsimp (disch:=first|omega|(simp only [A8,A2,A0]<;>omega)|fail) only [go_sem,reduceIte,reduceCtorEq,D1,D2,D3,D4,D5,D6,D7,D8,D9,E2,E3,E4,E5,E6,E7,E8,E9,F0,F1,A5,hnm,hmd,o1,hi,e1,hM,decide_true,Bool.true_and,Yf6,Ygg,Yfx,Yfy]
    · cases n<;>cases f<;>cases hM:V6 (eat l i).mode<;>simp -dsimp (disch:=first|omega|(simp only [A8,A2,A0]<;>omega)|fail) only [go_sem,reduceIte,reduceCtorEq,D1,D2,D3,D4,D5,D6,D7,D8,D9,E2,E3,E4,E5,E6,E7,E8,E9,F0,F1,A5,hnm,hmd,hi,hM,decide_false,Bool.false_and,Yf6,Ygg,Ygr,Yfx,Yfy]
theorem Zrt {l:List Ety} {B:Nat} (hb:∀ i,(eat l i).name.length≤B) (hB:B≤1000000000) (hm:∀ i,-9223372036854775808≤(eat l i).mode∧(eat l i).mode≤9223372036854775807) (hl:l.length≤1000000000) :
    S E F.H1 [.lst (J3 l) l.length] []=some (.int .i64 (V7 l),[]):=by
  rw [N6 Zl5 rfl rfl]
  by_cases hlen:4096<l.length
  · rw [V7,if_pos hlen]
    simp -dsimp (disch:=first|omega|(simp only [A8,A2,A0]<;>omega)|fail) only [L.H1,go_sem,reduceIte,reduceCtorEq,D1,D2,D3,D4,D5,D6,D7,D8,D9,E2,E3,E4,E5,E6,E7,E8,E9,F0,F1,A5,hlen]
  · have h:=Z8v hb hB (by omega) [.c L.H1.r0] l.length 0 false false (by omega)
    have ht:=Z8u (l:=l) (by omega)
    have hT:=Zi0 hb hB (by omega) hm
    have hle:=Z8s hb
    have hle2:(D0 l).length≤4096*(B+60):=Nat.le_trans hle (Yei _ (by omega))
    have hL:=Z1z (l:=[if nmI l l.length 0 false then 3 else 0,if fmI l l.length 0 false then 4 else 0,if tw l l.length 0 then 8 else 0,if decide (1048576<(D0 l).length) then 2 else 0]) (by simp)
    simp only [J8,List.map_cons,List.map_nil,Yd9,Ye6] at hL
    rw [show Zdm [if nmI l l.length 0 false then 3 else 0,if fmI l l.length 0 false then 4 else 0,if tw l l.length 0 then 8 else 0,if decide (1048576<(D0 l).length) then 2 else 0]=V7 l from (Zxl l (by omega)).symm] at hL
    simp only [Yf4] at h
    have q1:=if_e (nmI l l.length 0 false) 3
    have q2:=if_e (fmI l l.length 0 false) 4
    have q3:=if_e (tw l l.length 0) 8
    have q4:S E F.Q7 [.bool (decide (1048576<((D0 l).length:Int))),.int .i64 2] []=some (.int .i64 (if decide (1048576<(D0 l).length) then 2 else 0),[]):=by
      rw [show decide (1048576<((D0 l).length:Int))=decide (1048576<(D0 l).length) from decide_eq_decide.2 (by omega)];exact if_e _ _
    simp -dsimp (disch:=first|omega|(simp only [A8,A2,A0]<;>omega)|fail) only [L.H1,go_sem,reduceIte,reduceCtorEq,D1,D2,D3,D4,D5,D6,D7,D8,D9,E2,E3,E4,E5,E6,E7,E8,E9,F0,F1,A5,hlen]
    rw [h]
    generalize nmI l l.length 0 false=a1 at *
    generalize fmI l l.length 0 false=a2 at *
    generalize tw l l.length 0=a3 at *
    generalize (if a1=true then (3:Int) else 0)=b1 at *
    generalize (if a2=true then (4:Int) else 0)=b2 at *
    generalize (if a3=true then (8:Int) else 0)=b3 at *
    generalize (if decide (1048576<(D0 l).length)=true then (2:Int) else 0)=b4 at *
    simp -dsimp (disch:=first|omega|(simp only [A8,A2,A0]<;>omega)|fail) only [L.H1.r0,go_sem,reduceIte,reduceCtorEq,D1,D2,D3,D4,D5,D6,D7,D8,D9,E2,E3,E4,E5,E6,E7,E8,E9,F0,F1,A5,BYs,q1,q2,q3,q4,ht,hT,hL]
end Cod
namespace Cod
open Go
def ocS (v:Int) (c:UInt8):Int:=8*v+((c.toNat:Int)-48)
def ocL:List UInt8→Int→Int
  | [],v=>v
  | c::r,v=>if c.toNat<48∨55<c.toNat then -1 else ocL r (ocS v c)
def Zem (s:List UInt8):Int:=if s=[] then 0 else if 6<s.length then -1 else ocL s 0
theorem oc_l0 {s:List UInt8} (hs:s.length≤6):∀ (m i:Nat) (v:Int),i+m=s.length→0≤v→v<8^i →
    X E [.tmp 2] (.c L.F3.x0::.lp [0,3,4] L.F3.x0::.blk 0::[.c L.F3.r0]) ⟨[(0,.str s),(3,.int .i64 v),(4,.int .i64 i)],[]⟩=some (.int .i64 (ocL (s.drop i) v),[]):=by
  intro m
  induction m with
  | zero =>
    intro i v hi h0 h1
    obtain rfl:i=s.length:=by omega
    rw [H7 L.F3.x0.eq_1,Ygf,ocL]
    simp -dsimp (disch:=first|omega|(simp only [A8,A2,A0]<;>omega)|fail) only [go_sem,reduceIte,reduceCtorEq,D1,D2,D3,D4,D5,D6,D7,D8,D9,E2,E3,E4,E5,E6,E7,E8,E9,F0,F1,A5,L.F3.r0]
  | succ m ih =>
    intro i v hi h0 h1
    have hp:i<s.length:=by omega
    have hd:s.drop i=s.getD i 0::s.drop (i+1):=by
      rw [Yfw hp];simp [hp]
    rw [H7 L.F3.x0.eq_1,hd,ocL]
    have hb:=Z9 s i
    have he:bat s i=((s.getD i 0).toNat:Int):=rfl
    have hpow:(8:Int)^i≤8^6:=by exact_mod_cast Ygm (by omega) (by omega)
    have hS:ocS v (s.getD i 0)=8*v+(bat s i-48):=rfl
    rw [hS]
    by_cases hc:(s.getD i 0).toNat<48∨55<(s.getD i 0).toNat
    · rw [if_pos hc]
      by_cases hc1:bat s i<48
      · simp -dsimp (disch:=first|omega|(simp only [A8,A2,A0]<;>omega)|fail) only [go_sem,reduceIte,reduceCtorEq,D1,D2,D3,D4,D5,D6,D7,D8,D9,E2,E3,E4,E5,E6,E7,E8,E9,F0,F1,A5,hp,hc1]
      · have hc2:55<bat s i:=by rw [he] at hc1 ⊢;omega
        simp -dsimp (disch:=first|omega|(simp only [A8,A2,A0]<;>omega)|fail) only [go_sem,reduceIte,reduceCtorEq,D1,D2,D3,D4,D5,D6,D7,D8,D9,E2,E3,E4,E5,E6,E7,E8,E9,F0,F1,A5,hp,hc1,hc2]
    · rw [if_neg hc]
      have hc1:¬ bat s i<48:=by rw [he];omega
      have hc2:¬ 55<bat s i:=by rw [he];omega
      have h1:=ih (i+1) (8*v+(bat s i-48)) (by omega) (by omega) (by rw [Int.pow_succ];omega)
      simp only [Yga,Yf4] at h1
      rw [←h1]
      have hw:IntKind.u8.wrap (bat s i-48)=bat s i-48:=by rw [Zd1];omega
      simp -dsimp (disch:=first|omega|(simp only [A8,A2,A0]<;>omega)|fail) only [go_sem,reduceIte,reduceCtorEq,D1,D2,D3,D4,D5,D6,D7,D8,D9,E2,E3,E4,E5,E6,E7,E8,E9,F0,F1,A5,hp,hc1,hc2,hw]
theorem Z8w {s:List UInt8}:S E F.F3 [.str s] []=some (.int .i64 (Zem s),[]):=by
  rw [N6 Zmt rfl rfl]
  unfold Zem
  by_cases h0:s=[]
  · subst h0
    simp -dsimp (disch:=first|omega|(simp only [A8,A2,A0]<;>omega)|fail) only [L.F3,L.F3.x0,L.F3.r0,go_sem,reduceIte,reduceCtorEq,D1,D2,D3,D4,D5,D6,D7,D8,D9,E2,E3,E4,E5,E6,E7,E8,E9,F0,F1,A5]
  · rw [if_neg h0]
    have hpos:0<s.length:=by cases s with|nil=>exact absurd rfl h0|cons=>simp
    by_cases h1:6<s.length
    · rw [if_pos h1]
      have hb:=Z9 s 0
      by_cases hc1:bat s 0<48
      · simp -dsimp (disch:=first|omega|(simp only [A8,A2,A0]<;>omega)|fail) only [L.F3,L.F3.x0,go_sem,reduceIte,reduceCtorEq,D1,D2,D3,D4,D5,D6,D7,D8,D9,E2,E3,E4,E5,E6,E7,E8,E9,F0,F1,A5,hpos,hc1]
      · by_cases hc2:55<bat s 0
        · simp -dsimp (disch:=first|omega|(simp only [A8,A2,A0]<;>omega)|fail) only [L.F3,L.F3.x0,go_sem,reduceIte,reduceCtorEq,D1,D2,D3,D4,D5,D6,D7,D8,D9,E2,E3,E4,E5,E6,E7,E8,E9,F0,F1,A5,hpos,hc1,hc2]
        · simp -dsimp (disch:=first|omega|(simp only [A8,A2,A0]<;>omega)|fail) only [L.F3,L.F3.x0,go_sem,reduceIte,reduceCtorEq,D1,D2,D3,D4,D5,D6,D7,D8,D9,E2,E3,E4,E5,E6,E7,E8,E9,F0,F1,A5,hpos,hc1,hc2,h1]
    · rw [if_neg h1]
      have h2:=oc_l0 (s:=s) (by omega) s.length 0 0 (by omega) (by omega) (by simp)
      simp only [Yf4,Yfc] at h2
      simp -dsimp (disch:=first|omega|(simp only [A8,A2,A0]<;>omega)|fail) only [L.F3,go_sem,reduceIte,reduceCtorEq,D1,D2,D3,D4,D5,D6,D7,D8,D9,E2,E3,E4,E5,E6,E7,E8,E9,F0,F1,A5,h2]
def spI (l:List UInt8) (c:UInt8):Nat→Nat→Nat
  | 0,i=>i
  | m+1,i=>if l.getD i 0=c then i else spI l c m (i+1)
theorem Z8x (l:List UInt8) (c:UInt8):∀ (m i:Nat),i≤spI l c m i∧spI l c m i≤i+m:=by
  intro m
  induction m with
  | zero=>intro i;simp [spI]
  | succ m ih=>intro i;rw [spI];have:=ih (i+1);split<;>omega
theorem Zxm {l:List UInt8} {i:Nat} (c:UInt8) {n:Int} (h:(c.toNat:Int)=n):(bat l i != n) = !decide (l.getD i 0=c):=by
  have e:bat l i=((l.getD i 0).toNat:Int):=rfl
  rw [e,←h]
  by_cases hc:l.getD i 0=c
  · rw [hc,decide_eq_true rfl];simp
  · have h2:¬ ((l.getD i 0).toNat:Int)=c.toNat:=fun e=>hc (UInt8.toNat_inj.1 (by omega))
    rw [decide_eq_false hc]
    simpa [bne_iff_ne] using h2
theorem nx_l0 {l:List UInt8} (hl:l.length≤1048576) (k:List It):∀ (m i:Nat),i+m=l.length→∃ v,
    X E [.cell 2 (some 34),.tmp 3,.tmp 4] (.c L.B4.x0::.lp [0,2,5] L.B4.x0::.blk 0::k) ⟨[(0,.lst (A1 l) l.length),(2,.ref (.s 1000000 0) 0 0),(5,.int .i64 i)],[(.s 1000000 0,⟨0,true,true,true,(default:Ety).cells⟩)]⟩ =
    X E [.cell 2 (some 34),.tmp 3,.tmp 4] k ⟨[(0,.lst (A1 l) l.length),(2,.ref (.s 1000000 0) 0 0),(5,.int .i64 (spI l 32 m i)),(19,v)],[(.s 1000000 0,⟨0,true,true,true,(default:Ety).cells⟩)]⟩:=by
  intro m
  induction m with
  | zero =>
    intro i hi
    obtain rfl:i=l.length:=by omega
    refine ⟨.bool false,?_⟩
    rw [H7 L.B4.x0.eq_1,spI]
    simp -dsimp (disch:=first|omega|(simp only [A8,A2,A0]<;>omega)|fail) only [go_sem,reduceIte,reduceCtorEq,D1,D2,D3,D4,D5,D6,D7,D8,D9,E2,E3,E4,E5,E6,E7,E8,E9,F0,F1,A5,BYs]
  | succ m ih =>
    intro i hi
    obtain ⟨v,hv⟩:=ih (i+1) (by omega)
    simp only [Yga,Yf4] at hv
    have hlt:i<l.length:=by omega
    by_cases hc:l.getD i 0=32
    · refine ⟨.bool false,?_⟩
      have hb:(bat l i != 32)=false:=by rw [Zxm 32 (n:=32) rfl,decide_eq_true hc];rfl
      rw [H7 L.B4.x0.eq_1,spI,if_pos hc]
      simp -dsimp (disch:=first|omega|(simp only [A8,A2,A0]<;>omega)|fail) only [go_sem,reduceIte,reduceCtorEq,D1,D2,D3,D4,D5,D6,D7,D8,D9,E2,E3,E4,E5,E6,E7,E8,E9,F0,F1,A5,BYs,hb]
    · refine ⟨v,?_⟩
      have hb:(bat l i != 32)=true:=by rw [Zxm 32 (n:=32) rfl,decide_eq_false hc];rfl
      rw [H7 L.B4.x0.eq_1,spI,if_neg hc,←hv]
      simp -dsimp (disch:=first|omega|(simp only [A8,A2,A0]<;>omega)|fail) only [go_sem,reduceIte,reduceCtorEq,D1,D2,D3,D4,D5,D6,D7,D8,D9,E2,E3,E4,E5,E6,E7,E8,E9,F0,F1,A5,BYs,hb]
theorem nx_l1 {l:List UInt8} (hl:l.length≤1048576) (k:List It) {a:Nat}:∀ (m i:Nat),i+m=l.length→∃ v,
    X E [.cell 2 (some 34),.tmp 3,.tmp 4] (.c L.B4.x1::.lp [0,2,5,6] L.B4.x1::.blk 2::k) ⟨[(0,.lst (A1 l) l.length),(2,.ref (.s 1000000 0) 0 0),(5,.int .i64 a),(6,.int .i64 i)],[(.s 1000000 0,⟨0,true,true,true,(default:Ety).cells⟩)]⟩ =
    X E [.cell 2 (some 34),.tmp 3,.tmp 4] k ⟨[(0,.lst (A1 l) l.length),(2,.ref (.s 1000000 0) 0 0),(5,.int .i64 a),(6,.int .i64 (spI l 0 m i)),(33,v)],[(.s 1000000 0,⟨0,true,true,true,(default:Ety).cells⟩)]⟩:=by
  intro m
  induction m with
  | zero =>
    intro i hi
    obtain rfl:i=l.length:=by omega
    refine ⟨.bool false,?_⟩
    rw [H7 L.B4.x1.eq_1,spI]
    simp -dsimp (disch:=first|omega|(simp only [A8,A2,A0]<;>omega)|fail) only [go_sem,reduceIte,reduceCtorEq,D1,D2,D3,D4,D5,D6,D7,D8,D9,E2,E3,E4,E5,E6,E7,E8,E9,F0,F1,A5,BYs]
  | succ m ih =>
    intro i hi
    obtain ⟨v,hv⟩:=ih (i+1) (by omega)
    simp only [Yga,Yf4] at hv
    have hlt:i<l.length:=by omega
    by_cases hc:l.getD i 0=0
    · refine ⟨.bool false,?_⟩
      have hb:(bat l i != 0)=false:=by rw [Zxm 0 (n:=0) rfl,decide_eq_true hc];rfl
      rw [H7 L.B4.x1.eq_1,spI,if_pos hc]
      simp -dsimp (disch:=first|omega|(simp only [A8,A2,A0]<;>omega)|fail) only [go_sem,reduceIte,reduceCtorEq,D1,D2,D3,D4,D5,D6,D7,D8,D9,E2,E3,E4,E5,E6,E7,E8,E9,F0,F1,A5,BYs,hb]
    · refine ⟨v,?_⟩
      have hb:(bat l i != 0)=true:=by rw [Zxm 0 (n:=0) rfl,decide_eq_false hc];rfl
      rw [H7 L.B4.x1.eq_1,spI,if_neg hc,←hv]
      simp -dsimp (disch:=first|omega|(simp only [A8,A2,A0]<;>omega)|fail) only [go_sem,reduceIte,reduceCtorEq,D1,D2,D3,D4,D5,D6,D7,D8,D9,E2,E3,E4,E5,E6,E7,E8,E9,F0,F1,A5,BYs,hb]
def mkN (v:Int) (n d:List UInt8):List AV:=.int .i64 v::.str n::A1 d
def idL (l:List UInt8) (b:Nat):Nat→Nat→List UInt8→List UInt8
  | 0,_,d=>d
  | m+1,i,d=>idL l b m (i+1) (d.set i (l.getD (b+1+i) 0))
theorem Z8y {v:Int} {n d:List UInt8} {i:Nat} {x:UInt8} (h:i<d.length):over (mkN v n d) (2+i) [.int .u8 x.toNat]=mkN v n (d.set i x):=by
  unfold mkN
  have e:UInt8.ofNat ((x.toNat:Int)).toNat=x:=by simp
  rw [show 2+i=i+1+1 by omega,Zim,Zim,Zfm h (by omega) (by have:=x.toNat_lt;omega),e]
theorem Zkp (v:Int) (n d:List UInt8):flats (mkN v n d)=true:=by simp [mkN,flats,J6,Zck]
theorem Z8z (f:Site→Nat→Option (Site × Nat)) (v:Int) (n d:List UInt8):rens f (mkN v n d)=mkN v n d:=rens_flats _ (Zkp v n d)
theorem Z80 (v:Int) (n d:List UInt8):refsOfs (mkN v n d)=[]:=by simp [mkN,refsOfs,U7,Zcn]
theorem Z15 (v:Int) (n d:List UInt8):N3 (mkN v n d)=true:=by simp [mkN,N3,P9,Zcl]
theorem Z16 (v:Int) (n d:List UInt8):leadss (mkN v n d)=false:=by simp [mkN,leadss,O1,Zcm]
attribute [go_sem] Zkp Z8z Z80 Z15 Z16
theorem Zxn {v:Int} {n d:List UInt8}:(mkN v n d).length=d.length+2:=by simp [mkN,L4]
theorem nx_l2 {l:List UInt8} (hl:l.length≤1048576) (k:List It) {b:Nat} (hb:b+33≤l.length) {z:Int} {nm:List UInt8}:∀ (m i:Nat) (d:List UInt8),i+m=32→d.length=32 →
    X E [.cell 2 (some 34),.tmp 3,.tmp 4] (.c L.B4.x2::.lp [0,2,6,7,8] L.B4.x2::.blk 4::k) ⟨[(0,.lst (A1 l) l.length),(2,.ref (.s 1000000 0) 0 0),(6,.int .i64 b),(7,.ref (.s 1000000 1) 0 0),(8,.int .i64 i)],[(.s 1000000 0,⟨0,true,true,true,(default:Ety).cells⟩),(.s 1000000 1,⟨0,true,true,true,mkN z nm d⟩)]⟩ =
    X E [.cell 2 (some 34),.tmp 3,.tmp 4] k ⟨[(0,.lst (A1 l) l.length),(2,.ref (.s 1000000 0) 0 0),(6,.int .i64 b),(7,.ref (.s 1000000 1) 0 0),(8,.int .i64 32),(60,.bool false)],[(.s 1000000 0,⟨0,true,true,true,(default:Ety).cells⟩),(.s 1000000 1,⟨0,true,true,true,mkN z nm (idL l b m i d)⟩)]⟩:=by
  intro m
  induction m with
  | zero =>
    intro i d hi hd
    obtain rfl:i=32:=by omega
    rw [H7 L.B4.x2.eq_1,idL]
    simp -dsimp (disch:=first|omega|(simp only [A8,A2,A0]<;>omega)|fail) only [go_sem,reduceIte,reduceCtorEq,D1,D2,D3,D4,D5,D6,D7,D8,D9,E2,E3,E4,E5,E6,E7,E8,E9,F0,F1,A5,BYs]
    rfl
  | succ m ih =>
    intro i d hi hd
    have h1:=ih (i+1) (d.set i (l.getD (b+1+i) 0)) (by omega) (by rw [Ygp];exact hd)
    simp only [Yga,Yf4] at h1
    have e1:((b:Int)+1+i).toNat=b+1+i:=by omega
    have e2:bat l (b+1+i)=((l.getD (b+1+i) 0).toNat:Int):=rfl
    have e3:=Z8y (v:=z) (n:=nm) (d:=d) (i:=i) (x:=l.getD (b+1+i) 0) (by omega)
    have e4:=Zxn (v:=z) (n:=nm) (d:=d)
    rw [hd] at e4
    rw [H7 L.B4.x2.eq_1,idL,←h1]
    simp -dsimp (disch:=first|omega|(simp only [A8,A2,A0]<;>omega)|fail) only [go_sem,reduceIte,reduceCtorEq,D1,D2,D3,D4,D5,D6,D7,D8,D9,E2,E3,E4,E5,E6,E7,E8,E9,F0,F1,A5,BYs,e1,e2,e3,e4]
theorem idL_eq {l:List UInt8} {b:Nat} (hb:b+33≤l.length):∀ (m i:Nat) (d:List UInt8),i+m=32→d.length=32→idL l b m i d=d.take i++(l.drop (b+1+i)).take m:=by
  intro m
  induction m with
  | zero=>intro i d hi hd;rw [idL,List.take_of_length_le (by omega)];simp
  | succ m ih =>
    intro i d hi hd
    rw [idL,ih (i+1) _ (by omega) (by rw [Ygp];exact hd)]
    have h1:(d.set i (l.getD (b+1+i) 0)).take (i+1)=d.take i++[l.getD (b+1+i) 0]:=by
      rw [Ygd (by rw [Ygp];omega),List.getElem_set_self,List.take_set_of_le (Nat.le_refl _)]
    have h2:(l.drop (b+1+i)).take (m+1)=l.getD (b+1+i) 0::(l.drop (b+1+(i+1))).take m:=by
      rw [Yfw (by omega),List.take_succ_cons]
      congr 1
      simp [List.getD,show b+1+i<l.length by omega]
    rw [h1,h2,Yel]
    rfl
def Z2 (l:List UInt8):Nat:=spI l 32 l.length 0
def Zd8 (l:List UInt8):Nat:=spI l 0 (l.length-Z2 l) (Z2 l)
def Zdr (l:List UInt8):Option (Ety × List UInt8) :=
  if Z2 l<Zd8 l∧Zd8 l+33≤l.length then some (mkT (Zem (l.take (Z2 l))) (sub l (Z2 l+1) (Zd8 l-(Z2 l+1))) ((l.drop (Zd8 l+1)).take 32),l.drop (Zd8 l+33)) else none
theorem Yc9 {v:Int} {n d:List UInt8} (h:d.length=32):mkN v n d=(mkT v n d).cells:=(Zko h).symm
theorem Z81 {l:List UInt8} (hl:l.length≤1048576):S E F.B4 [.lst (A1 l) l.length] [] =
    match Zdr l with
    | some (e,r)=>some (.tup [.agg e.cells,.lst (A1 r) r.length,.bool true],[])
    | none=>some (.tup [.agg (default:Ety).cells,.buf (.r 0) 0 0 0 1,.bool false],[(.r 0,⟨0,true,true,false,[]⟩)]):=by
  rw [N6 Zma rfl rfl]
  obtain ⟨v0,h0⟩:=nx_l0 hl [.c L.B4.r0] l.length 0 (by omega)
  have a1:=Z8x l 32 l.length 0
  rw [show spI l 32 l.length 0=Z2 l from rfl] at h0 a1
  obtain ⟨v1,h1⟩:=nx_l1 hl [.c L.B4.r1] (a:=Z2 l) (l.length-Z2 l) (Z2 l) (by omega)
  have b1:=Z8x l 0 (l.length-Z2 l) (Z2 l)
  rw [show spI l 0 (l.length-Z2 l) (Z2 l)=Zd8 l from rfl] at h1 b1
  simp only [Yf4] at h0
  unfold Zdr
  generalize Z2 l=a at *
  generalize Zd8 l=b at *
  simp -dsimp (disch:=first|omega|(simp only [A8,A2,A0]<;>omega)|fail) only [L.B4,go_sem,reduceIte,reduceCtorEq,D1,D2,D3,D4,D5,D6,D7,D8,D9,E2,E3,E4,E5,E6,E7,E8,E9,F0,F1,A5,BYs]
  rw [h0]
  simp -dsimp (disch:=first|omega|(simp only [A8,A2,A0]<;>omega)|fail) only [L.B4.r0,go_sem,reduceIte,reduceCtorEq,D1,D2,D3,D4,D5,D6,D7,D8,D9,E2,E3,E4,E5,E6,E7,E8,E9,F0,F1,A5,BYs]
  rw [h1]
  by_cases c1:a<b
  · by_cases c2:b+33≤l.length
    · rw [if_pos ⟨c1,c2⟩]
      have ho:=Z8w (s:=l.take a)
      have e1:sub l 0 a=l.take a:=by simp [sub]
      have e7:(l.take a).length=a:=by rw [Yd0];omega
      have e8:(sub l (a+1) (b-(a+1))).length=b-(a+1):=by simp [sub];omega
      have e3:(((b:Int))+33).toNat=b+33:=by omega
      have e4:(((a:Int))+1).toNat=a+1:=by omega
      have g1:((l.drop (b+1)).take 32).length=32:=by rw [Yd0,Yd1];omega
      have g2:=idL_eq c2 32 0 (List.replicate 32 0) (by omega) (by simp)
      rw [Ygq,Yfl,Nat.add_zero] at g2
      have g3:sub l (b+33) (l.length-(b+33))=l.drop (b+33):=B5 (by omega)
      have g4:l.length-(b+33)=(l.drop (b+33)).length:=List.length_drop.symm
      have g5:sub l (b+33) (l.drop (b+33)).length=l.drop (b+33):=B5 (by rw [Yd1];omega)
      have g6:=Yc9 (v:=Zem (l.take a)) (n:=sub l (a+1) (b-(a+1))) g1
      have k1:over (default:Ety).cells 0 [AV.int .i64 (Zem (l.take a))]=mkN (Zem (l.take a)) [] (List.replicate 32 0):=rfl
      have k2:over (mkN (Zem (l.take a)) [] (List.replicate 32 0)) 1 [AV.str (sub l (a+1) (b-(a+1)))]=mkN (Zem (l.take a)) (sub l (a+1) (b-(a+1))) (List.replicate 32 0):=rfl
      have k3:over (default:Ety).cells 0 (mkN (Zem (l.take a)) (sub l (a+1) (b-(a+1))) (List.replicate 32 0))=mkN (Zem (l.take a)) (sub l (a+1) (b-(a+1))) (List.replicate 32 0):=rfl
      have h2:=nx_l2 hl [.c L.B4.r2] c2 (z:=Zem (l.take a)) (nm:=sub l (a+1) (b-(a+1))) 32 0 (List.replicate 32 0) (by omega) (by simp)
      rw [g2,g6] at h2
      simp only [Yf4] at h2
      simp -dsimp (disch:=first|omega|(simp only [A8,A2,A0]<;>omega)|fail) only [L.B4.r1,go_sem,reduceIte,reduceCtorEq,D1,D2,D3,D4,D5,D6,D7,D8,D9,E2,E3,E4,E5,E6,E7,E8,E9,F0,F1,A5,BYs,c1,c2,ho,e1,e3,e4,e7,e8,k1,k2,k3,Zxn,Ygo,Yeu]
      rw [h2]
      simp -dsimp (disch:=first|omega|(simp only [A8,A2,A0]<;>omega)|fail) only [L.B4.r2,go_sem,reduceIte,reduceCtorEq,D1,D2,D3,D4,D5,D6,D7,D8,D9,E2,E3,E4,E5,E6,E7,E8,E9,F0,F1,A5,BYs,e3,g4,g5]
    · rw [if_neg (fun x=>c2 x.2)]
      simp -dsimp (disch:=first|omega|(simp only [A8,A2,A0]<;>omega)|fail) only [L.B4.r1,go_sem,reduceIte,reduceCtorEq,D1,D2,D3,D4,D5,D6,D7,D8,D9,E2,E3,E4,E5,E6,E7,E8,E9,F0,F1,A5,BYs,c1,c2]
  · rw [if_neg (fun x=>c1 x.1)]
    simp -dsimp (disch:=first|omega|(simp only [A8,A2,A0]<;>omega)|fail) only [L.B4.r1,go_sem,reduceIte,reduceCtorEq,D1,D2,D3,D4,D5,D6,D7,D8,D9,E2,E3,E4,E5,E6,E7,E8,E9,F0,F1,A5,BYs,c1]
end Cod

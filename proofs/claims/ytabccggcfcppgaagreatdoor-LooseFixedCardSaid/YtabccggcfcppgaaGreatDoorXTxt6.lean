/- The program's inflate: lengths and distances. -/
import Derived.Test.YtabccggcfcppgaaGreatDoorXTxt5
import Derived.Test.YtabccggcfcppgaaGreatDoorXTxt3
set_option linter.unusedSimpArgs false
set_option linter.unusedVariables false
open List renaming append_assoc → Yga, append_nil → Yiu, cons_append → Yfm, count_cons → Yip, count_le_length → Yiz, count_nil → Yiq, drop_eq_nil_of_le → Yiy, length_append → Yf9, length_replicate → Yir, length_set → Yhv, length_take → Yfq, nil_append → Yhc, replicate_succ → Yiw, set_append_right → Yiv, take_append_of_le_length → Yix, take_length → Yit, take_of_length_le → Yf8, take_zero → Yis
open Nat renaming add_zero → Yin, le_refl → Yfj, min_eq_left → Yhd
open Int renaming cast_ofNat_Int → Yhz
open Bool renaming and_assoc → Ygf
open Nat renaming reduceEqDiff → E2, reduceAdd → E3, reduceSub → E4, reduceMul → E5, reduceDiv → E6, reduceMod → E7, reduceBEq → E8, reduceLeDiff → E9, reduceLT → F0
open Int renaming reduceEq → F1, reduceNe → F2, reduceLT → F3, reduceLE → F4, reduceBEq → F5, reduceBNe → F6, reduceToNat → F7, reduceAdd → F8, reduceSub → F9, reduceMul → G0, reduceNeg → B2
namespace Cod
open Go
end Cod
namespace Cod
open Go
end Cod
namespace Cod
open Go
end Cod
namespace Cod
open Go
end Cod
namespace Cod
theorem Yar (n:Nat):Zw3 [] n=[]:=rfl
theorem Zig {l:List Nat} {i j:Nat} (h:i<j):(l.take j).getD i 0=l.getD i 0:=by
  rw [List.getD_eq_getElem?_getD,List.getD_eq_getElem?_getD,List.getElem?_take_of_lt h]
theorem Zih (l:List Nat) (i n:Nat) (h:i<l.length):Zw3 (l.take (i+1)) n=Zw3 (l.take i) n++(if l.getD i 0=n then [i] else []):=by
  unfold Zw3
  rw [Yfq,Yfq,Yhd (by omega),Yhd (by omega),List.range_succ,List.filter_append]
  congr 1
  · refine List.filter_congr fun j hj=>?_
    have:=List.mem_range.1 hj
    rw [Zig (by omega),Zig this]
  · rw [List.filter_cons,Zig (by omega)]
    by_cases e:l.getD i 0=n
    · rw [if_pos e,e];simp
    · rw [if_neg e,beq_eq_false_iff_ne.2 e];rfl
theorem Zpv (l:List Nat) (i:Nat) (h:i<l.length):l.take (i+1)=l.take i++[l.getD i 0]:=by
  rw [List.take_succ_eq_append_getElem h,List.getD_eq_getElem?_getD,List.getElem?_eq_getElem h]
  rfl
theorem U9 (l:List Nat) (i n:Nat) (h:i<l.length):(l.take (i+1)).count n=(l.take i).count n+(if l.getD i 0=n then 1 else 0):=by
  rw [Zpv l i h,List.count_append,Yip,Yiq,Nat.zero_add]
  simp only [beq_iff_eq]
theorem Zfh (l:List Nat) (n:Nat):∀ i,i≤l.length→(Zw3 (l.take i) n).length=(l.take i).count n:=by
  intro i
  induction i with
  | zero=>intro _;rfl
  | succ i ih =>
    intro h
    rw [Zih l i n (by omega),U9 l i n (by omega),Yf9,ih (by omega)]
    split<;>rfl
theorem Zch (l:List Nat) (i n:Nat):(l.take i).count n≤l.count n:=List.Sublist.count_le _ (List.take_sublist _ _)
def Zld (l:List Nat) (i n:Nat):List Nat:=Zw3 (l.take i) n++List.replicate (l.count n-(l.take i).count n) 0
def Zbs (l:List Nat) (i:Nat):Nat→List Nat
  | 0=>[]
  | n+1=>Zbs l i n++Zld l i (n+1)
def Q2 (l:List Nat):Nat→Nat
  | 0=>0
  | n+1=>Q2 l n+Zie l n
theorem Zs9 (l:List Nat) (i n:Nat) (h:i≤l.length):(Zld l i n).length=l.count n:=by
  unfold Zld
  rw [Yf9,Zfh l n i h,Yir]
  have:=Zch l i n
  omega
theorem Zds (l:List Nat) (n:Nat):Zie l (n+1)=l.count (n+1):=if_neg (by omega)
theorem Zbn (l:List Nat) (i:Nat) (h:i≤l.length):∀ n,(Zbs l i n).length=Q2 l (n+1):=by
  intro n
  induction n with
  | zero=>rfl
  | succ n ih=>rw [Zbs,Yf9,ih,Zs9 l i _ h];show _=Q2 l (n+1)+Zie l (n+1);rw [Zds]
theorem Z3d (l:List Nat):∀ n,Zbs l 0 n=List.replicate (Q2 l (n+1)) 0:=by
  intro n
  induction n with
  | zero=>rfl
  | succ n ih =>
    rw [Zbs,ih]
    unfold Zld
    rw [Yis,Yar,Yhc,Yiq,Nat.sub_zero]
    show _=List.replicate (Q2 l (n+1)+Zie l (n+1)) 0
    rw [Zds,List.replicate_append_replicate]
theorem Yas (l:List Nat):∀ n,Zbs l l.length n=Zyq l n:=by
  intro n
  induction n with
  | zero=>rfl
  | succ n ih =>
    rw [Zbs,Zyq,ih]
    unfold Zld
    rw [Yit,Nat.sub_self,List.replicate_zero,Yiu]
theorem Zgd {l:List Nat} {i n:Nat} (h:i<l.length) (hn:l.getD i 0≠n):Zld l (i+1) n=Zld l i n:=by
  unfold Zld
  rw [Zih l i n h,U9 l i n h,if_neg hn,if_neg hn,Yiu,Yin]
theorem Z3e {l:List Nat} {i:Nat} (h:i<l.length):Zld l (i+1) (l.getD i 0)=(Zld l i (l.getD i 0)).set ((l.take i).count (l.getD i 0)) i:=by
  generalize hn:l.getD i 0=n
  unfold Zld
  have hc:=Zch l (i+1) n
  rw [U9 l i n h,if_pos hn] at hc
  rw [Zih l i n h,U9 l i n h,if_pos hn,if_pos hn,Yiv _ _ (by rw [Zfh l n i (by omega)];omega),Zfh l n i (by omega),Nat.sub_self]
  obtain ⟨k,hk⟩:∃ k,l.count n-(l.take i).count n=k+1:=⟨l.count n-(l.take i).count n-1,by omega⟩
  rw [hk,show l.count n-((l.take i).count n+1)=k by omega,Yiw,List.set_cons_zero,Yga]
  rfl
theorem Yat {l:List Nat} {i:Nat} (h:i<l.length) (h0:l.getD i 0≠0):∀ n,l.getD i 0≤n→(Zbs l i n).set (Q2 l (l.getD i 0)+(l.take i).count (l.getD i 0)) i=Zbs l (i+1) n:=by
  have hlo:∀ n,n<l.getD i 0→Zbs l (i+1) n=Zbs l i n:=by
    intro n
    induction n with
    | zero=>intro _;rfl
    | succ n ih=>intro hn;rw [Zbs,Zbs,ih (by omega),Zgd h (by omega)]
  have hc:=Zch l (i+1) (l.getD i 0)
  rw [U9 l i _ h,if_pos rfl] at hc
  intro n
  induction n with
  | zero=>intro hn;omega
  | succ n ih =>
    intro hn
    rw [Zbs,Zbs]
    by_cases e:l.getD i 0=n+1
    · rw [Yiv _ _ (by rw [Zbn l i (by omega)];rw [e];omega),Zbn l i (by omega),hlo n (by omega)]
      congr 1
      have:=Z3e h
      rw [e] at this ⊢
      rw [this,Nat.add_sub_cancel_left]
    · have hlt:Q2 l (l.getD i 0)+(l.take i).count (l.getD i 0)<(Zbs l i n).length:=by
        rw [Zbn l i (by omega)]
        have mono:∀ a b,a≤b→Q2 l a≤Q2 l b:=by
          intro a b hab
          induction hab with
          | refl=>exact Yfj _
          | step _ ih=>rw [Q2];omega
        have h1:=mono (l.getD i 0+1) (n+1) (by omega)
        rw [Q2] at h1
        have h2:Zie l (l.getD i 0)=l.count (l.getD i 0):=if_neg h0
        omega
      rw [List.set_append_left _ _ hlt,ih (by omega),Zgd h e]
def Zae (l:List Nat):Nat→Int
  | 0=>1
  | n+1=>2*Zae l n-l.count (n+1)
theorem Z3f {l:List Nat} {n:Nat}:∀ m,n≤m→Zae l n<0→Zae l m<0:=by
  intro m hm h
  induction hm with
  | refl=>exact h
  | step _ ih=>rw [Zae];omega
end Cod
namespace Cod
open Go
theorem B9 (k:IntKind) (l:List Nat):(H0 k l).length=l.length:=by simp [H0]
theorem D2 (k:IntKind) (l:List Nat):flats (H0 k l)=true:=by
  induction l with
  | nil=>rfl
  | cons x l ih=>rw [show H0 k (x::l)=AV.int k (x:Int)::H0 k l from rfl,flats,ih];rfl
theorem H2 (k:IntKind) (l:List Nat):refsOfs (H0 k l)=[]:=by
  induction l with
  | nil=>rfl
  | cons x l ih=>rw [show H0 k (x::l)=AV.int k (x:Int)::H0 k l from rfl,refsOfs,ih];rfl
theorem H3 (f:Site→Nat→Option (Site × Nat)) (k:IntKind) (l:List Nat):rens f (H0 k l)=H0 k l:=rens_flats _ (D2 k l)
theorem D3 (k:IntKind) (l:List Nat):leadss (H0 k l)=false:=by
  induction l with
  | nil=>rfl
  | cons x l ih=>rw [show H0 k (x::l)=AV.int k (x:Int)::H0 k l from rfl,leadss,ih];rfl
theorem D4 (k:IntKind) (l:List Nat):T7 (H0 k l)=true:=by
  induction l with
  | nil=>rfl
  | cons x l ih=>rw [show H0 k (x::l)=AV.int k (x:Int)::H0 k l from rfl,T7,ih];rfl
theorem J1 {k:IntKind} {l:List Nat} {i:Nat} (h:i<l.length):(H0 k l)[i]? = some (.int k (l.getD i 0:Nat)):=by simp [H0,h]
theorem H4 {k:IntKind} {l:List Nat} {i x:Nat} (h:i<l.length):over (H0 k l) i [.int k (x:Int)]=H0 k (l.set i x):=by
  unfold over H0
  rw [List.length_singleton,List.map_set,List.set_eq_take_append_cons_drop,if_pos (by simpa using h)]
  simp
theorem Zy6 (k:IntKind) (n:Nat):rep [.int k 0] n=H0 k (List.replicate n 0):=by
  induction n with
  | zero=>rfl
  | succ n ih=>rw [rep,ih,Yiw];rfl
theorem Yau (k:IntKind) (n:Nat):zer (.int k 0) n=H0 k (List.replicate n 0):=by simp [zer,H0]
def Q7 (cn:List Nat) (b:AV):List AV:=H0 .i64 cn++[b]
theorem D5 (cn:List Nat) (b:AV):(Q7 cn b).length=cn.length+1:=by simp [Q7,B9]
theorem L9 {cn:List Nat} {b:AV} {i:Nat} (h:i<cn.length):(Q7 cn b)[i]? = some (.int .i64 (cn.getD i 0:Nat)):=by
  unfold Q7
  rw [List.getElem?_append_left (by rw [B9];exact h),J1 h]
theorem Q0 {cn:List Nat} {b:AV} (h:cn.length=16):(Q7 cn b)[16]? = some b:=by
  unfold Q7
  rw [List.getElem?_append_right (by rw [B9];omega),B9,h];rfl
theorem I9 {cn:List Nat} {b:AV} {i x:Nat} (h:i<cn.length):over (Q7 cn b) i [.int .i64 (x:Int)]=Q7 (cn.set i x) b:=by
  unfold Q7
  rw [←H4 h]
  unfold over
  rw [Yix (by rw [B9];omega),List.drop_append_of_le_length (by rw [B9];simp;omega)]
  simp
theorem G1 {cn:List Nat} {b v:AV} (h:cn.length=16):over (Q7 cn b) 16 [v]=Q7 cn v:=by
  unfold Q7 over
  have hl:=B9 .i64 cn
  rw [h] at hl
  rw [Yix (by omega),Yf8 (by omega),Yiy (by simp [hl])]
  simp
theorem D0 {cn cm:List Nat} {b v:AV} (h:cn.length=16) (h2:cm.length=16):over (Q7 cn b) 0 (Q7 cm v)=Q7 cm v:=by
  have e1:=D5 cn b
  have e2:=D5 cm v
  unfold over
  rw [Yis,Yhc,Yiy (by omega),Yiu]
theorem M0 {cn:List Nat} {b:AV} (h:cn.length=16):sub (Q7 cn b) 0 17=Q7 cn b:=by
  have e1:=D5 cn b
  unfold sub
  rw [List.drop_zero,Yf8 (by omega)]
theorem J2 (cn:List Nat) (b:AV):refsOfs (Q7 cn b)=V6 b:=by
  have h:∀ (xs:List AV),refsOfs (xs++[b])=refsOfs xs++V6 b:=by
    intro xs
    induction xs with
    | nil=>simp [refsOfs]
    | cons x xs ih=>rw [Yfm,refsOfs,refsOfs,ih,Yga]
  rw [Q7,h,H2,Yhc]
theorem J3 (f:Site→Nat→Option (Site × Nat)) (cn:List Nat) (b:AV):rens f (Q7 cn b)=Q7 cn (ren f b):=by
  have h:∀ (xs:List AV),rens f (xs++[b])=rens f xs++[ren f b]:=by
    intro xs
    induction xs with
    | nil=>simp [rens]
    | cons x xs ih=>rw [Yfm,rens,rens,ih];rfl
  rw [Q7,h,H3];rfl
theorem H6 (cn:List Nat) (b:AV):flats (Q7 cn b)=M1 b:=by
  have h:∀ (xs:List AV),flats (xs++[b])=(flats xs&&M1 b):=by
    intro xs
    induction xs with
    | nil=>simp [flats]
    | cons x xs ih=>rw [Yfm,flats,flats,ih,Ygf]
  rw [Q7,h,D2,Bool.true_and]
theorem H7 (cn:List Nat) (b:AV):T7 (Q7 cn b)=R1 b:=by
  have h:∀ (xs:List AV),T7 (xs++[b])=(T7 xs&&R1 b):=by
    intro xs
    induction xs with
    | nil=>simp [T7]
    | cons x xs ih=>rw [Yfm,T7,T7,ih,Ygf]
  rw [Q7,h,D4,Bool.true_and]
theorem H8 (cn:List Nat) (b:AV):leadss (Q7 cn b)=leads b:=by
  have h:∀ (xs:List AV),leadss (xs++[b])=(leadss xs||leads b):=by
    intro xs
    induction xs with
    | nil=>simp [leadss]
    | cons x xs ih=>rw [Yfm,leadss,leadss,ih,Bool.or_assoc]
  rw [Q7,h,D3,Bool.false_or]
theorem Zy7:Zer (zer (.int .i64 0) 16) [.nils]=Q7 (List.replicate 16 0) .nils:=rfl
theorem Zta:Zer (H0 .i64 (List.replicate 16 0)) [.nils]=Q7 (List.replicate 16 0) .nils:=rfl
end Cod
namespace Cod
open Go
def Zle (l:List Nat) (i:Nat):List Nat:=(List.range 16).map fun n=>(l.take i).count n
def Zlf (l:List Nat) (m:Nat):List Nat:=(List.range 17).map fun j=>if j≤m then Q2 l j else 0
def Zje (l:List Nat) (i:Nat):List Nat:=(List.range 17).map fun j=>if j=0 then 0 else Q2 l j+(l.take i).count j
theorem S9 (l:List Nat) (i:Nat):(Zle l i).length=16:=by simp [Zle]
theorem Q1 (l:List Nat) (m:Nat):(Zlf l m).length=17:=by simp [Zlf]
theorem T0 (l:List Nat) (i:Nat):(Zje l i).length=17:=by simp [Zje]
theorem Zfi (l:List Nat) (i:Nat) {n:Nat} (h:n<16):(Zle l i).getD n 0=(l.take i).count n:=by
  unfold Zle
  rw [List.getD_eq_getElem?_getD,List.getElem?_map,List.getElem?_range h];rfl
theorem Zfj (l:List Nat) (m:Nat) {j:Nat} (h:j<17):(Zlf l m).getD j 0=if j≤m then Q2 l j else 0:=by
  unfold Zlf
  rw [List.getD_eq_getElem?_getD,List.getElem?_map,List.getElem?_range h];rfl
theorem Zdt (l:List Nat) (i:Nat) {j:Nat} (h:j<17):(Zje l i).getD j 0=if j=0 then 0 else Q2 l j+(l.take i).count j:=by
  unfold Zje
  rw [List.getD_eq_getElem?_getD,List.getElem?_map,List.getElem?_range h];rfl
theorem Zcw {xs ys:List Nat} (h:xs.length=ys.length) (h2:∀ j,j<xs.length→xs.getD j 0=ys.getD j 0):xs=ys:=by
  refine List.ext_getElem h fun j a b=>?_
  have:=h2 j a
  simpa [List.getD,a,b] using this
theorem Zhr (xs:List Nat) {i j x:Nat} (h:i<xs.length):(xs.set i x).getD j 0=if j=i then x else xs.getD j 0:=by
  rw [List.getD_eq_getElem?_getD,List.getD_eq_getElem?_getD,List.getElem?_set]
  by_cases h2:i=j
  · subst h2;simp [h]
  · rw [if_neg h2,if_neg (fun e=>h2 e.symm)]
theorem Z3g (l:List Nat):Zle l 0=List.replicate 16 0:=rfl
theorem Z3h {l:List Nat} {i:Nat} (h:i<l.length) (hx:l.getD i 0<16):(Zle l i).set (l.getD i 0) ((l.take i).count (l.getD i 0)+1)=Zle l (i+1):=by
  apply Zcw
  · rw [Yhv,S9,S9]
  · intro j hj
    rw [Yhv,S9] at hj
    rw [Zhr _ (by rw [S9];exact hx),Zfi _ _ hj,Zfi _ _ hj,U9 l i j h]
    by_cases e:j=l.getD i 0
    · rw [if_pos e,if_pos e.symm,e]
    · rw [if_neg e,if_neg (fun x=>e x.symm),Yin]
theorem Yav (l:List Nat):(Zle l l.length).set 0 0=(Z7 l).cnt:=by
  apply Zcw
  · rw [Yhv,S9];simp [Z7]
  · intro j hj
    rw [Yhv,S9] at hj
    have e:(Z7 l).cnt.getD j 0=Zie l j:=by
      unfold Z7
      rw [List.getD_eq_getElem?_getD,List.getElem?_map,List.getElem?_range hj];rfl
    rw [Zhr _ (by rw [S9];omega),Zfi _ _ hj,e,Yit]
    unfold Zie
    rfl
theorem Y4 (l:List Nat):(Z7 l).cnt.length=16:=by simp [Z7]
theorem Ztb (l:List Nat) {n:Nat} (h:n<16):(Z7 l).cnt.getD n 0=Zie l n:=by
  unfold Z7
  rw [List.getD_eq_getElem?_getD,List.getElem?_map,List.getElem?_range h];rfl
theorem Z3i (l:List Nat):Zlf l 1=List.replicate 17 0:=by
  apply Zcw
  · rw [Q1];rfl
  · intro j hj
    rw [Q1] at hj
    rw [Zfj _ _ hj]
    have:(List.replicate 17 0).getD j 0=0:=by rw [List.getD_eq_getElem?_getD,List.getElem?_replicate];split<;>rfl
    rw [this]
    by_cases e:j≤1
    · rw [if_pos e]
      have:j=0∨j=1:=by omega
      rcases this with rfl|rfl<;>rfl
    · rw [if_neg e]
theorem Z3j {l:List Nat} {n:Nat} (h:n<16) (h1:1≤n):(Zlf l n).set (n+1) (Q2 l n+Zie l n)=Zlf l (n+1):=by
  apply Zcw
  · rw [Yhv,Q1,Q1]
  · intro j hj
    rw [Yhv,Q1] at hj
    rw [Zhr _ (by rw [Q1];omega),Zfj _ _ hj,Zfj _ _ hj]
    by_cases e:j=n+1
    · subst e;rw [if_pos rfl,if_pos (by omega)];rfl
    · rw [if_neg e]
      by_cases e2:j≤n
      · rw [if_pos e2,if_pos (by omega)]
      · rw [if_neg e2,if_neg (by omega)]
theorem nxt_AB (l:List Nat):Zlf l 16=Zje l 0:=by
  apply Zcw
  · rw [Q1,T0]
  · intro j hj
    rw [Q1] at hj
    rw [Zfj _ _ hj,Zdt _ _ hj,if_pos (by omega)]
    by_cases e:j=0
    · subst e;rfl
    · rw [if_neg e];rfl
theorem Z3k {l:List Nat} {i:Nat} (h:i<l.length) (hx:l.getD i 0<16) (h0:l.getD i 0≠0):(Zje l i).set (l.getD i 0) (Q2 l (l.getD i 0)+(l.take i).count (l.getD i 0)+1)=Zje l (i+1):=by
  apply Zcw
  · rw [Yhv,T0,T0]
  · intro j hj
    rw [Yhv,T0] at hj
    rw [Zhr _ (by rw [T0];omega),Zdt _ _ hj,Zdt _ _ hj,U9 l i j h]
    by_cases e:j=l.getD i 0
    · rw [if_pos e,if_pos e.symm,if_neg (by omega),←e];omega
    · have e3:¬ l.getD i 0=j:=fun x=>e x.symm
      rw [if_neg e,if_neg e3,Yin]
theorem Z3l {l:List Nat} {i:Nat} (h:i<l.length) (h0:l.getD i 0=0):Zje l (i+1)=Zje l i:=by
  apply Zcw
  · rw [T0,T0]
  · intro j hj
    rw [T0] at hj
    rw [Zdt _ _ hj,Zdt _ _ hj,U9 l i j h]
    by_cases e:j=0
    · rw [if_pos e,if_pos e]
    · rw [if_neg e,if_neg e,if_neg (by omega),Yin]
theorem Z3m {l:List Nat} {i:Nat} (h:i<l.length) (h0:l.getD i 0=0):∀ n,Zbs l (i+1) n=Zbs l i n:=by
  intro n
  induction n with
  | zero=>rfl
  | succ n ih=>rw [Zbs,Zbs,ih,Zgd h (by omega)]
theorem Zmv (l:List Nat):∀ {m n:Nat},m≤n→Q2 l m≤Q2 l n:=by
  intro m n h
  induction h with
  | refl=>exact Yfj _
  | step h ih=>rw [Q2];omega
theorem sym_in {l:List Nat} {i:Nat} (h:i<l.length) (hx:l.getD i 0<16) (h0:l.getD i 0≠0):Q2 l (l.getD i 0)+(l.take i).count (l.getD i 0)<Q2 l 16:=by
  have h1:=Zch l (i+1) (l.getD i 0)
  rw [U9 l i _ h,if_pos rfl] at h1
  have h2:Q2 l (l.getD i 0+1)≤Q2 l 16:=Zmv l (by omega)
  rw [Q2,Zie,if_neg h0] at h2
  omega
theorem Zfz (l:List Nat) (h:∀ x∈l,x≤15):Q2 l 16=l.length-l.count 0:=by
  have key:∀ (l:List Nat),(∀ x∈l,x≤15)→Q2 l 16+l.count 0=l.length:=by
    intro l
    induction l with
    | nil=>intro _;rfl
    | cons x l ih =>
      intro h
      have hx:=h x (by simp)
      have:=ih (fun y hy=>h y (by simp [hy]))
      have e:∀ n,Q2 (x::l) n=Q2 l n+(if x≠0∧x<n then 1 else 0):=by
        intro n
        induction n with
        | zero=>simp [Q2]
        | succ n ihn =>
          rw [Q2,Q2,ihn]
          unfold Zie
          rw [Yip]
          by_cases e0:n=0
          · subst e0;simp
          · simp only [e0,if_false,beq_iff_eq]
            by_cases e1:x=n
            · subst e1;simp [e0];omega
            · simp only [e1,if_false]
              by_cases e2:x≠0∧x<n
              · rw [if_pos e2,if_pos (by omega)];omega
              · rw [if_neg e2,if_neg (by omega)];omega
      rw [e,Yip,List.length_cons]
      by_cases e0:x=0
      · subst e0;simp;omega
      · simp only [beq_iff_eq,e0,if_false]
        rw [if_pos (by omega)];omega
  have:=key l h
  omega
end Cod
namespace Cod
open Go
def Ztc (l:List Nat) (b:Bool):AV × A2:=(.tup [.agg (Q7 (Z7 l).cnt (.buf (.r 0) 0 0 (Z7 l).sym.length 1)),.bool b],[(.r 0,⟨0,true,true,false,H0 .i64 (Z7 l).sym⟩)])
theorem Ye5 {l cn nx sy:List Nat} {none:Bool} {used:Nat} {left:Int} (h16:cn.length=16) (hs:sy.length=used) (hl:l.length≤1000000) :
    X E [.cell 4 (some 17),.tmp 5] (.c L.A4.x2::.lp [1,4,6,7,8,11,66,67,68] L.A4.x2::.blk 4::[.c L.A4.r2]) ⟨[(1,.bool none),(4,.ref (.s 1000000 0) 0 0),(6,.ref (.s 1000000 1) 0 0),(7,.ref (.s 1000000 2) 0 0),(8,.int .i64 used),(11,.int .i64 left),(66,.lst (H0 .i64 l) l.length),(67,.int .i64 l.length),(68,.int .i64 l.length)],[(.s 1000000 0,⟨0,true,true,true,Q7 (List.replicate 16 0) .nils⟩),(.s 1000000 1,⟨0,true,true,true,Q7 (cn) (.buf (.s 1000000 3) 0 0 (sy).length 1)⟩),(.s 1000000 2,⟨0,true,true,true,H0 .i64 (nx)⟩),(.s 1000000 3,⟨0,true,true,false,H0 .i64 (sy)⟩)]⟩=some (.tup [.agg (Q7 cn (.buf (.r 0) 0 0 sy.length 1)),.bool (decide (left=0)||(decide (used=1)&&decide (cn.getD 1 0=1))||(none&&decide (used=0)))],[(.r 0,⟨0,true,true,false,H0 .i64 sy⟩)]):=by
  have hrl:(List.replicate 16 0).length=16:=rfl
  rw [K1 L.A4.x2.eq_1]
  by_cases h1:left=0
  · simp -dsimp (disch:=first|omega|(simp only [B0,B9,D2,H2,H3,D3,D4,J1,H4,D5,L9,Q0,I9,G1,D0,M0,J2,J3,H6,H7,H8,Yhv]<;>omega)|fail) only [go_sem,reduceIte,reduceCtorEq,E2,E3,E4,E5,E6,E7,E8,E9,F0,F1,F2,F3,F4,F5,F6,F7,F8,F9,G0,B2,BYs,B0,B9,D2,H2,H3,D3,D4,J1,H4,D5,L9,Q0,I9,G1,D0,M0,J2,J3,H6,H7,H8,Yhv,L.A4.r2,h1]
  · by_cases h2:used=1
    · by_cases h3:cn.getD 1 0=1
      · simp -dsimp (disch:=first|omega|(simp only [B0,B9,D2,H2,H3,D3,D4,J1,H4,D5,L9,Q0,I9,G1,D0,M0,J2,J3,H6,H7,H8,Yhv]<;>omega)|fail) only [go_sem,reduceIte,reduceCtorEq,E2,E3,E4,E5,E6,E7,E8,E9,F0,F1,F2,F3,F4,F5,F6,F7,F8,F9,G0,B2,BYs,B0,B9,D2,H2,H3,D3,D4,J1,H4,D5,L9,Q0,I9,G1,D0,M0,J2,J3,H6,H7,H8,Yhv,L.A4.r2,h1,h2,h3]
      · cases none
        · simp -dsimp (disch:=first|omega|(simp only [B0,B9,D2,H2,H3,D3,D4,J1,H4,D5,L9,Q0,I9,G1,D0,M0,J2,J3,H6,H7,H8,Yhv]<;>omega)|fail) only [go_sem,reduceIte,reduceCtorEq,E2,E3,E4,E5,E6,E7,E8,E9,F0,F1,F2,F3,F4,F5,F6,F7,F8,F9,G0,B2,BYs,B0,B9,D2,H2,H3,D3,D4,J1,H4,D5,L9,Q0,I9,G1,D0,M0,J2,J3,H6,H7,H8,Yhv,L.A4.r2,h1,h2,h3]
        · simp -dsimp (disch:=first|omega|(simp only [B0,B9,D2,H2,H3,D3,D4,J1,H4,D5,L9,Q0,I9,G1,D0,M0,J2,J3,H6,H7,H8,Yhv]<;>omega)|fail) only [go_sem,reduceIte,reduceCtorEq,E2,E3,E4,E5,E6,E7,E8,E9,F0,F1,F2,F3,F4,F5,F6,F7,F8,F9,G0,B2,BYs,B0,B9,D2,H2,H3,D3,D4,J1,H4,D5,L9,Q0,I9,G1,D0,M0,J2,J3,H6,H7,H8,Yhv,L.A4.r2,h1,h2,h3]
    · cases none
      · simp -dsimp (disch:=first|omega|(simp only [B0,B9,D2,H2,H3,D3,D4,J1,H4,D5,L9,Q0,I9,G1,D0,M0,J2,J3,H6,H7,H8,Yhv]<;>omega)|fail) only [go_sem,reduceIte,reduceCtorEq,E2,E3,E4,E5,E6,E7,E8,E9,F0,F1,F2,F3,F4,F5,F6,F7,F8,F9,G0,B2,BYs,B0,B9,D2,H2,H3,D3,D4,J1,H4,D5,L9,Q0,I9,G1,D0,M0,J2,J3,H6,H7,H8,Yhv,L.A4.r2,h1,h2]
      · by_cases h4:used=0
        · simp -dsimp (disch:=first|omega|(simp only [B0,B9,D2,H2,H3,D3,D4,J1,H4,D5,L9,Q0,I9,G1,D0,M0,J2,J3,H6,H7,H8,Yhv]<;>omega)|fail) only [go_sem,reduceIte,reduceCtorEq,E2,E3,E4,E5,E6,E7,E8,E9,F0,F1,F2,F3,F4,F5,F6,F7,F8,F9,G0,B2,BYs,B0,B9,D2,H2,H3,D3,D4,J1,H4,D5,L9,Q0,I9,G1,D0,M0,J2,J3,H6,H7,H8,Yhv,L.A4.r2,h1,h2,h4]
        · simp -dsimp (disch:=first|omega|(simp only [B0,B9,D2,H2,H3,D3,D4,J1,H4,D5,L9,Q0,I9,G1,D0,M0,J2,J3,H6,H7,H8,Yhv]<;>omega)|fail) only [go_sem,reduceIte,reduceCtorEq,E2,E3,E4,E5,E6,E7,E8,E9,F0,F1,F2,F3,F4,F5,F6,F7,F8,F9,G0,B2,BYs,B0,B9,D2,H2,H3,D3,D4,J1,H4,D5,L9,Q0,I9,G1,D0,M0,J2,J3,H6,H7,H8,Yhv,L.A4.r2,h1,h2,h4]
def okB (l:List Nat) (none:Bool):Bool:=decide (Zae l 15=0)||(decide (Q2 l 16=1)&&decide (Zie l 1=1))||(none&&decide (Q2 l 16=0))
theorem Zy8 {l:List Nat} {b:Nat} (h:∀ x∈l,x≤b) (i:Nat):l.getD i 0≤b:=by
  rw [List.getD_eq_getElem?_getD]
  cases e:l[i]? with
  | none=>exact Nat.zero_le b
  | some x=>exact h x (List.mem_of_getElem? e)
theorem Yaw {l:List Nat} {none:Bool} (hm:∀ x∈l,x≤15) (hl:l.length≤1000000):∀ (m i:Nat),i+m=l.length →
    X E [.cell 4 (some 17),.tmp 5] (.c L.A4.x2::.lp [1,4,6,7,8,11,66,67,68] L.A4.x2::.blk 4::[.c L.A4.r2]) ⟨[(1,.bool none),(4,.ref (.s 1000000 0) 0 0),(6,.ref (.s 1000000 1) 0 0),(7,.ref (.s 1000000 2) 0 0),(8,.int .i64 (Q2 l 16:Nat)),(11,.int .i64 (Zae l 15)),(66,.lst (H0 .i64 l) l.length),(67,.int .i64 l.length),(68,.int .i64 i)],[(.s 1000000 0,⟨0,true,true,true,Q7 (List.replicate 16 0) .nils⟩),(.s 1000000 1,⟨0,true,true,true,Q7 ((Z7 l).cnt) (.buf (.s 1000000 3) 0 0 ((Zbs l i 15)).length 1)⟩),(.s 1000000 2,⟨0,true,true,true,H0 .i64 ((Zje l i))⟩),(.s 1000000 3,⟨0,true,true,false,H0 .i64 ((Zbs l i 15))⟩)]⟩=some (Ztc l (okB l none)):=by
  intro m
  induction m with
  | zero =>
    intro i h
    have hi:i=l.length:=by omega
    subst hi
    have hs:=Zbn l l.length (Yfj _) 15
    have g:=Ye5 (none:=none) (left:=Zae l 15) (nx:=Zje l l.length) (Y4 l) hs hl
    rw [Ztb l (by omega)] at g
    rw [g,Yas]
    rfl
  | succ m ih =>
    intro i h
    have hi:i<l.length:=by omega
    have hxi:l.getD i 0<16:=by have:=Zy8 hm i;omega
    have hu:=Zfz l hm
    have g:=ih (i+1) (by omega)
    have hs:(Zbs l i 15).length=Q2 l 16:=Zbn l i (by omega) 15
    have hn:=T0 l i
    have hc:=Y4 l
    have hrl:(List.replicate 16 0).length=16:=rfl
    by_cases h0:l.getD i 0=0
    · rw [Z3l hi h0,Z3m hi h0] at g
      simp only [Int.natCast_add,Yhz] at g
      rw [K1 L.A4.x2.eq_1]
      simp -dsimp (disch:=first|omega|(simp only [B0,B9,D2,H2,H3,D3,D4,J1,H4,D5,L9,Q0,I9,G1,D0,M0,J2,J3,H6,H7,H8,Yhv]<;>omega)|fail) only [go_sem,reduceIte,reduceCtorEq,E2,E3,E4,E5,E6,E7,E8,E9,F0,F1,F2,F3,F4,F5,F6,F7,F8,F9,G0,B2,BYs,B0,B9,D2,H2,H3,D3,D4,J1,H4,D5,L9,Q0,I9,G1,D0,M0,J2,J3,H6,H7,H8,Yhv,h0,g]
    · have k1:=sym_in hi hxi h0
      have k2:=Zdt l i (j:=l.getD i 0) (by omega)
      rw [if_neg h0] at k2
      have k3:=Z3k hi hxi h0
      have k4:=Yat hi h0 15 (by omega)
      rw [←k3,←k4] at g
      obtain ⟨x,hxe⟩:∃ x,l.getD i 0=x:=⟨_,rfl⟩
      rw [hxe] at hxi h0 k1 k2 g
      clear k3 k4
      generalize Q2 l x+(l.take i).count x=j at *
      have e6:(j:Int)+1=((j+1:Nat):Int):=by omega
      generalize Zbs l i 15=sy at *
      generalize Zje l i=nx at *
      rw [Yhv] at g
      have e7:((i+1:Nat):Int)=(i:Int)+1:=rfl
      rw [e7] at g
      rw [K1 L.A4.x2.eq_1]
      simp -dsimp (disch:=first|omega|(simp only [B0,B9,D2,H2,H3,D3,D4,J1,H4,D5,L9,Q0,I9,G1,D0,M0,J2,J3,H6,H7,H8,Yhv]<;>omega)|fail) only [go_sem,reduceIte,reduceCtorEq,E2,E3,E4,E5,E6,E7,E8,E9,F0,F1,F2,F3,F4,F5,F6,F7,F8,F9,G0,B2,BYs,B0,B9,D2,H2,H3,D3,D4,J1,H4,D5,L9,Q0,I9,G1,D0,M0,J2,J3,H6,H7,H8,Yhv,hxe,k2,e6,g]
end Cod
namespace Cod
open Go
theorem Yax (l:List Nat):∀ n,Zae l n≤2^n:=by
  intro n
  induction n with
  | zero=>exact Int.le_refl _
  | succ n ih=>rw [Zae,Int.pow_succ];omega
def badB (l:List Nat):AV × A2:=(.tup [.agg (Q7 (Z7 l).cnt .nils),.bool false],[])
theorem Ye6 {l:List Nat} {none:Bool} (hm:∀ x∈l,x≤15) (hl:l.length≤1000000) (h15:0≤Zae l 15):X E [.cell 4 (some 17),.tmp 5] (.c L.A4.x1::.lp [0,1,4,6,7,8,11,12] L.A4.x1::.blk 2::[.c L.A4.r1]) ⟨[(0,.lst (H0 .i64 l) l.length),(1,.bool none),(4,.ref (.s 1000000 0) 0 0),(6,.ref (.s 1000000 1) 0 0),(7,.ref (.s 1000000 2) 0 0),(8,.int .i64 (Q2 l 16:Nat)),(11,.int .i64 (Zae l 15)),(12,.int .i64 16)],[(.s 1000000 0,⟨0,true,true,true,Q7 (List.replicate 16 0) .nils⟩),(.s 1000000 1,⟨0,true,true,true,Q7 ((Z7 l).cnt) .nils⟩),(.s 1000000 2,⟨0,true,true,true,H0 .i64 ((Zlf l 16))⟩)]⟩=some (Ztc l (okB l none)):=by
  have g:=Yaw (none:=none) hm hl l.length 0 (by omega)
  have hz:Zbs l 0 15=List.replicate (Q2 l 16) 0:=Z3d l 15
  have hc:=Y4 l
  have hn:=Q1 l 16
  have hu:=Zfz l hm
  have hr:∀ n,(List.replicate n (0:Nat)).length=n:=fun n=>Yir
  have t1:((Q2 l 16:Nat):Int).toNat=Q2 l 16:=rfl
  rw [hz,hr,←nxt_AB] at g
  simp only [Yhz] at g
  rw [K1 L.A4.x1.eq_1]
  simp -dsimp (disch:=first|omega|(simp only [B0,B9,D2,H2,H3,D3,D4,J1,H4,D5,L9,Q0,I9,G1,D0,M0,J2,J3,H6,H7,H8,Yhv]<;>omega)|fail) only [go_sem,reduceIte,reduceCtorEq,E2,E3,E4,E5,E6,E7,E8,E9,F0,F1,F2,F3,F4,F5,F6,F7,F8,F9,G0,B2,BYs,B0,B9,D2,H2,H3,D3,D4,J1,H4,D5,L9,Q0,I9,G1,D0,M0,J2,J3,H6,H7,H8,Yhv,L.A4.r1,Zy6,t1,g]
theorem Z3n {l:List Nat} {none:Bool} (hm:∀ x∈l,x≤15) (hl:l.length≤1000000):∀ (m n:Nat),n+m=15→0≤Zae l n →
    X E [.cell 4 (some 17),.tmp 5] (.c L.A4.x1::.lp [0,1,4,6,7,8,11,12] L.A4.x1::.blk 2::[.c L.A4.r1]) ⟨[(0,.lst (H0 .i64 l) l.length),(1,.bool none),(4,.ref (.s 1000000 0) 0 0),(6,.ref (.s 1000000 1) 0 0),(7,.ref (.s 1000000 2) 0 0),(8,.int .i64 (Q2 l 16:Nat)),(11,.int .i64 (Zae l n)),(12,.int .i64 ((n+1:Nat):Int))],[(.s 1000000 0,⟨0,true,true,true,Q7 (List.replicate 16 0) .nils⟩),(.s 1000000 1,⟨0,true,true,true,Q7 ((Z7 l).cnt) .nils⟩),(.s 1000000 2,⟨0,true,true,true,H0 .i64 ((Zlf l (n+1)))⟩)]⟩=if Zae l 15<0 then some (badB l) else some (Ztc l (okB l none)):=by
  intro m
  induction m with
  | zero =>
    intro n h h0
    obtain rfl:n=15:=by omega
    rw [if_neg (by omega)]
    exact Ye6 hm hl h0
  | succ m ih =>
    intro n h h0
    have hc:=Y4 l
    have hcn:=Ztb l (n:=n+1) (by omega)
    rw [Zds] at hcn
    have hn:=Q1 l (n+1)
    have hu:=Zfz l hm
    have hrl:(List.replicate 16 0).length=16:=rfl
    have hle:=Yax l n
    have h2n:(2:Int)^n≤32768:=by
      have:(2:Nat)^n≤2^15:=Nat.pow_le_pow_right (by omega) (by omega)
      have e:(2:Int)^n=((2^n:Nat):Int):=by rw [Int.natCast_pow];rfl
      omega
    have hcl:l.count (n+1)≤l.length:=Yiz
    have hL:Zae l (n+1)=2*Zae l n-l.count (n+1):=rfl
    by_cases hneg:Zae l (n+1)<0
    · rw [if_pos (Z3f 15 (by omega) hneg)]
      rw [hL] at hneg
      unfold badB
      rw [K1 L.A4.x1.eq_1]
      simp -dsimp (disch:=first|omega|(simp only [B0,B9,D2,H2,H3,D3,D4,J1,H4,D5,L9,Q0,I9,G1,D0,M0,J2,J3,H6,H7,H8,Yhv]<;>omega)|fail) only [go_sem,reduceIte,reduceCtorEq,E2,E3,E4,E5,E6,E7,E8,E9,F0,F1,F2,F3,F4,F5,F6,F7,F8,F9,G0,B2,BYs,B0,B9,D2,H2,H3,D3,D4,J1,H4,D5,L9,Q0,I9,G1,D0,M0,J2,J3,H6,H7,H8,Yhv,hcn,hneg]
    · have g:=ih (n+1) (by omega) (by omega)
      rw [←Z3j (l:=l) (n:=n+1) (by omega) (by omega),Zds,hL] at g
      rw [←g]
      rw [hL] at hneg
      have k2:=Zfj l (n+1) (j:=n+1) (by omega)
      rw [if_pos (by omega)] at k2
      have k3:Q2 l (n+1+1)≤Q2 l 16:=Zmv l (by omega)
      rw [Q2,Zds] at k3
      have e6:((Q2 l (n+1):Nat):Int)+(l.count (n+1):Nat)=((Q2 l (n+1)+l.count (n+1):Nat):Int):=by omega
      generalize Zlf l (n+1)=nx at *
      have e7:((n+1+1:Nat):Int)=((n+1:Nat):Int)+1:=rfl
      have e8:(((n+1:Nat):Int)+1).toNat=n+1+1:=rfl
      rw [e7]
      conv=>lhs;rw [K1 L.A4.x1.eq_1]
      simp -dsimp (disch:=first|omega|(simp only [B0,B9,D2,H2,H3,D3,D4,J1,H4,D5,L9,Q0,I9,G1,D0,M0,J2,J3,H6,H7,H8,Yhv]<;>omega)|fail) only [go_sem,reduceIte,reduceCtorEq,E2,E3,E4,E5,E6,E7,E8,E9,F0,F1,F2,F3,F4,F5,F6,F7,F8,F9,G0,B2,BYs,B0,B9,D2,H2,H3,D3,D4,J1,H4,D5,L9,Q0,I9,G1,D0,M0,J2,J3,H6,H7,H8,Yhv,hcn,hneg,k2,e6,e8]
end Cod
namespace Cod
open Go
def Ztd (l:List Nat) (none:Bool):AV × A2:=if Zae l 15<0 then badB l else Ztc l (okB l none)
theorem Z3o {l:List Nat} {none:Bool} (hm:∀ x∈l,x≤15) (hl:l.length≤1000000):∀ (m i:Nat),i+m=l.length →
    X E [.cell 4 (some 17),.tmp 5] (.c L.A4.x0::.lp [0,1,4,6,7,16,17,18] L.A4.x0::.blk 0::[.c L.A4.r0]) ⟨[(0,.lst (H0 .i64 l) l.length),(1,.bool none),(4,.ref (.s 1000000 0) 0 0),(6,.ref (.s 1000000 1) 0 0),(7,.ref (.s 1000000 2) 0 0),(16,.lst (H0 .i64 l) l.length),(17,.int .i64 l.length),(18,.int .i64 i)],[(.s 1000000 0,⟨0,true,true,true,Q7 (List.replicate 16 0) .nils⟩),(.s 1000000 1,⟨0,true,true,true,Q7 ((Zle l i)) .nils⟩),(.s 1000000 2,⟨0,true,true,true,H0 .i64 ((List.replicate 17 0))⟩)]⟩=some (Ztd l none):=by
  intro m
  induction m with
  | zero =>
    intro i h
    have hi:i=l.length:=by omega
    subst hi
    have g:=Z3n (none:=none) hm hl 15 0 (by omega) (by decide:(0:Int)≤1)
    rw [show Zae l 0=1 from rfl,Z3i] at g
    have hb:some (Ztd l none)=if Zae l 15<0 then some (badB l) else some (Ztc l (okB l none)):=by unfold Ztd;split<;>rfl
    rw [hb,←g]
    have hc:=S9 l l.length
    have k0:=Zfi l l.length (n:=0) (by omega)
    rw [Yit] at k0
    have k1:=Yav l
    have hu:=Zfz l hm
    have hcl:l.count 0≤l.length:=Yiz
    have e1:(l.length:Int)-(l.count 0:Nat)=((Q2 l 16:Nat):Int):=by omega
    have hr17:(List.replicate 17 0).length=17:=rfl
    have hrl:(List.replicate 16 0).length=16:=rfl
    have z:=I9 (cn:=Zle l l.length) (b:=.nils) (i:=0) (x:=0) (by omega)
    rw [k1] at z
    simp only [Yhz] at z ⊢
    rw [Nat.zero_add]
    simp only [Yhz]
    conv=>lhs;rw [K1 L.A4.x0.eq_1]
    simp -dsimp (disch:=first|omega|(simp only [B0,B9,D2,H2,H3,D3,D4,J1,H4,D5,L9,Q0,I9,G1,D0,M0,J2,J3,H6,H7,H8,Yhv]<;>omega)|fail) only [go_sem,reduceIte,reduceCtorEq,E2,E3,E4,E5,E6,E7,E8,E9,F0,F1,F2,F3,F4,F5,F6,F7,F8,F9,G0,B2,BYs,B0,B9,D2,H2,H3,D3,D4,J1,H4,D5,L9,Q0,I9,G1,D0,M0,J2,J3,H6,H7,H8,Yhv,L.A4.r0,k0,z,e1]
  | succ m ih =>
    intro i h
    have hi:i<l.length:=by omega
    have hxi:l.getD i 0<16:=by have:=Zy8 hm i;omega
    have g:=ih (i+1) (by omega)
    have hc:=S9 l i
    have k1:=Zfi l i hxi
    have k2:=Z3h hi hxi
    have k3:(l.take i).count (l.getD i 0)≤l.length:=Nat.le_trans Yiz (by rw [Yfq];omega)
    have hr17:(List.replicate 17 0).length=17:=rfl
    have hrl:(List.replicate 16 0).length=16:=rfl
    rw [←k2] at g
    clear k2
    generalize (l.take i).count (l.getD i 0)=c at *
    obtain ⟨x,hxe⟩:∃ x,l.getD i 0=x:=⟨_,rfl⟩
    rw [hxe] at hxi k1 g
    have e6:(c:Int)+1=((c+1:Nat):Int):=by omega
    have e7:((i+1:Nat):Int)=(i:Int)+1:=rfl
    rw [e7] at g
    generalize Zle l i=cn at *
    rw [K1 L.A4.x0.eq_1]
    simp -dsimp (disch:=first|omega|(simp only [B0,B9,D2,H2,H3,D3,D4,J1,H4,D5,L9,Q0,I9,G1,D0,M0,J2,J3,H6,H7,H8,Yhv]<;>omega)|fail) only [go_sem,reduceIte,reduceCtorEq,E2,E3,E4,E5,E6,E7,E8,E9,F0,F1,F2,F3,F4,F5,F6,F7,F8,F9,G0,B2,BYs,B0,B9,D2,H2,H3,D3,D4,J1,H4,D5,L9,Q0,I9,G1,D0,M0,J2,J3,H6,H7,H8,Yhv,hxe,k1,e6,g]
theorem Zte {l:List Nat} {none:Bool} (hm:∀ x∈l,x≤15) (hl:l.length≤1000000):S E F.A4 [.lst (H0 .i64 l) l.length,.bool none] []=some (Ztd l none):=by
  have g:=Z3o (none:=none) hm hl l.length 0 (by omega)
  have hr17:(List.replicate 17 0).length=17:=rfl
  have hrl:(List.replicate 16 0).length=16:=rfl
  rw [Z3g] at g
  simp only [Yhz] at g
  rw [←g,L4 Zoq rfl rfl]
  simp -dsimp (disch:=first|omega|(simp only [B0,B9,D2,H2,H3,D3,D4,J1,H4,D5,L9,Q0,I9,G1,D0,M0,J2,J3,H6,H7,H8,Yhv]<;>omega)|fail) only [L.A4,go_sem,reduceIte,reduceCtorEq,E2,E3,E4,E5,E6,E7,E8,E9,F0,F1,F2,F3,F4,F5,F6,F7,F8,F9,G0,B2,BYs,B0,B9,D2,H2,H3,D3,D4,J1,H4,D5,L9,Q0,I9,G1,D0,M0,J2,J3,H6,H7,H8,Yhv,Yau,Zy7,Zta]
end Cod

/- The program's inflate: the next symbol. -/
import Derived.KernelRfl
import Derived.Shelf.Strings.BuilderK
import Derived.WalkKit
import Derived.BigCall
import Derived.BigGuard
import Derived.Deep.Cut
import Derived.Deep.RegionWith
import Derived.Deep.MidRow
import Derived.Test.YtabccggcfcppgaaGreatDoorXTxt6
import Derived.Test.YtabccggcfcppgaaGreatDoorXTxt5
import Derived.Test.YtabccggcfcppgaaGreatDoorXTxt2
import Derived.Test.YtabccggcfcppgaaGreatDoorXTxt1
import Derived.Test.YtabccggcfcppgaaGreatDoorXShelf1
set_option linter.unusedSimpArgs false
set_option linter.unusedVariables false
open List renaming length_append → Yf9, length_cons → Yf0, length_replicate → Yir, length_set → Yhv, lookup_cons → Yi0, take_of_length_le → Yf8
open Int renaming cast_ofNat_Int → Yhz
open Nat renaming reduceEqDiff → E2, reduceAdd → E3, reduceSub → E4, reduceMul → E5, reduceDiv → E6, reduceMod → E7, reduceBEq → E8, reduceLeDiff → E9, reduceLT → F0
open Int renaming reduceEq → F1, reduceNe → F2, reduceLT → F3, reduceLE → F4, reduceBEq → F5, reduceBNe → F6, reduceToNat → F7, reduceAdd → F8, reduceSub → F9, reduceMul → G0, reduceNeg → B2
namespace Cod
open Go
structure Dif (s1 y t1 z:Site):Prop where
  a:s1≠y
  b:s1≠t1
  c:s1≠z
  d:y≠t1
  e:y≠z
  f:t1≠z
end Cod
namespace Cod
open Go
end Cod
namespace Cod
open Go
def outN (l:List Nat):AV × A2:=(.buf (.r 0) 0 0 l.length 1,[(.r 0,⟨0,true,true,false,H0 .i64 l⟩)])
theorem and32 {n:Nat} (h:n<4294967296):Zh5 .u64 (n:Int) 4294967295=(n:Int):=by
  have:=Zfy (k:=.u64) (a:=n) (n:=32) (by simp only [IntKind.bits];omega) (by decide)
  rw [Nat.mod_eq_of_lt (by omega)] at this
  exact this
theorem shr32 {n:Nat} (h:n<4294967296):Zcq .u64 (n:Int) 32=0:=by
  have:=Z1 (k:=.u64) (a:=n) (b:=32) (by decide)
  rw [Nat.div_eq_of_lt (by omega)] at this
  exact this
theorem Ye7 {n:Nat} (h:n<4294967296):S E F.Zbj [.int .u64 1,.int .u64 n] []=some (.tup [.int .u64 0,.int .u64 n],[]):=by
  have a1:=and32 h
  have a2:=shr32 h
  have b1:Zh5 .u64 1 4294967295=1:=rfl
  have b2:Zcq .u64 1 32=0:=rfl
  have b3:Zcq .u64 0 32=0:=rfl
  have b4:Zh5 .u64 0 4294967295=0:=rfl
  have c1:S E F.W8 [.int .u64 1,.int .u64 n] []=some (.tup [.int .u64 0,.int .u64 n],[]):=by
    rw [L4 Zod rfl rfl]
    have w0:IntKind.u64.wrap 0=0:=rfl
    simp -dsimp (disch:=first|omega|(simp only [B0,B9,D2,H2,H3,D3,D4,J1,H4,Yhv]<;>omega)|fail) only [L.W8,go_sem,reduceIte,reduceCtorEq,E2,E3,E4,E5,E6,E7,E8,E9,F0,F1,F2,F3,F4,F5,F6,F7,F8,F9,G0,B2,BYs,a1,a2,b1,b2,b3,b4,Int.one_mul,Int.zero_mul,Int.zero_add,Int.mul_zero,Int.add_zero,w0]
  rw [L4 Zrx rfl rfl]
  simp -dsimp (disch:=first|omega|(simp only [B0,B9,D2,H2,H3,D3,D4,J1,H4,Yhv]<;>omega)|fail) only [L.Zbj,go_sem,reduceIte,reduceCtorEq,E2,E3,E4,E5,E6,E7,E8,E9,F0,F1,F2,F3,F4,F5,F6,F7,F8,F9,G0,B2,BYs,c1]
theorem Yay {x N:Nat} (hN:N≤1000000):∀ (m k:Nat),N≤k+m→1≤k→k≤N →
    X E [.tmp 4] (.c L.D8.x0::.lp [7,8] L.D8.x0::.blk 0::[.c L.D8.r0]) ⟨[(7,.buf (.s 1000000 0) 0 0 N 1),(8,.int .i64 k)],[(.s 1000000 0,⟨0,true,true,false,H0 .i64 (List.replicate k x++List.replicate (N-k) 0)⟩)]⟩=some (outN (List.replicate N x)):=by
  intro m
  induction m with
  | zero =>
    intro k h1 h2 h3
    obtain rfl:k=N:=by omega
    have hl:(List.replicate k x).length=k:=Yir
    unfold outN
    rw [K1 L.D8.x0.eq_1,Nat.sub_self,hl]
    simp -dsimp (disch:=first|omega|(simp only [B0,B9,D2,H2,H3,D3,D4,J1,H4,Yhv]<;>omega)|fail) only [go_sem,reduceIte,reduceCtorEq,E2,E3,E4,E5,E6,E7,E8,E9,F0,F1,F2,F3,F4,F5,F6,F7,F8,F9,G0,B2,BYs,B0,B9,D2,H2,H3,D3,D4,J1,H4,Yhv,L.D8.r0,List.replicate_zero,List.append_nil]
  | succ m ih =>
    intro k h1 h2 h3
    by_cases hk:k<N
    · have hl:(List.replicate k x++List.replicate (N-k) 0).length=N:=by simp;omega
      obtain ⟨c,hc⟩:∃ c,k.min (N-k)=c:=⟨_,rfl⟩
      have hc1:c=min k (N-k):=hc.symm
      have g:=ih (k+c) (by omega) (by omega) (by omega)
      have n1:sub (H0 .i64 (List.replicate k x++List.replicate (N-k) 0)) 0 k=H0 .i64 (List.replicate k x):=by
        simp [sub,H0]
      have n2:(H0 .i64 (List.replicate k x)).take c=H0 .i64 (List.replicate c x):=by
        simp [H0];omega
      have n3:over (H0 .i64 (List.replicate k x++List.replicate (N-k) 0)) k (H0 .i64 (List.replicate c x))=H0 .i64 (List.replicate (k+c) x++List.replicate (N-(k+c)) 0):=by
        simp [over,H0,List.take_append,List.drop_append,←List.append_assoc]
        omega
      have n4:(k:Int)+c=((k+c:Nat):Int):=by omega
      have n5:k+(N-k)≤N:=by omega
      rw [K1 L.D8.x0.eq_1]
      simp -dsimp (disch:=first|omega|(simp only [B0,B9,D2,H2,H3,D3,D4,J1,H4,Yhv]<;>omega)|fail) only [go_sem,reduceIte,reduceCtorEq,E2,E3,E4,E5,E6,E7,E8,E9,F0,F1,F2,F3,F4,F5,F6,F7,F8,F9,G0,B2,BYs,B0,B9,D2,H2,H3,D3,D4,J1,H4,Yhv,hl,Nat.sub_zero,n1,hc,n2,n3,n4,n5,g]
    · exact ih k (by omega) h2 h3
theorem Zcx {x N:Nat} (h1:1≤N) (hN:N≤1000000):S E F.D8 [.lst [.int .i64 x] 1,.int .i64 N] []=some (outN (List.replicate N x)):=by
  have c:=Ye7 (n:=N) (by omega)
  have g:=Yay (x:=x) hN N 1 (by omega) (by omega) (by omega)
  have t1:((N:Nat):Int).toNat=N:=rfl
  have m1:Nat.min 1 N=1:=Nat.min_eq_left h1
  have tk1:List.take 1 [AV.int .i64 (x:Int)]=[AV.int .i64 (x:Int)]:=rfl
  have hlr:(List.replicate N 0).length=N:=Yir
  have z:H0 .i64 (List.replicate 1 x++List.replicate (N-1) 0)=H0 .i64 ((List.replicate N 0).set 0 x):=by
    congr 1
    obtain ⟨n,rfl⟩:∃ n,N=n+1:=⟨N-1,by omega⟩
    rfl
  rw [z] at g
  simp only [Yhz] at g
  rw [←g,L4 Znx rfl rfl]
  simp -dsimp (disch:=first|omega|(simp only [B0,B9,D2,H2,H3,D3,D4,J1,H4,Yhv]<;>omega)|fail) only [L.D8,go_sem,reduceIte,reduceCtorEq,E2,E3,E4,E5,E6,E7,E8,E9,F0,F1,F2,F3,F4,F5,F6,F7,F8,F9,G0,B2,BYs,B0,B9,D2,H2,H3,D3,D4,J1,H4,Yhv,c,t1,Zy6,Yhz,m1,tk1]
end Cod
namespace Cod
open Go
def Zbo:List Nat:=List.replicate 144 8++List.replicate 112 9++List.replicate 24 7++List.replicate 8 8
def Za2:List Nat:=List.replicate 32 5
set_option maxRecDepth 100000 in
theorem Zxb:S E F.K8 [.lst [.lst (H0 .i64 (List.replicate 144 8)) 144,.lst (H0 .i64 (List.replicate 112 9)) 112,.lst (H0 .i64 (List.replicate 24 7)) 24,.lst (H0 .i64 (List.replicate 8 8)) 8] 4] []=some (.buf (.r 0) 0 0 288 1,[(.r 0,⟨0,true,true,false,H0 .i64 Zbo⟩)]):=Zel.2 ⟨2000,by kernel_rfl⟩
theorem Zmw {l:List Nat} (h:l.all (·≤15)=true):∀ x∈l,x≤15:=fun x hx=>by
  have:=List.all_eq_true.1 h x hx
  simpa using this
theorem bld_L8:Ztd Zbo false=Ztc Zbo true:=by
  unfold Ztd
  rw [if_neg (by decide +kernel),show okB Zbo false=true by decide +kernel]
theorem bld_D5:Ztd Za2 false=Ztc Za2 true:=by
  unfold Ztd
  rw [if_neg (by decide +kernel),show okB Za2 false=true by decide +kernel]
theorem Z3p:S E F.O2 [] []=some (.tup [.agg (Q7 (Z7 Zbo).cnt (.buf (.r 0) 0 0 (Z7 Zbo).sym.length 1)),.agg (Q7 (Z7 Za2).cnt (.buf (.r 1) 0 0 (Z7 Za2).sym.length 1))],[(.r 0,⟨0,true,true,false,H0 .i64 (Z7 Zbo).sym⟩),(.r 1,⟨0,true,true,false,H0 .i64 (Z7 Za2).sym⟩)]):=by
  have r1:=Zcx (x:=8) (N:=144) (by omega) (by omega)
  have r2:=Zcx (x:=9) (N:=112) (by omega) (by omega)
  have r3:=Zcx (x:=7) (N:=24) (by omega) (by omega)
  have r4:=Zcx (x:=8) (N:=8) (by omega) (by omega)
  have r5:=Zcx (x:=5) (N:=32) (by omega) (by omega)
  have cc:=Zxb
  have b1:=Zte (l:=Zbo) (none:=false) (Zmw (by decide +kernel)) (by decide +kernel)
  have b2:=Zte (l:=Za2) (none:=false) (Zmw (by decide +kernel)) (by decide +kernel)
  rw [bld_L8,show Zbo.length=288 from by decide +kernel] at b1
  rw [bld_D5,show Za2.length=32 from rfl] at b2
  have h1:=Y4 Zbo
  have h2:=Y4 Za2
  have hs1:(Z7 Zbo).sym.length=288:=by decide +kernel
  have hs2:(Z7 Za2).sym.length=32:=by decide +kernel
  unfold outN at r1 r2 r3 r4 r5
  unfold Ztc at b1 b2
  rw [show List.replicate 32 5=Za2 from rfl,show Za2.length=32 from rfl] at r5
  rw [hs1] at b1 ⊢
  rw [hs2] at b2 ⊢
  generalize (Z7 Zbo).cnt=c1 at *
  generalize (Z7 Zbo).sym=y1 at *
  generalize (Z7 Za2).cnt=c2 at *
  generalize (Z7 Za2).sym=y2 at *
  have hd5:Za2.length=32:=rfl
  have hl8:Zbo.length=288:=by decide +kernel
  have sall:∀ {l:List Nat} {n:Nat},l.length=n→sub (H0 .i64 l) 0 n=H0 .i64 l:=by
    intro l n h
    unfold sub
    rw [List.drop_zero,Yf8 (by rw [B9];omega)]
  have s8:=sall hl8
  have s5:=sall hd5
  generalize Zbo=l8 at *
  generalize Za2=d5 at *
  have hrl:(List.replicate 16 0).length=16:=rfl
  simp only [Yhz] at r1 r2 r3 r4 r5
  rw [L4 Zol rfl rfl]
  simp -dsimp (disch:=first|omega|(simp only [B0,B9,D2,H2,H3,D3,D4,J1,H4,D5,L9,Q0,I9,G1,D0,M0,J2,J3,H6,H7,H8,Yhv,Yir]<;>omega)|fail) only [L.O2,go_sem,reduceIte,reduceCtorEq,E2,E3,E4,E5,E6,E7,E8,E9,F0,F1,F2,F3,F4,F5,F6,F7,F8,F9,G0,B2,BYs,B0,B9,D2,H2,H3,D3,D4,J1,H4,D5,L9,Q0,I9,G1,D0,M0,J2,J3,H6,H7,H8,Yhv,Yir,Yau,Zy7,Zta,r1,r2,r3,r4,r5,cc,b1,b2,s8,s5]
end Cod
namespace Cod
open Go
def wrapK (l:List UInt8) (w:Nat):AV × A2:=Zlb (Zmu l w) fun cs n=>(.tup [.buf (.r 0) 0 0 n 1,.int .i64 0],[(.r 0,⟨0,true,true,false,cs⟩)])
def kWrp:List AV→A2→Option (AV × A2)
  | [x,.int .i64 w],σ=>if 0≤w∧w≤2 then onB 1048576 (fun l=>wrapK l w.toNat) [x] σ else none
  | _,_=>none
theorem Ye8 {a:List AV} {σ:A2} {r:AV × A2} (h:kWrp a σ=some r):S E F.P0 a σ=some r:=by
  unfold kWrp at h
  split at h
  · rename_i x w
    split at h
    · rename_i hw
      obtain ⟨l,h1,rfl,h2,rfl⟩:=Zlc h
      simp only [List.cons.injEq,and_true] at h1
      subst h1
      rw [wrapK,Zmt]
      have:=Ye4 h2 (w:=w.toNat) (by omega)
      rw [show ((w.toNat:Nat):Int)=w by omega] at this
      rw [this]
      rfl
    · cases h
  · cases h
def fixY:List Nat:=[256,257,258,259,260,261,262,263,264,265,266,267,268,269,270,271,272,273,274,275,276,277,278,279,0,1,2,3,4,5,6,7,8,9,10,11,12,13,14,15,16,17,18,19,20,21,22,23,24,25,26,27,28,29,30,31,32,33,34,35,36,37,38,39,40,41,42,43,44,45,46,47,48,49,50,51,52,53,54,55,56,57,58,59,60,61,62,63,64,65,66,67,68,69,70,71,72,73,74,75,76,77,78,79,80,81,82,83,84,85,86,87,88,89,90,91,92,93,94,95,96,97,98,99,100,101,102,103,104,105,106,107,108,109,110,111,112,113,114,115,116,117,118,119,120,121,122,123,124,125,126,127,128,129,130,131,132,133,134,135,136,137,138,139,140,141,142,143,280,281,282,283,284,285,286,287,144,145,146,147,148,149,150,151,152,153,154,155,156,157,158,159,160,161,162,163,164,165,166,167,168,169,170,171,172,173,174,175,176,177,178,179,180,181,182,183,184,185,186,187,188,189,190,191,192,193,194,195,196,197,198,199,200,201,202,203,204,205,206,207,208,209,210,211,212,213,214,215,216,217,218,219,220,221,222,223,224,225,226,227,228,229,230,231,232,233,234,235,236,237,238,239,240,241,242,243,244,245,246,247,248,249,250,251,252,253,254,255]
def fixN:List Nat:=[0,0,0,0,0,0,0,24,152,112,0,0,0,0,0,0]
def fixZ:List Nat:=[0,1,2,3,4,5,6,7,8,9,10,11,12,13,14,15,16,17,18,19,20,21,22,23,24,25,26,27,28,29,30,31]
def fixD:List Nat:=[0,0,0,0,0,32,0,0,0,0,0,0,0,0,0,0]
set_option maxRecDepth 100000 in
theorem Ye9:(Z7 Zbo).sym=fixY:=by kernel_rfl
theorem Yfa:(Z7 Zbo).cnt=fixN:=by kernel_rfl
theorem Yfb:(Z7 Za2).sym=fixZ:=by kernel_rfl
theorem Yaz:(Z7 Za2).cnt=fixD:=by kernel_rfl
def kFix (args:List AV) (σ:A2):Option (AV × A2):=match args,σ with
  | [],[]=>some (.tup [.agg (Q7 fixN (.buf (.r 0) 0 0 288 1)),.agg (Q7 fixD (.buf (.r 1) 0 0 32 1))],[(.r 0,⟨0,true,true,false,H0 .i64 fixY⟩),(.r 1,⟨0,true,true,false,H0 .i64 fixZ⟩)])
  | _,_=>none
set_option maxRecDepth 100000 in
theorem Ya0:fixY.length=288:=by kernel_rfl
theorem Ya1:fixZ.length=32:=rfl
theorem Yfc {a:List AV} {σ:A2} {r:AV × A2} (h:kFix a σ=some r):S E F.O2 a σ=some r:=by
  unfold kFix at h
  split at h
  · cases h
    have:=Z3p
    rw [Ye9,Yfa,Yfb,Yaz,Ya0,Ya1] at this
    exact this
  · cases h
end Cod
namespace Cod
open Go
theorem lookK {α:Type}:∀ {tab:List (Nat × α)} {f:Nat} {h : α},tab.lookup f=some h→(f,h)∈tab:=by
  intro tab
  induction tab with
  | nil=>intro f h hf;cases hf
  | cons p tab ih =>
    intro f h hf
    obtain ⟨k,v⟩:=p
    rw [Yi0] at hf
    by_cases hk:f=k
    · subst hk
      simp only [beq_self_eq_true] at hf
      cases hf
      exact List.mem_cons_self
    · simp only [beq_eq_false_iff_ne.2 hk] at hf
      exact List.mem_cons_of_mem _ (ih hf)
def knK:List (Nat × (List AV→A2→Option (AV × A2))):=(F.P0,kWrp)::(F.O2,kFix)::[(F.D1,kSha),(F.I3,kAdl)]
theorem knK_ok {f:Nat} {h:List AV→A2→Option (AV × A2)} (hf:knK.lookup f=some h) {a:List AV} {σ:A2} {r:AV × A2} (hr:h a σ=some r):S E f a σ=some r:=by
  have hm:=lookK hf
  unfold knK at hm
  rcases List.mem_cons.1 hm with hm|hm
  · cases hm;exact Ye8 hr
  rcases List.mem_cons.1 hm with hm|hm
  · cases hm;exact Yfc hr
  rcases List.mem_cons.1 hm with hm|hm
  · cases hm;exact Ye1 hr
  rcases List.mem_cons.1 hm with hm|hm
  · cases hm;exact Ye2 hr
  · cases hm
def Zy9 (E':Env):Env:=⟨E'.fn,fun f=>match knK.lookup f with|some h=>some h|none=>E'.known f,E'.glob⟩
theorem Zii {E':Env} (hx:Ext E E'):More E' (Zy9 E'):=⟨rfl,rfl,fun f=>by
  cases hk:knK.lookup f with
  | none=>exact .inl (by show (match knK.lookup f with|some h=>some h|none=>E'.known f)=_;rw [hk])
  | some h=>exact .inr ⟨h,by show (match knK.lookup f with|some h=>some h|none=>E'.known f)=_;rw [hk],fun a σ r hr=>S_ext hx (knK_ok hk hr)⟩⟩
end Cod
namespace Cod
open Go
def Zxc (n:Nat):UInt8:=[(48:UInt8),49,50,51,52,53,54,55,56,57,97,98,99,100,101,102].getD n 0
def hexB (b:UInt8):List UInt8:=[Zxc (b.toNat/16),Zxc (b.toNat%16)]
def Zjf (id:List UInt8):List UInt8:=id.flatMap hexB
theorem Z3q (b:UInt8) (id:List UInt8):Zjf (b::id)=Zxc (b.toNat/16)::Zxc (b.toNat%16)::Zjf id:=rfl
theorem Ya2 (id:List UInt8):(Zjf id).length=2*id.length:=by
  induction id with
  | nil=>rfl
  | cons x r ih=>rw [Z3q,Yf0,Yf0,ih,Yf0];omega
def kHex:List AV→Option AV
  | [.agg cs]=>if Zef cs=true∧cs.length=32 then (bytesOf cs).map fun l=>.str (Zjf l) else none
  | _=>none
end Cod
namespace Cod
open Go
def Zij:List (Nat × (List AV→A2→Option (AV × A2))):=(F.Zc8,Zbk kHex)::Zdo
def EL:Env:=⟨N5,fun f=>Zij.lookup f,Zav⟩
theorem extL:Ext E EL where
  glob:=rfl
  fn:=rfl
  known f h hk:=by
    by_cases hb:f=F.Zc8
    · subst hb
      rw [show E.known F.Zc8=none from rfl] at hk
      cases hk
    · show ((F.Zc8,Zbk kHex)::Zdo).lookup f=some h
      rw [Yi0,beq_eq_false_iff_ne.2 hb]
      exact hk
  none f hk:=by
    by_cases hb:f=F.Zc8
    · right;rw [hb];rfl
    · left
      show ((F.Zc8,Zbk kHex)::Zdo).lookup f=Option.none
      rw [Yi0,beq_eq_false_iff_ne.2 hb]
      exact hk
end Cod
namespace Cod
open Go
set_option maxRecDepth 1000000
def lfS1:St:=⟨[(0,.bool false),(28,.bool false)],[]⟩
def lfS2:St:=⟨[(1,.ref (.s 1000000 0) 0 0),(2,.str [111,98,106,101,99,116,115,47,48,48,47,48,48,48,48,48,48,48,48,48,48,48,48,48,48,48,48,48,48,48,48,48,48,48,48,48,48,48,48,48,48,48,48,48,48,48,48,48,48,48,48,48,48,48,48,48,48,48,48,48,48,48,48,48,48,48,48,48,48,48,48,48,48]),(33,.buf (.s 1000000 1) 0 0 7 1),(34,.int .i64 7),(35,.int .i64 7),(36,.bool false),(9,.buf (.s 56 0) 0 0 21 1)],[((.s 1000000 0),⟨0,true,true,true,(A0 [0,0,0,0,0,0,0,0,0,0,0,0,0,0,0,0,0,0,0,0,0,0,0,0,0,0,0,0,0,0,0,0])⟩),((.s 1000000 1),⟨0,true,true,false,[.str [98,108,111,98,32,48,51,0,97,98,99],.str [98,108,111,98,32,50,0,97,98,99],.str [98,108,117,98,32,51,0,97,98,99],.str [98,108,111,98,32,51,32,97,98,99],.str [],.str [98,108,111,98,32,51,0,97,98,99,100],.str [98,108,111,98,32,45,49,0]]⟩),((.s 54 0),⟨0,true,true,false,(A0 [98,108,111,98,32,51,0,97,98,99])⟩),((.s 56 0),⟨0,true,true,false,(A0 [120,1,1,10,0,245,255,98,108,111,98,32,51,0,97,98,99,17,217,3,25])⟩)]⟩
def lfS3:St:=⟨[(1,.ref (.s 1000000 0) 0 0),(2,.str [111,98,106,101,99,116,115,47,48,48,47,48,48,48,48,48,48,48,48,48,48,48,48,48,48,48,48,48,48,48,48,48,48,48,48,48,48,48,48,48,48,48,48,48,48,48,48,48,48,48,48,48,48,48,48,48,48,48,48,48,48,48,48,48,48,48,48,48,48,48,48,48,48]),(33,.buf (.s 1000000 1) 0 0 7 1),(34,.int .i64 7),(35,.int .i64 7),(36,.bool false),(9,.buf (.s 56 0) 0 0 21 1),(11,.ref (.s 11 0) 0 0),(12,.int .i64 0),(14,.int .i64 4),(16,.int .i64 6),(18,.int .i64 7),(20,.int .i64 4),(22,.int .i64 5),(24,.int .i64 9)],[((.s 1000000 0),⟨0,true,true,true,(A0 [0,0,0,0,0,0,0,0,0,0,0,0,0,0,0,0,0,0,0,0,0,0,0,0,0,0,0,0,0,0,0,0])⟩),((.s 1000000 1),⟨0,true,true,false,[.str [98,108,111,98,32,48,51,0,97,98,99],.str [98,108,111,98,32,50,0,97,98,99],.str [98,108,117,98,32,51,0,97,98,99],.str [98,108,111,98,32,51,32,97,98,99],.str [],.str [98,108,111,98,32,51,0,97,98,99,100],.str [98,108,111,98,32,45,49,0]]⟩),((.s 54 0),⟨0,true,true,false,(A0 [98,108,111,98,32,51,0,97,98,99])⟩),((.s 56 0),⟨0,true,false,false,(A0 [120,1,1,10,0,245,255,98,108,111,98,32,51,0,97,98,99,17,217,3,25])⟩),((.s 61 0),⟨0,true,true,false,[.int .u8 97,.int .u8 98,.int .u8 99]⟩),((.s 11 0),⟨0,true,true,true,[.int .i64 3,.buf (.s 61 0) 0 0 3 1]⟩),((.s 66 0),⟨0,true,true,false,[.int .u8 0]⟩),((.s 13 0),⟨0,true,true,true,[.int .i64 0,.nils]⟩),((.s 75 0),⟨0,true,true,false,[.str [111,98,106,101,99,116,115,47,48,48,47,48,48,48,48,48,48,48,48,48,48,48,48,48,48,48,48,48,48,48,48,48,48,48,48,48,48,48,48,48,48,48,48,48,48,48,48,48,48,48,48,48,48,48,48,48,48,48,48,48,48,48,48,48,48,48,48,48,48,48,48,48,48],.lst (A0 [120,1,1,10,0,245,255,98,108,111,98,32,51,0,97,98,99,17,217,3,25]) 21]⟩),((.s 15 0),⟨0,true,true,true,[.int .i64 0,.nils]⟩),((.s 17 0),⟨0,true,true,true,[.int .i64 0,.nils]⟩),((.s 88 0),⟨0,true,true,false,[.str [98],.nils,.str [97],.nils]⟩),((.s 19 0),⟨0,true,true,true,[.int .i64 0,.nils]⟩),((.s 21 0),⟨0,true,true,true,[.int .i64 0,.nils]⟩),((.s 99 0),⟨0,true,true,false,[]⟩)]⟩
theorem lf1:runM (Zy9 EL) 20000 7 [.c L.B1.code] ⟨params 0 [],[]⟩=some ([.c L.B1.t1],lfS1):=by kernel_rfl
theorem lf2:runM (Zy9 EL) 20000 161 [.c L.B1.t1] lfS1=some ([.c L.B1.t5],lfS2):=by kernel_rfl
theorem lf3:runM (Zy9 EL) 20000 14 [.c L.B1.t5] lfS2=some ([.c L.B1.t12],lfS3):=by kernel_rfl
theorem lf_all:S EL F.B1 [] []=X EL [.tmp 0] [.c L.B1.t12] lfS3:=by
  rw [S_fn (fn:=L.B1) rfl rfl rfl]
  have h1:=Zw8 (Zii extL) lf1 [.tmp 0]
  have h2:=Zw8 (Zii extL) lf2 [.tmp 0]
  have h3:=Zw8 (Zii extL) lf3 [.tmp 0]
  exact h1.trans (h2.trans h3)
end Cod
namespace Cod
open Go
theorem Zpw:S EL F.B1 [] []=some (.bool true,[]):=by
  obtain ⟨N,hN⟩:∃ N:Nat,N=1048576:=⟨_,rfl⟩
  have e1:rep [.int .u8 0] (Int.toNat 1048576)=A0 (List.replicate N 0):=by
    rw [hN];exact (congrArg (rep _) (show Int.toNat 1048576=1048576 from rfl)).trans (Zmn 1048576)
  have f1:Int.toNat 1048576=N:=by rw [hN];rfl
  have hl:(List.replicate N (0:UInt8)).length=N:=Yir
  have ho:Zjc 3 (List.replicate N (0:UInt8)).length=0:=by
    rw [hl,hN];rfl
  have hp:1048576<(Zib 3 (List.replicate N (0:UInt8)).length++List.replicate N 0).length:=by
    rw [Yf9,hl]
    have:=Zkz 3 N
    omega
  have c:=S_ext extL (Zpt ho hp)
  rw [hl] at c
  unfold Zw6 at c
  rw [lf_all]
  generalize List.replicate N (0:UInt8)=p at *
  have hb:([UInt8.ofNat 97,UInt8.ofNat 98,UInt8.ofNat 99] == [97,98,99])=true:=rfl
  unfold lfS3
  simp -dsimp (disch:=first|omega|(simp only [B0]<;>omega)|fail) only [L.B1.t12,L.B1.t13,go_sem,reduceIte,reduceCtorEq,E2,E3,E4,E5,E6,E7,E8,E9,F0,F1,F2,F3,F4,F5,F6,F7,F8,F9,G0,B2,BYs,↓e1,↓f1,c,hl,hb]
end Cod
namespace Cod
open Go Go.RowKit Go.Proofs Go.Shelf
set_option maxRecDepth 1000000
set_option maxHeartbeats 2000000 in
theorem Ya3 (b:Nat) (w:World) (h0:w.cell? ⟨b,0,none⟩=some (.pointer none)) (hsh:w.shape? b=some (237,2)) (hfz:w.frozen? ⟨b,0,none⟩=false) :
    Calls Tryz.prog 232 #[.pointer (some ⟨b,0,none⟩)] w fun e w'=>e=.returned (.tuple #[])∧w'=w.setCell ⟨b,0,none⟩ (.pointer (some ⟨b,0,none⟩)):=by
  obtain ⟨j,hj,hjs⟩:=Option.map_eq_some_iff.1 Tryz.Builder_Extra_169.sizeBuilder
  go_enter Tryz.func232,Tryz.ntmps232
  go_wp2
  rw [Lib.run_to_unsafe w ⟨b,0,none⟩ Tryz.underlying235 Tryz.underlying336 hj (by rw [hjs];decide) hsh (Nat.zero_lt_succ 1)]
  simp only [Result.andThen]
  rw [Oper.upon_value]
  go_wp2
  rw [run_callFunc_extern Tryz.func283 (by kernel_rfl) (by kernel_rfl) (by kernel_rfl) (e:=Extern.AbiNoEscape.same) (by kernel_rfl)]
  rw [Lib.run_noEscape]
  simp only [Result.andThen]
  rw [Oper.upon_value]
  go_wp2
  rw [Lib.run_from_unsafe w ⟨b,0,none⟩ Tryz.underlying336 Tryz.underlying235 hj hsh Tryz.Builder_Extra_169.liesBuilder]
  simp only [Result.andThen]
  rw [Oper.upon_value]
  go_wp2
  go_end0
  exact ⟨rfl,rfl⟩
set_option maxHeartbeats 2000000 in
theorem Yfd (b:Nat) (w:World) (h0:w.cell? ⟨b,0,none⟩=some (.pointer (some ⟨b,0,none⟩))) :
    Calls Tryz.prog 232 #[.pointer (some ⟨b,0,none⟩)] w fun e w'=>e=.returned (.tuple #[])∧w'=w:=by
  obtain ⟨j,hj,_⟩:=Option.map_eq_some_iff.1 Tryz.Builder_Extra_169.sizeBuilder
  go_enter Tryz.func232,Tryz.ntmps232
  go_wp2
  rw [Lib.run_neq_ptr_same w _ Tryz.underlying235 hj]
  go_wp2
  go_end0
  exact ⟨rfl,rfl⟩
theorem bc_k (B b:Nat) (bs:List Value) (w:World) (h:Lib.IsBuilderF 237 5 B b bs w) :
    Calls Tryz.prog 232 #[.pointer (some ⟨b,0,none⟩)] w fun e w'=>e=.returned (.tuple #[])∧(Lib.BuilderAtF 237 5 B b (.pointer (some ⟨b,0,none⟩)) bs w'∧Below B w w'∧Lib.OthersKept 5 (some b) w w'):=by
  rcases h with h|h
  · refine (Ya3 b w h.cell0 h.shape h.frozen0).mono ?_
    rintro e w' ⟨rfl,rfl⟩
    exact ⟨rfl,h.used _,(Below.refl B w).setCell (p:=⟨b,0,none⟩) h.1 _,(Lib.OthersKept.refl _ _ w).setCell ⟨b,0,none⟩ rfl _⟩
  · refine (Yfd b w h.cell0).mono ?_
    rintro e w' ⟨rfl,rfl⟩
    exact ⟨rfl,h,Below.refl B _,Lib.OthersKept.refl _ _ _⟩
set_option maxHeartbeats 2000000 in
theorem Ya4 (B b:Nat) (bs:List Value) (c:Int) (w:World) (h:Lib.IsBuilderF 237 5 B b bs w) (hlen:bs.length+1≤140737488355328) (hBw:B≤w.heap.size) :
    Calls Tryz.prog 175 #[.pointer (some ⟨b,0,none⟩),.int .u8 c] w fun e w'=>e=.returned .nilIface∧(Lib.BuilderAtF 237 5 B b (.pointer (some ⟨b,0,none⟩)) (bs++[.int .u8 c]) w'∧Below B w w'∧Lib.OthersKept 5 (some b) w w'):=by
  obtain ⟨i0,hi,hz0,hz1,hz2⟩:=info_parts Tryz.Builder_Extra_169.infoByte
  go_enter Tryz.func175,Tryz.ntmps175
  go_wp2_with (go_at_call 232;refine (bc_k B b bs _ h).mono ?_)
  rintro e w1 ⟨rfl,h1,hb1,hk1⟩
  obtain ⟨hB,v,hbk,hown,hne⟩:=h1
  have c0:w1.cell? ⟨b,0,none⟩=some (.pointer (some ⟨b,0,none⟩)):=by rw [Lib.cell_of_heap hbk];rfl
  have c1:w1.cell? ⟨b,1,none⟩=some v:=by rw [Lib.cell_of_heap hbk];rfl
  go_wp2_with (at_builtin;refine wpList_append_ownF _ rfl _ _ 25 rfl B 5 i0 (.int .u8 0) 1 1 Tryz.underlying25 hi hz0 hz1 hz2 rfl (by decide) _ _ _ rfl (hown.alloc _) ⟨w1.heap.size,0,none⟩ 1 1 [.int .u8 c] rfl rfl ?c1 ?c2 ?c3 ?c4 ?c5 ?_)
  case c1 =>
    intro j u hj
    match j,hj with
    | 0,hj=>simp at hj;subst hj;simp [Addr.add]
  case c2=>intro u hu;simp at hu;subst hu;rfl
  case c3=>unfold maxLen;omega
  case c4=>omega
  case c5=>have:=hb1.size;simp;omega
  intro v' w2 hown' hgrow _
  have hlt:b<w1.heap.size:=by
    rcases Nat.lt_or_ge b w1.heap.size with h'|h'
    · exact h'
    · simp [Array.getElem?_eq_none h'] at hbk
  have hb2:w2.heap[b]? = some (.cells #[.pointer (some ⟨b,0,none⟩),v] 237 (0,0)):=by
    rw [hgrow.block b (by simp;omega) (fun e=>hne e.symm),Lib.alloc_old w1 _ b hlt]
    exact hbk
  have d0:w2.cell? ⟨b,0,none⟩=some (.pointer (some ⟨b,0,none⟩)):=by rw [Lib.cell_of_heap hb2];rfl
  have d1:w2.cell? ⟨b,1,none⟩=some v:=by rw [Lib.cell_of_heap hb2];rfl
  have f1:w2.frozen? ⟨b,1,none⟩=false:=Lib.frozen_of_heap hb2 1
  obtain ⟨g,cap,rfl⟩:∃ g cap,v'=.slice (some ⟨g,0,none⟩) (bs.length+1) cap:=by
    rcases hown'.2 with ⟨_,h0⟩|⟨g,cap,cur,fz,hv,_⟩
    · omega
    · exact ⟨g,cap,hv⟩
  go_wp2
  go_ret
  refine ⟨rfl,?_,?_,((hk1.alloc _).grown hgrow (Lib.ownsRowF_kind (hown.alloc _))).setCell ⟨b,1,none⟩ rfl _⟩
  · exact Lib.BuilderAtF.put (T:=237) (e:=5) hB hb2 (bs':=bs++[.int .u8 c]) (by simpa using hown') Tryz.Builder_Extra_169.neB5
  · exact ((hb1.alloc (by have:=hb1.size;omega) _).grown hgrow (by have:=hb1.size;simp;omega) (fun k hk=>(hown.lt k hk).1)).setCell (p:=⟨b,1,none⟩) hB _
end Cod
namespace Cod
open Go Go.RowKit Go.Proofs Go.Shelf
set_option maxRecDepth 1000000
theorem Ztf (i:Nat) (h:i<16):∀ W,(Instr.index 9 (.string ⟨#[48,49,50,51,52,53,54,55,56,57,97,98,99,100,101,102]⟩) (.int .u8 (i:Int))).run Tryz.prog W=.ok (.int .u8 (Zxc i).toNat) W:=by
  intro W
  rw [run_index_string W 9 _ .u8 _ Tryz.underlying9,dif_pos ⟨by omega,by show (i:Int)<16;omega⟩]
  have:∀ j:Fin 16,∀ h,((⟨#[48,49,50,51,52,53,54,55,56,57,97,98,99,100,101,102]⟩:ByteArray)[((j.val:Nat):Int).toNat]'h)=Zxc j.val:=by decide
  rw [this ⟨i,h⟩]
theorem and15 (x:UInt8):bits .and .u8 (x.toNat:Int) 15=((x.toNat%16:Nat):Int):=by
  have key:∀ n:Nat,n<256→bits .and .u8 (n:Int) 15=((n%16:Nat):Int):=by decide +kernel
  exact key _ x.toNat_lt
set_option maxHeartbeats 4000000 in
theorem Z3r {id:List UInt8} (hid:id.length=32) {w:World} :
    Calls Tryz.prog 103 #[.agg (Lib.byteCells id).toArray] w fun e w'=>e=.returned (.string ⟨(Zjf id).toArray⟩)∧Below w.heap.size w w':=by
  have hi35:(Tryz.prog.info? 38).map (·.size)=some (Lib.byteCells id).length:=by rw [Lib.byteCells_length,hid];kernel_rfl
  go_enter Tryz.func103,Tryz.ntmps103
  go_upto_region 3 with (refine wpList_load_mid rfl 38 _ rfl w.heap.size 0 (by rfl) (Lib.byteCells id) _ ?_ Tryz.underlying38 rfl hi35 ?_)
  · intro j v hj
    have hh:((w.alloc (Obj.cells (Lib.byteCells id).toArray 38)).alloc (Obj.cells #[Value.pointer none,Value.slice none 0 0] 237)).heap[w.heap.size]? = some (.cells (Lib.byteCells id).toArray 38):=(Lib.alloc_old _ _ _ (by simp)).trans (heap_alloc_new _ _)
    rw [Lib.cell_of_heap hh]
    simpa using hj
  · have hb0:Lib.BuilderAtF 237 5 w.heap.size (w.heap.size+1) (.pointer none) [] ((w.alloc (Obj.cells (Lib.byteCells id).toArray 38)).alloc (Obj.cells #[Value.pointer none,Value.slice none 0 0] 237)):=by
      refine ⟨by omega,.slice none 0 0,?_,World.ownsRowF_nil _ _ _ _,by simp [Value.ownBlock]⟩
      have:=heap_alloc_new (w.alloc (Obj.cells (Lib.byteCells id).toArray 38)) (Obj.cells #[Value.pointer none,Value.slice none 0 0] 237)
      simpa using this
    have hbel:Below w.heap.size w ((w.alloc (Obj.cells (Lib.byteCells id).toArray 38)).alloc (Obj.cells #[Value.pointer none,Value.slice none 0 0] 237)):=((Below.refl _ w).alloc (Nat.le_refl _) _).alloc (by simp) _
    have hsz:w.heap.size≤((w.alloc (Obj.cells (Lib.byteCells id).toArray 38)).alloc (Obj.cells #[Value.pointer none,Value.slice none 0 0] 237)).heap.size:=hbel.size
    generalize ((w.alloc (Obj.cells (Lib.byteCells id).toArray 38)).alloc (Obj.cells #[Value.pointer none,Value.slice none 0 0] 237))=W1 at *
    go_loopw [7] (fun i wr=>∃ k:Nat,i=.int .i64 k∧k≤32∧Lib.IsBuilderF 237 5 w.heap.size (w.heap.size+1) (Lib.byteCells (Zjf (id.take k))) wr∧Below w.heap.size w wr) (fun i _=>32-(intOf i).toNat)
    case atStart=>exact ⟨0,rfl,by omega,.inl hb0,hbel⟩
    case round =>
      obtain ⟨k,rfl,hk,hI,hbw⟩:=hrel
      by_cases hlt:k<32
      · have hx:(Lib.byteCells id)[k]? = some (.int .u8 (id.getD k 0).toNat):=by
          rw [Lib.byteCells,List.getElem?_map,List.getElem?_eq_getElem (by omega)]
          simp [List.getD,show k<id.length by omega]
        have hT:id.take (k+1)=id.take k++[id.getD k 0]:=by
          rw [List.take_succ_eq_append_getElem (by omega)]
          simp [List.getD,show k<id.length by omega]
        generalize id.getD k 0=x at hx hT
        have hix:∀ W,(Instr.index 38 (.agg (Lib.byteCells id).toArray) (.int .i64 (k:Int))).run Tryz.prog W=.ok (.int .u8 x.toNat) W:=fun W=>by
          simp [Instr.index,run_underlying Tryz.underlying38,asIntOf,hlt,hx,go_sem]
        have hd1:=Ztf (x.toNat/16) (by have:=x.toNat_lt;omega)
        have hd2:=Ztf (x.toNat%16) (by omega)
        rw [←and15] at hd2
        simp only [Int.natCast_ediv,Yhz] at hd1
        have hl:(Zjf (id.take k)).length=2*k:=by
          rw [Ya2,List.length_take];omega
        have hl1:(Lib.byteCells (Zjf (id.take k))).length+1≤140737488355328:=by rw [Lib.byteCells_length];omega
        go_wp2_with (go_at_call 175;refine (Ya4 _ _ _ _ _ hI hl1 hbw.size).mono ?_)
        rintro e W2 ⟨rfl,hA,hb2,_⟩
        have hl2:(Lib.byteCells (Zjf (id.take k))++[Value.int .u8 (Zxc (x.toNat/16)).toNat]).length+1≤140737488355328:=by rw [Yf9,Lib.byteCells_length,List.length_singleton];omega
        go_wp2_with (go_at_call 175;refine (Ya4 _ _ _ _ _ (.inr hA) hl2 (Nat.le_trans hbw.size hb2.size)).mono ?_)
        rintro e W3 ⟨rfl,hA3,hb3,_⟩
        go_wp2
        refine ⟨⟨k+1,rfl,by omega,.inr ?_,(hbw.trans hb2).trans hb3⟩,by simp [intOf];omega⟩
        rw [hT]
        unfold Zjf at hA3 ⊢
        rw [List.flatMap_append]
        simpa [hexB,Lib.byteCells] using hA3
      · obtain rfl:k=32:=by omega
        have hne:Zjf (id.take 32)=Zjf id:=by rw [Yf8 (by omega)]
        rw [hne] at hI
        go_wp2_with (go_at_call 176;refine (Tryz.Builder_String_any_k _ _ _ _ hI hbw.size).mono ?_)
        rintro e W2 ⟨rfl,_,hb2,_⟩
        go_wp2
        go_ret
        exact ⟨rfl,hbw.trans hb2⟩
end Cod
namespace Cod
open Go Go.RowKit Go.Proofs
set_option maxRecDepth 100000
theorem Yfe {c:Ctx}:∀ {l:List UInt8} {vs:List Value},VRL c (A0 l) vs→vs=Lib.byteCells l:=by
  intro l
  induction l with
  | nil=>intro vs h;simpa [A0,VRL,Lib.byteCells] using h
  | cons b l ih =>
    intro vs h
    rw [S7,VRL] at h
    obtain ⟨v,r,rfl,hv,hr⟩:=h
    rw [ih hr]
    simp only [VR] at hv
    rw [hv];rfl
theorem ok_hex {E:Env}:Zpc Tryz.prog E F.Zc8 kHex:=by
  intro args v vs La w hg hv hr
  unfold kHex at hg
  split at hg
  · rename_i cs
    split at hg
    · rename_i hn
      obtain ⟨l,rfl⟩:=Zhe hn.1
      rw [Zhb] at hg
      cases hg
      simp only [VRL] at hv
      obtain ⟨x,r,rfl,hx,rfl⟩:=hv
      simp only [VR] at hx
      obtain ⟨ws,rfl,hw⟩:=hx
      have hl:l.length=32:=by have:=hn.2;rwa [U5] at this
      have hws:ws=(Lib.byteCells l).toArray:=by
        have:=Yfe hw
        rw [←this]
      subst hws
      refine Zab Tryz.func103 (by rfl) (by kernel_rfl) ((Z3r hl).mono fun e w' ⟨he,hb⟩=>?_)
      exact ⟨_,he,fun c=>by simp [VR],hb⟩
    · cases hg
  · cases hg
end Cod
namespace Cod
open Go Go.RowKit Go.Proofs Go.Shelf
set_option maxRecDepth 100000
theorem Yff:Ziw Tryz.prog EL:=Zkc (by kernel_rfl) Zwe (fun _=>rfl)
theorem Z3s:Zd1 Tryz.prog EL:=by
  intro f h hf
  have hm:=Ze7 (show Zij.lookup f=some h from hf)
  unfold Zij at hm
  rcases List.mem_cons.1 hm with hm|hm
  · cases hm;exact Zmb ok_hex
  · exact Yec (E:=EL) rfl (f,h) hm
end Cod
namespace Cod
open Go
theorem Zpx {xs:List AV} (h:Zkj [] xs):∃ σr,S EL 13 xs []=some (.bool true,σr):=by
  obtain rfl:=h
  exact ⟨[],Zpw⟩
end Cod

/- strings.Cut and bytes.Cut at one byte. -/
import Derived.Deep.Cut
import Derived.Deep.RegionWith
import Derived.Lib.BufferOld
import Derived.Test.YthlnjgdoodjgoaaGreatDoorXTxt1
import Derived.Test.YthlnjgdoodjgoaaGreatDoorXTxt2
import Derived.Test.YthlnjgdoodjgoaaGreatDoorXTxt3
set_option linter.unusedSimpArgs false
set_option linter.unusedVariables false
open List renaming append_assoc → Yel, append_nil → Ygt, cons_append → Ydw, drop_drop → Yer, drop_left → Ygx, eq_nil_of_length_eq_zero → Yeh, flatten_cons → Yfb, getElem_mem → Ygu, idxOf_lt_length_of_mem → Yf0, length_append → Yek, length_cons → Yd9, length_drop → Yd1, length_nil → Ye6, length_singleton → Yf2, length_take → Yd0, lookup_cons → Ygs, mem_append → Yf1, mem_cons_of_mem → Yex, mem_cons_self → Ygy, nil_append → Yfl, size_toArray → Yd2, take_left → Ygw
open Nat renaming le_refl → Ydt, lt_of_lt_of_le → Ydv, zero_add → Yen
open Int renaming cast_ofNat_Int → Yf4
open Bool renaming not_eq_false' → Ygv, or_eq_false_iff → Yew
open Nat renaming reduceEqDiff → D1, reduceAdd → D2, reduceSub → D3, reduceMul → D4, reduceDiv → D5, reduceMod → D6, reduceBEq → D7, reduceLeDiff → D8, reduceLT → D9
open Int renaming reduceEq → E2, reduceNe → E3, reduceLT → E4, reduceLE → E5, reduceBEq → E6, reduceBNe → E7, reduceToNat → E8, reduceAdd → E9, reduceSub → F0, reduceMul → F1, reduceNeg → A5
namespace Cod
open Go
theorem Zxo {l:List UInt8} {c:UInt8} (h:c∈l):K4 l c=(l.idxOf c:Nat):=by simp [K4,h]
theorem Zxp {l:List UInt8} {c:UInt8} (h:c∉l):K4 l c = -1:=by simp [K4,h]
theorem byt_u8 (c:UInt8):byt (c.toNat:Int)=c:=by simp [byt]
theorem Z82 {s:List UInt8} {c:UInt8}:S E F.H5 [.str s,.str [c]] []=some (.int .i64 (K4 s c),[]):=by
  have hx:S E F.R3 [.str s,.int .u8 c.toNat] []=some (.int .i64 (K4 s c),[]):=by
    have h:=Zau ext0 (Zqy (l:=s) (c:=c.toNat))
    rw [byt_u8] at h
    exact h
  have h1:S E F.I7 [.str s,.int .u8 c.toNat] []=some (.int .i64 (K4 s c),[]):=by
    rw [N6 Zfe rfl rfl]
    simp -dsimp (disch:=first|omega|(simp only [A8]<;>omega)|fail) only [L.I7,go_sem,reduceIte,reduceCtorEq,D1,D2,D3,D4,D5,D6,D7,D8,D9,E2,E3,E4,E5,E6,E7,E8,E9,F0,F1,A5,hx]
  have b0:bat [c] 0=c.toNat:=rfl
  rw [N6 Zm4 rfl rfl]
  cases hs:(([c]:List UInt8)==s) with
  | true =>
    have:=eq_of_beq hs
    subst this
    have hi:K4 [c] c=0:=by simp [K4]
    rw [hi]
    simp -dsimp (disch:=first|omega|(simp only [A8]<;>omega)|fail) only [L.H5,go_sem,reduceIte,reduceCtorEq,D1,D2,D3,D4,D5,D6,D7,D8,D9,E2,E3,E4,E5,E6,E7,E8,E9,F0,F1,A5,hs,h1,b0]
  | false =>
    simp -dsimp (disch:=first|omega|(simp only [A8]<;>omega)|fail) only [L.H5,go_sem,reduceIte,reduceCtorEq,D1,D2,D3,D4,D5,D6,D7,D8,D9,E2,E3,E4,E5,E6,E7,E8,E9,F0,F1,A5,hs,h1,b0]
theorem sl_cut {s:List UInt8} {c:UInt8} (hs:s.length≤1000000000000):S E F.M8 [.str s,.str [c]] []=some (if c∈s then .tup [.str (s.take (s.idxOf c)),.str (s.drop (s.idxOf c+1)),.bool true] else .tup [.str s,.str [],.bool false],[]):=by
  have h:=Z82 (s:=s) (c:=c)
  rw [N6 Zms rfl rfl]
  by_cases hc:c∈s
  · rw [Zxo hc] at h
    have hi:=Yf0 hc
    rw [if_pos hc]
    have e1:((s.idxOf c:Int)+((1:Nat):Int)).toNat=s.idxOf c+1:=by omega
    have e2:sub s 0 (s.idxOf c)=s.take (s.idxOf c):=by simp [sub]
    have e3:sub s (s.idxOf c+1) (s.length-(s.idxOf c+1))=s.drop (s.idxOf c+1):=B5 (by omega)
    simp -dsimp (disch:=first|omega|(simp only [A8]<;>omega)|fail) only [L.M8,go_sem,reduceIte,reduceCtorEq,D1,D2,D3,D4,D5,D6,D7,D8,D9,E2,E3,E4,E5,E6,E7,E8,E9,F0,F1,A5,h,e1,e2,e3,Nat.sub_zero]
  · rw [Zxp hc] at h
    rw [if_neg hc]
    simp -dsimp (disch:=first|omega|(simp only [A8]<;>omega)|fail) only [L.M8,go_sem,reduceIte,reduceCtorEq,D1,D2,D3,D4,D5,D6,D7,D8,D9,E2,E3,E4,E5,E6,E7,E8,E9,F0,F1,A5,h]
theorem Yda {s:List UInt8} {c:UInt8} (hs:s.length≤1000000000000):S E F.N5 [.str s,.str [c]] []=some (if c∈s then .tup [.str (s.take (s.idxOf c)),.str (s.drop (s.idxOf c+1)),.bool true] else .tup [.str s,.str [],.bool false],[]):=by
  have h:=sl_cut (c:=c) hs
  rw [N6 Zl8 rfl rfl]
  by_cases hc:c∈s
  · rw [if_pos hc] at h ⊢
    simp -dsimp (disch:=first|omega|(simp only [A8]<;>omega)|fail) only [L.N5,go_sem,reduceIte,reduceCtorEq,D1,D2,D3,D4,D5,D6,D7,D8,D9,E2,E3,E4,E5,E6,E7,E8,E9,F0,F1,A5,h]
  · rw [if_neg hc] at h ⊢
    simp -dsimp (disch:=first|omega|(simp only [A8]<;>omega)|fail) only [L.N5,go_sem,reduceIte,reduceCtorEq,D1,D2,D3,D4,D5,D6,D7,D8,D9,E2,E3,E4,E5,E6,E7,E8,E9,F0,F1,A5,h]
theorem Z17 {l:List UInt8} {n:Nat} {c:Int} (h:n=l.length):S E F.L5 [.lst (A1 l) n,.int .u8 c] []=some (.int .i64 (K4 l (byt c)),[]):=by
  rw [N6 Zm3 rfl rfl]
  simp -dsimp (disch:=first|omega|(simp only [A8]<;>omega)|fail) only [L.L5,go_sem,reduceIte,reduceCtorEq,D1,D2,D3,D4,D5,D6,D7,D8,D9,E2,E3,E4,E5,E6,E7,E8,E9,F0,F1,A5,Zqx h]
theorem Zv0 {l:List UInt8} {n:Nat} (hn:n=l.length) (hl:l.length≤1000000000000):S E F.G9 [.lst (A1 l) n,.lst [.int .u8 0] 1] []=some (.int .i64 (K4 l 0),[]):=by
  have h:=Z17 (l:=l) (n:=n) (c:=0) hn
  rw [show byt 0=0 from rfl] at h
  rw [N6 Zmr rfl rfl]
  simp -dsimp (disch:=first|omega|(simp only [A8]<;>omega)|fail) only [L.G9,go_sem,reduceIte,reduceCtorEq,D1,D2,D3,D4,D5,D6,D7,D8,D9,E2,E3,E4,E5,E6,E7,E8,E9,F0,F1,A5,BYs,h]
theorem Ydb {l:List UInt8} {n:Nat} (hn:n=l.length) (hl:l.length≤1000000000000):S E F.U1 [.lst (A1 l) n,.lst [.int .u8 0] 1] [] =
    some (if (0:UInt8)∈l then (.tup [.lst (A1 (l.take (l.idxOf 0))) (l.idxOf 0),.lst (A1 (l.drop (l.idxOf 0+1))) (n-(l.idxOf 0+1)),.bool true],[]) else (.tup [.lst (A1 l) n,.buf (.r 0) 0 0 0 1,.bool false],[(.r 0,⟨0,true,true,false,[]⟩)])):=by
  have h:=Zv0 hn hl
  subst hn
  rw [N6 Zl7 rfl rfl]
  by_cases hc:(0:UInt8)∈l
  · rw [Zxo hc] at h
    have hi:=Yf0 hc
    rw [if_pos hc]
    have e1:((l.idxOf (0:UInt8):Int)+((1:Nat):Int)).toNat=l.idxOf (0:UInt8)+1:=by omega
    have e2:sub l 0 (l.idxOf (0:UInt8))=l.take (l.idxOf (0:UInt8)):=by simp [sub]
    have e3:sub l (l.idxOf (0:UInt8)+1) (l.length-(l.idxOf (0:UInt8)+1))=l.drop (l.idxOf (0:UInt8)+1):=B5 (by omega)
    simp -dsimp (disch:=first|omega|(simp only [A8]<;>omega)|fail) only [L.U1,go_sem,reduceIte,reduceCtorEq,D1,D2,D3,D4,D5,D6,D7,D8,D9,E2,E3,E4,E5,E6,E7,E8,E9,F0,F1,A5,BYs,h,e1,e2,e3,Nat.sub_zero]
  · rw [Zxp hc] at h
    rw [if_neg hc]
    simp -dsimp (disch:=first|omega|(simp only [A8]<;>omega)|fail) only [L.U1,go_sem,reduceIte,reduceCtorEq,D1,D2,D3,D4,D5,D6,D7,D8,D9,E2,E3,E4,E5,E6,E7,E8,E9,F0,F1,A5,BYs,h]
end Cod
namespace Cod
open Go Go.RowKit Go.Proofs Go.Shelf
set_option maxRecDepth 1000000
set_option maxHeartbeats 6400000 in
theorem Z83 {l:List Ety} (hl:Zdo l) {p:Option Addr} {b0 o0 cap:Nat} {w:World} (hW:Zcv w) (hv:VR (ctx [] LaE w) (.lst (J3 l) l.length) (.slice p l.length cap)) (hp:0<l.length→p=some ⟨b0,o0,none⟩) (hrow:∀ k,k<l.length→w.rangeAt b0 (o0+k*34) (Zb7 (eat l k))) (hb0:0<l.length→b0<w.heap.size) :
    Calls Tryz.prog 11 #[.slice p l.length cap] w fun e w'=>Below w.heap.size w w'∧((V7 l≠0∧e=.returned (.tuple #[.slice none 0 0,.int .i64 (V7 l)]))∨(V7 l=0∧∃ v,e=.returned (.tuple #[v,.int .i64 0])∧w'.ownsRow w.heap.size 5 1 v (D0 l).length ((D0 l).map fun b=>Value.int .u8 b.toNat))):=by
  have hi39:(Tryz.prog.info? 58).map (·.size)=some 34:=by kernel_rfl
  by_cases he:V7 l=0
  · go_enter Tryz.func11,Tryz.ntmps11
    go_wp2_with (go_at_call 41;refine (Zkj hl hW hv).mono ?_;rw [he];rintro e W1 ⟨rfl,hb1⟩)
    go_loopw [15] (fun i wr=>∃ k:Nat,i=.int .i64 k∧k≤l.length∧Lib.IsBuffer 83 5 W1.heap.size W1.heap.size (Lib.byteCells (D0 (l.take k))) wr∧Below W1.heap.size W1 wr) (fun i _=>l.length-(intOf i).toNat)
    case atStart =>
      exact ⟨0,rfl,Nat.zero_le _,⟨Ydt _,.slice none 0 0,0,heap_alloc_new W1 _,World.ownsRow_nil _ _ _ _,by simp [Value.ownBlock]⟩,(Below.refl _ W1).alloc (Ydt _) _⟩
    case round =>
      obtain ⟨k,rfl,hk,hI,hbw⟩:=hrel
      have hbel:Below w.heap.size w wr:=hb1.trans ⟨hbw.os,hbw.tape,hbw.output,hbw.size,fun j hj=>hbw.block j (Ydv hj hb1.size)⟩
      by_cases hlt:k<l.length
      · obtain rfl:=hp (by omega)
        have hb0:=hb0 (by omega)
        have hrange:wr.rangeAt b0 (o0+k*34) (Zb7 (eat l k)):=fun j v hj=>(hbel.cell (p:=⟨b0,o0+k*34+j,none⟩) hb0).trans (hrow k hlt j v hj)
        go_upto_region 8 with (first|(refine wpList_load_mid rfl 58 _ rfl b0 (o0+k*34) (by first|rfl|simp [Addr.add_mid]) (Zb7 (eat l k)) _ hrange Tryz.underlying58 rfl (by rw [Za9];exact hi39) ?_)|(refine wpList_store_mid rfl 58 _ _ rfl wr.heap.size 0 (Zb7 (eat l k)).toArray (by rfl) (by rfl) ?_ ?_ (Z79 _) ?_))
        · intro j hj
          first|rw [Yd2,Za9] at hj|rw [Za9] at hj
          refine ⟨?_,?_⟩
          · simp only [World.cell?,heap_alloc_new]
            rw [if_neg (by simp),Yen,Array.getElem?_eq_getElem (by simpa using hj)];rfl
          · simp only [World.frozen?,heap_alloc_new]
            simp
        · first|(rw [Yd2,Za9];exact hi39)|rw [Za9]
        · refine Z8b (p:=Code.wp _ _ _ _) (T:=58) (vals:=Zb7 (eat l k)) (by rw [Za9];rfl) ?_
          intro W3 hva
          have hn1:wr.heap.size<W3.heap.size:=by rw [hva.size];omega
          have c0:W3.cell? ⟨wr.heap.size,0,none⟩=some (.int .i64 (eat l k).mode):=hva.cell 0 _ rfl
          have c1:W3.cell? ⟨wr.heap.size,1,none⟩=some (.string ⟨(eat l k).name.toArray⟩):=hva.cell 1 _ rfl
          have hI3:=hI.old hva.below
          have hb3:Below w.heap.size w W3:=hbel.trans ⟨hva.below.os,hva.below.tape,hva.below.output,hva.below.size,fun j hj=>hva.below.block j (Ydv hj hbel.size)⟩
          have hS3:Zcv W3:=hW.below hb3
          have hm:=hl.2.1 k
          have hF:Calls Tryz.prog 43 #[.int .i64 (eat l k).mode,.int .i64 8] W3.drew fun e W4=>e=.returned (.string ⟨(K7 (eat l k).mode).toArray⟩)∧W4.cell? ⟨wr.heap.size,1,none⟩=some (.string ⟨(eat l k).name.toArray⟩)∧Below wr.heap.size wr W4∧W3.heap.size≤W4.heap.size∧(∀ j,j<W3.heap.size→W4.heap[j]? = W3.heap[j]?):=by
            have hSd:Zcv W3.drew:=hS3.below ⟨rfl,rfl,rfl,Ydt _,fun _ _=>rfl⟩
            refine (Z1o hm.1 hm.2 hSd).mono ?_
            rintro e W4 ⟨rfl,hb4x⟩
            have hb4:Below W3.heap.size W3 W4:=⟨hb4x.os,hb4x.tape,hb4x.output,hb4x.size,hb4x.block⟩
            exact ⟨rfl,(hb4.cell (p:=⟨wr.heap.size,1,none⟩) hn1).trans c1,hva.below.trans ⟨hb4.os,hb4.tape,hb4.output,hb4.size,fun j hj=>hb4.block j (by omega)⟩,hb4.size,hb4.block⟩
          have hts:=Zap he
          have htk:=Zvo l k
          have hol:=Zdk (eat l k).mode
          have hnl:=hl.1 k
          obtain ⟨T1,hT1⟩:∃ T1:ByteArray,T1=⟨(K7 (eat l k).mode).toArray⟩:=⟨_,rfl⟩
          obtain ⟨T2,hT2⟩:∃ T2:ByteArray,T2=⟨(eat l k).name.toArray⟩:=⟨_,rfl⟩
          have z1:T1.size≤23:=by rw [hT1];simpa [ByteArray.size] using hol
          have z2:T2.size≤1000000000:=by rw [hT2];simpa [ByteArray.size] using hnl
          rw [←hT1,←hT2] at hF
          rw [←hT2] at c1
          have d1:T1.data.toList=K7 (eat l k).mode:=by rw [hT1]
          have d2:T2.data.toList=(eat l k).name:=by rw [hT2]
          clear hT1 hT2
          have g1:¬ 9223372036854775807<T1.size+1:=by omega
          have g2:¬ 9223372036854775807<T1.size+1+T2.size:=by omega
          have g3:¬ 9223372036854775807<T1.size+1+T2.size+1:=by omega
          have g4:¬ 9223372036854775807≤T1.size:=by omega
          have g5:¬ 9223372036854775807≤T1.size+1+T2.size:=by omega
          go_region_with (first|(go_at_call 43;refine hF.mono ?_;rintro e W4 ⟨rfl,c1',hb4,hz4,hk4⟩;have hI4:=hI.old hb4)|(go_at_call 42;refine Calls.mono (Tryz.Buffer_WriteString_kept W1.heap.size W1.heap.size _ _ W4 hI4 (by have:=hbw.size;have:=hb4.size;omega) (Zgi _) (by rw [Lib.byteCells_length];simp only [ByteArray.size_append];have e1:(⟨#[32]⟩:ByteArray).size=1:=rfl;have e2:(⟨#[0]⟩:ByteArray).size=1:=rfl;omega)) ?_;rintro e W5 ⟨rfl,hI5,hb5,hk5⟩))
          all_goals have hsrc:=src_id hva (by decide) hI.lt hk4 hk5
          all_goals go_wp2_with (go_at_call 44;refine Calls.mono (Tryz.Buffer_Write_any W1.heap.size W1.heap.size _ (Lib.byteCells (eat l k).id) ⟨wr.heap.size,2,none⟩ 32 32 W5 hI5 (by have:=hbw.size;have:=hb4.size;have:=hb5.size;omega) (by rw [Zgj];exact Zgi _) (by rw [Lib.byteCells_length];exact (eat l k).hid) (by have:=hI.lt;show wr.heap.size≠W1.heap.size;omega) hsrc (Zgi _) (by rw [Yek,Lib.byteCells_length,Lib.byteCells_length,Zrl d1 d2];simp only [Yek,Yd9,Ye6];omega)) ?_;rintro e W6 ⟨rfl,hI6,hb6,hk6⟩)
          all_goals rw [Z8c hlt d1 d2] at hI6
          all_goals go_roundw
          all_goals first
            | exact ⟨k+1,by rw [Zg3 (by have:=hl.2.2;omega)],by omega,hI6,hbw.trans ((Zvq hb4 hbw.size).trans (hb5.trans hb6))⟩
            | (rw [Zg3 (by have:=hl.2.2;omega)];simp only [intOf];omega)
      · obtain rfl:k=l.length:=by omega
        rw [List.take_length] at hI
        go_wp2_with (go_at_call 45;refine (Tryz.Buffer_Bytes W1.heap.size W1.heap.size _ wr hI).mono ?_;rintro e W2 ⟨v,rfl,hown,n,rfl⟩)
        go_ret2
        refine ⟨hbel.trans ⟨rfl,rfl,rfl,Ydt _,fun _ _=>rfl⟩,.inr ⟨he,v,rfl,?_⟩⟩
        have e1:Lib.byteCells (D0 l)=(D0 l).map fun b=>Value.int .u8 b.toNat:=rfl
        rw [e1,List.length_map] at hown
        exact Z1s hown hb1.size
  · go_enter Tryz.func11,Tryz.ntmps11
    go_wp2_with (go_at_call 41;refine (Zkj hl hW hv).mono ?_;rintro e W1 ⟨rfl,hb1⟩)
    go_ret2
    exact ⟨hb1,.inl ⟨he,rfl⟩⟩
end Cod
namespace Cod
open Go
theorem Z18:∀ {a b:List UInt8},A1 a=A1 b→a=b:=by
  intro a
  induction a with
  | nil=>intro b h;cases b with
    | nil=>rfl
    | cons=>simp [A1] at h
  | cons x a ih =>
    intro b h
    cases b with
    | nil=>simp [A1] at h
    | cons y b =>
      simp only [A1,List.map_cons,List.cons.injEq,AV.int.injEq,true_and] at h
      have h1:x=y:=UInt8.toNat_inj.1 (by have:=h.1;omega)
      rw [h1,ih (by simpa [A1] using h.2)]
end Cod
namespace Cod
open Go Go.RowKit Go.Proofs Go.Shelf
set_option maxRecDepth 100000
def Zg6 (l:List Ety):AV × A3:=if V7 l=0 then (.tup [.buf (.r 0) 0 0 (D0 l).length 1,.int .i64 0],[(.r 0,⟨0,true,true,false,A1 (D0 l)⟩)]) else (.tup [.nils,.int .i64 (V7 l)],[])
open Classical in
noncomputable def Zkq (args:List AV) (σ:A3):Option (AV × A3) :=
  if h:∃ l,args=[.lst (J3 l) l.length] ∧ σ=[]∧Zdo l then some (Zg6 (choose h)) else none
theorem Ydc {a b:Ety} (h:a.cells=b.cells):a=b:=by
  unfold Ety.cells at h
  simp only [List.cons.injEq,AV.int.injEq,AV.str.injEq,true_and] at h
  obtain ⟨h1,h2,h30⟩:=h
  have h3:=Z18 h30
  clear h30
  cases a;cases b
  simp only at h1 h2 h3
  subst h1 h2 h3
  rfl
theorem Z84:∀ {a b:List Ety},J3 a=J3 b→a=b:=by
  intro a
  induction a with
  | nil =>
    intro b h
    have:=congrArg List.length h
    rw [A2,A2] at this
    cases b with
    | nil=>rfl
    | cons=>simp at this
  | cons x a ih =>
    intro b h
    cases b with
    | nil=>have:=congrArg List.length h;rw [A2,A2] at this;simp at this
    | cons y b =>
      have h':x.cells++J3 a=y.cells++J3 b:=h
      obtain ⟨h1,h2⟩:=List.append_inj h' (by rw [Zae,Zae])
      rw [Ydc h1,ih h2]
theorem Z85 {l:List Ety} (h:Zdo l):Zkq [.lst (J3 l) l.length] []=some (Zg6 l):=by
  have hx:∃ l',[AV.lst (J3 l) l.length]=[.lst (J3 l') l'.length]∧([]:A3)=[]∧Zdo l':=⟨l,rfl,rfl,h⟩
  unfold Zkq
  rw [dif_pos hx]
  have key:∀ l',[AV.lst (J3 l) l.length]=[.lst (J3 l') l'.length]→l'=l:=by
    intro l' hc
    injection hc with hc1 _
    injection hc1 with h1 h2
    exact (Z84 h1).symm
  rw [key _ (Classical.choose_spec hx).1]
theorem Z19 {c':Lay} {w:World} {cs:List AV} {n:Nat} {v:Value} (h:VR (ctx [] c' w) (.lst cs n) v):VR (ctx [] LaE w) (.lst cs n) v:=by
  refine V8 ?_ _ _ h
  refine ⟨fun s g0 al h=>by simp [ctx,Zoy,A6] at h,fun b _ h=>?_,fun b _ _=>rfl,fun _ _ h=>h,Ydt _⟩
  rcases h with ⟨s,e,o,he,_⟩|h
  · simp [A6] at he
  · exact h.elim
theorem Ydd {E:Env} (hE:E.glob=R9):Zd7 Tryz.prog E F.O8 Zkq:=by
  intro args σa v σr hk La w vs hr hv hup
  unfold Zkq at hk
  split at hk
  · rename_i hx
    obtain ⟨q1,q2,q3⟩:=Classical.choose_spec hx
    generalize Classical.choose hx=l at *
    subst q1 q2
    simp only [Option.some.injEq] at hk
    simp only [VRL] at hv
    obtain ⟨x,r,rfl,hx,rfl⟩:=hv
    have hS:=Z7h hE hr
    have hx':=Z19 hx
    have hcase:∃ p b0 o0 cap,x=.slice p l.length cap∧(0<l.length→p=some ⟨b0,o0,none⟩)∧(0<l.length→b0<w.heap.size)∧∀ k,k<l.length→w.rangeAt b0 (o0+k*34) (Zb7 (eat l k)):=by
      have h2:=hx'
      simp only [VR] at h2
      obtain ⟨_,h2⟩:=h2
      rcases h2 with ⟨h3,h4,h5⟩|⟨b,o,cap,h3,_,h4,_,h5⟩
      · exact ⟨none,0,0,0,by rw [h5,h4],fun h=>by omega,fun h=>by omega,fun k hk=>by omega⟩
      · refine ⟨_,b,o,cap,h3,fun _=>rfl,fun _=>h4,fun k hk=>?_⟩
        have:=Zbn h5 (k*34) 34
        rw [Zra hk] at this
        exact Z1q this
    obtain ⟨p,b0,o0,cap,rfl,hp,hb0,hrow⟩:=hcase
    refine W7 Tryz.func11 (by rfl) (by kernel_rfl) ((Z83 q3 hS hx' hp hrow hb0).mono fun e w' ⟨hb,hw⟩=>?_)
    unfold Zg6 at hk
    rcases hw with ⟨he,rfl⟩|⟨he,v',rfl,hown⟩
    · rw [if_neg he] at hk
      cases hk
      exact ⟨_,rfl,La,Zgc hr hb,by simp [VR,VRL]⟩
    · rw [if_pos he] at hk
      cases hk
      have e1:((D0 l).map fun b=>Value.int .u8 b.toNat)=((D0 l).map fun b=>((b.toNat:Nat):Int)).map (Value.int .u8):=by rw [List.map_map];rfl
      rw [e1] at hown
      obtain ⟨La',h1,h2⟩:=Zw7 hr hb hown
      have e2:((D0 l).map fun b=>((b.toNat:Nat):Int)).map (AV.int .u8 ·)=A1 (D0 l):=by unfold A1;rw [List.map_map];rfl
      rw [e2] at h1 h2
      refine ⟨_,rfl,La',h1,?_⟩
      simp only [VR,VRL]
      exact ⟨_,rfl,_,_,rfl,h2,_,_,rfl,rfl,rfl⟩
  · cases hk
theorem Z86 {E:Env} {fn:Nat→Option LFn} {tab:List (Nat × (List AV→A3→Option (AV × A3)))} {glob:Nat→List AV} {f:Nat} {h:List AV→A3→Option (AV × A3)} (hx:Ext E ⟨fn,fun g=>tab.lookup g,glob⟩) (h1:E.known f=none) (h2:E.fn f=none):Ext E ⟨fn,fun g=>((f,h)::tab).lookup g,glob⟩ where
  glob:=hx.glob
  fn:=hx.fn
  known g h' hk:=by
    show ((f,h)::tab).lookup g=some h'
    rw [Ygs]
    cases hb:g==f with
    | false=>exact hx.known g h' hk
    | true =>
      rw [beq_iff_eq] at hb
      rw [hb,h1] at hk
      cases hk
  none g hk:=by
    by_cases hb:g=f
    · right;rw [hb];exact h2
    · rcases hx.none g hk with hn|hn
      · left
        show ((f,h)::tab).lookup g=none
        rw [Ygs,beq_eq_false_iff_ne.2 hb]
        exact hn
      · exact .inr hn
noncomputable def Zgm:List (Nat × (List AV→A3→Option (AV × A3))):=(F.O8,Zkq)::Zb3
noncomputable def EE:Env:=⟨H6,fun f=>Zgm.lookup f,R9⟩
theorem Yde:Zgy Tryz.prog EE:=Zid (by kernel_rfl) Zuz (fun _=>rfl)
theorem Z2a:Zce Tryz.prog EE:=by
  intro f h hf
  have hm:=Zdh (show Zgm.lookup f=some h from hf)
  unfold Zgm at hm
  rcases List.mem_cons.1 hm with hm|hm
  · cases hm;exact Ydd rfl
  · exact Zw9 (E:=EE) rfl (f,h) hm
theorem Z87:Ext E ⟨H6,fun g=>Zb3.lookup g,R9⟩:=⟨rfl,rfl,fun _ _ hk=>hk,fun _ hk=>.inl hk⟩
theorem Zfv:Ext E EE:=Z86 Z87 rfl rfl
theorem Z88 {f:Nat} {l:LFn} (hf:H6 f=some l) (hk:EE.known f=none) {args:List AV} {σ:A3} (hn:args.length=l.np):S EE f args σ=X EE l.results [.c l.code] ⟨params 0 args,σ⟩:=S_fn hk hf hn
theorem Zv1 {l:List Ety} (h:Zdo l):S EE F.O8 [.lst (J3 l) l.length] []=some (Zg6 l):=by
  rw [S_eq,show EE.known F.O8=some Zkq from rfl]
  exact Z85 h
end Cod
namespace Cod
open Go
theorem Zn6:∀ (n:Nat) (x y:List UInt8) (ks:List Nat) (xs ys:List AV),x.length=n→y.length=n→G5 (List.replicate n 0++ks) (A1 x++xs) (A1 y++ys)=(G5 ks xs ys).map (x==y && ·):=by
  intro n
  induction n with
  | zero =>
    intro x y ks xs ys hx hy
    obtain rfl:=Yeh hx
    obtain rfl:=Yeh hy
    simp [A1]
  | succ n ih =>
    intro x y ks xs ys hx hy
    cases x with
    | nil=>simp at hx
    | cons a x =>
      cases y with
      | nil=>simp at hy
      | cons b y =>
        have h1:=ih x y ks xs ys (by simpa using hx) (by simpa using hy)
        have e1:A1 (a::x)=.int .u8 a.toNat::A1 x:=rfl
        have e2:A1 (b::y)=.int .u8 b.toNat::A1 y:=rfl
        rw [e1,e2,List.replicate_succ,Ydw,Ydw,Ydw]
        simp only [G5,if_true,h1,Option.map_map]
        congr 1
        funext z
        have:((a.toNat:Int)==b.toNat)=(a==b):=by
          by_cases h:a=b
          · subst h;simp
          · have h2:¬ ((a.toNat:Int)=b.toNat):=fun e=>h (UInt8.toNat_inj.1 (by omega))
            rw [beq_eq_false_iff_ne.2 h,beq_eq_false_iff_ne.2 h2]
        simp only [Function.comp,this,List.cons_beq_cons,Bool.and_assoc]
theorem Zi1 {x y:List UInt8} (hx:x.length=32) (hy:y.length=32):G5 [0,0,0,0,0,0,0,0,0,0,0,0,0,0,0,0,0,0,0,0,0,0,0,0,0,0,0,0,0,0,0,0] (A1 x) (A1 y)=some (x==y):=by
  have h:=Zn6 32 x y [] [] [] hx hy
  rw [Ygt,Ygt,Ygt] at h
  rw [show [0,0,0,0,0,0,0,0,0,0,0,0,0,0,0,0,0,0,0,0,0,0,0,0,0,0,0,0,0,0,0,0]=List.replicate 32 0 from rfl,h]
  simp [G5]
end Cod
namespace Cod
open Go
def wE:Ety:=⟨33188,[97],List.replicate 32 0,by simp⟩
theorem Zhp:D0 [wE]=[49,48,48,54,52,52,32,97,0]++List.replicate 32 0:=by decide +kernel
theorem wE_ent:V7 [wE]=0:=by decide +kernel
theorem wE_ok:Zdo [wE]:=by
  refine ⟨fun i=>?_,fun i=>?_,by decide⟩
  · cases i with
    | zero=>decide
    | succ i=>show (default:Ety).name.length≤_;decide
  · cases i with
    | zero=>decide
    | succ i=>show _≤(default:Ety).mode∧(default:Ety).mode≤_;decide
theorem Ydf:S EE F.O8 [.lst (.int .i64 33188::.str [97]::A1 (List.replicate 32 0)) 1] []=some (.tup [.buf (.r 0) 0 0 41 1,.int .i64 0],[(.r 0,⟨0,true,true,false,A1 (D0 [wE])⟩)]):=by
  have h:=Zv1 wE_ok
  have e:Zg6 [wE]=(.tup [.buf (.r 0) 0 0 41 1,.int .i64 0],[(.r 0,⟨0,true,true,false,A1 (D0 [wE])⟩)]):=by
    unfold Zg6;rw [if_pos wE_ent,Zhp];rfl
  rw [e] at h
  exact h
theorem hdr_w:Zn4 3 3=[98,108,111,98,32,51,0]:=by
  unfold Zn4
  rw [show (3:Int)=((3:Nat):Int) from rfl,Lib.itoa_nonneg,Lib.decDigits_one (by omega)];rfl
theorem obj_w:Zi7 3 3=0:=by decide +kernel
theorem go_idW:S EE F.Q6 [.agg [.int .i64 3,.lst (A1 [97,98,99]) 3]] []=some (.tup [.agg (A1 (Zhf [98,108,111,98,32,51,0,97,98,99])),.int .i64 0],[]):=by
  have h:=Zau Zfv (go_oid (k:=3) (p:=[97,98,99]) (n:=3) rfl (by simp))
  unfold idV idF at h
  simp only [Yd9,Ye6,Yen,Nat.reduceAdd] at h
  rw [obj_w,if_pos rfl] at h
  rw [show (((3:Nat)):Int)=3 from rfl,hdr_w] at h
  exact h
theorem V1:S EE F.Q8 [] []=some (.bool true,[]):=by
  have h1:S EE F.Q6 [.agg [.int .i64 3,.lst [.int .u8 97,.int .u8 98,.int .u8 99] 3]] []=some (.tup [.agg (A1 (Zhf [98,108,111,98,32,51,0,97,98,99])),.int .i64 0],[]):=go_idW
  have h2:=Ydf
  have h3:S EE F.F2 [.lst [.int .u8 98,.int .u8 108,.int .u8 111,.int .u8 98,.int .u8 32,.int .u8 51,.int .u8 0,.int .u8 97,.int .u8 98,.int .u8 99] 10] []=some (.agg (A1 (Zhf [98,108,111,98,32,51,0,97,98,99])),[]):=Zau Zfv (Z8n (p:=[98,108,111,98,32,51,0,97,98,99]) (by simp))
  have hs:(Zhf [98,108,111,98,32,51,0,97,98,99]).length=32:=by unfold Zhf;simp [Zrr]
  generalize Zhf [98,108,111,98,32,51,0,97,98,99]=d at *
  have ht:(D0 [wE]).length=41:=by rw [Zhp];rfl
  have h9:sub (D0 [wE]) 0 9=[49,48,48,54,52,52,32,97,0]:=by rw [Zhp];rfl
  have h9':(D0 [wE]).take 9=[49,48,48,54,52,52,32,97,0]:=by rw [Zhp];rfl
  generalize D0 [wE]=tr at *
  have s3:sub [AV.int .u8 97,AV.int .u8 98,AV.int .u8 99] 0 3=[.int .u8 97,.int .u8 98,.int .u8 99]:=rfl
  have s10:sub [AV.int .u8 98,AV.int .u8 108,AV.int .u8 111,AV.int .u8 98,AV.int .u8 32,AV.int .u8 51,AV.int .u8 0,AV.int .u8 97,AV.int .u8 98,AV.int .u8 99] 0 10=[.int .u8 98,.int .u8 108,.int .u8 111,.int .u8 98,.int .u8 32,.int .u8 51,.int .u8 0,.int .u8 97,.int .u8 98,.int .u8 99]:=rfl
  have s34:sub (AV.int .i64 33188::AV.str [97]::A1 (List.replicate 32 0)) 0 34=AV.int .i64 33188::AV.str [97]::A1 (List.replicate 32 0):=rfl
  have o1:over (default:Ety).cells 0 [AV.int .i64 33188]=AV.int .i64 33188::AV.str []::A1 (List.replicate 32 0):=rfl
  have o2:over (AV.int .i64 33188::AV.str []::A1 (List.replicate 32 0)) 1 [AV.str [97]]=AV.int .i64 33188::AV.str [97]::A1 (List.replicate 32 0):=rfl
  have l34:(AV.int .i64 33188::AV.str [97]::A1 (List.replicate 32 0)).length=34:=rfl
  have o3:over (default:Ety).cells 0 (AV.int .i64 33188::AV.str [97]::A1 (List.replicate 32 0))=AV.int .i64 33188::AV.str [97]::A1 (List.replicate 32 0):=rfl
  have o4:over (A1 (List.replicate 32 0)) 0 (A1 d)=A1 d:=Zco (by rw [hs];rfl)
  have q4:G5 [0,0,0,0,0,0,0,0,0,0,0,0,0,0,0,0,0,0,0,0,0,0,0,0,0,0,0,0,0,0,0,0] (A1 d) (A1 d)=some true:=by rw [Zi1 hs hs];simp
  rw [Z88 Zlu rfl rfl]
  simp -dsimp (disch:=first|omega|(simp only [A8,A2,A0,treeB_length]<;>omega)|fail) only [L.Q8,go_sem,reduceIte,reduceCtorEq,D1,D2,D3,D4,D5,D6,D7,D8,D9,E2,E3,E4,E5,E6,E7,E8,E9,F0,F1,A5,BYs,h1,h2,h3,ht,h9,h9',List.isEmpty_cons,List.length_replicate,s3,s10,s34,o1,o2,o3,l34,o4,q4]
end Cod
namespace Cod
open Go
theorem Zxq (s:List UInt8) (hs:s.length≤1000000000000):∃ a b ok,S E F.N5 [.str s,.str [32]] []=some (.tup [.str a,.str b,.bool ok],[])∧a.length≤s.length∧b.length≤s.length ∧
    ((ok=true∧32∈s∧a=s.take (s.idxOf 32)∧b=s.drop (s.idxOf 32+1))∨(ok=false∧32∉s)):=by
  have h:=Yda (c:=32) hs
  by_cases hc:(32:UInt8)∈s
  · rw [if_pos hc] at h
    exact ⟨_,_,_,h,by rw [Yd0];omega,by rw [Yd1];omega,.inl ⟨rfl,hc,rfl,rfl⟩⟩
  · rw [if_neg hc] at h
    exact ⟨_,_,_,h,Ydt _,by simp,.inr ⟨rfl,hc⟩⟩
def Zn7 (rest:List UInt8):Option (Ety × List UInt8) :=
  if 0∈rest∧32∈rest.take (rest.idxOf 0)∧(pi8 ((rest.take (rest.idxOf 0)).take ((rest.take (rest.idxOf 0)).idxOf 32))).2=0∧32≤(rest.drop (rest.idxOf 0+1)).length then
    some (mkT (pi8 ((rest.take (rest.idxOf 0)).take ((rest.take (rest.idxOf 0)).idxOf 32))).1 ((rest.take (rest.idxOf 0)).drop ((rest.take (rest.idxOf 0)).idxOf 32+1)) ((rest.drop (rest.idxOf 0+1)).take 32),(rest.drop (rest.idxOf 0+1)).drop 32)
  else none
def ptL:Nat→List UInt8→List Ety→Option (List Ety)
  | 0,rest,acc=>if rest=[] then some acc else none
  | m+1,rest,acc=>if rest=[] then some acc else match Zn7 rest with|none=>none|some (e,r)=>if acc.length=4096 then none else ptL m r (acc++[e])
theorem bld1 (m:Int):over (default:Ety).cells 0 [AV.int .i64 m]=(Ety.mk m [] (List.replicate 32 0) (by simp)).cells:=rfl
theorem bld2 (m:Int) (n:List UInt8):over (Ety.mk m [] (List.replicate 32 0) (by simp)).cells 1 [AV.str n]=(Ety.mk m n (List.replicate 32 0) (by simp)).cells:=rfl
theorem bld3 (m:Int) (n d:List UInt8) (h:d.length=32):over (Ety.mk m n (List.replicate 32 0) (by simp)).cells 2 (A1 d)=(mkT m n d).cells:=by
  rw [Zko h]
  show over (AV.int .i64 m::AV.str n::A1 (List.replicate 32 0)) 2 (A1 d)=_
  rw [Zim,Zim,Zco (by rw [h];simp)]
def Z3:AV × A3:=(.tup [.buf (.r 0) 0 0 0 34,.int .i64 4],[(.r 0,⟨0,true,true,false,[]⟩)])
theorem Ydg {p:List UInt8} (k:List It) {rest:List UInt8} {acc:List Ety} (hr:rest.length≤1048576) (h0:rest≠[]) (ha:acc.length≤4096) :
    X EE [.tmp 2,.tmp 3] (.c L.C8.x0::.lp [0,4,5] L.C8.x0::.blk 0::k) ⟨[(0,.lst (A1 p) p.length),(4,.buf (.s 1000000 0) 0 0 (acc).length 34),(5,.lst (A1 rest) (rest).length)],[(.s 1000000 0,⟨0,true,true,false,J3 acc⟩)]⟩ =
    match Zn7 rest with
    | none=>some Z3
    | some (e,r)=>if acc.length=4096 then some Z3 else X EE [.tmp 2,.tmp 3] (.c L.C8.x0::.lp [0,4,5] L.C8.x0::.blk 0::k) ⟨[(0,.lst (A1 p) p.length),(4,.buf (.s 1000000 0) 0 0 ((acc++[e])).length 34),(5,.lst (A1 r) (r).length)],[(.s 1000000 0,⟨0,true,true,false,J3 (acc++[e])⟩)]⟩:=by
  have hpos:0<rest.length:=by cases rest with|nil=>exact absurd rfl h0|cons=>simp
  have hc:=Zau Zfv (Ydb (l:=rest) rfl (by omega))
  rw [H7 L.C8.x0.eq_1]
  unfold Zn7 Z3
  by_cases hz:(0:UInt8)∈rest
  · rw [if_pos hz] at hc
    have hi:=Yf0 hz
    have hth:(rest.take (rest.idxOf 0)).length=rest.idxOf 0:=by rw [Yd0];omega
    have htl:(rest.drop (rest.idxOf 0+1)).length=rest.length-(rest.idxOf 0+1):=Yd1
    generalize rest.take (rest.idxOf 0)=head at *
    generalize rest.drop (rest.idxOf 0+1)=tail at *
    obtain ⟨a,b,ok,hs,hal,hbl,hsp⟩:=Zxq head (by omega)
    have hs:=Zau Zfv hs
    rw [←htl,←hth] at hc
    have hp:=Zau Zfv (Z7c (s:=a) (by omega))
    unfold Zqv at hp
    rcases hsp with ⟨rfl,h32,rfl,rfl⟩|⟨rfl,h32⟩
    · generalize head.take (head.idxOf 32)=a at *
      generalize head.drop (head.idxOf 32+1)=b at *
      by_cases he:(pi8 a).2=0
      · rw [if_pos he] at hp
        by_cases h5:32≤tail.length
        · rw [if_pos ⟨hz,h32,he,h5⟩]
          generalize (pi8 a).1=v at *
          have g1:(tail.take 32).length=32:=by rw [Yd0];omega
          have g2:=bld3 v b (tail.take 32) g1
          have g3:sub tail 32 (tail.drop 32).length=tail.drop 32:=B5 (by rw [Yd1];omega)
          have g6:(acc++[mkT v b (tail.take 32)]).length=acc.length+1:=by simp
          have g4:sub tail 0 32=tail.take 32:=by simp [sub]
          have g5:tail.length-32=(tail.drop 32).length:=List.length_drop.symm
          by_cases h6:acc.length=4096
          · simp -dsimp (disch:=first|omega|(simp only [A8,A2,A0]<;>omega)|fail) only [go_sem,reduceIte,reduceCtorEq,D1,D2,D3,D4,D5,D6,D7,D8,D9,E2,E3,E4,E5,E6,E7,E8,E9,F0,F1,A5,BYs,hc,hs,hp,h6]
          · simp -dsimp (disch:=first|omega|(simp only [A8,A2,A0]<;>omega)|fail) only [go_sem,reduceIte,reduceCtorEq,D1,D2,D3,D4,D5,D6,D7,D8,D9,E2,E3,E4,E5,E6,E7,E8,E9,F0,F1,A5,BYs,hc,hs,hp,h6,g1,g2,g3,g4,g5,g6,bld1,bld2,Zkc]
        · rw [if_neg (fun x=>h5 x.2.2.2)]
          simp -dsimp (disch:=first|omega|(simp only [A8,A2,A0]<;>omega)|fail) only [go_sem,reduceIte,reduceCtorEq,D1,D2,D3,D4,D5,D6,D7,D8,D9,E2,E3,E4,E5,E6,E7,E8,E9,F0,F1,A5,BYs,hc,hs,hp,h5]
      · rw [if_neg he] at hp
        rw [if_neg (fun x=>he x.2.2.1)]
        simp -dsimp (disch:=first|omega|(simp only [A8,A2,A0]<;>omega)|fail) only [go_sem,reduceIte,reduceCtorEq,D1,D2,D3,D4,D5,D6,D7,D8,D9,E2,E3,E4,E5,E6,E7,E8,E9,F0,F1,A5,BYs,hc,hs,hp]
    · rw [if_neg (fun x=>h32 x.2.1)]
      by_cases he:(pi8 a).2=0
      · rw [if_pos he] at hp
        simp -dsimp (disch:=first|omega|(simp only [A8,A2,A0]<;>omega)|fail) only [go_sem,reduceIte,reduceCtorEq,D1,D2,D3,D4,D5,D6,D7,D8,D9,E2,E3,E4,E5,E6,E7,E8,E9,F0,F1,A5,BYs,hc,hs,hp]
      · rw [if_neg he] at hp
        simp -dsimp (disch:=first|omega|(simp only [A8,A2,A0]<;>omega)|fail) only [go_sem,reduceIte,reduceCtorEq,D1,D2,D3,D4,D5,D6,D7,D8,D9,E2,E3,E4,E5,E6,E7,E8,E9,F0,F1,A5,BYs,hc,hs,hp]
  · rw [if_neg hz] at hc
    obtain ⟨a,b,ok,hs,hal,hbl,hsp⟩:=Zxq rest (by omega)
    have hs:=Zau Zfv hs
    have hp:=Zau Zfv (Z7c (s:=a) (by omega))
    unfold Zqv at hp
    rw [if_neg (fun x=>hz x.1)]
    by_cases he:(pi8 a).2=0
    · rw [if_pos he] at hp
      simp -dsimp (disch:=first|omega|(simp only [A8,A2,A0]<;>omega)|fail) only [go_sem,reduceIte,reduceCtorEq,D1,D2,D3,D4,D5,D6,D7,D8,D9,E2,E3,E4,E5,E6,E7,E8,E9,F0,F1,A5,BYs,hc,hs,hp]
    · rw [if_neg he] at hp
      simp -dsimp (disch:=first|omega|(simp only [A8,A2,A0]<;>omega)|fail) only [go_sem,reduceIte,reduceCtorEq,D1,D2,D3,D4,D5,D6,D7,D8,D9,E2,E3,E4,E5,E6,E7,E8,E9,F0,F1,A5,BYs,hc,hs,hp]
theorem Zn8 (b:Bool) (x:Lib.NumEnd Nat) : -2147483648≤(pr8 b x).1∧(pr8 b x).1≤2147483647:=by
  cases x with
  | range=>cases b<;>exact ⟨by decide,by decide⟩
  | ok u =>
    cases b
    · by_cases h:2147483648≤u
      · rw [pr8,if_neg (by simp),if_pos h];exact ⟨by decide,by decide⟩
      · rw [pr8,if_neg (by simp),if_neg h];simp only;omega
    · by_cases h:2147483648<u
      · rw [pr8,if_pos rfl,if_pos h];exact ⟨by decide,by decide⟩
      · rw [pr8,if_pos rfl,if_neg h];simp only;omega
  | _=>exact ⟨by show (-2147483648:Int)≤0;omega,by show (0:Int)≤2147483647;omega⟩
theorem Zxr (l:List UInt8) : -2147483648≤(pi8 l).1∧(pi8 l).1≤2147483647:=by
  cases l with
  | nil=>exact ⟨by show (-2147483648:Int)≤0;omega,by show (0:Int)≤2147483647;omega⟩
  | cons c r =>
    by_cases h:c=43
    · rw [pi8,if_pos h];exact Zn8 _ _
    · by_cases h':c=45
      · rw [pi8,if_neg h,if_pos h'];exact Zn8 _ _
      · rw [pi8,if_neg h,if_neg h'];exact Zn8 _ _
theorem Zru {rest r:List UInt8} {e:Ety} (h:Zn7 rest=some (e,r)):r.length<rest.length∧e.name.length≤rest.length ∧ -2147483648≤e.mode∧e.mode≤2147483647:=by
  unfold Zn7 at h
  split at h
  · rename_i hc
    simp only [Option.some.injEq,Prod.mk.injEq] at h
    obtain ⟨rfl,rfl⟩:=h
    obtain ⟨h1,h2,h3,h4⟩:=hc
    have hi:=Yf0 h1
    have g1:((rest.drop (rest.idxOf 0+1)).take 32).length=32:=by rw [Yd0];omega
    unfold mkT
    rw [dif_pos g1]
    refine ⟨by simp only [Yd1];omega,by simp only [Yd1,Yd0];omega,?_,?_⟩
    · exact (Zxr _).1
    · exact (Zxr _).2
  · cases h
def Sm (acc:List Ety):Prop:=(∀ e∈acc,e.name.length≤1048576 ∧ -2147483648≤e.mode∧e.mode≤2147483647)∧acc.length≤4096
theorem Zgn {l:List Ety} (h:Sm l) (i:Nat):(eat l i).name.length≤1048576 ∧ -2147483648≤(eat l i).mode∧(eat l i).mode≤2147483647:=by
  unfold eat
  by_cases hi:i<l.length
  · have:=h.1 l[i] (Ygu hi)
    simpa [List.getD,hi] using this
  · rw [List.getD,List.getElem?_eq_none (by omega)]
    exact ⟨by decide,by decide,by decide⟩
theorem Ydh {l:List Ety} (h:Sm l):Zdo l:=⟨fun i=>by have:=(Zgn h i).1;omega,fun i=>by have:=(Zgn h i).2;omega,by have:=h.2;omega⟩
theorem Ydi {p:List UInt8} (k:List It):∀ (m:Nat) (rest:List UInt8) (acc:List Ety),rest.length≤m→rest.length≤1048576→Sm acc→∃ v,
    X EE [.tmp 2,.tmp 3] (.c L.C8.x0::.lp [0,4,5] L.C8.x0::.blk 0::k) ⟨[(0,.lst (A1 p) p.length),(4,.buf (.s 1000000 0) 0 0 (acc).length 34),(5,.lst (A1 rest) (rest).length)],[(.s 1000000 0,⟨0,true,true,false,J3 acc⟩)]⟩ =
    match ptL m rest acc with
    | none=>some Z3
    | some l=>X EE [.tmp 2,.tmp 3] k ⟨[(0,.lst (A1 p) p.length),(4,.buf (.s 1000000 0) 0 0 l.length 34),(5,.lst [] 0),(22,v)],[(.s 1000000 0,⟨0,true,true,false,J3 l⟩)]⟩:=by
  intro m
  induction m with
  | zero =>
    intro rest acc hr _ ha
    obtain rfl:rest=[]:=Yeh (by omega)
    refine ⟨.bool false,?_⟩
    rw [H7 L.C8.x0.eq_1,ptL,if_pos rfl]
    simp -dsimp (disch:=first|omega|(simp only [A8,A2,A0]<;>omega)|fail) only [go_sem,reduceIte,reduceCtorEq,D1,D2,D3,D4,D5,D6,D7,D8,D9,E2,E3,E4,E5,E6,E7,E8,E9,F0,F1,A5,BYs,Zan]
  | succ m ih =>
    intro rest acc hr hr2 ha
    by_cases h0:rest=[]
    · subst h0
      refine ⟨.bool false,?_⟩
      rw [H7 L.C8.x0.eq_1,ptL,if_pos rfl]
      simp -dsimp (disch:=first|omega|(simp only [A8,A2,A0]<;>omega)|fail) only [go_sem,reduceIte,reduceCtorEq,D1,D2,D3,D4,D5,D6,D7,D8,D9,E2,E3,E4,E5,E6,E7,E8,E9,F0,F1,A5,BYs,Zan]
    · rw [Ydg k hr2 h0 ha.2,ptL,if_neg h0]
      cases hc:Zn7 rest with
      | none=>exact ⟨.bool false,rfl⟩
      | some x =>
        obtain ⟨e,r⟩:=x
        obtain ⟨l1,l2,l3,l4⟩:=Zru hc
        by_cases h6:acc.length=4096
        · exact ⟨.bool false,by simp only [if_pos h6]⟩
        · have hsm:Sm (acc++[e]):=by
            refine ⟨fun x hx=>?_,by rw [Yek,Yf2];have:=ha.2;omega⟩
            rcases List.mem_append.1 hx with hx|hx
            · exact ha.1 x hx
            · rw [List.mem_singleton.1 hx];exact ⟨by omega,l3,l4⟩
          obtain ⟨v,hv⟩:=ih r (acc++[e]) (by omega) (by omega) hsm
          exact ⟨v,by simp only [if_neg h6];exact hv⟩
theorem ptL_sm:∀ (m:Nat) (rest:List UInt8) (acc l:List Ety),rest.length≤1048576→Sm acc→ptL m rest acc=some l→Sm l:=by
  intro m
  induction m with
  | zero =>
    intro rest acc l _ ha h
    rw [ptL] at h
    split at h
    · cases h;exact ha
    · cases h
  | succ m ih =>
    intro rest acc l hr ha h
    rw [ptL] at h
    split at h
    · cases h;exact ha
    · cases hc:Zn7 rest with
      | none=>rw [hc] at h;cases h
      | some x =>
        obtain ⟨e,r⟩:=x
        obtain ⟨l1,l2,l3,l4⟩:=Zru hc
        rw [hc] at h
        simp only at h
        split at h
        · cases h
        · rename_i h6
          refine ih r _ l (by omega) ?_ h
          refine ⟨fun x hx=>?_,by rw [Yek,Yf2];have:=ha.2;omega⟩
          rcases List.mem_append.1 hx with hx|hx
          · exact ha.1 x hx
          · rw [List.mem_singleton.1 hx];exact ⟨by omega,l3,l4⟩
def okTr (l:List Ety):AV × A3:=(.tup [.buf (.r 0) 0 0 l.length 34,.int .i64 0],[(.r 0,⟨0,true,true,false,J3 l⟩)])
def Zn9:AV × A3:=(.tup [.buf (.r 0) 0 0 0 34,.int .i64 2],[(.r 0,⟨0,true,true,false,[]⟩)])
open Classical in
noncomputable def Zrv (p:List UInt8):AV × A3:=if 1048576<p.length then Zn9 else match ptL p.length p [] with|none=>Z3|some l=>if V7 l=0∧D0 l=p then okTr l else Z3
theorem Z2b {a b:List UInt8} {n m:Nat} (hn:n=a.length) (hm:m=b.length):S E F.L8 [.lst (A1 a) n,.lst (A1 b) m] []=some (.bool (a==b),[]):=by
  rw [N6 Zl9 rfl rfl]
  simp -dsimp (disch:=first|omega|(simp only [A8,A2,A0]<;>omega)|fail) only [L.L8,go_sem,reduceIte,reduceCtorEq,D1,D2,D3,D4,D5,D6,D7,D8,D9,E2,E3,E4,E5,E6,E7,E8,E9,F0,F1,A5,BYs]
theorem Zoa {p:List UInt8} {n:Nat} (hn:n=p.length) (hp:p.length≤1000000000000):S EE F.C8 [.lst (A1 p) n] []=some (Zrv p):=by
  subst hn
  rw [Z88 Zlw rfl rfl]
  unfold Zrv
  by_cases hl:1048576<p.length
  · rw [if_pos hl]
    unfold Zn9
    simp -dsimp (disch:=first|omega|(simp only [A8,A2,A0]<;>omega)|fail) only [L.C8,go_sem,reduceIte,reduceCtorEq,D1,D2,D3,D4,D5,D6,D7,D8,D9,E2,E3,E4,E5,E6,E7,E8,E9,F0,F1,A5,BYs,hl]
  · rw [if_neg hl]
    have hsm0:Sm []:=⟨fun e he=>by simp at he,by simp⟩
    obtain ⟨v,h⟩:=Ydi (p:=p) [.c L.C8.r0] p.length p [] (Ydt _) (by omega) hsm0
    rw [Zq8] at h
    simp only [Ye6] at h
    simp -dsimp (disch:=first|omega|(simp only [A8,A2,A0]<;>omega)|fail) only [L.C8,go_sem,reduceIte,reduceCtorEq,D1,D2,D3,D4,D5,D6,D7,D8,D9,E2,E3,E4,E5,E6,E7,E8,E9,F0,F1,A5,BYs,hl]
    rw [h]
    cases hq:ptL p.length p [] with
    | none=>rfl
    | some l =>
      have hsm:=ptL_sm _ _ _ _ (by omega) hsm0 hq
      have ht:=Zv1 (Ydh hsm)
      have hll:=hsm.2
      have hbe:=Zau Zfv (Z2b (a:=D0 l) (b:=p) (n:=(D0 l).length) (m:=p.length) rfl rfl)
      unfold Zg6 at ht
      simp only
      by_cases he:V7 l=0
      · rw [if_pos he] at ht
        have hts:=Zap he
        by_cases hb:D0 l=p
        · have hbb:(D0 l==p)=true:=by simp [hb]
          rw [hbb] at hbe
          rw [if_pos ⟨he,hb⟩]
          unfold okTr
          simp -dsimp (disch:=first|omega|(simp only [A8,A2,A0]<;>omega)|fail) only [L.C8.r0,go_sem,reduceIte,reduceCtorEq,D1,D2,D3,D4,D5,D6,D7,D8,D9,E2,E3,E4,E5,E6,E7,E8,E9,F0,F1,A5,BYs,ht,hbe]
        · have hbb:(D0 l==p)=false:=by simp [hb]
          rw [hbb] at hbe
          rw [if_neg (fun x=>hb x.2)]
          unfold Z3
          simp -dsimp (disch:=first|omega|(simp only [A8,A2,A0]<;>omega)|fail) only [L.C8.r0,go_sem,reduceIte,reduceCtorEq,D1,D2,D3,D4,D5,D6,D7,D8,D9,E2,E3,E4,E5,E6,E7,E8,E9,F0,F1,A5,BYs,ht,hbe]
      · rw [if_neg he] at ht
        rw [if_neg (fun x=>he x.1)]
        unfold Z3
        simp -dsimp (disch:=first|omega|(simp only [A8,A2,A0]<;>omega)|fail) only [L.C8.r0,go_sem,reduceIte,reduceCtorEq,D1,D2,D3,D4,D5,D6,D7,D8,D9,E2,E3,E4,E5,E6,E7,E8,E9,F0,F1,A5,BYs,ht,he]
end Cod
namespace Cod
open Go
theorem Ydj:∀ (s:List UInt8) (k:Nat) (v:Int),0≤v→v<8^k→k+s.length≤6 → -1≤ocL s v∧ocL s v<262144:=by
  intro s
  induction s with
  | nil =>
    intro k v h0 h1 h2
    have hpow:(8:Int)^k≤8^6:=by exact_mod_cast Nat.pow_le_pow_right (by omega) (by simpa using h2)
    rw [ocL]
    omega
  | cons c r ih =>
    intro k v h0 h1 h2
    rw [ocL]
    split
    · omega
    · rw [Yd9] at h2
      refine ih (k+1) _ (by unfold ocS;omega) (by unfold ocS;rw [Int.pow_succ];omega) (by omega)
theorem Z89 (s:List UInt8) : -1≤Zem s∧Zem s<262144:=by
  unfold Zem
  split
  · omega
  · split
    · omega
    · exact Ydj s 0 0 (by omega) (by simp) (by omega)
theorem Z9a {v:Int} {n d:List UInt8} (h:d.length=32):(mkT v n d).name=n:=by unfold mkT;rw [dif_pos h]
theorem Z9b {v:Int} {n d:List UInt8} (h:d.length=32):(mkT v n d).mode=v:=by unfold mkT;rw [dif_pos h]
theorem Zkr {rest r:List UInt8} {e:Ety} (h:Zdr rest=some (e,r)):r.length<rest.length∧e.name.length≤rest.length ∧ -2147483648≤e.mode∧e.mode≤2147483647:=by
  unfold Zdr at h
  split at h
  · rename_i hc
    simp only [Option.some.injEq,Prod.mk.injEq] at h
    obtain ⟨rfl,rfl⟩:=h
    have g1:((rest.drop (Zd8 rest+1)).take 32).length=32:=by rw [Yd0,Yd1];omega
    have ho:=Z89 (rest.take (Z2 rest))
    rw [Z9a g1,Z9b g1]
    refine ⟨by rw [Yd1];omega,by simp only [sub,Yd0,Yd1];omega,by omega,by omega⟩
  · cases h
def rpL:Nat→List UInt8→List Ety→Option (List Ety)
  | 0,rest,acc=>if rest=[] then some acc else none
  | m+1,rest,acc=>if rest=[] then some acc else match Zdr rest with|none=>none|some (e,r)=>if acc.length=4096 then none else rpL m r (acc++[e])
theorem Ydk {p:List UInt8} (k:List It) {rest:List UInt8} {acc:List Ety} (hr:rest.length≤1048576) (h0:rest≠[]) (ha:acc.length≤4096) :
    X E [.tmp 2,.tmp 3] (.c L.C9.x0::.lp [0,4,5] L.C9.x0::.blk 0::k) ⟨[(0,.lst (A1 p) p.length),(4,.buf (.s 1000000 0) 0 0 (acc).length 34),(5,.lst (A1 rest) (rest).length)],[(.s 1000000 0,⟨0,true,true,false,J3 acc⟩)]⟩ =
    match Zdr rest with
    | none=>some Z3
    | some (e,r)=>if acc.length=4096 then some Z3 else X E [.tmp 2,.tmp 3] (.c L.C9.x0::.lp [0,4,5] L.C9.x0::.blk 0::k) ⟨[(0,.lst (A1 p) p.length),(4,.buf (.s 1000000 0) 0 0 ((acc++[e])).length 34),(5,.lst (A1 r) (r).length)],[(.s 1000000 0,⟨0,true,true,false,J3 (acc++[e])⟩)]⟩:=by
  have hpos:0<rest.length:=by cases rest with|nil=>exact absurd rfl h0|cons=>simp
  have hn:=Z81 hr
  rw [H7 L.C9.x0.eq_1]
  unfold Z3
  cases hc:Zdr rest with
  | none =>
    rw [hc] at hn
    simp only at hn
    simp -dsimp (disch:=first|omega|(simp only [A8,A2,A0]<;>omega)|fail) only [go_sem,reduceIte,reduceCtorEq,D1,D2,D3,D4,D5,D6,D7,D8,D9,E2,E3,E4,E5,E6,E7,E8,E9,F0,F1,A5,BYs,hn]
  | some x =>
    obtain ⟨e,r⟩:=x
    rw [hc] at hn
    simp only at hn
    by_cases h6:acc.length=4096
    · simp -dsimp (disch:=first|omega|(simp only [A8,A2,A0]<;>omega)|fail) only [go_sem,reduceIte,reduceCtorEq,D1,D2,D3,D4,D5,D6,D7,D8,D9,E2,E3,E4,E5,E6,E7,E8,E9,F0,F1,A5,BYs,hn,h6]
    · have g6:(acc++[e]).length=acc.length+1:=by simp
      simp -dsimp (disch:=first|omega|(simp only [A8,A2,A0]<;>omega)|fail) only [go_sem,reduceIte,reduceCtorEq,D1,D2,D3,D4,D5,D6,D7,D8,D9,E2,E3,E4,E5,E6,E7,E8,E9,F0,F1,A5,BYs,hn,h6,g6,Zkc]
theorem Ydl {p:List UInt8} (k:List It):∀ (m:Nat) (rest:List UInt8) (acc:List Ety),rest.length≤m→rest.length≤1048576→Sm acc→∃ v,
    X E [.tmp 2,.tmp 3] (.c L.C9.x0::.lp [0,4,5] L.C9.x0::.blk 0::k) ⟨[(0,.lst (A1 p) p.length),(4,.buf (.s 1000000 0) 0 0 (acc).length 34),(5,.lst (A1 rest) (rest).length)],[(.s 1000000 0,⟨0,true,true,false,J3 acc⟩)]⟩ =
    match rpL m rest acc with
    | none=>some Z3
    | some l=>X E [.tmp 2,.tmp 3] k ⟨[(0,.lst (A1 p) p.length),(4,.buf (.s 1000000 0) 0 0 l.length 34),(5,.lst [] 0),(15,v)],[(.s 1000000 0,⟨0,true,true,false,J3 l⟩)]⟩:=by
  intro m
  induction m with
  | zero =>
    intro rest acc hr _ ha
    obtain rfl:rest=[]:=Yeh (by omega)
    refine ⟨.bool false,?_⟩
    rw [H7 L.C9.x0.eq_1,rpL,if_pos rfl]
    simp -dsimp (disch:=first|omega|(simp only [A8,A2,A0]<;>omega)|fail) only [go_sem,reduceIte,reduceCtorEq,D1,D2,D3,D4,D5,D6,D7,D8,D9,E2,E3,E4,E5,E6,E7,E8,E9,F0,F1,A5,BYs,Zan]
  | succ m ih =>
    intro rest acc hr hr2 ha
    by_cases h0:rest=[]
    · subst h0
      refine ⟨.bool false,?_⟩
      rw [H7 L.C9.x0.eq_1,rpL,if_pos rfl]
      simp -dsimp (disch:=first|omega|(simp only [A8,A2,A0]<;>omega)|fail) only [go_sem,reduceIte,reduceCtorEq,D1,D2,D3,D4,D5,D6,D7,D8,D9,E2,E3,E4,E5,E6,E7,E8,E9,F0,F1,A5,BYs,Zan]
    · rw [Ydk k hr2 h0 ha.2,rpL,if_neg h0]
      cases hc:Zdr rest with
      | none=>exact ⟨.bool false,rfl⟩
      | some x =>
        obtain ⟨e,r⟩:=x
        obtain ⟨l1,l2,l3,l4⟩:=Zkr hc
        by_cases h6:acc.length=4096
        · exact ⟨.bool false,by simp only [if_pos h6]⟩
        · have hsm:Sm (acc++[e]):=by
            refine ⟨fun x hx=>?_,by rw [Yek,Yf2];have:=ha.2;omega⟩
            rcases List.mem_append.1 hx with hx|hx
            · exact ha.1 x hx
            · rw [List.mem_singleton.1 hx];exact ⟨by omega,l3,l4⟩
          obtain ⟨v,hv⟩:=ih r (acc++[e]) (by omega) (by omega) hsm
          exact ⟨v,by simp only [if_neg h6];exact hv⟩
theorem rpL_sm:∀ (m:Nat) (rest:List UInt8) (acc l:List Ety),rest.length≤1048576→Sm acc→rpL m rest acc=some l→Sm l:=by
  intro m
  induction m with
  | zero =>
    intro rest acc l _ ha h
    rw [rpL] at h
    split at h
    · cases h;exact ha
    · cases h
  | succ m ih =>
    intro rest acc l hr ha h
    rw [rpL] at h
    split at h
    · cases h;exact ha
    · cases hc:Zdr rest with
      | none=>rw [hc] at h;cases h
      | some x =>
        obtain ⟨e,r⟩:=x
        obtain ⟨l1,l2,l3,l4⟩:=Zkr hc
        rw [hc] at h
        simp only at h
        split at h
        · cases h
        · rename_i h6
          refine ih r _ l (by omega) ?_ h
          refine ⟨fun x hx=>?_,by rw [Yek,Yf2];have:=ha.2;omega⟩
          rcases List.mem_append.1 hx with hx|hx
          · exact ha.1 x hx
          · rw [List.mem_singleton.1 hx];exact ⟨by omega,l3,l4⟩
open Classical in
noncomputable def Zg7 (p:List UInt8):AV × A3:=if 1048576<p.length then Zn9 else match rpL p.length p [] with|none=>Z3|some l=>if V7 l=0∧D0 l=p then okTr l else Z3
theorem Zi2 {a b:List UInt8} {n m:Nat} (hn:n=a.length) (hm:m=b.length):S E F.Q1 [.lst (A1 a) n,.lst (A1 b) m] []=some (.bool (a==b),[]):=by
  rw [N6 Zlz rfl rfl]
  simp -dsimp (disch:=first|omega|(simp only [A8,A2,A0]<;>omega)|fail) only [L.Q1,go_sem,reduceIte,reduceCtorEq,D1,D2,D3,D4,D5,D6,D7,D8,D9,E2,E3,E4,E5,E6,E7,E8,E9,F0,F1,A5,BYs]
theorem Zob {p:List UInt8} {n:Nat} (hn:n=p.length) (hp:p.length≤1000000000000):S E F.C9 [.lst (A1 p) n] []=some (Zg7 p):=by
  subst hn
  rw [N6 Zly rfl rfl]
  unfold Zg7
  by_cases hl:1048576<p.length
  · rw [if_pos hl]
    unfold Zn9
    simp -dsimp (disch:=first|omega|(simp only [A8,A2,A0]<;>omega)|fail) only [L.C9,go_sem,reduceIte,reduceCtorEq,D1,D2,D3,D4,D5,D6,D7,D8,D9,E2,E3,E4,E5,E6,E7,E8,E9,F0,F1,A5,BYs,hl]
  · rw [if_neg hl]
    have hsm0:Sm []:=⟨fun e he=>by simp at he,by simp⟩
    obtain ⟨v,h⟩:=Ydl (p:=p) [.c L.C9.r0] p.length p [] (Ydt _) (by omega) hsm0
    rw [Zq8] at h
    simp only [Ye6] at h
    simp -dsimp (disch:=first|omega|(simp only [A8,A2,A0]<;>omega)|fail) only [L.C9,go_sem,reduceIte,reduceCtorEq,D1,D2,D3,D4,D5,D6,D7,D8,D9,E2,E3,E4,E5,E6,E7,E8,E9,F0,F1,A5,BYs,hl]
    rw [h]
    cases hq:rpL p.length p [] with
    | none=>rfl
    | some l =>
      have hsm:=rpL_sm _ _ _ _ (by omega) hsm0 hq
      have hll:=hsm.2
      have ht:=Zrt (B:=1048576) (fun i=>(Zgn hsm i).1) (by omega) (fun i=>by have:=(Zgn hsm i).2;omega) (by omega)
      have hT:=Zi0 (B:=1048576) (fun i=>(Zgn hsm i).1) (by omega) hll (fun i=>by have:=(Zgn hsm i).2;omega)
      have hbe:=Zi2 (a:=D0 l) (b:=p) (n:=(D0 l).length) (m:=p.length) rfl rfl
      simp only
      by_cases he:V7 l=0
      · rw [he] at ht
        have hts:=Zap he
        by_cases hb:D0 l=p
        · have hbb:(D0 l==p)=true:=by simp [hb]
          rw [hbb] at hbe
          rw [if_pos ⟨he,hb⟩]
          unfold okTr
          simp -dsimp (disch:=first|omega|(simp only [A8,A2,A0]<;>omega)|fail) only [L.C9.r0,go_sem,reduceIte,reduceCtorEq,D1,D2,D3,D4,D5,D6,D7,D8,D9,E2,E3,E4,E5,E6,E7,E8,E9,F0,F1,A5,BYs,ht,hT,hbe]
        · have hbb:(D0 l==p)=false:=by simp [hb]
          rw [hbb] at hbe
          rw [if_neg (fun x=>hb x.2)]
          unfold Z3
          simp -dsimp (disch:=first|omega|(simp only [A8,A2,A0]<;>omega)|fail) only [L.C9.r0,go_sem,reduceIte,reduceCtorEq,D1,D2,D3,D4,D5,D6,D7,D8,D9,E2,E3,E4,E5,E6,E7,E8,E9,F0,F1,A5,BYs,ht,hT,hbe]
      · rw [if_neg (fun x=>he x.1)]
        unfold Z3
        simp -dsimp (disch:=first|omega|(simp only [A8,A2,A0]<;>omega)|fail) only [L.C9.r0,go_sem,reduceIte,reduceCtorEq,D1,D2,D3,D4,D5,D6,D7,D8,D9,E2,E3,E4,E5,E6,E7,E8,E9,F0,F1,A5,BYs,ht,he]
def Zv2 (l:List Ety):AV × A3:=if V7 l=0 then (.tup [.buf (.r 0) 0 0 (D0 l).length 1,.int .i64 0],[(.r 0,⟨0,true,true,false,A1 (D0 l)⟩)]) else (.tup [.buf (.r 0) 0 0 0 1,.int .i64 (V7 l)],[(.r 0,⟨0,true,true,false,[]⟩)])
theorem Zoc {l:List Ety} {B:Nat} (hb:∀ i,(eat l i).name.length≤B) (hB:B≤1000000000) (hm:∀ i,-9223372036854775808≤(eat l i).mode∧(eat l i).mode≤9223372036854775807) (hl:l.length≤1000000000) :
    S E F.M5 [.lst (J3 l) l.length] []=some (Zv2 l):=by
  have ht:=Zrt hb hB hm hl
  rw [N6 Zlv rfl rfl]
  unfold Zv2
  by_cases he:V7 l=0
  · have hlen:l.length≤4096:=by
      apply Classical.byContradiction
      intro h
      unfold V7 at he
      rw [if_pos (by omega)] at he
      omega
    have hT:=Zi0 hb hB hlen hm
    have hts:=Zap he
    rw [if_pos he]
    simp -dsimp (disch:=first|omega|(simp only [A8,A2,A0]<;>omega)|fail) only [L.M5,go_sem,reduceIte,reduceCtorEq,D1,D2,D3,D4,D5,D6,D7,D8,D9,E2,E3,E4,E5,E6,E7,E8,E9,F0,F1,A5,BYs,ht,he,hT]
  · rw [if_neg he]
    simp -dsimp (disch:=first|omega|(simp only [A8,A2,A0]<;>omega)|fail) only [L.M5,go_sem,reduceIte,reduceCtorEq,D1,D2,D3,D4,D5,D6,D7,D8,D9,E2,E3,E4,E5,E6,E7,E8,E9,F0,F1,A5,BYs,ht,he]
end Cod
namespace Cod
open Go
theorem nmI_no {l:List Ety}:∀ (m i:Nat) (n:Bool),nmI l m i n=false→n=false∧∀ j,i≤j→j<i+m→K6 (eat l j).name=true:=by
  intro m
  induction m with
  | zero=>intro i n h;exact ⟨h,fun j h1 h2=>by omega⟩
  | succ m ih =>
    intro i n h
    rw [nmI] at h
    obtain ⟨h1,h2⟩:=ih (i+1) _ h
    rw [Yew,Ygv] at h1
    refine ⟨h1.1,fun j h3 h4=>?_⟩
    by_cases hj:j=i
    · rw [hj];exact h1.2
    · exact h2 j (by omega) (by omega)
theorem fmI_no {l:List Ety}:∀ (m i:Nat) (f:Bool),fmI l m i f=false→f=false∧∀ j,i≤j→j<i+m→V6 (eat l j).mode=true:=by
  intro m
  induction m with
  | zero=>intro i n h;exact ⟨h,fun j h1 h2=>by omega⟩
  | succ m ih =>
    intro i n h
    rw [fmI] at h
    obtain ⟨h1,h2⟩:=ih (i+1) _ h
    rw [Yew,Yew,Ygv] at h1
    refine ⟨h1.1.1,fun j h3 h4=>?_⟩
    by_cases hj:j=i
    · rw [hj];exact h1.1.2
    · exact h2 j (by omega) (by omega)
def okE (e:Ety):Prop:=K6 e.name=true∧V6 e.mode=true
theorem Zod {l:List Ety} (h:V7 l=0):l.length≤4096∧∀ e∈l,okE e:=by
  have hl:l.length≤4096:=by
    apply Classical.byContradiction
    intro hn
    unfold V7 at h
    rw [if_pos (by omega)] at h
    omega
  refine ⟨hl,?_⟩
  rw [Zxl l hl] at h
  have h1:nmI l l.length 0 false=false∧fmI l l.length 0 false=false:=by
    generalize nmI l l.length 0 false=a at *
    generalize fmI l l.length 0 false=b at *
    generalize tw l l.length 0=c at *
    generalize decide (1048576<(D0 l).length)=d at *
    revert h
    cases a<;>cases b<;>cases c<;>cases d<;>decide
  intro e he
  obtain ⟨i,hi,rfl⟩:=List.getElem_of_mem he
  have e1:eat l i=l[i]:=by simp [eat,List.getD,hi]
  exact ⟨by rw [←e1];exact (nmI_no _ _ _ h1.1).2 i (by omega) (by omega),by rw [←e1];exact (fmI_no _ _ _ h1.2).2 i (by omega) (by omega)⟩
theorem Zi3 {m:Int} (h:V6 m=true):pi8 (K7 m)=(m,0)∧Zem (K7 m)=m∧(32:UInt8)∉K7 m∧(0:UInt8)∉K7 m:=by
  unfold V6 at h
  simp only [Bool.or_eq_true,decide_eq_true_eq] at h
  rcases h with rfl|rfl|rfl|rfl<;>decide +kernel
theorem Zrw {s:List UInt8} (h:K6 s=true):(0:UInt8)∉s:=by
  unfold K6 at h
  simp only [Bool.and_eq_true,Bool.not_eq_true',List.contains_eq_mem,decide_eq_false_iff_not] at h
  exact h.1.1.1.2
theorem Zks (e:Ety) (r:List UInt8):Zek e++r=(K7 e.mode++32::e.name)++0::(e.id++r):=by
  unfold Zek
  simp only [Yel,Ydw,Yfl]
theorem Z9c {c:UInt8} {H T:List UInt8} (h:c∉H):(H++c::T).idxOf c=H.length:=by
  rw [List.idxOf_append,if_neg h,List.idxOf_cons_self,Yen]
theorem Zrx (e:Ety):mkT e.mode e.name e.id=e:=by unfold mkT;rw [dif_pos e.hid]
theorem Z9d {e:Ety} (h:okE e) (r:List UInt8):Zn7 (Zek e++r)=some (e,r):=by
  obtain ⟨m1,m2,m3,m4⟩:=Zi3 h.2
  have n0:=Zrw h.1
  have hid:=e.hid
  rw [Zks]
  have hH:(0:UInt8)∉K7 e.mode++32::e.name:=by
    simp only [Yf1,List.mem_cons,not_or]
    exact ⟨m4,by decide,n0⟩
  have i1:=Z9c (T:=e.id++r) hH
  have i2:=Z9c (T:=e.name) m3
  have t1:((K7 e.mode++32::e.name)++0::(e.id++r)).take (K7 e.mode++32::e.name).length=K7 e.mode++32::e.name:=Ygw
  have t2:((K7 e.mode++32::e.name)++0::(e.id++r)).drop ((K7 e.mode++32::e.name).length+1)=e.id++r:=by
    rw [←Yer,Ygx];rfl
  have t3:(K7 e.mode++32::e.name).take (K7 e.mode).length=K7 e.mode:=Ygw
  have t4:(K7 e.mode++32::e.name).drop ((K7 e.mode).length+1)=e.name:=by
    rw [←Yer,Ygx];rfl
  have t5:(e.id++r).take 32=e.id:=by rw [←hid];exact Ygw
  have t6:(e.id++r).drop 32=r:=by rw [←hid];exact Ygx
  unfold Zn7
  rw [i1,t1,i2,t2,t3,t4,t5,t6,m1,Zrx]
  rw [if_pos]
  refine ⟨by simp,by simp,rfl,by rw [Yek,hid];omega⟩
theorem Z9e {c:UInt8} {H T:List UInt8} {i0:Nat} (hH:∀ j,i0≤j→j<H.length→H.getD j 0≠c):∀ (m i:Nat),i0≤i→i≤H.length→i+m=(H++c::T).length→spI (H++c::T) c m i=H.length:=by
  intro m
  induction m with
  | zero=>intro i _ h1 h2;rw [Yek,Yd9] at h2;omega
  | succ m ih =>
    intro i h0 h1 h2
    rw [spI]
    by_cases hi:i=H.length
    · rw [if_pos (by subst hi;simp [List.getD])];exact hi
    · have e1:(H++c::T).getD i 0=H.getD i 0:=by
        simp only [List.getD]
        rw [List.getElem?_append_left (by omega)]
      rw [e1,if_neg (hH i h0 (by omega))]
      exact ih (i+1) (by omega) (by omega) (by omega)
theorem Zxs {c:UInt8} {H:List UInt8} (h:c∉H) (j:Nat) (hj:j<H.length):H.getD j 0≠c:=by
  intro e
  apply h
  rw [←e]
  simp [List.getD,hj]
theorem Z2c {e:Ety} (h:okE e) (r:List UInt8):Zdr (Zek e++r)=some (e,r):=by
  obtain ⟨m1,m2,m3,m4⟩:=Zi3 h.2
  have n0:=Zrw h.1
  have hid:=e.hid
  rw [Zks]
  have hH:(0:UInt8)∉K7 e.mode++32::e.name:=by
    simp only [Yf1,List.mem_cons,not_or]
    exact ⟨m4,by decide,n0⟩
  have ha:Z2 ((K7 e.mode++32::e.name)++0::(e.id++r))=(K7 e.mode).length:=by
    unfold Z2
    rw [Yel,Ydw]
    exact Z9e (i0:=0) (fun j _ hj=>Zxs m3 j hj) _ 0 (Ydt _) (by omega) (by omega)
  have hb:Zd8 ((K7 e.mode++32::e.name)++0::(e.id++r))=(K7 e.mode++32::e.name).length:=by
    unfold Zd8
    rw [ha]
    refine Z9e (i0:=0) (fun j _ hj=>Zxs hH j hj) _ _ (by omega) (by rw [Yek];omega) ?_
    simp only [Yek,Yd9]
    omega
  have hl:(K7 e.mode++32::e.name).length=(K7 e.mode).length+1+e.name.length:=by simp only [Yek,Yd9];omega
  have t1:((K7 e.mode++32::e.name)++0::(e.id++r)).take (K7 e.mode).length=K7 e.mode:=by
    rw [Yel];exact Ygw
  have t2:sub ((K7 e.mode++32::e.name)++0::(e.id++r)) ((K7 e.mode).length+1) ((K7 e.mode++32::e.name).length-((K7 e.mode).length+1))=e.name:=by
    unfold sub
    rw [Yel,←Yer,Ygx,hl,show (K7 e.mode).length+1+e.name.length-((K7 e.mode).length+1)=e.name.length by omega]
    exact Ygw
  have t3:(((K7 e.mode++32::e.name)++0::(e.id++r)).drop ((K7 e.mode++32::e.name).length+1)).take 32=e.id:=by
    rw [←Yer,Ygx,←hid]
    exact Ygw
  have t4:((K7 e.mode++32::e.name)++0::(e.id++r)).drop ((K7 e.mode++32::e.name).length+33)=r:=by
    rw [←Yer,Ygx,show 33=1+e.id.length by omega,←Yer]
    exact Ygx
  unfold Zdr
  rw [ha,hb,t1,t2,t3,t4,m2,Zrx,if_pos]
  refine ⟨by omega,?_⟩
  simp only [Yek,Yd9,hid]
  omega
theorem Zry (e:Ety):0<(Zek e).length:=by rw [Zfq];omega
theorem Ydm:∀ (l:List Ety) (m:Nat) (acc:List Ety),(D0 l).length≤m→acc.length+l.length≤4096→(∀ e∈l,okE e)→ptL m (D0 l) acc=some (acc++l):=by
  intro l
  induction l with
  | nil =>
    intro m acc _ _ _
    cases m<;>rw [ptL,if_pos (show D0 []=[] from rfl),Ygt]
  | cons e l ih =>
    intro m acc hm ha ho
    have hp:=Zry e
    rw [T8,Yek] at hm
    rw [Yd9] at ha
    cases m with
    | zero=>omega
    | succ m =>
      have hne:D0 (e::l)≠[]:=by
        intro h
        rw [T8] at h
        have:=congrArg List.length h
        rw [Yek,Ye6] at this
        omega
      rw [ptL,if_neg hne,T8,Z9d (ho e (Ygy ..))]
      simp only
      rw [if_neg (by omega),ih m (acc++[e]) (by omega) (by rw [Yek,Yf2];omega) (fun x hx=>ho x (Yex _ hx)),Yel]
      rfl
theorem Ydn:∀ (l:List Ety) (m:Nat) (acc:List Ety),(D0 l).length≤m→acc.length+l.length≤4096→(∀ e∈l,okE e)→rpL m (D0 l) acc=some (acc++l):=by
  intro l
  induction l with
  | nil =>
    intro m acc _ _ _
    cases m<;>rw [rpL,if_pos (show D0 []=[] from rfl),Ygt]
  | cons e l ih =>
    intro m acc hm ha ho
    have hp:=Zry e
    rw [T8,Yek] at hm
    rw [Yd9] at ha
    cases m with
    | zero=>omega
    | succ m =>
      have hne:D0 (e::l)≠[]:=by
        intro h
        rw [T8] at h
        have:=congrArg List.length h
        rw [Yek,Ye6] at this
        omega
      rw [rpL,if_neg hne,T8,Z2c (ho e (Ygy ..))]
      simp only
      rw [if_neg (by omega),ih m (acc++[e]) (by omega) (by rw [Yek,Yf2];omega) (fun x hx=>ho x (Yex _ hx)),Yel]
      rfl
def Zds (p:List UInt8) (l:List Ety):Prop:=V7 l=0∧D0 l=p
theorem pt_of {p:List UInt8} {l:List Ety} (h:Zds p l):ptL p.length p []=some l:=by
  obtain ⟨h1,h2⟩:=Zod h.1
  have:=Ydm l (D0 l).length [] (Ydt _) (by simpa using h1) h2
  rw [h.2] at this
  exact this
theorem rp_of {p:List UInt8} {l:List Ety} (h:Zds p l):rpL p.length p []=some l:=by
  obtain ⟨h1,h2⟩:=Zod h.1
  have:=Ydn l (D0 l).length [] (Ydt _) (by simpa using h1) h2
  rw [h.2] at this
  exact this
theorem Z9f {p:List UInt8} {l:List Ety} (h:Zds p l) (hp:p.length≤1048576):Zrv p=okTr l:=by
  unfold Zrv
  rw [if_neg (by omega),pt_of h]
  exact if_pos h
theorem Z2d {p:List UInt8} {l:List Ety} (h:Zds p l) (hp:p.length≤1048576):Zg7 p=okTr l:=by
  unfold Zg7
  rw [if_neg (by omega),rp_of h]
  exact if_pos h
theorem Ydo {p:List UInt8} (h:∀ l,¬ Zds p l) (hp:p.length≤1048576):Zrv p=Z3:=by
  unfold Zrv
  rw [if_neg (by omega)]
  cases ptL p.length p [] with
  | none=>rfl
  | some l=>exact if_neg (h l)
theorem Z9g {p:List UInt8} (h:∀ l,¬ Zds p l) (hp:p.length≤1048576):Zg7 p=Z3:=by
  unfold Zg7
  rw [if_neg (by omega)]
  cases rpL p.length p [] with
  | none=>rfl
  | some l=>exact if_neg (h l)
end Cod
namespace Cod
open Go
theorem Zrz (e:Ety):G5 [0,2,0,0,0,0,0,0,0,0,0,0,0,0,0,0,0,0,0,0,0,0,0,0,0,0,0,0,0,0,0,0,0,0] e.cells e.cells=some true:=by
  show G5 (0::2::[0,0,0,0,0,0,0,0,0,0,0,0,0,0,0,0,0,0,0,0,0,0,0,0,0,0,0,0,0,0,0,0]) (.int .i64 e.mode::.str e.name::A1 e.id) (.int .i64 e.mode::.str e.name::A1 e.id)=_
  rw [G5,if_pos rfl,G5,Zi1 e.hid e.hid]
  simp
theorem se_l0 {l:List Ety} (hl:l.length≤4096):∀ (m i:Nat),i+m=l.length →
    X E [.tmp 4] (.c L.G2.x0::.lp [0,1,12,13] L.G2.x0::.blk 0::[.c L.G2.r0]) ⟨[(0,.lst (J3 l) l.length),(1,.lst (J3 l) l.length),(12,.int .i64 l.length),(13,.int .i64 i)],[]⟩=some (.bool true,[]):=by
  intro m
  induction m with
  | zero =>
    intro i h
    obtain rfl:i=l.length:=by omega
    rw [H7 L.G2.x0.eq_1]
    simp -dsimp (disch:=first|omega|(simp only [A8,A2,A0]<;>omega)|fail) only [go_sem,reduceIte,reduceCtorEq,D1,D2,D3,D4,D5,D6,D7,D8,D9,E2,E3,E4,E5,E6,E7,E8,E9,F0,F1,A5,L.G2.r0]
  | succ m ih =>
    intro i h
    have h1:=ih (i+1) (by omega)
    simp only [Int.natCast_add,Yf4] at h1
    have hq:=Zrz (eat l i)
    rw [H7 L.G2.x0.eq_1]
    simp -dsimp (disch:=first|omega|(simp only [A8,A2,A0]<;>omega)|fail) only [go_sem,reduceIte,reduceCtorEq,D1,D2,D3,D4,D5,D6,D7,D8,D9,E2,E3,E4,E5,E6,E7,E8,E9,F0,F1,A5,hq,h1,Option.map_some,Bool.not_true]
theorem Zoe {l:List Ety} {n m:Nat} (hn:n=l.length) (hm:m=l.length) (hl:l.length≤4096):S E F.G2 [.lst (J3 l) n,.lst (J3 l) m] []=some (.bool true,[]):=by
  subst hn hm
  have h:=se_l0 hl l.length 0 (by omega)
  simp only [Yf4] at h
  rw [N6 Zl0 rfl rfl]
  simp -dsimp (disch:=first|omega|(simp only [A8,A2,A0]<;>omega)|fail) only [L.G2,go_sem,reduceIte,reduceCtorEq,D1,D2,D3,D4,D5,D6,D7,D8,D9,E2,E3,E4,E5,E6,E7,E8,E9,F0,F1,A5,h]
def parX (l:List Ety) (e:Int):AV × A3:=(.tup [.buf (.r 0) 0 0 l.length 34,.int .i64 e],[(.r 0,⟨0,true,true,false,J3 l⟩)])
theorem Zv3 (p:List UInt8):∃ l e,l.length≤4096∧Zrv p=parX l e∧Zg7 p=parX l e:=by
  by_cases hl:1048576<p.length
  · refine ⟨[],2,by simp,?_,?_⟩
    · unfold Zrv;rw [if_pos hl];rfl
    · unfold Zg7;rw [if_pos hl];rfl
  · by_cases h:∃ l,Zds p l
    · obtain ⟨l,h⟩:=h
      exact ⟨l,0,(Zod h.1).1,Z9f h (by omega),Z2d h (by omega)⟩
    · have h':∀ l,¬ Zds p l:=fun l hl=>h ⟨l,hl⟩
      exact ⟨[],4,by simp,Ydo h' (by omega),Z9g h' (by omega)⟩
theorem Z9h:S E F.Q1 [.lst [] 0,.lst [] 0] []=some (.bool true,[]):=Zi2 (a:=[]) (b:=[]) rfl rfl
theorem Zof {l:List Ety} {p:List UInt8} (hb:∀ i,(eat l i).name.length≤1048576) (hm:∀ i,-9223372036854775808≤(eat l i).mode∧(eat l i).mode≤9223372036854775807) (hl:l.length≤1000000000) (hp:p.length≤1000000000000) :
    S EE F.H0 [.lst (J3 l) l.length,.lst (A1 p) p.length] []=some (.bool true,[]):=by
  rw [Z88 Zlt rfl rfl]
  have a1:=Zv1 (l:=l) ⟨fun i=>by have:=hb i;omega,hm,hl⟩
  have a2:=Zau Zfv (Zoc (l:=l) hb (by omega) hm hl)
  have a3:=Zau Zfv (Yc6 (a:=p) rfl hp)
  have a4:=Zoa (p:=p) (n:=p.length) rfl hp
  have a5:=Zau Zfv (Zob (p:=p) (n:=p.length) rfl hp)
  obtain ⟨l2,e2,h2,p1,p2⟩:=Zv3 p
  rw [p1] at a4
  rw [p2] at a5
  unfold parX at a4 a5
  have a6:=Zau Zfv (Zoe (l:=l2) rfl rfl h2)
  have a7:=Zau Zfv (Zi2 (a:=D0 l) (b:=D0 l) (n:=(D0 l).length) (m:=(D0 l).length) rfl rfl)
  have b7:(D0 l==D0 l)=true:=by simp
  rw [b7] at a7
  have a8:=Zau Zfv Z9h
  unfold Zg6 at a1
  unfold Zv2 at a2
  by_cases g1:300<l.length
  · by_cases g2:l.length≤4096
    · simp -dsimp (disch:=first|omega|(simp only [A8,A2,A0]<;>omega)|fail) only [L.H0,go_sem,reduceIte,reduceCtorEq,D1,D2,D3,D4,D5,D6,D7,D8,D9,E2,E3,E4,E5,E6,E7,E8,E9,F0,F1,A5,BYs,V1,g1,g2]
    · have he:¬ V7 l=0:=by
        unfold V7;rw [if_pos (by omega)];omega
      rw [if_neg he] at a1 a2
      by_cases q1:20000<p.length
      · by_cases q2:p.length≤1048576
        · simp -dsimp (disch:=first|omega|(simp only [A8,A2,A0]<;>omega)|fail) only [L.H0,go_sem,reduceIte,reduceCtorEq,D1,D2,D3,D4,D5,D6,D7,D8,D9,E2,E3,E4,E5,E6,E7,E8,E9,F0,F1,A5,BYs,V1,g1,g2,q1,q2]
        · simp -dsimp (disch:=first|omega|(simp only [A8,A2,A0]<;>omega)|fail) only [L.H0,go_sem,reduceIte,reduceCtorEq,D1,D2,D3,D4,D5,D6,D7,D8,D9,E2,E3,E4,E5,E6,E7,E8,E9,F0,F1,A5,BYs,V1,g1,g2,q1,q2,a1,a2,a3,a4,a5,a6,a8]
      · simp -dsimp (disch:=first|omega|(simp only [A8,A2,A0]<;>omega)|fail) only [L.H0,go_sem,reduceIte,reduceCtorEq,D1,D2,D3,D4,D5,D6,D7,D8,D9,E2,E3,E4,E5,E6,E7,E8,E9,F0,F1,A5,BYs,V1,g1,g2,q1,a1,a2,a3,a4,a5,a6,a8]
  · by_cases he:V7 l=0
    · have hts:=Zap he
      rw [if_pos he] at a1 a2
      generalize D0 l=tb at *
      by_cases q1:20000<p.length
      · by_cases q2:p.length≤1048576
        · simp -dsimp (disch:=first|omega|(simp only [A8,A2,A0]<;>omega)|fail) only [L.H0,go_sem,reduceIte,reduceCtorEq,D1,D2,D3,D4,D5,D6,D7,D8,D9,E2,E3,E4,E5,E6,E7,E8,E9,F0,F1,A5,BYs,V1,g1,q1,q2]
        · simp -dsimp (disch:=first|omega|(simp only [A8,A2,A0]<;>omega)|fail) only [L.H0,go_sem,reduceIte,reduceCtorEq,D1,D2,D3,D4,D5,D6,D7,D8,D9,E2,E3,E4,E5,E6,E7,E8,E9,F0,F1,A5,BYs,V1,g1,q1,q2,a1,a2,a3,a4,a5,a6,a7]
      · simp -dsimp (disch:=first|omega|(simp only [A8,A2,A0]<;>omega)|fail) only [L.H0,go_sem,reduceIte,reduceCtorEq,D1,D2,D3,D4,D5,D6,D7,D8,D9,E2,E3,E4,E5,E6,E7,E8,E9,F0,F1,A5,BYs,V1,g1,q1,a1,a2,a3,a4,a5,a6,a7]
    · rw [if_neg he] at a1 a2
      by_cases q1:20000<p.length
      · by_cases q2:p.length≤1048576
        · simp -dsimp (disch:=first|omega|(simp only [A8,A2,A0]<;>omega)|fail) only [L.H0,go_sem,reduceIte,reduceCtorEq,D1,D2,D3,D4,D5,D6,D7,D8,D9,E2,E3,E4,E5,E6,E7,E8,E9,F0,F1,A5,BYs,V1,g1,q1,q2]
        · simp -dsimp (disch:=first|omega|(simp only [A8,A2,A0]<;>omega)|fail) only [L.H0,go_sem,reduceIte,reduceCtorEq,D1,D2,D3,D4,D5,D6,D7,D8,D9,E2,E3,E4,E5,E6,E7,E8,E9,F0,F1,A5,BYs,V1,g1,q1,q2,a1,a2,a3,a4,a5,a6,a8]
      · simp -dsimp (disch:=first|omega|(simp only [A8,A2,A0]<;>omega)|fail) only [L.H0,go_sem,reduceIte,reduceCtorEq,D1,D2,D3,D4,D5,D6,D7,D8,D9,E2,E3,E4,E5,E6,E7,E8,E9,F0,F1,A5,BYs,V1,g1,q1,a1,a2,a3,a4,a5,a6,a8]
end Cod
namespace Cod
open Go
def Zr0:Ty:=.cat (.int .i64) (.cat .str (.cat (.rep 32 (.int .u8)) .nil))
theorem wf_ety {x:List AV} (h:Wf Zr0 x):∃ e:Ety,x=e.cells∧e.name.length≤abulks x ∧ -9223372036854775808≤e.mode∧e.mode≤9223372036854775807:=by
  obtain ⟨a1,b1,rfl,⟨m,rfl,hm⟩,a2,b2,rfl,⟨p,rfl,hp⟩,a3,b3,rfl,⟨r,rfl,hr,hw⟩,rfl⟩:=h
  obtain ⟨l,h1,h2⟩:=Zq4 hw
  simp [Lit.wf,IntKind.min,IntKind.max,IntKind.signed,IntKind.bits] at hm
  refine ⟨⟨m,p,l,by rw [h2,hr]⟩,?_,?_,?_,?_⟩
  · rw [h1];simp [Ety.cells]
  · simp only [Ydw,Yfl,abulks,Zdg];omega
  · show -9223372036854775808≤m;omega
  · show m≤9223372036854775807;omega
theorem Ydp:∀ {r:List (List AV)},(∀ x∈r,Wf Zr0 x)→∃ l:List Ety,r.flatten=J3 l∧l.length=r.length∧(∀ e∈l,e.name.length≤abulks r.flatten ∧ -9223372036854775808≤e.mode∧e.mode≤9223372036854775807):=by
  intro r
  induction r with
  | nil=>intro _;exact ⟨[],rfl,rfl,fun e he=>by simp at he⟩
  | cons x r ih =>
    intro h
    obtain ⟨l,h1,h2,h3⟩:=ih fun y hy=>h y (Yex _ hy)
    obtain ⟨e,rfl,he,hm⟩:=wf_ety (h x (by simp))
    refine ⟨e::l,by rw [Yfb,h1];rfl,by simp [h2],fun y hy=>?_⟩
    rw [Yfb,Zcj]
    rcases List.mem_cons.1 hy with rfl|hy
    · exact ⟨by omega,hm⟩
    · have:=h3 y hy;exact ⟨by omega,this.2⟩
theorem Z9i {x:List AV} (h:Wf (.sl Zr0) x) (hb:abulks x≤1048576):∃ l:List Ety,x=[.lst (J3 l) l.length]∧l.length≤1048576∧(∀ i,(eat l i).name.length≤1048576)∧∀ i,-9223372036854775808≤(eat l i).mode∧(eat l i).mode≤9223372036854775807:=by
  obtain ⟨r,rfl,_,h2⟩:=h
  obtain ⟨l,h3,h4,h5⟩:=Ydp h2
  rw [h3] at h5
  rw [h3,←h4] at hb ⊢
  simp only [abulks,Zdg] at hb
  have key:∀ i,(eat l i).name.length≤1048576 ∧ -9223372036854775808≤(eat l i).mode∧(eat l i).mode≤9223372036854775807:=by
    intro i
    unfold eat
    by_cases hi:i<l.length
    · have:=h5 l[i] (Ygu hi)
      rw [show l.getD i default=l[i] by simp [List.getD,hi]]
      exact ⟨by omega,this.2⟩
    · rw [List.getD,List.getElem?_eq_none (by omega)]
      exact ⟨by decide,by decide,by decide⟩
  exact ⟨l,rfl,by omega,fun i=>(key i).1,fun i=>(key i).2⟩
theorem Zv4 {x:List AV} (h:Wf (.sl (.int .u8)) x) (hb:abulks x≤1048576):∃ p:List UInt8,x=[.lst (A1 p) p.length]∧p.length≤1048576:=by
  obtain ⟨r,rfl,_,hw⟩:=h
  obtain ⟨l,h1,h2⟩:=Zq4 hw
  rw [h1,←h2] at hb ⊢
  simp only [abulks,Zdg] at hb
  exact ⟨l,rfl,by omega⟩
theorem Zog {xs:List AV} (h:Zik [(false,.sl Zr0),(false,.sl (.int .u8))] xs) (hb:abulks xs≤1048576):∃ σr,S EE 3 xs []=some (.bool true,σr):=by
  obtain ⟨a,b,rfl,h1,c,d,rfl,h2,rfl⟩:=h
  have hs:abulks [a]+abulks [c]≤1048576:=by
    simp only [abulks] at hb ⊢;omega
  obtain ⟨l,hl,l1,l2,l3⟩:=Z9i h1 (by omega)
  obtain ⟨p,hp,p1⟩:=Zv4 h2 (by omega)
  simp only [List.cons.injEq,and_true] at hl hp
  subst hl hp
  exact ⟨[],Zof l2 l3 (by omega) (by omega)⟩
end Cod

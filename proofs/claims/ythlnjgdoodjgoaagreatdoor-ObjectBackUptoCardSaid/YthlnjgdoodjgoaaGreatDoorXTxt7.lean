/- object.PutCommit, walked in the model: what the walk needs. -/
import Derived.Deep.Cut
import Derived.Deep.RegionWith
import Derived.Lib.ConvBytes
import Derived.Test.YthlnjgdoodjgoaaGreatDoorXTxt5
import Derived.Test.YthlnjgdoodjgoaaGreatDoorXTxt6
import Derived.Test.YthlnjgdoodjgoaaGreatDoorXTxt1
import Derived.Test.YthlnjgdoodjgoaaGreatDoorXTxt4
import Derived.Test.YthlnjgdoodjgoaaGreatDoorXTxt3
import Derived.Test.YthlnjgdoodjgoaaGreatDoorXTxt2
set_option linter.unusedSimpArgs false
set_option linter.unusedVariables false
open List renaming append_assoc → Ynz, append_inj → Yqe, append_nil → Yp5, cons_append → Yna, drop_drop → Yn5, drop_left → Yp8, idxOf_lt_length_of_mem → Yp7, length_append → Yny, length_cons → Ynn, length_drop → Ynf, length_map → Yov, length_nil → Yok, length_replicate → Yp6, length_singleton → Ypg, length_take → Yne, lookup_cons → Yqg, map_map → Yqf, nil_append → Yoz, size_toArray → Yng, take_left → Yqi
open Nat renaming le_refl → Ym7, le_trans → Ym8, lt_of_lt_of_le → Ym9, zero_add → Yn1
open Int renaming cast_ofNat_Int → Ypi, natCast_add → Ypo
open Bool renaming and_eq_true → Ynm, not_eq_false' → Yqh, or_eq_false_iff → Yoa
open Option renaming map_some → Ync
open Array renaming size_push → Yqd
open Nat renaming reduceEqDiff → B9, reduceAdd → C0, reduceSub → C1, reduceMul → C2, reduceDiv → C3, reduceMod → C4, reduceBEq → C5, reduceLeDiff → C6, reduceLT → C7
open Int renaming reduceEq → C8, reduceNe → C9, reduceLT → D0, reduceLE → D1, reduceBEq → D2, reduceBNe → D3, reduceToNat → D4, reduceAdd → D5, reduceSub → D6, reduceMul → D7, reduceNeg → A3
namespace Cod
open Go Go.RowKit Go.Proofs Go.Shelf
set_option maxRecDepth 1000000
def whoT (i:Idt):List UInt8:=if F8 i=true then I5 i else []
theorem Ymn {i:Idt}:S E F.U7 [.agg i.cells] []=some (.tup [.str (whoT i),.int .i64 (idE i)],[]):=by
  rw [Yg0]
  unfold Zw4 whoT idE
  cases F8 i<;>rfl
def Znp (i:Idt):List Value:=[.string ⟨i.name.toArray⟩,.string ⟨i.email.toArray⟩,.int .i64 i.time,.int .i64 i.zone]
theorem Zps {i:Idt} {w:World} (hW:Y5 w) :
    Calls Tryz.prog 53 #[.agg (Znp i).toArray] w fun e w'=>e=.returned (.tuple #[.string ⟨(whoT i).toArray⟩,.int .i64 (idE i)])∧Below w.heap.size w w' :=
  Zgt Tryz.func53 (by rfl) (by kernel_rfl) (Ymn (i:=i)) hW (vs:=[.agg (Znp i).toArray]) (by simp [VRL,VR,Idt.cells,Znp]) (fun c z hz=>by
    simp only [VR,VRL] at hz
    obtain ⟨vs,rfl,_,_,h1,rfl,_,_,h2,rfl,h3⟩:=hz
    have:vs = #[.string ⟨(whoT i).toArray⟩,.int .i64 (idE i)]:=by
      apply Array.ext'
      rw [h1,h2,h3]
    rw [this])
theorem Z9m {m:List UInt8} (hm:m.length≤1000000000) {w:World} (hW:Y5 w) :
    Calls Tryz.prog 58 #[.string ⟨m.toArray⟩] w fun e w'=>e=.returned (.int .i64 (Zlf m))∧Below w.heap.size w w' :=
  Zgt Tryz.func58 (by rfl) (by kernel_rfl) (Zng hm) hW (vs:=[.string ⟨m.toArray⟩]) (by simp [VRL,VR]) (fun c z hz=>by simpa [VR] using hz)
theorem Z2f {b:Bool} {n:Int} {w:World} (hW:Y5 w) :
    Calls Tryz.prog 56 #[.bool b,.int .i64 n] w fun e w'=>e=.returned (.int .i64 (if b=true then n else 0))∧Below w.heap.size w w' :=
  Zgt Tryz.func56 (by rfl) (by kernel_rfl) (Q2 (b:=b) (e:=n)) hW (vs:=[.bool b,.int .i64 n]) (by simp [VRL,VR]) (fun c z hz=>by simpa [VR] using hz)
theorem Zxr {a b c d:Int} {g:Nat} {w:World} (hW:Y5 w) (hg:g<w.heap.size) (h0:w.cell? ⟨g,0,none⟩=some (.int .i64 a)) (h1:w.cell? ⟨g,1,none⟩=some (.int .i64 b)) (h2:w.cell? ⟨g,2,none⟩=some (.int .i64 c)) (h3:w.cell? ⟨g,3,none⟩=some (.int .i64 d)) :
    Calls Tryz.prog 55 #[.slice (some ⟨g,0,none⟩) 4 4] w fun e w'=>e=.returned (.int .i64 (Zcz [a,b,c,d]))∧Below w.heap.size w w' :=
  Zgt Tryz.func55 (by rfl) (by kernel_rfl) (Zpn (a:=a) (b:=b) (c:=c) (d:=d)) hW (vs:=[.slice (some ⟨g,0,none⟩) 4 4]) (by
    simp only [VRL]
    refine ⟨_,_,rfl,?_,rfl⟩
    simp only [VR]
    refine ⟨rfl,.inr ⟨g,0,4,rfl,Ym7 _,hg,?_,?_⟩⟩
    · rintro (⟨s,e,o,he,_⟩|h)
      · simp [B0] at he
      · exact h.elim
    · simp only [VRC,VR]
      exact ⟨⟨_,h0,rfl⟩,⟨_,h1,rfl⟩,⟨_,h2,rfl⟩,⟨_,h3,rfl⟩,trivial⟩) (fun c z hz=>by simpa [VR] using hz)
def Zjl (s:Snap) (x:Value):List Value:=Lib.byteCells s.tree++([x]++Znp s.aut++Znp s.com++[.string ⟨s.msg.toArray⟩])
theorem Z9n (s:Snap) (x:Value):(Zjl s x).length=42:=by
  unfold Zjl
  rw [Yny,Lib.byteCells_length,s.ht];rfl
theorem Z9o (s:Snap) (x:Value) (i:Nat):(Zjl s x)[32+i]? = ([x]++Znp s.aut++Znp s.com++[Value.string ⟨s.msg.toArray⟩])[i]? := by
  unfold Zjl
  rw [List.getElem?_append_right (by rw [Lib.byteCells_length,s.ht];omega),Lib.byteCells_length,s.ht,Nat.add_sub_cancel_left]
end Cod
namespace Cod
open Go Go.RowKit Go.Proofs Go.Shelf
set_option maxRecDepth 1000000
theorem Z9p (l:List UInt8):(Lib.byteCells l).toArray.all (·.oneCell')=true:=by
  rw [Array.all_eq_true_iff_forall_mem]
  intro v hv
  exact Zg2 l v (by simpa using hv)
def Z2g (w:World) (B:Nat) (v:Value) (n:Nat) (xs:List Value):Prop:=∃ g cap cur el fr,v=.slice (some ⟨g,0,none⟩) n cap∧B≤g∧w.heap[g]? = some (.cells cur el fr)∧(fr.1=fr.2∨cur.size≤fr.1)∧n≤cap∧cur.size=cap∧cur.toList.take n=xs
theorem Yhe {w:World} {B:Nat} (hB:B≤w.heap.size) (e:TypeId) (l:List UInt8):Z2g (Lib.bytesWorld w e ⟨l.toArray⟩) B (.slice (some ⟨w.heap.size,0,none⟩) (⟨l.toArray⟩:ByteArray).size (grownCap w (⟨l.toArray⟩:ByteArray).size 0 e)) l.length (l.map fun b=>Value.int .u8 b.toNat)∧Below w.heap.size w (Lib.bytesWorld w e ⟨l.toArray⟩):=by
  have hz:(⟨l.toArray⟩:ByteArray).size=l.length:=by simp [ByteArray.size]
  have hcap:=grownCap_ge w l.length 0 e
  rw [hz]
  have hsz:(Lib.bytesCells w e ⟨l.toArray⟩).size=grownCap w l.length 0 e:=by
    unfold Lib.bytesCells
    rw [hz,Array.size_append,Array.size_map,Array.size_replicate,Yng]
    omega
  refine ⟨⟨w.heap.size,grownCap w l.length 0 e,_,e,_,rfl,hB,Lib.bytesWorld_at_new w e _,.inr (Ym7 _),hcap,hsz,?_⟩,?_⟩
  · unfold Lib.bytesCells
    rw [Array.toList_append,Array.toList_map]
    exact List.take_left' (by simp)
  · exact ⟨rfl,rfl,rfl,by rw [Lib.bytesWorld_size];omega,fun k hk=>Lib.bytesWorld_at_old w e _ k hk⟩
theorem Znq {T e:TypeId} {B b:Nat} {bs:List Value} {W W':World} (h:Lib.IsBuilderF T e B b bs W) (hb:Below W.heap.size W W'):Lib.IsBuilderF T e B b bs W':=by
  have lt:∀ {k o},W.heap[k]? = some o→k<W.heap.size:=fun h=>(Array.getElem?_eq_some_iff.1 h).1
  have key:∀ p,Lib.BuilderAtF T e B b p bs W→Lib.BuilderAtF T e B b p bs W':=by
    rintro p ⟨hB,v,hv,⟨hl,hr⟩,hne⟩
    refine ⟨hB,v,(hb.block b (lt hv)).trans hv,⟨hl,?_⟩,hne⟩
    rcases hr with hr|⟨g,cap,cur,fz,q1,q2,q3,q4⟩
    · exact .inl hr
    · exact .inr ⟨g,cap,cur,fz,q1,q2,(hb.block g (lt q3)).trans q3,q4⟩
  exact h.elim (fun x=>.inl (key _ x)) fun x=>.inr (key _ x)
set_option maxHeartbeats 6400000 in
theorem Z2h {s:Snap} (hs:Ze8 s) {p:Option Addr} {b0 o0 cap:Nat} {w:World} (hW:Y5 w) (hp:0<s.par.length→p=some ⟨b0,o0,none⟩) (hrow:∀ k,k<s.par.length→w.rangeAt b0 (o0+k*32) (Lib.byteCells (iat s.par k).b)) (hb0:0<s.par.length→b0<w.heap.size) :
    Calls Tryz.prog 22 #[.agg (Zjl s (.slice p s.par.length cap)).toArray] w fun e w'=>Below w.heap.size w w'∧((Zfe s≠0∧e=.returned (.tuple #[.slice none 0 0,.int .i64 (Zfe s)]))∨(Zfe s=0∧∃ v,e=.returned (.tuple #[v,.int .i64 0])∧Z2g w' w.heap.size v (Zbr s).length ((Zbr s).map fun b=>Value.int .u8 b.toNat))):=by
  have hi42:(Tryz.prog.info? 47).map (·.size)=some 42:=by kernel_rfl
  have hg:=Z9o s (.slice p s.par.length cap)
  have hl:=Z9n s (.slice p s.par.length cap)
  have hg0:∀ (j:Nat) v,(Lib.byteCells s.tree)[j]? = some v→(Zjl s (.slice p s.par.length cap))[j]? = some v:=by
    intro j v hj
    unfold Zjl
    rw [List.getElem?_append_left (List.getElem?_eq_some_iff.1 hj).1]
    exact hj
  generalize Zjl s (.slice p s.par.length cap)=vals at *
  go_enter Tryz.func22,Tryz.ntmps22
  go_upto_region 1 with fail
  have hcell:∀ (j:Nat) v,vals[j]? = some v→(w.alloc (Obj.cells vals.toArray 47)).cell? ⟨w.heap.size,j,none⟩=some v:=by
    intro j v hj
    rw [Lib.cell_of_heap (heap_alloc_new w _)]
    simpa using hj
  have hb0w:Below w.heap.size w (w.alloc (Obj.cells vals.toArray 47)):=(Below.refl _ w).alloc (Ym7 _) _
  have hn0:w.heap.size<(w.alloc (Obj.cells vals.toArray 47)).heap.size:=by
    show w.heap.size<(w.heap.push _).size
    rw [Yqd];omega
  generalize (w.alloc (Obj.cells vals.toArray 47))=W0 at *
  have hS0:Y5 W0:=hW.below hb0w
  have c32:=hcell 32 _ (hg 0)
  have c33:=hcell 33 _ (hg 1)
  have c34:=hcell 34 _ (hg 2)
  have c35:=hcell 35 _ (hg 3)
  have c36:=hcell 36 _ (hg 4)
  have c37:=hcell 37 _ (hg 5)
  have c38:=hcell 38 _ (hg 6)
  have c39:=hcell 39 _ (hg 7)
  have c40:=hcell 40 _ (hg 8)
  have c41:=hcell 41 _ (hg 9)
  have crow:∀ (j:Nat) v,(Lib.byteCells s.tree)[j]? = some v→W0.cell? ⟨w.heap.size,j,none⟩=some v:=fun j v h=>hcell j v (hg0 j v h)
  clear hcell hg hg0 hl hi42
  go_upto_region 2 with (go_at_call 53;refine (Zps (i:=s.aut) hS0).mono ?_;rintro e W1 ⟨rfl,hb1⟩)
  have k1:∀ {j v},W0.cell? ⟨w.heap.size,j,none⟩=some v→W1.cell? ⟨w.heap.size,j,none⟩=some v:=fun {j v} h=>(hb1.cell (p:=⟨w.heap.size,j,none⟩) hn0).trans h
  have d32:=k1 c32
  have d37:=k1 c37
  have d38:=k1 c38
  have d39:=k1 c39
  have d40:=k1 c40
  have d41:=k1 c41
  go_upto_region 3 with (go_at_call 53;refine (Zps (i:=s.com) (hS0.below hb1)).mono ?_;rintro e W2 ⟨rfl,hb2⟩)
  have k2:∀ {j v},W1.cell? ⟨w.heap.size,j,none⟩=some v→W2.cell? ⟨w.heap.size,j,none⟩=some v:=fun {j v} h=>(hb2.cell (p:=⟨w.heap.size,j,none⟩) (Ym9 hn0 hb1.size)).trans h
  have hS2:Y5 W2:=(hS0.below hb1).below hb2
  have hn2:w.heap.size<W2.heap.size:=Ym9 hn0 (Ym8 hb1.size hb2.size)
  have hS2d:Y5 W2.drew:=hS2.below ⟨rfl,rfl,rfl,Ym7 _,fun _ _=>rfl⟩
  have e32:=k2 d32
  have e41:=k2 d41
  have e32d:W2.drew.cell? ⟨w.heap.size,32,none⟩=some (.slice p s.par.length cap):=e32
  have e41d:W2.drew.cell? ⟨w.heap.size,41,none⟩=some (.string ⟨s.msg.toArray⟩):=e41
  obtain ⟨E1,hE1⟩:∃ E1:Int,(if decide (16<(s.par.length:Int))=true then (2:Int) else 0)=E1:=⟨_,rfl⟩
  have hwh:∀ {W:World},Y5 W→Calls Tryz.prog 56 #[.bool (decide (16<(s.par.length:Int))),.int .i64 2] W fun e w'=>e=.returned (.int .i64 E1)∧Below W.heap.size W w':=fun h=>by rw [←hE1];exact Z2f h
  have hcm:Zcz [E1,Zlf s.msg,idE s.aut,idE s.com]=Zfe s:=by rw [←hE1];rfl
  go_cut [8] from 24 (fun s8 wc=>s8=.int .i64 (Zfe s)∧Below W2.heap.size W2 wc)
  case first =>
    go_region_with (first
      | (go_at_call 56;refine (hwh hS2d).mono ?_;rintro e W3 ⟨rfl,hb3⟩;have hS3:Y5 W3:=hS2d.below hb3;have f41:W3.cell? ⟨w.heap.size,41,none⟩=some (.string ⟨s.msg.toArray⟩):=(hb3.cell (p:=⟨w.heap.size,41,none⟩) hn2).trans e41d)
      | (go_at_call 58;refine (Z9m hs.2 hS3).mono ?_;rintro e W4 ⟨rfl,hb4⟩;have hS4:Y5 W4:=hS3.below hb4)
      | (go_at_call 55;refine (Zxr (g:=W4.heap.size) (hS4.below ((Below.refl _ W4).alloc (Ym7 _) _)) (by show _<(W4.heap.push _).size;rw [Yqd];omega) (by rw [Lib.cell_of_heap (heap_alloc_new W4 _)];rfl) (by rw [Lib.cell_of_heap (heap_alloc_new W4 _)];rfl) (by rw [Lib.cell_of_heap (heap_alloc_new W4 _)];rfl) (by rw [Lib.cell_of_heap (heap_alloc_new W4 _)];rfl)).mono ?_;rintro e W5 ⟨rfl,hb5⟩))
    all_goals go_wp2
    all_goals go_meet
    all_goals
      refine ⟨rfl,?_⟩
      have x3:Below W2.heap.size W2 W3:=⟨hb3.os,hb3.tape,hb3.output,hb3.size,hb3.block⟩
      have x4:=x3.trans (J4 hb4 x3.size)
      have x5:∀ o,Below W2.heap.size W2 (W4.alloc o):=fun o=>x4.trans (J4 ((Below.refl _ W4).alloc (Ym7 _) o) x4.size)
      exact (x5 _).trans (J4 hb5 (x5 _).size)
  case rest =>
    obtain ⟨rfl,hb5⟩:=hcut
    clear hE1 hwh hcm
    have k5:∀ {j v},W2.cell? ⟨w.heap.size,j,none⟩=some v→wc.cell? ⟨w.heap.size,j,none⟩=some v:=fun {j v} h=>(hb5.cell (p:=⟨w.heap.size,j,none⟩) hn2).trans h
    have g32:=k5 e32
    have g41:=k5 e41
    have grow:∀ (j:Nat) v,(Lib.byteCells s.tree)[j]? = some v→wc.cell? ⟨w.heap.size,j,none⟩=some v:=fun j v h=>k5 (k2 (k1 (crow j v h)))
    have hnc:w.heap.size<wc.heap.size:=Ym9 hn2 hb5.size
    by_cases he:Zfe s=0
    · obtain ⟨hp16,hm16,hia,hic⟩:=Zg0 he
      have hwa:whoT s.aut=I5 s.aut:=if_pos hia
      have hwc:whoT s.com=I5 s.com:=if_pos hic
      have hla:=Zb8 hia
      have hlc:=Zb8 hic
      rw [hwa,hwc]
      go_upto_region 7 with fail
      have hbw:Lib.BuilderAtF 123 5 wc.heap.size wc.heap.size (.pointer none) [] (wc.alloc (Obj.cells #[Value.pointer none,Value.slice none 0 0] 123)):=by
        refine ⟨Ym7 _,.slice none 0 0,?_,World.ownsRowF_nil _ _ _ _,by simp [Value.ownBlock]⟩
        have:=heap_alloc_new wc (Obj.cells #[Value.pointer none,Value.slice none 0 0] 123)
        simpa using this
      have hb6:Below wc.heap.size wc (wc.alloc (Obj.cells #[Value.pointer none,Value.slice none 0 0] 123)):=(Below.refl _ wc).alloc (Ym7 _) _
      generalize (wc.alloc (Obj.cells #[Value.pointer none,Value.slice none 0 0] 123))=W6 at *
      have k6:∀ {j v},wc.cell? ⟨w.heap.size,j,none⟩=some v→W6.cell? ⟨w.heap.size,j,none⟩=some v:=fun {j v} h=>(hb6.cell (p:=⟨w.heap.size,j,none⟩) hnc).trans h
      have hr6:W6.rangeAt w.heap.size 0 (Lib.byteCells s.tree):=fun j v hj=>by rw [Yn1];exact k6 (grow j v hj)
      have hi35:∀ d:List UInt8,d.length=32→(Tryz.prog.info? 35).map (·.size)=some (Lib.byteCells d).length:=fun d hd=>by rw [Lib.byteCells_length,hd];kernel_rfl
      obtain ⟨T1,hT1⟩:∃ T1:ByteArray,T1=⟨(U0 s.tree).toArray⟩:=⟨_,rfl⟩
      have z1:T1.size=64:=by rw [hT1];show (U0 s.tree).toArray.size=64;rw [Yng,Zbf,s.ht]
      have hex1:∀ W,Calls Tryz.prog 59 #[.agg (Lib.byteCells s.tree).toArray] W fun e w'=>e=.returned (.string T1)∧Below W.heap.size W w':=fun W=>by rw [hT1];exact Zkk s.ht
      have t1:T1.data.toList=U0 s.tree:=by rw [hT1]
      clear hT1
      have g1:¬ 9223372036854775807<5+T1.size:=by omega
      have g2:¬ 9223372036854775807<5+T1.size+1:=by omega
      go_upto_region 8 with (first
        | (refine wpList_load_mid rfl 35 _ rfl w.heap.size 0 (by rfl) (Lib.byteCells s.tree) _ hr6 Tryz.underlying35 rfl (hi35 _ s.ht) ?_)
        | (go_at_call 59;refine (hex1 W6).mono ?_;rintro e W7 ⟨rfl,hb7⟩;have hI7:=Znq (show Lib.IsBuilderF 123 5 wc.heap.size wc.heap.size [] W6 from .inl hbw) hb7)
        | (go_at_call 70;refine (Zno wc.heap.size wc.heap.size [] _ W7 hI7 (by rw [Yok];simp only [ByteArray.size_append,z1];decide) (Ym8 hb6.size hb7.size)).mono ?_;rintro e W8 ⟨rfl,hA8,hb8,_⟩))
      obtain ⟨TB,hTB⟩:∃ TB:List UInt8,TB=Zxe++[32]++U0 s.tree++[10]:=⟨_,rfl⟩
      have hI8:Lib.IsBuilderF 123 5 wc.heap.size wc.heap.size (Lib.byteCells TB) W8:=by
        right
        have e:([]:List Value)++Lib.strCells (⟨#[116,114,101,101,32]⟩++T1++⟨#[10]⟩)=Lib.byteCells TB:=by
          rw [Yoz,hTB,←t1]
          simp [Lib.strCells,Lib.byteCells,ByteArray.data_append,Zxe]
        rw [←e];exact hA8
      have hlTB:TB.length=70:=by rw [hTB];simp [Zxe,Zbf,s.ht]
      have hbw8:Below wc.heap.size wc W8:=(hb6.trans (J4 hb7 hb6.size)).trans hb8
      have c8:W8.cell? ⟨w.heap.size,32,none⟩=some (.slice p s.par.length cap):=(hbw8.cell (p:=⟨w.heap.size,32,none⟩) hnc).trans g32
      clear hA8 hbw hI7 hr6 hex1 hb7 hb8
      have hww:Below w.heap.size w wc:=((hb0w.trans (J4 hb1 hb0w.size)).trans (J4 hb2 (Ym8 hb0w.size hb1.size))).trans (J4 hb5 (Ym8 hb0w.size (Ym8 hb1.size hb2.size)))
      go_wp2
      go_loopw [48] (fun i wr=>∃ k:Nat,i=.int .i64 k∧k≤s.par.length∧Lib.IsBuilderF 123 5 wc.heap.size wc.heap.size (Lib.byteCells (TB++Zfd (s.par.take k))) wr∧Below wc.heap.size wc wr) (fun i _=>s.par.length-(intOf i).toNat)
      case atStart=>exact ⟨0,rfl,Nat.zero_le _,by rw [List.take_zero,Zjh,Yp5];exact hI8,hbw8⟩
      case round =>
        obtain ⟨k,rfl,hk,hI,hbw⟩:=hrel
        by_cases hlt:k<s.par.length
        · obtain rfl:=hp (by omega)
          have hb0:=hb0 (by omega)
          have hrange:wr.rangeAt b0 (o0+k*32) (Lib.byteCells (iat s.par k).b):=fun j v hj=>(hbw.cell (p:=⟨b0,o0+k*32+j,none⟩) (Ym9 hb0 hww.size)).trans ((hww.cell (p:=⟨b0,o0+k*32+j,none⟩) hb0).trans (hrow k hlt j v hj))
          have hlen32:(Lib.byteCells (iat s.par k).b).length=32:=by rw [Lib.byteCells_length];exact (iat s.par k).h
          go_upto_region 11 with (first|(refine wpList_load_mid rfl 35 _ rfl b0 (o0+k*32) (by first|rfl|simp [Addr.add_mid]) (Lib.byteCells (iat s.par k).b) _ hrange Tryz.underlying35 rfl (hi35 _ (iat s.par k).h) ?_)|(refine wpList_store_mid rfl 35 _ _ rfl wr.heap.size 0 (Lib.byteCells (iat s.par k).b).toArray (by rfl) (by rfl) ?_ ?_ (Z9p _) ?_))
          · intro j hj
            first|rw [Yng,hlen32] at hj|rw [hlen32] at hj|skip
            refine ⟨?_,?_⟩
            · simp only [World.cell?,heap_alloc_new]
              rw [if_neg (by simp),Yn1,Array.getElem?_eq_getElem (by simpa using hj)];rfl
            · simp only [World.frozen?,heap_alloc_new]
              simp
          · first
              | (rw [Yng];exact hi35 _ (iat s.par k).h)
              | (have h0:=hi35 _ (iat s.par k).h;rw [hlen32] at h0;simpa using h0)
          · refine Zxm (p:=Code.wp _ _ _ _) (T:=35) (vals:=Lib.byteCells (iat s.par k).b) (by rw [hlen32];rfl) ?_
            intro W3 hva
            have hI3:=Znq hI hva.below
            have hr3:W3.rangeAt wr.heap.size 0 (Lib.byteCells (iat s.par k).b):=fun j v hj=>by rw [Yn1];exact hva.cell j v hj
            obtain ⟨T2,hT2⟩:∃ T2:ByteArray,T2=⟨(U0 (iat s.par k).b).toArray⟩:=⟨_,rfl⟩
            have z2:T2.size=64:=by rw [hT2];show (U0 (iat s.par k).b).toArray.size=64;rw [Yng,Zbf,(iat s.par k).h]
            have hex2:∀ W,Calls Tryz.prog 59 #[.agg (Lib.byteCells (iat s.par k).b).toArray] W fun e w'=>e=.returned (.string T2)∧Below W.heap.size W w':=fun W=>by rw [hT2];exact Zkk (iat s.par k).h
            have t2:T2.data.toList=U0 (iat s.par k).b:=by rw [hT2]
            clear hT2
            have g3:¬ 9223372036854775807<7+T2.size:=by omega
            have g4:¬ 9223372036854775807<7+T2.size+1:=by omega
            have htl:(Zfd (s.par.take k)).length=72*k:=by rw [Zne,Yne];omega
            go_wp2_with (first
              | (refine wpList_load_mid rfl 35 _ rfl wr.heap.size 0 (by rfl) (Lib.byteCells (iat s.par k).b) _ hr3 Tryz.underlying35 rfl (hi35 _ (iat s.par k).h) ?_)
              | (go_at_call 59;refine (hex2 W3).mono ?_;rintro e W7 ⟨rfl,hb7⟩;have hI7:=Znq hI3 hb7)
              | (go_at_call 70;refine (Zno wc.heap.size wc.heap.size _ _ W7 hI7 (by rw [Lib.byteCells_length,Yny,hlTB,htl];simp only [ByteArray.size_append,z2];have e7:(⟨#[112,97,114,101,110,116,32]⟩:ByteArray).size=7:=rfl;have e1:(⟨#[10]⟩:ByteArray).size=1:=rfl;omega) (Ym8 hbw.size (Ym8 hva.below.size hb7.size))).mono ?_;rintro e W8 ⟨rfl,hA8,hb8,_⟩))
            go_roundw
            case measure=>first|(simp only [intOf];omega)|(rw [Zdx (by omega)];simp only [intOf];omega)
            refine ⟨k+1,by first|rfl|(rw [Zdx (by omega)]),by omega,.inr ?_,((hbw.trans (J4 hva.below hbw.size)).trans (J4 hb7 (Ym8 hbw.size hva.below.size))).trans hb8⟩
            have e:Lib.byteCells (TB++Zfd (s.par.take k))++Lib.strCells (⟨#[112,97,114,101,110,116,32]⟩++T2++⟨#[10]⟩)=Lib.byteCells (TB++Zfd (s.par.take (k+1))):=by
              have hts:s.par.take (k+1)=s.par.take k++[iat s.par k]:=by rw [List.take_succ_eq_append_getElem hlt];simp [iat,List.getD,hlt]
              rw [hts,Z86,←t2]
              simp [Lib.strCells,Lib.byteCells,ByteArray.data_append,parW]
            rw [←e];exact hA8
        · obtain rfl:k=s.par.length:=by omega
          rw [List.take_length] at hI
          have r41:wr.cell? ⟨w.heap.size,41,none⟩=some (.string ⟨s.msg.toArray⟩):=(hbw.cell (p:=⟨w.heap.size,41,none⟩) hnc).trans g41
          have htl:=Zne s.par
          have q1:¬ 9223372036854775807<7+(I5 s.aut).length:=by omega
          have q2:¬ 9223372036854775807<7+(I5 s.aut).length+11:=by omega
          have q3:¬ 9223372036854775807<7+(I5 s.aut).length+11+(I5 s.com).length:=by omega
          have q4:¬ 9223372036854775807<7+(I5 s.aut).length+11+(I5 s.com).length+2:=by omega
          have q5:¬ 9223372036854775807<7+(I5 s.aut).length+11+(I5 s.com).length+2+s.msg.length:=by omega
          have za:(⟨(I5 s.aut).toArray⟩:ByteArray).size=(I5 s.aut).length:=by simp [ByteArray.size]
          have zc:(⟨(I5 s.com).toArray⟩:ByteArray).size=(I5 s.com).length:=by simp [ByteArray.size]
          have zm:(⟨s.msg.toArray⟩:ByteArray).size=s.msg.length:=by simp [ByteArray.size]
          have y7:(⟨#[97,117,116,104,111,114,32]⟩:ByteArray).size=7:=rfl
          have y11:(⟨#[10,99,111,109,109,105,116,116,101,114,32]⟩:ByteArray).size=11:=rfl
          have y2:(⟨#[10,10]⟩:ByteArray).size=2:=rfl
          go_upto_region 14 with (go_at_call 70;refine (Zno wc.heap.size wc.heap.size _ _ wr hI (by rw [Lib.byteCells_length,Yny,hlTB,htl];simp only [ByteArray.size_append,za,zc,zm,y7,y11,y2];omega) hbw.size).mono ?_;rintro e W8 ⟨rfl,hA8,hb8,_⟩)
          have hI9:Lib.IsBuilderF 123 5 wc.heap.size wc.heap.size (Lib.byteCells (Zbr s)) W8:=by
            right
            have e:Lib.byteCells (TB++Zfd s.par)++Lib.strCells (⟨#[97,117,116,104,111,114,32]⟩++⟨(I5 s.aut).toArray⟩++⟨#[10,99,111,109,109,105,116,116,101,114,32]⟩++⟨(I5 s.com).toArray⟩++⟨#[10,10]⟩++⟨s.msg.toArray⟩)=Lib.byteCells (Zbr s):=by
              unfold Zbr
              rw [←hTB]
              simp [Lib.strCells,Lib.byteCells,ByteArray.data_append,Znd,Zth]
            rw [←e];exact hA8
          clear hA8
          go_wp2_with (go_at_call 71;refine (Tryz.Builder_String_any_k _ _ _ _ hI9 (Ym8 hbw.size hb8.size)).mono ?_;rintro e W9 ⟨rfl,_,hb9,_⟩)
          obtain ⟨hnew,hbc⟩:=Yhe (w:=W9) (B:=w.heap.size) (Ym8 hww.size (Ym8 hbw.size (Ym8 hb8.size hb9.size))) 5 (Zbr s)
          rw [Lib.run_convert_string_bytes W9 9 23 5 _ Tryz.underlying9 Tryz.underlying23 Tryz.underlying5]
          have hz:(⟨(Zbr s).toArray⟩:ByteArray).size=(Zbr s).length:=by simp [ByteArray.size]
          generalize Lib.bytesWorld W9 5 ⟨(Zbr s).toArray⟩=WA at *
          generalize grownCap W9 (⟨(Zbr s).toArray⟩:ByteArray).size 0 5=CA at *
          simp only [Result.andThen]
          go_wp2
          go_ret2
          refine ⟨((((hww.trans (J4 hbw hww.size)).trans (J4 hb8 hww.size)).trans (J4 hb9 hww.size))).trans (J4 hbc (Ym8 hww.size (Ym8 hbw.size (Ym8 hb8.size hb9.size)))),.inr ⟨he,_,rfl,?_⟩⟩
          exact hnew
    · go_wp2
      go_ret2
      exact ⟨((hb0w.trans (J4 hb1 hb0w.size)).trans (J4 hb2 (Ym8 hb0w.size hb1.size))).trans (J4 hb5 (Ym8 hb0w.size (Ym8 hb1.size hb2.size))),.inl ⟨he,rfl⟩⟩
end Cod
namespace Cod
open Go Go.RowKit Go.Proofs
set_option maxRecDepth 100000
theorem Ztm {c:Ctx}:∀ {l:List UInt8} {vs:List Value},VRL c (A0 l) vs→vs=Lib.byteCells l:=by
  intro l
  induction l with
  | nil=>intro vs h;simpa [A0,VRL,Lib.byteCells] using h
  | cons b l ih =>
    intro vs h
    rw [Q1,VRL] at h
    obtain ⟨v,r,rfl,hv,hr⟩:=h
    rw [ih hr]
    simp only [VR] at hv
    rw [hv];rfl
def kHex:List AV→Option AV
  | [.agg cs]=>if Zey cs=true∧cs.length=32 then (bytesOf cs).map fun l=>.str (U0 l) else none
  | _=>none
theorem ok_hex {E:Env}:Ze1 Tryz.prog E F.Zih kHex:=by
  intro args v vs La w hg hv hr
  unfold kHex at hg
  split at hg
  · rename_i cs
    split at hg
    · rename_i hn
      obtain ⟨l,rfl⟩:=Zi2 hn.1
      rw [Zcv] at hg
      cases hg
      simp only [VRL] at hv
      obtain ⟨x,r,rfl,hx,rfl⟩:=hv
      simp only [VR] at hx
      obtain ⟨ws,rfl,hw⟩:=hx
      have hl:l.length=32:=by have:=hn.2;rwa [D8] at this
      have hws:ws=(Lib.byteCells l).toArray:=by
        have:=Ztm hw
        rw [←this]
      subst hws
      refine M1 Tryz.func59 (by rfl) (by kernel_rfl) ((Zkk hl).mono fun e w' ⟨he,hb⟩=>?_)
      exact ⟨_,he,fun c=>by simp [VR],hb⟩
    · cases hg
  · cases hg
end Cod
namespace Cod
open Go Go.RowKit Go.Proofs Go.Shelf
set_option maxRecDepth 100000
theorem Ymo:∀ {a b:List Id32},ids a=ids b→a=b:=by
  intro a
  induction a with
  | nil =>
    intro b h
    have:=congrArg List.length h
    rw [D9,D9] at this
    cases b with
    | nil=>rfl
    | cons=>simp at this
  | cons x a ih =>
    intro b h
    cases b with
    | nil=>have:=congrArg List.length h;rw [D9,D9] at this;simp at this
    | cons y b =>
      have h':x.cells++ids a=y.cells++ids b:=h
      obtain ⟨h1,h2⟩:=Yqe h' (by rw [Zlt,Zlt])
      have h3:x=y:=by
        have:=Zkf h1
        cases x;cases y
        simp only at this
        subst this
        rfl
      rw [h3,ih h2]
theorem pv_inj {v:AV} {a b:List Id32} (h:PV v a) (h':PV v b):a=b:=by
  rcases h with rfl|⟨rfl,rfl⟩
  · rcases h' with h'|⟨_,h'⟩
    · injection h' with h1 h2
      exact Ymo h1
    · cases h'
  · rcases h' with h'|⟨rfl,_⟩
    · cases h'
    · rfl
theorem Yhf {s s':Snap} {v v':AV} (hv:PV v s.par) (hv':PV v' s'.par) (h:snR s.tree v s.aut s.com s.msg=snR s'.tree v' s'.aut s'.com s'.msg):s=s':=by
  unfold snR at h
  obtain ⟨h1,h2⟩:=Yqe h (by rw [D8,D8,s.ht,s'.ht])
  have h0:=Zkf h1
  simp only [List.cons.injEq,AV.str.injEq,AV.int.injEq,true_and,and_true] at h2
  obtain ⟨rfl,h3,h4,h5,h6,h7,h8,h9,h10,h11⟩:=h2
  have hp:=pv_inj hv hv'
  obtain ⟨t,ps,⟨a1,a2,a3,a4⟩,⟨c1,c2,c3,c4⟩,m,ht⟩:=s
  obtain ⟨t',ps',⟨a1',a2',a3',a4'⟩,⟨c1',c2',c3',c4'⟩,m',ht'⟩:=s'
  simp only at *
  subst h0 hp h3 h4 h5 h6 h7 h8 h9 h10 h11
  rfl
open Classical in
noncomputable def Zpt (args:List AV) (σ:A1):Option (AV × A1) :=
  if h:∃ s:Snap,(∃ v,PV v s.par∧args=[.agg (snR s.tree v s.aut s.com s.msg)]) ∧ σ=[]∧Ze8 s then some (Zni (choose h)) else none
theorem Yhg {s:Snap} {v:AV} (hv:PV v s.par) (hs:Ze8 s):Zpt [.agg (snR s.tree v s.aut s.com s.msg)] []=some (Zni s):=by
  have hx:∃ s':Snap,(∃ v',PV v' s'.par∧[AV.agg (snR s.tree v s.aut s.com s.msg)]=[.agg (snR s'.tree v' s'.aut s'.com s'.msg)])∧([]:A1)=[]∧Ze8 s':=⟨s,⟨v,hv,rfl⟩,rfl,hs⟩
  unfold Zpt
  rw [dif_pos hx]
  have key:∀ s':Snap,(∃ v',PV v' s'.par∧[AV.agg (snR s.tree v s.aut s.com s.msg)]=[.agg (snR s'.tree v' s'.aut s'.com s'.msg)])→s'=s:=by
    rintro s' ⟨v',h1,h2⟩
    injection h2 with h3 _
    injection h3 with h4
    exact (Yhf hv h1 h4).symm
  rw [key _ (Classical.choose_spec hx).1]
theorem Z9q {c:Ctx}:∀ {xs ys:List AV} {vs:List Value},VRL c (xs++ys) vs→∃ a b,vs=a++b∧VRL c xs a∧VRL c ys b:=by
  intro xs
  induction xs with
  | nil=>intro ys vs h;exact ⟨[],vs,rfl,rfl,h⟩
  | cons x xs ih =>
    intro ys vs h
    rw [Yna,VRL] at h
    obtain ⟨v,r,rfl,h1,h2⟩:=h
    obtain ⟨a,b,rfl,h3,h4⟩:=ih h2
    exact ⟨v::a,b,rfl,by rw [VRL];exact ⟨v,a,rfl,h1,h3⟩,h4⟩
theorem Yhh {E:Env} {w w':World} {La:Lay} (h:Rel E w (I0 [] La) [] La [] La w) (hb:Below w.heap.size w w') {v':Value} {n:Nat} {xs:List Int} (hn:xs.length=n) (ho:Z2g w' w.heap.size v' n (xs.map (Value.int .u8))) :
    ∃ La',Rel E w (I0 [] La) [] La [(.r 0,⟨0,true,true,false,xs.map (AV.int .u8 ·)⟩)] La' w'∧VR (ctx [(.r 0,⟨0,true,true,false,xs.map (AV.int .u8 ·)⟩)] La' w') (.buf (.r 0) 0 0 n 1) v':=by
  obtain ⟨g,cap,cur,el,fr,rfl,hg,hcell,hfr,hcap,hsz,htake⟩:=ho
  refine ⟨_,Zgs h hb (pos:=some (g,0)) (fun g' o hh=>by cases hh;exact hg) ?_,?_⟩
  · simp only [V6,ctx,if_true]
    refine .inl ⟨⟨cur,el,fr,hcell,by simp only [Yov];omega,hfr⟩,Zwh fun i hi=>?_⟩
    show w'.cell? ⟨g,i,none⟩=_
    have h1:(cur.toList.take n)[i]? = some (Value.int .u8 (xs.getD i 0)):=by rw [htake];simp [List.getD,hi]
    rw [List.getElem?_take_of_lt (by omega)] at h1
    simp only [World.cell?,hcell]
    simpa using h1
  · simp only [VR]
    refine ⟨rfl,0,true,rfl,Ym7 _,fun _ _=>?_⟩
    simp only [M5,ctx,if_true]
    exact .inr ⟨cap,rfl,hcap,cur,el,fr,hcell,by omega⟩
theorem Ymp {E:Env} (hE:E.glob=T3):Zfy Tryz.prog E F.N7 Zpt:=by
  intro args σa v σr hk La w vs hr hv hup
  unfold Zpt at hk
  split at hk
  · rename_i hx
    obtain ⟨⟨pv,q0,q1⟩,q2,q3⟩:=Classical.choose_spec hx
    generalize Classical.choose hx=s at *
    subst q1 q2
    simp only [Option.some.injEq] at hk
    simp only [VRL] at hv
    obtain ⟨x,r,rfl,hx,rfl⟩:=hv
    simp only [VR] at hx
    obtain ⟨ws,rfl,hw⟩:=hx
    have hS:=Zwk hE hr
    unfold snR at hw
    obtain ⟨a,b,hab,h1,h2⟩:=Z9q hw
    have ha:=Ztm h1
    simp only [VRL,VR] at h2
    obtain ⟨x0,r0,rfl,hx0,_,_,rfl,rfl,_,_,rfl,rfl,_,_,rfl,rfl,_,_,rfl,rfl,_,_,rfl,rfl,_,_,rfl,rfl,_,_,rfl,rfl,_,_,rfl,rfl,_,_,rfl,rfl,rfl⟩:=h2
    have hcase:∃ p b0 o0 cap,x0=.slice p s.par.length cap∧(0<s.par.length→p=some ⟨b0,o0,none⟩)∧(0<s.par.length→b0<w.heap.size)∧∀ k,k<s.par.length→w.rangeAt b0 (o0+k*32) (Lib.byteCells (iat s.par k).b):=by
      rcases q0 with rfl|⟨h0,rfl⟩
      · simp only [VR] at hx0
        obtain ⟨_,h2⟩:=hx0
        rcases h2 with ⟨h3,h4,h5⟩|⟨b,o,cap,h3,_,h4,_,h5⟩
        · exact ⟨none,0,0,0,by rw [h5,h4],fun h=>by omega,fun h=>by omega,fun k hk=>by omega⟩
        · refine ⟨_,b,o,cap,h3,fun _=>rfl,fun _=>h4,fun k hk=>?_⟩
          have:=Zcg h5 (k*32) 32
          rw [Z36 hk] at this
          obtain ⟨vs,g1,g2⟩:=Zd2 this
          rw [Ztm g1] at g2
          exact g2
      · simp only [VR] at hx0
        exact ⟨none,0,0,0,by rw [hx0,h0];rfl,fun h=>by rw [h0] at h;simp at h,fun h=>by rw [h0] at h;simp at h,fun k hk=>by rw [h0] at hk;simp at hk⟩
    obtain ⟨p,b0,o0,cap,rfl,hp,hb0,hrow⟩:=hcase
    have hws:ws=(Zjl s (.slice p s.par.length cap)).toArray:=by
      apply Array.ext'
      rw [hab,ha]
      rfl
    subst hws
    refine M1 Tryz.func22 (by rfl) (by kernel_rfl) ((Z2h q3 hS hp hrow hb0).mono fun e w' ⟨hb,hw⟩=>?_)
    unfold Zni at hk
    rcases hw with ⟨he,rfl⟩|⟨he,v',rfl,hown⟩
    · rw [if_neg he] at hk
      cases hk
      exact ⟨_,rfl,La,Zgr hr hb,by simp [VR,VRL]⟩
    · rw [if_pos he] at hk
      cases hk
      have e1:((Zbr s).map fun b=>Value.int .u8 b.toNat)=((Zbr s).map fun b=>((b.toNat:Nat):Int)).map (Value.int .u8):=by rw [Yqf];rfl
      rw [e1] at hown
      obtain ⟨La',h1,h2⟩:=Yhh hr hb (by rw [Yov]) hown
      have e2:((Zbr s).map fun b=>((b.toNat:Nat):Int)).map (AV.int .u8 ·)=A0 (Zbr s):=by unfold A0;rw [Yqf];rfl
      rw [e2] at h1 h2
      refine ⟨_,rfl,La',h1,?_⟩
      simp only [VR,VRL]
      exact ⟨_,rfl,_,_,rfl,h2,_,_,rfl,rfl,rfl⟩
  · cases hk
end Cod
namespace Cod
open Go Go.RowKit Go.Proofs Go.Shelf
set_option maxRecDepth 100000
def Zjm (l:List Ety):AV × A1:=if Zdk l=0 then (.tup [.buf (.r 0) 0 0 (I1 l).length 1,.int .i64 0],[(.r 0,⟨0,true,true,false,A0 (I1 l)⟩)]) else (.tup [.nils,.int .i64 (Zdk l)],[])
open Classical in
noncomputable def Zpu (args:List AV) (σ:A1):Option (AV × A1) :=
  if h:∃ l,args=[.lst (Q9 l) l.length] ∧ σ=[]∧Zbs l then some (Zjm (choose h)) else none
theorem Ymq {a b:Ety} (h:a.cells=b.cells):a=b:=by
  unfold Ety.cells at h
  simp only [List.cons.injEq,AV.int.injEq,AV.str.injEq,true_and] at h
  obtain ⟨h1,h2,h30⟩:=h
  have h3:=Zkf h30
  clear h30
  cases a;cases b
  simp only at h1 h2 h3
  subst h1 h2 h3
  rfl
theorem Yhi:∀ {a b:List Ety},Q9 a=Q9 b→a=b:=by
  intro a
  induction a with
  | nil =>
    intro b h
    have:=congrArg List.length h
    rw [A2,A2] at this
    cases b with
    | nil=>rfl
    | cons=>simp at this
  | cons x a ih =>
    intro b h
    cases b with
    | nil=>have:=congrArg List.length h;rw [A2,A2] at this;simp at this
    | cons y b =>
      have h':x.cells++Q9 a=y.cells++Q9 b:=h
      obtain ⟨h1,h2⟩:=Yqe h' (by rw [Zcx,Zcx])
      rw [Ymq h1,ih h2]
theorem Yhj {l:List Ety} (h:Zbs l):Zpu [.lst (Q9 l) l.length] []=some (Zjm l):=by
  have hx:∃ l',[AV.lst (Q9 l) l.length]=[.lst (Q9 l') l'.length]∧([]:A1)=[]∧Zbs l':=⟨l,rfl,rfl,h⟩
  unfold Zpu
  rw [dif_pos hx]
  have key:∀ l',[AV.lst (Q9 l) l.length]=[.lst (Q9 l') l'.length]→l'=l:=by
    intro l' hc
    injection hc with hc1 _
    injection hc1 with h1 h2
    exact (Yhi h1).symm
  rw [key _ (Classical.choose_spec hx).1]
theorem Z9r {c':Lay} {w:World} {cs:List AV} {n:Nat} {v:Value} (h:VR (ctx [] c' w) (.lst cs n) v):VR (ctx [] LaE w) (.lst cs n) v:=by
  refine Zam ?_ _ _ h
  refine ⟨fun s g0 al h=>by simp [ctx,Zue,B0] at h,fun b _ h=>?_,fun b _ _=>rfl,fun _ _ h=>h,Ym7 _⟩
  rcases h with ⟨s,e,o,he,_⟩|h
  · simp [B0] at he
  · exact h.elim
theorem Ymr {E:Env} (hE:E.glob=T3):Zfy Tryz.prog E F.P2 Zpu:=by
  intro args σa v σr hk La w vs hr hv hup
  unfold Zpu at hk
  split at hk
  · rename_i hx
    obtain ⟨q1,q2,q3⟩:=Classical.choose_spec hx
    generalize Classical.choose hx=l at *
    subst q1 q2
    simp only [Option.some.injEq] at hk
    simp only [VRL] at hv
    obtain ⟨x,r,rfl,hx,rfl⟩:=hv
    have hS:=Zwk hE hr
    have hx':=Z9r hx
    have hcase:∃ p b0 o0 cap,x=.slice p l.length cap∧(0<l.length→p=some ⟨b0,o0,none⟩)∧(0<l.length→b0<w.heap.size)∧∀ k,k<l.length→w.rangeAt b0 (o0+k*34) (Zei (eat l k)):=by
      have h2:=hx'
      simp only [VR] at h2
      obtain ⟨_,h2⟩:=h2
      rcases h2 with ⟨h3,h4,h5⟩|⟨b,o,cap,h3,_,h4,_,h5⟩
      · exact ⟨none,0,0,0,by rw [h5,h4],fun h=>by omega,fun h=>by omega,fun k hk=>by omega⟩
      · refine ⟨_,b,o,cap,h3,fun _=>rfl,fun _=>h4,fun k hk=>?_⟩
        have:=Zcg h5 (k*34) 34
        rw [Zwp hk] at this
        exact Z9d this
    obtain ⟨p,b0,o0,cap,rfl,hp,hb0,hrow⟩:=hcase
    refine M1 Tryz.func11 (by rfl) (by kernel_rfl) ((Yhb q3 hS hx' hp hrow hb0).mono fun e w' ⟨hb,hw⟩=>?_)
    unfold Zjm at hk
    rcases hw with ⟨he,rfl⟩|⟨he,v',rfl,hown⟩
    · rw [if_neg he] at hk
      cases hk
      exact ⟨_,rfl,La,Zgr hr hb,by simp [VR,VRL]⟩
    · rw [if_pos he] at hk
      cases hk
      have e1:((I1 l).map fun b=>Value.int .u8 b.toNat)=((I1 l).map fun b=>((b.toNat:Nat):Int)).map (Value.int .u8):=by rw [Yqf];rfl
      rw [e1] at hown
      obtain ⟨La',h1,h2⟩:=Z3s hr hb hown
      have e2:((I1 l).map fun b=>((b.toNat:Nat):Int)).map (AV.int .u8 ·)=A0 (I1 l):=by unfold A0;rw [Yqf];rfl
      rw [e2] at h1 h2
      refine ⟨_,rfl,La',h1,?_⟩
      simp only [VR,VRL]
      exact ⟨_,rfl,_,_,rfl,h2,_,_,rfl,rfl,rfl⟩
  · cases hk
theorem Znr {E:Env} {fn:Nat→Option LFn} {tab:List (Nat × (List AV→A1→Option (AV × A1)))} {glob:Nat→List AV} {f:Nat} {h:List AV→A1→Option (AV × A1)} (hx:Ext E ⟨fn,fun g=>tab.lookup g,glob⟩) (h1:E.known f=none) (h2:E.fn f=none):Ext E ⟨fn,fun g=>((f,h)::tab).lookup g,glob⟩ where
  glob:=hx.glob
  fn:=hx.fn
  known g h' hk:=by
    show ((f,h)::tab).lookup g=some h'
    rw [Yqg]
    cases hb:g==f with
    | false=>exact hx.known g h' hk
    | true =>
      rw [beq_iff_eq] at hb
      rw [hb,h1] at hk
      cases hk
  none g hk:=by
    by_cases hb:g=f
    · right;rw [hb];exact h2
    · rcases hx.none g hk with hn|hn
      · left
        show ((f,h)::tab).lookup g=none
        rw [Yqg,beq_eq_false_iff_ne.2 hb]
        exact hn
      · exact .inr hn
noncomputable def Zkl:List (Nat × (List AV→A1→Option (AV × A1))):=(F.N7,Zpt)::(F.Zih,Q8 kHex)::(F.P2,Zpu)::Zeb
noncomputable def EE:Env:=⟨I4,fun f=>Zkl.lookup f,T3⟩
theorem Yms:Zky Tryz.prog EE:=Zml (by kernel_rfl) Z00 (fun _=>rfl)
theorem Z9s:Zep Tryz.prog EE:=by
  intro f h hf
  have hm:=Zfz (show Zkl.lookup f=some h from hf)
  unfold Zkl at hm
  rcases List.mem_cons.1 hm with hm|hm
  · cases hm;exact Ymp rfl
  rcases List.mem_cons.1 hm with hm|hm
  · cases hm;exact Zc3 ok_hex
  rcases List.mem_cons.1 hm with hm|hm
  · cases hm;exact Ymr rfl
  · exact Z3u (E:=EE) rfl (f,h) hm
theorem Yhk:Ext E ⟨I4,fun g=>Zeb.lookup g,T3⟩:=⟨rfl,rfl,fun _ _ hk=>hk,fun _ hk=>.inl hk⟩
theorem Zgf:Ext E EE:=Znr (Znr (Znr Yhk rfl rfl) rfl rfl) rfl rfl
theorem envP:EnvP EE:=⟨Zgf,fun {id} h=>by
  rw [S_eq,show EE.known F.Zih=some (Q8 kHex) from rfl]
  show Q8 kHex [.agg (A0 id)] []=_
  simp only [Q8,kHex,List.isEmpty_nil,if_true,Zmw,D8,h,and_self,Zcv,Ync]⟩
theorem envC:EnvC EE where
  toEnvP:=envP
  put {s v} hv hs:=by
    rw [S_eq,show EE.known F.N7=some Zpt from rfl]
    exact Yhg hv hs
theorem Zxs {f:Nat} {l:LFn} (hf:I4 f=some l) (hk:EE.known f=none) {args:List AV} {σ:A1} (hn:args.length=l.np):S EE f args σ=X EE l.results [.c l.code] ⟨params 0 args,σ⟩:=S_fn hk hf hn
theorem Ztn {l:List Ety} (h:Zbs l):S EE F.P2 [.lst (Q9 l) l.length] []=some (Zjm l):=by
  rw [S_eq,show EE.known F.P2=some Zpu from rfl]
  exact Yhj h
end Cod
namespace Cod
open Go
def wE:Ety:=⟨33188,[97],List.replicate 32 0,by simp⟩
theorem Zlx:I1 [wE]=[49,48,48,54,52,52,32,97,0]++List.replicate 32 0:=by decide +kernel
theorem wE_ent:Zdk [wE]=0:=by decide +kernel
theorem wE_ok:Zbs [wE]:=by
  refine ⟨fun i=>?_,fun i=>?_,by decide⟩
  · cases i with
    | zero=>decide
    | succ i=>show (default:Ety).name.length≤_;decide
  · cases i with
    | zero=>decide
    | succ i=>show _≤(default:Ety).mode∧(default:Ety).mode≤_;decide
theorem Ymt:S EE F.P2 [.lst (.int .i64 33188::.str [97]::A0 (List.replicate 32 0)) 1] []=some (.tup [.buf (.r 0) 0 0 41 1,.int .i64 0],[(.r 0,⟨0,true,true,false,A0 (I1 [wE])⟩)]):=by
  have h:=Ztn wE_ok
  have e:Zjm [wE]=(.tup [.buf (.r 0) 0 0 41 1,.int .i64 0],[(.r 0,⟨0,true,true,false,A0 (I1 [wE])⟩)]):=by
    unfold Zjm;rw [if_pos wE_ent,Zlx];rfl
  rw [e] at h
  exact h
theorem hdr_w:Zs3 3 3=[98,108,111,98,32,51,0]:=by
  unfold Zs3
  rw [show (3:Int)=((3:Nat):Int) from rfl,Lib.itoa_nonneg,Lib.decDigits_one (by omega)];rfl
theorem obj_w:Zm6 3 3=0:=by decide +kernel
theorem go_idW:S EE F.T7 [.agg [.int .i64 3,.lst (A0 [97,98,99]) 3]] []=some (.tup [.agg (A0 (Zle [98,108,111,98,32,51,0,97,98,99])),.int .i64 0],[]):=by
  have h:=K5 Zgf (go_oid (k:=3) (p:=[97,98,99]) (n:=3) rfl (by simp))
  unfold idV idF at h
  simp only [Ynn,Yok,Yn1,Nat.reduceAdd] at h
  rw [obj_w,if_pos rfl] at h
  rw [show (((3:Nat)):Int)=3 from rfl,hdr_w] at h
  exact h
theorem Zns:S EE F.U1 [] []=some (.bool true,[]):=by
  have h1:S EE F.T7 [.agg [.int .i64 3,.lst [.int .u8 97,.int .u8 98,.int .u8 99] 3]] []=some (.tup [.agg (A0 (Zle [98,108,111,98,32,51,0,97,98,99])),.int .i64 0],[]):=go_idW
  have h2:=Ymt
  have h3:S EE F.F5 [.lst [.int .u8 98,.int .u8 108,.int .u8 111,.int .u8 98,.int .u8 32,.int .u8 51,.int .u8 0,.int .u8 97,.int .u8 98,.int .u8 99] 10] []=some (.agg (A0 (Zle [98,108,111,98,32,51,0,97,98,99])),[]):=K5 Zgf (Yfs (p:=[98,108,111,98,32,51,0,97,98,99]) (by simp))
  have hs:(Zle [98,108,111,98,32,51,0,97,98,99]).length=32:=by unfold Zle;simp [Zw2]
  generalize Zle [98,108,111,98,32,51,0,97,98,99]=d at *
  have ht:(I1 [wE]).length=41:=by rw [Zlx];rfl
  have h9:sub (I1 [wE]) 0 9=[49,48,48,54,52,52,32,97,0]:=by rw [Zlx];rfl
  have h9':(I1 [wE]).take 9=[49,48,48,54,52,52,32,97,0]:=by rw [Zlx];rfl
  generalize I1 [wE]=tr at *
  have s3:sub [AV.int .u8 97,AV.int .u8 98,AV.int .u8 99] 0 3=[.int .u8 97,.int .u8 98,.int .u8 99]:=rfl
  have s10:sub [AV.int .u8 98,AV.int .u8 108,AV.int .u8 111,AV.int .u8 98,AV.int .u8 32,AV.int .u8 51,AV.int .u8 0,AV.int .u8 97,AV.int .u8 98,AV.int .u8 99] 0 10=[.int .u8 98,.int .u8 108,.int .u8 111,.int .u8 98,.int .u8 32,.int .u8 51,.int .u8 0,.int .u8 97,.int .u8 98,.int .u8 99]:=rfl
  have s34:sub (AV.int .i64 33188::AV.str [97]::A0 (List.replicate 32 0)) 0 34=AV.int .i64 33188::AV.str [97]::A0 (List.replicate 32 0):=rfl
  have o1:over (default:Ety).cells 0 [AV.int .i64 33188]=AV.int .i64 33188::AV.str []::A0 (List.replicate 32 0):=rfl
  have o2:over (AV.int .i64 33188::AV.str []::A0 (List.replicate 32 0)) 1 [AV.str [97]]=AV.int .i64 33188::AV.str [97]::A0 (List.replicate 32 0):=rfl
  have l34:(AV.int .i64 33188::AV.str [97]::A0 (List.replicate 32 0)).length=34:=rfl
  have o3:over (default:Ety).cells 0 (AV.int .i64 33188::AV.str [97]::A0 (List.replicate 32 0))=AV.int .i64 33188::AV.str [97]::A0 (List.replicate 32 0):=rfl
  have o4:over (A0 (List.replicate 32 0)) 0 (A0 d)=A0 d:=Z4 (by rw [hs];rfl)
  have q4:G3 [0,0,0,0,0,0,0,0,0,0,0,0,0,0,0,0,0,0,0,0,0,0,0,0,0,0,0,0,0,0,0,0] (A0 d) (A0 d)=some true:=by rw [Zhr hs hs];simp
  rw [Zxs Zqw rfl rfl]
  simp -dsimp (disch:=first|omega|(simp only [A4,A2,A8,treeB_length]<;>omega)|fail) only [L.U1,go_sem,reduceIte,reduceCtorEq,B9,C0,C1,C2,C3,C4,C5,C6,C7,C8,C9,D0,D1,D2,D3,D4,D5,D6,D7,A3,BYs,h1,h2,h3,ht,h9,h9',List.isEmpty_cons,Yp6,s3,s10,s34,o1,o2,o3,l34,o4,q4]
end Cod
namespace Cod
open Go
theorem Z4e (s:List UInt8) (hs:s.length≤1000000000000):∃ a b ok,S E F.O6 [.str s,.str [32]] []=some (.tup [.str a,.str b,.bool ok],[])∧a.length≤s.length∧b.length≤s.length ∧
    ((ok=true∧32∈s∧a=s.take (s.idxOf 32)∧b=s.drop (s.idxOf 32+1))∨(ok=false∧32∉s)):=by
  have h:=Z4a (c:=32) hs
  by_cases hc:(32:UInt8)∈s
  · rw [if_pos hc] at h
    exact ⟨_,_,_,h,by rw [Yne];omega,by rw [Ynf];omega,.inl ⟨rfl,hc,rfl,rfl⟩⟩
  · rw [if_neg hc] at h
    exact ⟨_,_,_,h,Ym7 _,by simp,.inr ⟨rfl,hc⟩⟩
def Zto (rest:List UInt8):Option (Ety × List UInt8) :=
  if 0∈rest∧32∈rest.take (rest.idxOf 0)∧(pi8 ((rest.take (rest.idxOf 0)).take ((rest.take (rest.idxOf 0)).idxOf 32))).2=0∧32≤(rest.drop (rest.idxOf 0+1)).length then
    some (mkT (pi8 ((rest.take (rest.idxOf 0)).take ((rest.take (rest.idxOf 0)).idxOf 32))).1 ((rest.take (rest.idxOf 0)).drop ((rest.take (rest.idxOf 0)).idxOf 32+1)) ((rest.drop (rest.idxOf 0+1)).take 32),(rest.drop (rest.idxOf 0+1)).drop 32)
  else none
def ptL:Nat→List UInt8→List Ety→Option (List Ety)
  | 0,rest,acc=>if rest=[] then some acc else none
  | m+1,rest,acc=>if rest=[] then some acc else match Zto rest with|none=>none|some (e,r)=>if acc.length=4096 then none else ptL m r (acc++[e])
theorem bld1 (m:Int):over (default:Ety).cells 0 [AV.int .i64 m]=(Ety.mk m [] (List.replicate 32 0) (by simp)).cells:=rfl
theorem bld2 (m:Int) (n:List UInt8):over (Ety.mk m [] (List.replicate 32 0) (by simp)).cells 1 [AV.str n]=(Ety.mk m n (List.replicate 32 0) (by simp)).cells:=rfl
theorem bld3 (m:Int) (n d:List UInt8) (h:d.length=32):over (Ety.mk m n (List.replicate 32 0) (by simp)).cells 2 (A0 d)=(mkT m n d).cells:=by
  rw [Z9h h]
  show over (AV.int .i64 m::AV.str n::A0 (List.replicate 32 0)) 2 (A0 d)=_
  rw [Zmu,Zmu,Z4 (by rw [h];simp)]
def Zjn:AV × A1:=(.tup [.buf (.r 0) 0 0 0 34,.int .i64 4],[(.r 0,⟨0,true,true,false,[]⟩)])
theorem Ymu {p:List UInt8} (k:List It) {rest:List UInt8} {acc:List Ety} (hr:rest.length≤1048576) (h0:rest≠[]) (ha:acc.length≤4096) :
    X EE [.tmp 2,.tmp 3] (.c L.E7.x0::.lp [0,4,5] L.E7.x0::.blk 0::k) ⟨[(0,.lst (A0 p) p.length),(4,.buf (.s 1000000 0) 0 0 (acc).length 34),(5,.lst (A0 rest) (rest).length)],[(.s 1000000 0,⟨0,true,true,false,Q9 acc⟩)]⟩ =
    match Zto rest with
    | none=>some Zjn
    | some (e,r)=>if acc.length=4096 then some Zjn else X EE [.tmp 2,.tmp 3] (.c L.E7.x0::.lp [0,4,5] L.E7.x0::.blk 0::k) ⟨[(0,.lst (A0 p) p.length),(4,.buf (.s 1000000 0) 0 0 ((acc++[e])).length 34),(5,.lst (A0 r) (r).length)],[(.s 1000000 0,⟨0,true,true,false,Q9 (acc++[e])⟩)]⟩:=by
  have hpos:0<rest.length:=by cases rest with|nil=>exact absurd rfl h0|cons=>simp
  have hc:=K5 Zgf (Ymf (l:=rest) rfl (by omega))
  rw [K4 L.E7.x0.eq_1]
  unfold Zto Zjn
  by_cases hz:(0:UInt8)∈rest
  · rw [if_pos hz] at hc
    have hi:=Yp7 hz
    have hth:(rest.take (rest.idxOf 0)).length=rest.idxOf 0:=by rw [Yne];omega
    have htl:(rest.drop (rest.idxOf 0+1)).length=rest.length-(rest.idxOf 0+1):=Ynf
    generalize rest.take (rest.idxOf 0)=head at *
    generalize rest.drop (rest.idxOf 0+1)=tail at *
    obtain ⟨a,b,ok,hs,hal,hbl,hsp⟩:=Z4e head (by omega)
    have hs:=K5 Zgf hs
    rw [←htl,←hth] at hc
    have hp:=K5 Zgf (Yes (s:=a) (by omega))
    unfold Zwa at hp
    rcases hsp with ⟨rfl,h32,rfl,rfl⟩|⟨rfl,h32⟩
    · generalize head.take (head.idxOf 32)=a at *
      generalize head.drop (head.idxOf 32+1)=b at *
      by_cases he:(pi8 a).2=0
      · rw [if_pos he] at hp
        by_cases h5:32≤tail.length
        · rw [if_pos ⟨hz,h32,he,h5⟩]
          generalize (pi8 a).1=v at *
          have g1:(tail.take 32).length=32:=by rw [Yne];omega
          have g2:=bld3 v b (tail.take 32) g1
          have g3:sub tail 32 (tail.drop 32).length=tail.drop 32:=B5 (by rw [Ynf];omega)
          have g6:(acc++[mkT v b (tail.take 32)]).length=acc.length+1:=by simp
          have g4:sub tail 0 32=tail.take 32:=by simp [sub]
          have g5:tail.length-32=(tail.drop 32).length:=List.length_drop.symm
          by_cases h6:acc.length=4096
          · simp -dsimp (disch:=first|omega|(simp only [A4,A2,A8]<;>omega)|fail) only [go_sem,reduceIte,reduceCtorEq,B9,C0,C1,C2,C3,C4,C5,C6,C7,C8,C9,D0,D1,D2,D3,D4,D5,D6,D7,A3,BYs,hc,hs,hp,h6]
          · simp -dsimp (disch:=first|omega|(simp only [A4,A2,A8]<;>omega)|fail) only [go_sem,reduceIte,reduceCtorEq,B9,C0,C1,C2,C3,C4,C5,C6,C7,C8,C9,D0,D1,D2,D3,D4,D5,D6,D7,A3,BYs,hc,hs,hp,h6,g1,g2,g3,g4,g5,g6,bld1,bld2,Z78]
        · rw [if_neg (fun x=>h5 x.2.2.2)]
          simp -dsimp (disch:=first|omega|(simp only [A4,A2,A8]<;>omega)|fail) only [go_sem,reduceIte,reduceCtorEq,B9,C0,C1,C2,C3,C4,C5,C6,C7,C8,C9,D0,D1,D2,D3,D4,D5,D6,D7,A3,BYs,hc,hs,hp,h5]
      · rw [if_neg he] at hp
        rw [if_neg (fun x=>he x.2.2.1)]
        simp -dsimp (disch:=first|omega|(simp only [A4,A2,A8]<;>omega)|fail) only [go_sem,reduceIte,reduceCtorEq,B9,C0,C1,C2,C3,C4,C5,C6,C7,C8,C9,D0,D1,D2,D3,D4,D5,D6,D7,A3,BYs,hc,hs,hp]
    · rw [if_neg (fun x=>h32 x.2.1)]
      by_cases he:(pi8 a).2=0
      · rw [if_pos he] at hp
        simp -dsimp (disch:=first|omega|(simp only [A4,A2,A8]<;>omega)|fail) only [go_sem,reduceIte,reduceCtorEq,B9,C0,C1,C2,C3,C4,C5,C6,C7,C8,C9,D0,D1,D2,D3,D4,D5,D6,D7,A3,BYs,hc,hs,hp]
      · rw [if_neg he] at hp
        simp -dsimp (disch:=first|omega|(simp only [A4,A2,A8]<;>omega)|fail) only [go_sem,reduceIte,reduceCtorEq,B9,C0,C1,C2,C3,C4,C5,C6,C7,C8,C9,D0,D1,D2,D3,D4,D5,D6,D7,A3,BYs,hc,hs,hp]
  · rw [if_neg hz] at hc
    obtain ⟨a,b,ok,hs,hal,hbl,hsp⟩:=Z4e rest (by omega)
    have hs:=K5 Zgf hs
    have hp:=K5 Zgf (Yes (s:=a) (by omega))
    unfold Zwa at hp
    rw [if_neg (fun x=>hz x.1)]
    by_cases he:(pi8 a).2=0
    · rw [if_pos he] at hp
      simp -dsimp (disch:=first|omega|(simp only [A4,A2,A8]<;>omega)|fail) only [go_sem,reduceIte,reduceCtorEq,B9,C0,C1,C2,C3,C4,C5,C6,C7,C8,C9,D0,D1,D2,D3,D4,D5,D6,D7,A3,BYs,hc,hs,hp]
    · rw [if_neg he] at hp
      simp -dsimp (disch:=first|omega|(simp only [A4,A2,A8]<;>omega)|fail) only [go_sem,reduceIte,reduceCtorEq,B9,C0,C1,C2,C3,C4,C5,C6,C7,C8,C9,D0,D1,D2,D3,D4,D5,D6,D7,A3,BYs,hc,hs,hp]
theorem Ztp (b:Bool) (x:Lib.NumEnd Nat) : -2147483648≤(pr8 b x).1∧(pr8 b x).1≤2147483647:=by
  cases x with
  | range=>cases b<;>exact ⟨by decide,by decide⟩
  | ok u =>
    cases b
    · by_cases h:2147483648≤u
      · rw [pr8,if_neg (by simp),if_pos h];exact ⟨by decide,by decide⟩
      · rw [pr8,if_neg (by simp),if_neg h];simp only;omega
    · by_cases h:2147483648<u
      · rw [pr8,if_pos rfl,if_pos h];exact ⟨by decide,by decide⟩
      · rw [pr8,if_pos rfl,if_neg h];simp only;omega
  | _=>exact ⟨by show (-2147483648:Int)≤0;omega,by show (0:Int)≤2147483647;omega⟩
theorem Z4f (l:List UInt8) : -2147483648≤(pi8 l).1∧(pi8 l).1≤2147483647:=by
  cases l with
  | nil=>exact ⟨by show (-2147483648:Int)≤0;omega,by show (0:Int)≤2147483647;omega⟩
  | cons c r =>
    by_cases h:c=43
    · rw [pi8,if_pos h];exact Ztp _ _
    · by_cases h':c=45
      · rw [pi8,if_neg h,if_pos h'];exact Ztp _ _
      · rw [pi8,if_neg h,if_neg h'];exact Ztp _ _
theorem Zxt {rest r:List UInt8} {e:Ety} (h:Zto rest=some (e,r)):r.length<rest.length∧e.name.length≤rest.length ∧ -2147483648≤e.mode∧e.mode≤2147483647:=by
  unfold Zto at h
  split at h
  · rename_i hc
    simp only [Option.some.injEq,Prod.mk.injEq] at h
    obtain ⟨rfl,rfl⟩:=h
    obtain ⟨h1,h2,h3,h4⟩:=hc
    have hi:=Yp7 h1
    have g1:((rest.drop (rest.idxOf 0+1)).take 32).length=32:=by rw [Yne];omega
    unfold mkT
    rw [dif_pos g1]
    refine ⟨by simp only [Ynf];omega,by simp only [Ynf,Yne];omega,?_,?_⟩
    · exact (Z4f _).1
    · exact (Z4f _).2
  · cases h
def Sm (acc:List Ety):Prop:=(∀ e∈acc,e.name.length≤1048576 ∧ -2147483648≤e.mode∧e.mode≤2147483647)∧acc.length≤4096
theorem Yhl {l:List Ety} (h:Sm l) (i:Nat):(eat l i).name.length≤1048576 ∧ -2147483648≤(eat l i).mode∧(eat l i).mode≤2147483647:=by
  unfold eat
  by_cases hi:i<l.length
  · have:=h.1 l[i] (List.getElem_mem hi)
    simpa [List.getD,hi] using this
  · rw [List.getD,List.getElem?_eq_none (by omega)]
    exact ⟨by decide,by decide,by decide⟩
theorem Ymv {l:List Ety} (h:Sm l):Zbs l:=⟨fun i=>by have:=(Yhl h i).1;omega,fun i=>by have:=(Yhl h i).2;omega,by have:=h.2;omega⟩
theorem Ymw {p:List UInt8} (k:List It):∀ (m:Nat) (rest:List UInt8) (acc:List Ety),rest.length≤m→rest.length≤1048576→Sm acc→∃ v,
    X EE [.tmp 2,.tmp 3] (.c L.E7.x0::.lp [0,4,5] L.E7.x0::.blk 0::k) ⟨[(0,.lst (A0 p) p.length),(4,.buf (.s 1000000 0) 0 0 (acc).length 34),(5,.lst (A0 rest) (rest).length)],[(.s 1000000 0,⟨0,true,true,false,Q9 acc⟩)]⟩ =
    match ptL m rest acc with
    | none=>some Zjn
    | some l=>X EE [.tmp 2,.tmp 3] k ⟨[(0,.lst (A0 p) p.length),(4,.buf (.s 1000000 0) 0 0 l.length 34),(5,.lst [] 0),(22,v)],[(.s 1000000 0,⟨0,true,true,false,Q9 l⟩)]⟩:=by
  intro m
  induction m with
  | zero =>
    intro rest acc hr _ ha
    obtain rfl:rest=[]:=List.eq_nil_of_length_eq_zero (by omega)
    refine ⟨.bool false,?_⟩
    rw [K4 L.E7.x0.eq_1,ptL,if_pos rfl]
    simp -dsimp (disch:=first|omega|(simp only [A4,A2,A8]<;>omega)|fail) only [go_sem,reduceIte,reduceCtorEq,B9,C0,C1,C2,C3,C4,C5,C6,C7,C8,C9,D0,D1,D2,D3,D4,D5,D6,D7,A3,BYs,Zk0]
  | succ m ih =>
    intro rest acc hr hr2 ha
    by_cases h0:rest=[]
    · subst h0
      refine ⟨.bool false,?_⟩
      rw [K4 L.E7.x0.eq_1,ptL,if_pos rfl]
      simp -dsimp (disch:=first|omega|(simp only [A4,A2,A8]<;>omega)|fail) only [go_sem,reduceIte,reduceCtorEq,B9,C0,C1,C2,C3,C4,C5,C6,C7,C8,C9,D0,D1,D2,D3,D4,D5,D6,D7,A3,BYs,Zk0]
    · rw [Ymu k hr2 h0 ha.2,ptL,if_neg h0]
      cases hc:Zto rest with
      | none=>exact ⟨.bool false,rfl⟩
      | some x =>
        obtain ⟨e,r⟩:=x
        obtain ⟨l1,l2,l3,l4⟩:=Zxt hc
        by_cases h6:acc.length=4096
        · exact ⟨.bool false,by simp only [if_pos h6]⟩
        · have hsm:Sm (acc++[e]):=by
            refine ⟨fun x hx=>?_,by rw [Yny,Ypg];have:=ha.2;omega⟩
            rcases List.mem_append.1 hx with hx|hx
            · exact ha.1 x hx
            · rw [List.mem_singleton.1 hx];exact ⟨by omega,l3,l4⟩
          obtain ⟨v,hv⟩:=ih r (acc++[e]) (by omega) (by omega) hsm
          exact ⟨v,by simp only [if_neg h6];exact hv⟩
theorem ptL_sm:∀ (m:Nat) (rest:List UInt8) (acc l:List Ety),rest.length≤1048576→Sm acc→ptL m rest acc=some l→Sm l:=by
  intro m
  induction m with
  | zero =>
    intro rest acc l _ ha h
    rw [ptL] at h
    split at h
    · cases h;exact ha
    · cases h
  | succ m ih =>
    intro rest acc l hr ha h
    rw [ptL] at h
    split at h
    · cases h;exact ha
    · cases hc:Zto rest with
      | none=>rw [hc] at h;cases h
      | some x =>
        obtain ⟨e,r⟩:=x
        obtain ⟨l1,l2,l3,l4⟩:=Zxt hc
        rw [hc] at h
        simp only at h
        split at h
        · cases h
        · rename_i h6
          refine ih r _ l (by omega) ?_ h
          refine ⟨fun x hx=>?_,by rw [Yny,Ypg];have:=ha.2;omega⟩
          rcases List.mem_append.1 hx with hx|hx
          · exact ha.1 x hx
          · rw [List.mem_singleton.1 hx];exact ⟨by omega,l3,l4⟩
def okTr (l:List Ety):AV × A1:=(.tup [.buf (.r 0) 0 0 l.length 34,.int .i64 0],[(.r 0,⟨0,true,true,false,Q9 l⟩)])
def Yhm:AV × A1:=(.tup [.buf (.r 0) 0 0 0 34,.int .i64 2],[(.r 0,⟨0,true,true,false,[]⟩)])
open Classical in
noncomputable def Z2i (p:List UInt8):AV × A1:=if 1048576<p.length then Yhm else match ptL p.length p [] with|none=>Zjn|some l=>if Zdk l=0∧I1 l=p then okTr l else Zjn
theorem Z9t {a b:List UInt8} {n m:Nat} (hn:n=a.length) (hm:m=b.length):S E F.J3 [.lst (A0 a) n,.lst (A0 b) m] []=some (.bool (a==b),[]):=by
  rw [S_of Zim rfl rfl]
  simp -dsimp (disch:=first|omega|(simp only [A4,A2,A8]<;>omega)|fail) only [L.J3,go_sem,reduceIte,reduceCtorEq,B9,C0,C1,C2,C3,C4,C5,C6,C7,C8,C9,D0,D1,D2,D3,D4,D5,D6,D7,A3,BYs]
theorem Ze9 {p:List UInt8} {n:Nat} (hn:n=p.length) (hp:p.length≤1000000000000):S EE F.E7 [.lst (A0 p) n] []=some (Z2i p):=by
  subst hn
  rw [Zxs Zqx rfl rfl]
  unfold Z2i
  by_cases hl:1048576<p.length
  · rw [if_pos hl]
    unfold Yhm
    simp -dsimp (disch:=first|omega|(simp only [A4,A2,A8]<;>omega)|fail) only [L.E7,go_sem,reduceIte,reduceCtorEq,B9,C0,C1,C2,C3,C4,C5,C6,C7,C8,C9,D0,D1,D2,D3,D4,D5,D6,D7,A3,BYs,hl]
  · rw [if_neg hl]
    have hsm0:Sm []:=⟨fun e he=>by simp at he,by simp⟩
    obtain ⟨v,h⟩:=Ymw (p:=p) [.c L.E7.r0] p.length p [] (Ym7 _) (by omega) hsm0
    rw [Ye3] at h
    simp only [Yok] at h
    simp -dsimp (disch:=first|omega|(simp only [A4,A2,A8]<;>omega)|fail) only [L.E7,go_sem,reduceIte,reduceCtorEq,B9,C0,C1,C2,C3,C4,C5,C6,C7,C8,C9,D0,D1,D2,D3,D4,D5,D6,D7,A3,BYs,hl]
    rw [h]
    cases hq:ptL p.length p [] with
    | none=>rfl
    | some l =>
      have hsm:=ptL_sm _ _ _ _ (by omega) hsm0 hq
      have ht:=Ztn (Ymv hsm)
      have hll:=hsm.2
      have hbe:=K5 Zgf (Z9t (a:=I1 l) (b:=p) (n:=(I1 l).length) (m:=p.length) rfl rfl)
      unfold Zjm at ht
      simp only
      by_cases he:Zdk l=0
      · rw [if_pos he] at ht
        have hts:=Zge he
        by_cases hb:I1 l=p
        · have hbb:(I1 l==p)=true:=by simp [hb]
          rw [hbb] at hbe
          rw [if_pos ⟨he,hb⟩]
          unfold okTr
          simp -dsimp (disch:=first|omega|(simp only [A4,A2,A8]<;>omega)|fail) only [L.E7.r0,go_sem,reduceIte,reduceCtorEq,B9,C0,C1,C2,C3,C4,C5,C6,C7,C8,C9,D0,D1,D2,D3,D4,D5,D6,D7,A3,BYs,ht,hbe]
        · have hbb:(I1 l==p)=false:=by simp [hb]
          rw [hbb] at hbe
          rw [if_neg (fun x=>hb x.2)]
          unfold Zjn
          simp -dsimp (disch:=first|omega|(simp only [A4,A2,A8]<;>omega)|fail) only [L.E7.r0,go_sem,reduceIte,reduceCtorEq,B9,C0,C1,C2,C3,C4,C5,C6,C7,C8,C9,D0,D1,D2,D3,D4,D5,D6,D7,A3,BYs,ht,hbe]
      · rw [if_neg he] at ht
        rw [if_neg (fun x=>he x.1)]
        unfold Zjn
        simp -dsimp (disch:=first|omega|(simp only [A4,A2,A8]<;>omega)|fail) only [L.E7.r0,go_sem,reduceIte,reduceCtorEq,B9,C0,C1,C2,C3,C4,C5,C6,C7,C8,C9,D0,D1,D2,D3,D4,D5,D6,D7,A3,BYs,ht,he]
end Cod
namespace Cod
open Go
end Cod
namespace Cod
open Go
theorem nmI_no {l:List Ety}:∀ (m i:Nat) (n:Bool),nmI l m i n=false→n=false∧∀ j,i≤j→j<i+m→Q7 (eat l j).name=true:=by
  intro m
  induction m with
  | zero=>intro i n h;exact ⟨h,fun j h1 h2=>by omega⟩
  | succ m ih =>
    intro i n h
    rw [nmI] at h
    obtain ⟨h1,h2⟩:=ih (i+1) _ h
    rw [Yoa,Yqh] at h1
    refine ⟨h1.1,fun j h3 h4=>?_⟩
    by_cases hj:j=i
    · rw [hj];exact h1.2
    · exact h2 j (by omega) (by omega)
theorem fmI_no {l:List Ety}:∀ (m i:Nat) (f:Bool),fmI l m i f=false→f=false∧∀ j,i≤j→j<i+m→Zdi (eat l j).mode=true:=by
  intro m
  induction m with
  | zero=>intro i n h;exact ⟨h,fun j h1 h2=>by omega⟩
  | succ m ih =>
    intro i n h
    rw [fmI] at h
    obtain ⟨h1,h2⟩:=ih (i+1) _ h
    rw [Yoa,Yoa,Yqh] at h1
    refine ⟨h1.1.1,fun j h3 h4=>?_⟩
    by_cases hj:j=i
    · rw [hj];exact h1.1.2
    · exact h2 j (by omega) (by omega)
def okE (e:Ety):Prop:=Q7 e.name=true∧Zdi e.mode=true
theorem Zjo {l:List Ety} (h:Zdk l=0):l.length≤4096∧∀ e∈l,okE e:=by
  have hl:l.length≤4096:=by
    apply Classical.byContradiction
    intro hn
    unfold Zdk at h
    rw [if_pos (by omega)] at h
    omega
  refine ⟨hl,?_⟩
  rw [Yml l hl] at h
  have h1:nmI l l.length 0 false=false∧fmI l l.length 0 false=false:=by
    generalize nmI l l.length 0 false=a at *
    generalize fmI l l.length 0 false=b at *
    generalize tw l l.length 0=c at *
    generalize decide (1048576<(I1 l).length)=d at *
    revert h
    cases a<;>cases b<;>cases c<;>cases d<;>decide
  intro e he
  obtain ⟨i,hi,rfl⟩:=List.getElem_of_mem he
  have e1:eat l i=l[i]:=by simp [eat,List.getD,hi]
  exact ⟨by rw [←e1];exact (nmI_no _ _ _ h1.1).2 i (by omega) (by omega),by rw [←e1];exact (fmI_no _ _ _ h1.2).2 i (by omega) (by omega)⟩
theorem Z2j {m:Int} (h:Zdi m=true):pi8 (Z5 m)=(m,0)∧octF (Z5 m)=m∧(32:UInt8)∉Z5 m∧(0:UInt8)∉Z5 m:=by
  unfold Zdi at h
  simp only [Bool.or_eq_true,decide_eq_true_eq] at h
  rcases h with rfl|rfl|rfl|rfl<;>decide +kernel
theorem Yhn {s:List UInt8} (h:Q7 s=true):(0:UInt8)∉s:=by
  unfold Q7 at h
  simp only [Ynm,Bool.not_eq_true',List.contains_eq_mem,decide_eq_false_iff_not] at h
  exact h.1.1.1.2
theorem Z9u (e:Ety) (r:List UInt8):Znn e++r=(Z5 e.mode++32::e.name)++0::(e.id++r):=by
  unfold Znn
  simp only [Ynz,Yna,Yoz]
theorem Yho {c:UInt8} {H T:List UInt8} (h:c∉H):(H++c::T).idxOf c=H.length:=by
  rw [List.idxOf_append,if_neg h,List.idxOf_cons_self,Yn1]
theorem Yhp (e:Ety):mkT e.mode e.name e.id=e:=by unfold mkT;rw [dif_pos e.hid]
theorem Yhq {e:Ety} (h:okE e) (r:List UInt8):Zto (Znn e++r)=some (e,r):=by
  obtain ⟨m1,m2,m3,m4⟩:=Z2j h.2
  have n0:=Yhn h.1
  have hid:=e.hid
  rw [Z9u]
  have hH:(0:UInt8)∉Z5 e.mode++32::e.name:=by
    simp only [List.mem_append,List.mem_cons,not_or]
    exact ⟨m4,by decide,n0⟩
  have i1:=Yho (T:=e.id++r) hH
  have i2:=Yho (T:=e.name) m3
  have t1:((Z5 e.mode++32::e.name)++0::(e.id++r)).take (Z5 e.mode++32::e.name).length=Z5 e.mode++32::e.name:=Yqi
  have t2:((Z5 e.mode++32::e.name)++0::(e.id++r)).drop ((Z5 e.mode++32::e.name).length+1)=e.id++r:=by
    rw [←Yn5,Yp8];rfl
  have t3:(Z5 e.mode++32::e.name).take (Z5 e.mode).length=Z5 e.mode:=Yqi
  have t4:(Z5 e.mode++32::e.name).drop ((Z5 e.mode).length+1)=e.name:=by
    rw [←Yn5,Yp8];rfl
  have t5:(e.id++r).take 32=e.id:=by rw [←hid];exact Yqi
  have t6:(e.id++r).drop 32=r:=by rw [←hid];exact Yp8
  unfold Zto
  rw [i1,t1,i2,t2,t3,t4,t5,t6,m1,Yhp]
  rw [if_pos]
  refine ⟨by simp,by simp,rfl,by rw [Yny,hid];omega⟩
theorem Yhr (e:Ety):0<(Znn e).length:=by rw [Zxn];omega
theorem Ymx:∀ (l:List Ety) (m:Nat) (acc:List Ety),(I1 l).length≤m→acc.length+l.length≤4096→(∀ e∈l,okE e)→ptL m (I1 l) acc=some (acc++l):=by
  intro l
  induction l with
  | nil =>
    intro m acc _ _ _
    cases m<;>rw [ptL,if_pos (show I1 []=[] from rfl),Yp5]
  | cons e l ih =>
    intro m acc hm ha ho
    have hp:=Yhr e
    rw [Zht,Yny] at hm
    rw [Ynn] at ha
    cases m with
    | zero=>omega
    | succ m =>
      have hne:I1 (e::l)≠[]:=by
        intro h
        rw [Zht] at h
        have:=congrArg List.length h
        rw [Yny,Yok] at this
        omega
      rw [ptL,if_neg hne,Zht,Yhq (ho e (List.mem_cons_self ..))]
      simp only
      rw [if_neg (by omega),ih m (acc++[e]) (by omega) (by rw [Yny,Ypg];omega) (fun x hx=>ho x (List.mem_cons_of_mem _ hx)),Ynz]
      rfl
def Zkm (p:List UInt8) (l:List Ety):Prop:=Zdk l=0∧I1 l=p
theorem pt_of {p:List UInt8} {l:List Ety} (h:Zkm p l):ptL p.length p []=some l:=by
  obtain ⟨h1,h2⟩:=Zjo h.1
  have:=Ymx l (I1 l).length [] (Ym7 _) (by simpa using h1) h2
  rw [h.2] at this
  exact this
theorem Znt {p:List UInt8} {l:List Ety} (h:Zkm p l) (hp:p.length≤1048576):Z2i p=okTr l:=by
  unfold Z2i
  rw [if_neg (by omega),pt_of h]
  exact if_pos h
theorem Ymy {p:List UInt8} (h:∀ l,¬ Zkm p l) (hp:p.length≤1048576):Z2i p=Zjn:=by
  unfold Z2i
  rw [if_neg (by omega)]
  cases ptL p.length p [] with
  | none=>rfl
  | some l=>exact if_neg (h l)
end Cod
namespace Cod
open Go
theorem Zxu (e:Ety):G3 [0,2,0,0,0,0,0,0,0,0,0,0,0,0,0,0,0,0,0,0,0,0,0,0,0,0,0,0,0,0,0,0,0,0] e.cells e.cells=some true:=by
  show G3 (0::2::[0,0,0,0,0,0,0,0,0,0,0,0,0,0,0,0,0,0,0,0,0,0,0,0,0,0,0,0,0,0,0,0]) (.int .i64 e.mode::.str e.name::A0 e.id) (.int .i64 e.mode::.str e.name::A0 e.id)=_
  rw [G3,if_pos rfl,G3,Zhr e.hid e.hid]
  simp
theorem se_l0 {l:List Ety} (hl:l.length≤4096):∀ (m i:Nat),i+m=l.length →
    X E [.tmp 4] (.c L.H5.x0::.lp [0,1,12,13] L.H5.x0::.blk 0::[.c L.H5.r0]) ⟨[(0,.lst (Q9 l) l.length),(1,.lst (Q9 l) l.length),(12,.int .i64 l.length),(13,.int .i64 i)],[]⟩=some (.bool true,[]):=by
  intro m
  induction m with
  | zero =>
    intro i h
    obtain rfl:i=l.length:=by omega
    rw [K4 L.H5.x0.eq_1]
    simp -dsimp (disch:=first|omega|(simp only [A4,A2,A8]<;>omega)|fail) only [go_sem,reduceIte,reduceCtorEq,B9,C0,C1,C2,C3,C4,C5,C6,C7,C8,C9,D0,D1,D2,D3,D4,D5,D6,D7,A3,L.H5.r0]
  | succ m ih =>
    intro i h
    have h1:=ih (i+1) (by omega)
    simp only [Ypo,Ypi] at h1
    have hq:=Zxu (eat l i)
    rw [K4 L.H5.x0.eq_1]
    simp -dsimp (disch:=first|omega|(simp only [A4,A2,A8]<;>omega)|fail) only [go_sem,reduceIte,reduceCtorEq,B9,C0,C1,C2,C3,C4,C5,C6,C7,C8,C9,D0,D1,D2,D3,D4,D5,D6,D7,A3,hq,h1,Ync,Bool.not_true]
theorem Ztq {l:List Ety} {n m:Nat} (hn:n=l.length) (hm:m=l.length) (hl:l.length≤4096):S E F.H5 [.lst (Q9 l) n,.lst (Q9 l) m] []=some (.bool true,[]):=by
  subst hn hm
  have h:=se_l0 hl l.length 0 (by omega)
  simp only [Ypi] at h
  rw [S_of Zq0 rfl rfl]
  simp -dsimp (disch:=first|omega|(simp only [A4,A2,A8]<;>omega)|fail) only [L.H5,go_sem,reduceIte,reduceCtorEq,B9,C0,C1,C2,C3,C4,C5,C6,C7,C8,C9,D0,D1,D2,D3,D4,D5,D6,D7,A3,h]
def parX (l:List Ety) (e:Int):AV × A1:=(.tup [.buf (.r 0) 0 0 l.length 34,.int .i64 e],[(.r 0,⟨0,true,true,false,Q9 l⟩)])
end Cod
namespace Cod
open Go
theorem Zxv (g:Lbl):G3 [0,0,0,0,0,0,0,0,0,0,0,0,0,0,0,0,0,0,0,0,0,0,0,0,0,0,0,0,0,0,0,0,0,2,2,2,0,0,2] g.cells g.cells=some true:=by
  have h:=Zjk 32 g.tgt g.tgt [0,2,2,2,0,0,2] [.int .i64 g.kind,.str g.name,.str g.who.name,.str g.who.email,.int .i64 g.who.time,.int .i64 g.who.zone,.str g.msg] [.int .i64 g.kind,.str g.name,.str g.who.name,.str g.who.email,.int .i64 g.who.time,.int .i64 g.who.zone,.str g.msg] g.htgt g.htgt
  show G3 (List.replicate 32 0++[0,2,2,2,0,0,2]) _ _=_
  unfold Lbl.cells
  rw [h]
  simp [G3]
theorem Z4g {g:Lbl} {p:List UInt8}:isL g p=true↔Z34 p g:=by
  unfold isL Z34
  rw [Ynm,decide_eq_true_eq,beq_iff_eq]
end Cod
namespace Cod
open Go
structure Lnk where
  kind:Int
  id:Id32
instance:Inhabited Lnk:=⟨⟨0,default⟩⟩
def Lnk.cells (l:Lnk):List AV:=.int .i64 l.kind::A0 l.id.b
theorem Zg3 (l:Lnk):l.cells.length=33:=by simp [Lnk.cells,D8,l.id.h]
theorem Zkn (l:Lnk):flats l.cells=true:=by simp [Lnk.cells,flats,L9,V0]
theorem Zpv (l:Lnk):I7 l.cells=true:=by simp [Lnk.cells,I7,R1,V1]
theorem Zpw (l:Lnk):leadss l.cells=false:=by simp [Lnk.cells,leadss,Q3,V2]
theorem Zxw (l:Lnk):refsOfs l.cells=[]:=by simp [Lnk.cells,refsOfs,X1,V3]
theorem Zxx (f:Site→Nat→Option (Site × Nat)) (l:Lnk):rens f l.cells=l.cells:=rens_flats _ (Zkn l)
theorem Ymz (l:Lnk):sub l.cells 0 33=l.cells:=Zde (by rw [Zg3];exact Ym7 _)
theorem lnk_0 (l:Lnk):l.cells[0]? = some (.int .i64 l.kind):=rfl
theorem lnk_id (l:Lnk):sub l.cells 1 32=A0 l.id.b:=by
  simp only [sub,Lnk.cells,List.drop_succ_cons,List.drop_zero]
  exact List.take_of_length_le (by rw [D8,l.id.h];exact Ym7 _)
def Zgg (l:List Lnk):List AV:=l.flatMap Lnk.cells
def lat (l:List Lnk) (i:Nat):Lnk:=l.getD i default
theorem Zk8 (l:List Lnk):(Zgg l).length=33*l.length:=Zf3 Zg3 l
theorem Z9v (a:List Lnk) (s:Lnk):Zgg a++s.cells=Zgg (a++[s]):=by simp [Zgg]
theorem Z2k (l:List Lnk):flats (Zgg l)=true:=Ze2 Zkn l
theorem Z2l (l:List Lnk):I7 (Zgg l)=true:=Ze3 Zpv l
theorem Zxy (l:List Lnk):leadss (Zgg l)=false:=Zdt Zpw l
theorem Ztr (l:List Lnk):refsOfs (Zgg l)=[]:=Zgu Zxw l
theorem Z9w (f:Site→Nat→Option (Site × Nat)) (l:List Lnk):rens f (Zgg l)=Zgg l:=Zgv f (Zxx f) l
theorem Yhs {l:List Lnk} {i:Nat} (h:i<l.length):sub (Zgg l) (i*33) 33=(lat l i).cells:=Zmy Zg3 h
theorem Zts {l:List Lnk}:sub (Zgg l) 0 (l.length*33)=Zgg l:=Zde (by rw [Zk8];omega)
theorem lnk0z:X6 [.int .i64 0] (zer (.int .u8 0) 32)=(Lnk.mk 0 default).cells:=rfl
theorem lnk0c:AV.int .i64 0::A0 (List.replicate 32 0)=(Lnk.mk 0 default).cells:=rfl
theorem lnk0d:[AV.int .i64 0]++A0 (List.replicate 32 0)=(Lnk.mk 0 default).cells:=rfl
theorem over_k (k x:Int) (d:Id32):over (Lnk.mk k d).cells 0 [.int .i64 x]=(Lnk.mk x d).cells:=rfl
theorem Yht (k:Int) (d e:Id32):over (Lnk.mk k d).cells 1 (A0 e.b)=(Lnk.mk k e).cells:=by
  show over (AV.int .i64 k::A0 d.b) 1 (A0 e.b)=_
  rw [Zmu,Z4 (by rw [e.h,d.h])]
  rfl
theorem Yhu (a b:Lnk):over a.cells 0 b.cells=b.cells:=by
  unfold over;exact Zgp (by rw [Zg3,Zg3])
attribute [go_sem] Zg3 Zkn Zpv Zpw Zxw Zxx Ymz lnk_0 lnk_id Zk8 Z2k Z2l Zxy Ztr Z9w Yhs Zts lnk0z lnk0c lnk0d over_k Yht Yhu Z9v
def Znx (l:List Ety):List Lnk:=l.map fun e=>⟨if e.mode=16384 then 2 else 3,⟨e.id,e.hid⟩⟩
def Zxz (e:Ety):Lnk:=⟨if e.mode=16384 then 2 else 3,⟨e.id,e.hid⟩⟩
theorem Z9x {l:List Ety} {i:Nat} (h:i<l.length):Znx (l.drop i)=Zxz (eat l i)::Znx (l.drop (i+1)):=by
  have e:l.drop i=eat l i::l.drop (i+1):=by rw [List.drop_eq_getElem_cons h];simp [eat,List.getD,h]
  rw [e];rfl
theorem lk_ent {E:Env} {l:List Ety} (hps:l.length≤1000000) (k:List It):∀ (m i:Nat) (a:List Lnk),i+m=l.length→a.length≤i+1 →
    X E [.tmp 2,.tmp 3] (.c L.H0.x1::.lp [5,65,66,67] L.H0.x1::.blk 3::k) ⟨[(5,.buf (.s 1000000 0) 0 0 (a).length 33),(65,.buf (.s 1000000 1) 0 0 l.length 34),(66,.int .i64 l.length),(67,.int .i64 (i:Int))],[(.s 1000000 0,⟨0,true,true,false,Zgg (a)⟩),(.s 1000000 1,⟨0,true,true,false,Q9 l⟩)]⟩ =
    X E [.tmp 2,.tmp 3] k ⟨[(5,.buf (.s 1000000 0) 0 0 ((a++Znx (l.drop i))).length 33),(65,.buf (.s 1000000 1) 0 0 l.length 34),(66,.int .i64 l.length),(67,.int .i64 (l.length:Int))]++[(68,.bool false)],[(.s 1000000 0,⟨0,true,true,false,Zgg (a++Znx (l.drop i))⟩),(.s 1000000 1,⟨0,true,true,false,Q9 l⟩)]⟩:=by
  intro m
  induction m with
  | zero =>
    intro i a hi hl
    obtain rfl:i=l.length:=by omega
    rw [K4 L.H0.x1.eq_1,List.drop_length,show Znx []=[] from rfl,Yp5]
    simp only [Yna,Yoz]
    simp -dsimp (disch:=first|omega|(simp only [A4]<;>omega)|fail) only [go_sem,reduceIte,reduceCtorEq,B9,C0,C1,C2,C3,C4,C5,C6,C7,C8,C9,D0,D1,D2,D3,D4,D5,D6,D7,A3,BYs]
  | succ m ih =>
    intro i a hi hl
    have hlt:i<l.length:=by omega
    have hx:=(eat l i).hid
    have h1:=ih (i+1) (a++[Zxz (eat l i)]) (by omega) (by rw [Yny,Ypg];omega)
    have e:a++Znx (l.drop i)=a++[Zxz (eat l i)]++Znx (l.drop (i+1)):=by
      rw [Z9x hlt,Ynz];rfl
    rw [e,←h1]
    simp only [Ypo,Ypi]
    have hln:(a++[Zxz (eat l i)]).length=a.length+1:=by simp
    have od:∀ k (d:Id32),over (Lnk.mk k d).cells 1 (A0 (eat l i).id)=(Lnk.mk k ⟨(eat l i).id,hx⟩).cells:=fun k d=>Yht k d ⟨(eat l i).id,hx⟩
    conv=>lhs;rw [K4 L.H0.x1.eq_1]
    by_cases hm:(eat l i).mode=16384
    · have ek:Zxz (eat l i)=⟨2,⟨(eat l i).id,hx⟩⟩:=by unfold Zxz;rw [if_pos hm]
      rw [ek] at hln ⊢
      simp -dsimp (disch:=first|omega|(simp only [A4]<;>omega)|fail) only [go_sem,reduceIte,reduceCtorEq,B9,C0,C1,C2,C3,C4,C5,C6,C7,C8,C9,D0,D1,D2,D3,D4,D5,D6,D7,A3,BYs,od,hx,hm,hln,Yp6]
    · have ek:Zxz (eat l i)=⟨3,⟨(eat l i).id,hx⟩⟩:=by unfold Zxz;rw [if_neg hm]
      rw [ek] at hln ⊢
      simp -dsimp (disch:=first|omega|(simp only [A4]<;>omega)|fail) only [go_sem,reduceIte,reduceCtorEq,B9,C0,C1,C2,C3,C4,C5,C6,C7,C8,C9,D0,D1,D2,D3,D4,D5,D6,D7,A3,BYs,od,hx,hm,hln,Yp6]
end Cod

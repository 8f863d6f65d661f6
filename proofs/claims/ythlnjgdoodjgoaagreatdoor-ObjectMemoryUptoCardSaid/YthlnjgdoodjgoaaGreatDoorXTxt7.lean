/- object.PutCommit, walked in the model: what the walk needs. -/
import Derived.Deep.Cut
import Derived.Deep.RegionWith
import Derived.Lib.ConvBytes
import Derived.Test.YthlnjgdoodjgoaaGreatDoorXTxt5
import Derived.Test.YthlnjgdoodjgoaaGreatDoorXTxt6
import Derived.Test.YthlnjgdoodjgoaaGreatDoorXTxt1
import Derived.Test.YthlnjgdoodjgoaaGreatDoorXTxt4
import Derived.Test.YthlnjgdoodjgoaaGreatDoorXTxt3
import Derived.Test.YthlnjgdoodjgoaaGreatDoorXTxt2
set_option linter.unusedSimpArgs false
set_option linter.unusedVariables false
open List renaming append_assoc → Yqy, append_inj → Yti, append_nil → Ys4, cons_append → Yp9, drop_drop → Yq4, drop_left → Ys8, eq_nil_of_length_eq_zero → Yqu, idxOf_lt_length_of_mem → Ys7, length_append → Yqx, length_cons → Yqm, length_drop → Yqe, length_map → Yru, length_nil → Yrj, length_singleton → Ysf, length_take → Yqd, lookup_cons → Ytk, map_map → Ytj, mem_append → Yse, mem_cons_of_mem → Yra, mem_cons_self → Ysx, nil_append → Yry, size_toArray → Yqf, take_left → Ys9
open Nat renaming le_refl → Yp6, le_trans → Yp7, lt_of_lt_of_le → Yp8, zero_add → Yq0
open Int renaming cast_ofNat_Int → Ysh
open Bool renaming not_eq_false' → Ytl, or_eq_false_iff → Yq9
open Option renaming map_some → Yqb
open Array renaming size_push → Yth
open Nat renaming reduceEqDiff → B2, reduceAdd → B3, reduceSub → B4, reduceMul → B5, reduceDiv → B6, reduceMod → B7, reduceBEq → B8, reduceLeDiff → B9, reduceLT → C0
open Int renaming reduceEq → C1, reduceNe → C2, reduceLT → C3, reduceLE → C4, reduceBEq → C5, reduceBNe → C6, reduceToNat → C7, reduceAdd → C8, reduceSub → C9, reduceMul → D0, reduceNeg → A4
namespace Cod
open Go Go.RowKit Go.Proofs Go.Shelf
set_option maxRecDepth 1000000
def whoT (i:Idt):List UInt8:=if E6 i=true then H7 i else []
theorem Ypj {i:Idt}:S E F.Zap [.agg i.cells] []=some (.tup [.str (whoT i),.int .i64 (idE i)],[]):=by
  rw [go_who]
  unfold Z33 whoT idE
  cases E6 i<;>rfl
def Zop (i:Idt):List Value:=[.string ⟨i.name.toArray⟩,.string ⟨i.email.toArray⟩,.int .i64 i.time,.int .i64 i.zone]
theorem Zqw {i:Idt} {w:World} (hW:Zar w) :
    Calls Tryz.prog 53 #[.agg (Zop i).toArray] w fun e w'=>e=.returned (.tuple #[.string ⟨(whoT i).toArray⟩,.int .i64 (idE i)])∧Below w.heap.size w w' :=
  Zhr Tryz.func53 (by rfl) (by kernel_rfl) (Ypj (i:=i)) hW (vs:=[.agg (Zop i).toArray]) (by simp [VRL,VR,Idt.cells,Zop]) (fun c z hz=>by
    simp only [VR,VRL] at hz
    obtain ⟨vs,rfl,_,_,h1,rfl,_,_,h2,rfl,h3⟩:=hz
    have:vs = #[.string ⟨(whoT i).toArray⟩,.int .i64 (idE i)]:=by
      apply Array.ext'
      rw [h1,h2,h3]
    rw [this])
theorem Yb4 {m:List UInt8} (hm:m.length≤1000000000) {w:World} (hW:Zar w) :
    Calls Tryz.prog 58 #[.string ⟨m.toArray⟩] w fun e w'=>e=.returned (.int .i64 (Zli m))∧Below w.heap.size w w' :=
  Zhr Tryz.func58 (by rfl) (by kernel_rfl) (Z4f hm) hW (vs:=[.string ⟨m.toArray⟩]) (by simp [VRL,VR]) (fun c z hz=>by simpa [VR] using hz)
theorem Z4t {b:Bool} {n:Int} {w:World} (hW:Zar w) :
    Calls Tryz.prog 56 #[.bool b,.int .i64 n] w fun e w'=>e=.returned (.int .i64 (if b=true then n else 0))∧Below w.heap.size w w' :=
  Zhr Tryz.func56 (by rfl) (by kernel_rfl) (X3 (b:=b) (e:=n)) hW (vs:=[.bool b,.int .i64 n]) (by simp [VRL,VR]) (fun c z hz=>by simpa [VR] using hz)
theorem Zzz {a b c d:Int} {g:Nat} {w:World} (hW:Zar w) (hg:g<w.heap.size) (h0:w.cell? ⟨g,0,none⟩=some (.int .i64 a)) (h1:w.cell? ⟨g,1,none⟩=some (.int .i64 b)) (h2:w.cell? ⟨g,2,none⟩=some (.int .i64 c)) (h3:w.cell? ⟨g,3,none⟩=some (.int .i64 d)) :
    Calls Tryz.prog 55 #[.slice (some ⟨g,0,none⟩) 4 4] w fun e w'=>e=.returned (.int .i64 (Zbc [a,b,c,d]))∧Below w.heap.size w w' :=
  Zhr Tryz.func55 (by rfl) (by kernel_rfl) (Ybq (a:=a) (b:=b) (c:=c) (d:=d)) hW (vs:=[.slice (some ⟨g,0,none⟩) 4 4]) (by
    simp only [VRL]
    refine ⟨_,_,rfl,?_,rfl⟩
    simp only [VR]
    refine ⟨rfl,.inr ⟨g,0,4,rfl,Yp6 _,hg,?_,?_⟩⟩
    · rintro (⟨s,e,o,he,_⟩|h)
      · simp [A9] at he
      · exact h.elim
    · simp only [VRC,VR]
      exact ⟨⟨_,h0,rfl⟩,⟨_,h1,rfl⟩,⟨_,h2,rfl⟩,⟨_,h3,rfl⟩,trivial⟩) (fun c z hz=>by simpa [VR] using hz)
def Zkm (s:Snap) (x:Value):List Value:=Lib.byteCells s.tree++([x]++Zop s.aut++Zop s.com++[.string ⟨s.msg.toArray⟩])
theorem Yb5 (s:Snap) (x:Value):(Zkm s x).length=42:=by
  unfold Zkm
  rw [Yqx,Lib.byteCells_length,s.ht];rfl
theorem Yb6 (s:Snap) (x:Value) (i:Nat):(Zkm s x)[32+i]? = ([x]++Zop s.aut++Zop s.com++[Value.string ⟨s.msg.toArray⟩])[i]? := by
  unfold Zkm
  rw [List.getElem?_append_right (by rw [Lib.byteCells_length,s.ht];omega),Lib.byteCells_length,s.ht,Nat.add_sub_cancel_left]
end Cod
namespace Cod
open Go Go.RowKit Go.Proofs Go.Shelf
set_option maxRecDepth 1000000
theorem Yb7 (l:List UInt8):(Lib.byteCells l).toArray.all (·.oneCell')=true:=by
  rw [Array.all_eq_true_iff_forall_mem]
  intro v hv
  exact Zhw l v (by simpa using hv)
def Z4u (w:World) (B:Nat) (v:Value) (n:Nat) (xs:List Value):Prop:=∃ g cap cur el fr,v=.slice (some ⟨g,0,none⟩) n cap∧B≤g∧w.heap[g]? = some (.cells cur el fr)∧(fr.1=fr.2∨cur.size≤fr.1)∧n≤cap∧cur.size=cap∧cur.toList.take n=xs
theorem Yj9 {w:World} {B:Nat} (hB:B≤w.heap.size) (e:TypeId) (l:List UInt8):Z4u (Lib.bytesWorld w e ⟨l.toArray⟩) B (.slice (some ⟨w.heap.size,0,none⟩) (⟨l.toArray⟩:ByteArray).size (grownCap w (⟨l.toArray⟩:ByteArray).size 0 e)) l.length (l.map fun b=>Value.int .u8 b.toNat)∧Below w.heap.size w (Lib.bytesWorld w e ⟨l.toArray⟩):=by
  have hz:(⟨l.toArray⟩:ByteArray).size=l.length:=by simp [ByteArray.size]
  have hcap:=grownCap_ge w l.length 0 e
  rw [hz]
  have hsz:(Lib.bytesCells w e ⟨l.toArray⟩).size=grownCap w l.length 0 e:=by
    unfold Lib.bytesCells
    rw [hz,Array.size_append,Array.size_map,Array.size_replicate,Yqf]
    omega
  refine ⟨⟨w.heap.size,grownCap w l.length 0 e,_,e,_,rfl,hB,Lib.bytesWorld_at_new w e _,.inr (Yp6 _),hcap,hsz,?_⟩,?_⟩
  · unfold Lib.bytesCells
    rw [Array.toList_append,Array.toList_map]
    exact List.take_left' (by simp)
  · exact ⟨rfl,rfl,rfl,by rw [Lib.bytesWorld_size];omega,fun k hk=>Lib.bytesWorld_at_old w e _ k hk⟩
theorem Zoq {T e:TypeId} {B b:Nat} {bs:List Value} {W W':World} (h:Lib.IsBuilderF T e B b bs W) (hb:Below W.heap.size W W'):Lib.IsBuilderF T e B b bs W':=by
  have lt:∀ {k o},W.heap[k]? = some o→k<W.heap.size:=fun h=>(Array.getElem?_eq_some_iff.1 h).1
  have key:∀ p,Lib.BuilderAtF T e B b p bs W→Lib.BuilderAtF T e B b p bs W':=by
    rintro p ⟨hB,v,hv,⟨hl,hr⟩,hne⟩
    refine ⟨hB,v,(hb.block b (lt hv)).trans hv,⟨hl,?_⟩,hne⟩
    rcases hr with hr|⟨g,cap,cur,fz,q1,q2,q3,q4⟩
    · exact .inl hr
    · exact .inr ⟨g,cap,cur,fz,q1,q2,(hb.block g (lt q3)).trans q3,q4⟩
  exact h.elim (fun x=>.inl (key _ x)) fun x=>.inr (key _ x)
set_option maxHeartbeats 6400000 in
theorem Z4v {s:Snap} (hs:Zil s) {p:Option Addr} {b0 o0 cap:Nat} {w:World} (hW:Zar w) (hp:0<s.par.length→p=some ⟨b0,o0,none⟩) (hrow:∀ k,k<s.par.length→w.rangeAt b0 (o0+k*32) (Lib.byteCells (iat s.par k).b)) (hb0:0<s.par.length→b0<w.heap.size) :
    Calls Tryz.prog 22 #[.agg (Zkm s (.slice p s.par.length cap)).toArray] w fun e w'=>Below w.heap.size w w'∧((Ze6 s≠0∧e=.returned (.tuple #[.slice none 0 0,.int .i64 (Ze6 s)]))∨(Ze6 s=0∧∃ v,e=.returned (.tuple #[v,.int .i64 0])∧Z4u w' w.heap.size v (Zbg s).length ((Zbg s).map fun b=>Value.int .u8 b.toNat))):=by
  have hi42:(Tryz.prog.info? 47).map (·.size)=some 42:=by kernel_rfl
  have hg:=Yb6 s (.slice p s.par.length cap)
  have hl:=Yb5 s (.slice p s.par.length cap)
  have hg0:∀ (j:Nat) v,(Lib.byteCells s.tree)[j]? = some v→(Zkm s (.slice p s.par.length cap))[j]? = some v:=by
    intro j v hj
    unfold Zkm
    rw [List.getElem?_append_left (List.getElem?_eq_some_iff.1 hj).1]
    exact hj
  generalize Zkm s (.slice p s.par.length cap)=vals at *
  go_enter Tryz.func22,Tryz.ntmps22
  go_upto_region 1 with fail
  have hcell:∀ (j:Nat) v,vals[j]? = some v→(w.alloc (Obj.cells vals.toArray 47)).cell? ⟨w.heap.size,j,none⟩=some v:=by
    intro j v hj
    rw [Lib.cell_of_heap (heap_alloc_new w _)]
    simpa using hj
  have hb0w:Below w.heap.size w (w.alloc (Obj.cells vals.toArray 47)):=(Below.refl _ w).alloc (Yp6 _) _
  have hn0:w.heap.size<(w.alloc (Obj.cells vals.toArray 47)).heap.size:=by
    show w.heap.size<(w.heap.push _).size
    rw [Yth];omega
  generalize (w.alloc (Obj.cells vals.toArray 47))=W0 at *
  have hS0:Zar W0:=hW.below hb0w
  have c32:=hcell 32 _ (hg 0)
  have c33:=hcell 33 _ (hg 1)
  have c34:=hcell 34 _ (hg 2)
  have c35:=hcell 35 _ (hg 3)
  have c36:=hcell 36 _ (hg 4)
  have c37:=hcell 37 _ (hg 5)
  have c38:=hcell 38 _ (hg 6)
  have c39:=hcell 39 _ (hg 7)
  have c40:=hcell 40 _ (hg 8)
  have c41:=hcell 41 _ (hg 9)
  have crow:∀ (j:Nat) v,(Lib.byteCells s.tree)[j]? = some v→W0.cell? ⟨w.heap.size,j,none⟩=some v:=fun j v h=>hcell j v (hg0 j v h)
  clear hcell hg hg0 hl hi42
  go_upto_region 2 with (go_at_call 53;refine (Zqw (i:=s.aut) hS0).mono ?_;rintro e W1 ⟨rfl,hb1⟩)
  have k1:∀ {j v},W0.cell? ⟨w.heap.size,j,none⟩=some v→W1.cell? ⟨w.heap.size,j,none⟩=some v:=fun {j v} h=>(hb1.cell (p:=⟨w.heap.size,j,none⟩) hn0).trans h
  have d32:=k1 c32
  have d37:=k1 c37
  have d38:=k1 c38
  have d39:=k1 c39
  have d40:=k1 c40
  have d41:=k1 c41
  go_upto_region 3 with (go_at_call 53;refine (Zqw (i:=s.com) (hS0.below hb1)).mono ?_;rintro e W2 ⟨rfl,hb2⟩)
  have k2:∀ {j v},W1.cell? ⟨w.heap.size,j,none⟩=some v→W2.cell? ⟨w.heap.size,j,none⟩=some v:=fun {j v} h=>(hb2.cell (p:=⟨w.heap.size,j,none⟩) (Yp8 hn0 hb1.size)).trans h
  have hS2:Zar W2:=(hS0.below hb1).below hb2
  have hn2:w.heap.size<W2.heap.size:=Yp8 hn0 (Yp7 hb1.size hb2.size)
  have hS2d:Zar W2.drew:=hS2.below ⟨rfl,rfl,rfl,Yp6 _,fun _ _=>rfl⟩
  have e32:=k2 d32
  have e41:=k2 d41
  have e32d:W2.drew.cell? ⟨w.heap.size,32,none⟩=some (.slice p s.par.length cap):=e32
  have e41d:W2.drew.cell? ⟨w.heap.size,41,none⟩=some (.string ⟨s.msg.toArray⟩):=e41
  obtain ⟨E1,hE1⟩:∃ E1:Int,(if decide (16<(s.par.length:Int))=true then (2:Int) else 0)=E1:=⟨_,rfl⟩
  have hwh:∀ {W:World},Zar W→Calls Tryz.prog 56 #[.bool (decide (16<(s.par.length:Int))),.int .i64 2] W fun e w'=>e=.returned (.int .i64 E1)∧Below W.heap.size W w':=fun h=>by rw [←hE1];exact Z4t h
  have hcm:Zbc [E1,Zli s.msg,idE s.aut,idE s.com]=Ze6 s:=by rw [←hE1];rfl
  go_cut [8] from 24 (fun s8 wc=>s8=.int .i64 (Ze6 s)∧Below W2.heap.size W2 wc)
  case first =>
    go_region_with (first
      | (go_at_call 56;refine (hwh hS2d).mono ?_;rintro e W3 ⟨rfl,hb3⟩;have hS3:Zar W3:=hS2d.below hb3;have f41:W3.cell? ⟨w.heap.size,41,none⟩=some (.string ⟨s.msg.toArray⟩):=(hb3.cell (p:=⟨w.heap.size,41,none⟩) hn2).trans e41d)
      | (go_at_call 58;refine (Yb4 hs.2 hS3).mono ?_;rintro e W4 ⟨rfl,hb4⟩;have hS4:Zar W4:=hS3.below hb4)
      | (go_at_call 55;refine (Zzz (g:=W4.heap.size) (hS4.below ((Below.refl _ W4).alloc (Yp6 _) _)) (by show _<(W4.heap.push _).size;rw [Yth];omega) (by rw [Lib.cell_of_heap (heap_alloc_new W4 _)];rfl) (by rw [Lib.cell_of_heap (heap_alloc_new W4 _)];rfl) (by rw [Lib.cell_of_heap (heap_alloc_new W4 _)];rfl) (by rw [Lib.cell_of_heap (heap_alloc_new W4 _)];rfl)).mono ?_;rintro e W5 ⟨rfl,hb5⟩))
    all_goals go_wp2
    all_goals go_meet
    all_goals
      refine ⟨rfl,?_⟩
      have x3:Below W2.heap.size W2 W3:=⟨hb3.os,hb3.tape,hb3.output,hb3.size,hb3.block⟩
      have x4:=x3.trans (K4 hb4 x3.size)
      have x5:∀ o,Below W2.heap.size W2 (W4.alloc o):=fun o=>x4.trans (K4 ((Below.refl _ W4).alloc (Yp6 _) o) x4.size)
      exact (x5 _).trans (K4 hb5 (x5 _).size)
  case rest =>
    obtain ⟨rfl,hb5⟩:=hcut
    clear hE1 hwh hcm
    have k5:∀ {j v},W2.cell? ⟨w.heap.size,j,none⟩=some v→wc.cell? ⟨w.heap.size,j,none⟩=some v:=fun {j v} h=>(hb5.cell (p:=⟨w.heap.size,j,none⟩) hn2).trans h
    have g32:=k5 e32
    have g41:=k5 e41
    have grow:∀ (j:Nat) v,(Lib.byteCells s.tree)[j]? = some v→wc.cell? ⟨w.heap.size,j,none⟩=some v:=fun j v h=>k5 (k2 (k1 (crow j v h)))
    have hnc:w.heap.size<wc.heap.size:=Yp8 hn2 hb5.size
    by_cases he:Ze6 s=0
    · obtain ⟨hp16,hm16,hia,hic⟩:=Zgb he
      have hwa:whoT s.aut=H7 s.aut:=if_pos hia
      have hwc:whoT s.com=H7 s.com:=if_pos hic
      have hla:=Zcg hia
      have hlc:=Zcg hic
      rw [hwa,hwc]
      go_upto_region 7 with fail
      have hbw:Lib.BuilderAtF 123 5 wc.heap.size wc.heap.size (.pointer none) [] (wc.alloc (Obj.cells #[Value.pointer none,Value.slice none 0 0] 123)):=by
        refine ⟨Yp6 _,.slice none 0 0,?_,World.ownsRowF_nil _ _ _ _,by simp [Value.ownBlock]⟩
        have:=heap_alloc_new wc (Obj.cells #[Value.pointer none,Value.slice none 0 0] 123)
        simpa using this
      have hb6:Below wc.heap.size wc (wc.alloc (Obj.cells #[Value.pointer none,Value.slice none 0 0] 123)):=(Below.refl _ wc).alloc (Yp6 _) _
      generalize (wc.alloc (Obj.cells #[Value.pointer none,Value.slice none 0 0] 123))=W6 at *
      have k6:∀ {j v},wc.cell? ⟨w.heap.size,j,none⟩=some v→W6.cell? ⟨w.heap.size,j,none⟩=some v:=fun {j v} h=>(hb6.cell (p:=⟨w.heap.size,j,none⟩) hnc).trans h
      have hr6:W6.rangeAt w.heap.size 0 (Lib.byteCells s.tree):=fun j v hj=>by rw [Yq0];exact k6 (grow j v hj)
      have hi35:∀ d:List UInt8,d.length=32→(Tryz.prog.info? 35).map (·.size)=some (Lib.byteCells d).length:=fun d hd=>by rw [Lib.byteCells_length,hd];kernel_rfl
      obtain ⟨T1,hT1⟩:∃ T1:ByteArray,T1=⟨(O9 s.tree).toArray⟩:=⟨_,rfl⟩
      have z1:T1.size=64:=by rw [hT1];show (O9 s.tree).toArray.size=64;rw [Yqf,Zae,s.ht]
      have hex1:∀ W,Calls Tryz.prog 59 #[.agg (Lib.byteCells s.tree).toArray] W fun e w'=>e=.returned (.string T1)∧Below W.heap.size W w':=fun W=>by rw [hT1];exact Zlm s.ht
      have t1:T1.data.toList=O9 s.tree:=by rw [hT1]
      clear hT1
      have g1:¬ 9223372036854775807<5+T1.size:=by omega
      have g2:¬ 9223372036854775807<5+T1.size+1:=by omega
      go_upto_region 8 with (first
        | (refine wpList_load_mid rfl 35 _ rfl w.heap.size 0 (by rfl) (Lib.byteCells s.tree) _ hr6 Tryz.underlying35 rfl (hi35 _ s.ht) ?_)
        | (go_at_call 59;refine (hex1 W6).mono ?_;rintro e W7 ⟨rfl,hb7⟩;have hI7:=Zoq (show Lib.IsBuilderF 123 5 wc.heap.size wc.heap.size [] W6 from .inl hbw) hb7)
        | (go_at_call 70;refine (Zoo wc.heap.size wc.heap.size [] _ W7 hI7 (by rw [Yrj];simp only [ByteArray.size_append,z1];decide) (Yp7 hb6.size hb7.size)).mono ?_;rintro e W8 ⟨rfl,hA8,hb8,_⟩))
      obtain ⟨TB,hTB⟩:∃ TB:List UInt8,TB=Zmj++[32]++O9 s.tree++[10]:=⟨_,rfl⟩
      have hI8:Lib.IsBuilderF 123 5 wc.heap.size wc.heap.size (Lib.byteCells TB) W8:=by
        right
        have e:([]:List Value)++Lib.strCells (⟨#[116,114,101,101,32]⟩++T1++⟨#[10]⟩)=Lib.byteCells TB:=by
          rw [Yry,hTB,←t1]
          simp [Lib.strCells,Lib.byteCells,ByteArray.data_append,Zmj]
        rw [←e];exact hA8
      have hlTB:TB.length=70:=by rw [hTB];simp [Zmj,Zae,s.ht]
      have hbw8:Below wc.heap.size wc W8:=(hb6.trans (K4 hb7 hb6.size)).trans hb8
      have c8:W8.cell? ⟨w.heap.size,32,none⟩=some (.slice p s.par.length cap):=(hbw8.cell (p:=⟨w.heap.size,32,none⟩) hnc).trans g32
      clear hA8 hbw hI7 hr6 hex1 hb7 hb8
      have hww:Below w.heap.size w wc:=((hb0w.trans (K4 hb1 hb0w.size)).trans (K4 hb2 (Yp7 hb0w.size hb1.size))).trans (K4 hb5 (Yp7 hb0w.size (Yp7 hb1.size hb2.size)))
      go_wp2
      go_loopw [48] (fun i wr=>∃ k:Nat,i=.int .i64 k∧k≤s.par.length∧Lib.IsBuilderF 123 5 wc.heap.size wc.heap.size (Lib.byteCells (TB++Zcu (s.par.take k))) wr∧Below wc.heap.size wc wr) (fun i _=>s.par.length-(intOf i).toNat)
      case atStart=>exact ⟨0,rfl,Nat.zero_le _,by rw [List.take_zero,Zel,Ys4];exact hI8,hbw8⟩
      case round =>
        obtain ⟨k,rfl,hk,hI,hbw⟩:=hrel
        by_cases hlt:k<s.par.length
        · obtain rfl:=hp (by omega)
          have hb0:=hb0 (by omega)
          have hrange:wr.rangeAt b0 (o0+k*32) (Lib.byteCells (iat s.par k).b):=fun j v hj=>(hbw.cell (p:=⟨b0,o0+k*32+j,none⟩) (Yp8 hb0 hww.size)).trans ((hww.cell (p:=⟨b0,o0+k*32+j,none⟩) hb0).trans (hrow k hlt j v hj))
          have hlen32:(Lib.byteCells (iat s.par k).b).length=32:=by rw [Lib.byteCells_length];exact (iat s.par k).h
          go_upto_region 11 with (first|(refine wpList_load_mid rfl 35 _ rfl b0 (o0+k*32) (by first|rfl|simp [Addr.add_mid]) (Lib.byteCells (iat s.par k).b) _ hrange Tryz.underlying35 rfl (hi35 _ (iat s.par k).h) ?_)|(refine wpList_store_mid rfl 35 _ _ rfl wr.heap.size 0 (Lib.byteCells (iat s.par k).b).toArray (by rfl) (by rfl) ?_ ?_ (Yb7 _) ?_))
          · intro j hj
            first|rw [Yqf,hlen32] at hj|rw [hlen32] at hj|skip
            refine ⟨?_,?_⟩
            · simp only [World.cell?,heap_alloc_new]
              rw [if_neg (by simp),Yq0,Array.getElem?_eq_getElem (by simpa using hj)];rfl
            · simp only [World.frozen?,heap_alloc_new]
              simp
          · first
              | (rw [Yqf];exact hi35 _ (iat s.par k).h)
              | (have h0:=hi35 _ (iat s.par k).h;rw [hlen32] at h0;simpa using h0)
          · refine Zzt (p:=Code.wp _ _ _ _) (T:=35) (vals:=Lib.byteCells (iat s.par k).b) (by rw [hlen32];rfl) ?_
            intro W3 hva
            have hI3:=Zoq hI hva.below
            have hr3:W3.rangeAt wr.heap.size 0 (Lib.byteCells (iat s.par k).b):=fun j v hj=>by rw [Yq0];exact hva.cell j v hj
            obtain ⟨T2,hT2⟩:∃ T2:ByteArray,T2=⟨(O9 (iat s.par k).b).toArray⟩:=⟨_,rfl⟩
            have z2:T2.size=64:=by rw [hT2];show (O9 (iat s.par k).b).toArray.size=64;rw [Yqf,Zae,(iat s.par k).h]
            have hex2:∀ W,Calls Tryz.prog 59 #[.agg (Lib.byteCells (iat s.par k).b).toArray] W fun e w'=>e=.returned (.string T2)∧Below W.heap.size W w':=fun W=>by rw [hT2];exact Zlm (iat s.par k).h
            have t2:T2.data.toList=O9 (iat s.par k).b:=by rw [hT2]
            clear hT2
            have g3:¬ 9223372036854775807<7+T2.size:=by omega
            have g4:¬ 9223372036854775807<7+T2.size+1:=by omega
            have htl:(Zcu (s.par.take k)).length=72*k:=by rw [Zog,Yqd];omega
            go_wp2_with (first
              | (refine wpList_load_mid rfl 35 _ rfl wr.heap.size 0 (by rfl) (Lib.byteCells (iat s.par k).b) _ hr3 Tryz.underlying35 rfl (hi35 _ (iat s.par k).h) ?_)
              | (go_at_call 59;refine (hex2 W3).mono ?_;rintro e W7 ⟨rfl,hb7⟩;have hI7:=Zoq hI3 hb7)
              | (go_at_call 70;refine (Zoo wc.heap.size wc.heap.size _ _ W7 hI7 (by rw [Lib.byteCells_length,Yqx,hlTB,htl];simp only [ByteArray.size_append,z2];have e7:(⟨#[112,97,114,101,110,116,32]⟩:ByteArray).size=7:=rfl;have e1:(⟨#[10]⟩:ByteArray).size=1:=rfl;omega) (Yp7 hbw.size (Yp7 hva.below.size hb7.size))).mono ?_;rintro e W8 ⟨rfl,hA8,hb8,_⟩))
            go_roundw
            case measure=>first|(simp only [intOf];omega)|(rw [Ze2 (by omega)];simp only [intOf];omega)
            refine ⟨k+1,by first|rfl|(rw [Ze2 (by omega)]),by omega,.inr ?_,((hbw.trans (K4 hva.below hbw.size)).trans (K4 hb7 (Yp7 hbw.size hva.below.size))).trans hb8⟩
            have e:Lib.byteCells (TB++Zcu (s.par.take k))++Lib.strCells (⟨#[112,97,114,101,110,116,32]⟩++T2++⟨#[10]⟩)=Lib.byteCells (TB++Zcu (s.par.take (k+1))):=by
              have hts:s.par.take (k+1)=s.par.take k++[iat s.par k]:=by rw [List.take_succ_eq_append_getElem hlt];simp [iat,List.getD,hlt]
              rw [hts,Ybl,←t2]
              simp [Lib.strCells,Lib.byteCells,ByteArray.data_append,Zzj]
            rw [←e];exact hA8
        · obtain rfl:k=s.par.length:=by omega
          rw [List.take_length] at hI
          have r41:wr.cell? ⟨w.heap.size,41,none⟩=some (.string ⟨s.msg.toArray⟩):=(hbw.cell (p:=⟨w.heap.size,41,none⟩) hnc).trans g41
          have htl:=Zog s.par
          have q1:¬ 9223372036854775807<7+(H7 s.aut).length:=by omega
          have q2:¬ 9223372036854775807<7+(H7 s.aut).length+11:=by omega
          have q3:¬ 9223372036854775807<7+(H7 s.aut).length+11+(H7 s.com).length:=by omega
          have q4:¬ 9223372036854775807<7+(H7 s.aut).length+11+(H7 s.com).length+2:=by omega
          have q5:¬ 9223372036854775807<7+(H7 s.aut).length+11+(H7 s.com).length+2+s.msg.length:=by omega
          have za:(⟨(H7 s.aut).toArray⟩:ByteArray).size=(H7 s.aut).length:=by simp [ByteArray.size]
          have zc:(⟨(H7 s.com).toArray⟩:ByteArray).size=(H7 s.com).length:=by simp [ByteArray.size]
          have zm:(⟨s.msg.toArray⟩:ByteArray).size=s.msg.length:=by simp [ByteArray.size]
          have y7:(⟨#[97,117,116,104,111,114,32]⟩:ByteArray).size=7:=rfl
          have y11:(⟨#[10,99,111,109,109,105,116,116,101,114,32]⟩:ByteArray).size=11:=rfl
          have y2:(⟨#[10,10]⟩:ByteArray).size=2:=rfl
          go_upto_region 14 with (go_at_call 70;refine (Zoo wc.heap.size wc.heap.size _ _ wr hI (by rw [Lib.byteCells_length,Yqx,hlTB,htl];simp only [ByteArray.size_append,za,zc,zm,y7,y11,y2];omega) hbw.size).mono ?_;rintro e W8 ⟨rfl,hA8,hb8,_⟩)
          have hI9:Lib.IsBuilderF 123 5 wc.heap.size wc.heap.size (Lib.byteCells (Zbg s)) W8:=by
            right
            have e:Lib.byteCells (TB++Zcu s.par)++Lib.strCells (⟨#[97,117,116,104,111,114,32]⟩++⟨(H7 s.aut).toArray⟩++⟨#[10,99,111,109,109,105,116,116,101,114,32]⟩++⟨(H7 s.com).toArray⟩++⟨#[10,10]⟩++⟨s.msg.toArray⟩)=Lib.byteCells (Zbg s):=by
              unfold Zbg
              rw [←hTB]
              simp [Lib.strCells,Lib.byteCells,ByteArray.data_append,Zga,Zgj]
            rw [←e];exact hA8
          clear hA8
          go_wp2_with (go_at_call 71;refine (Tryz.Builder_String_any_k _ _ _ _ hI9 (Yp7 hbw.size hb8.size)).mono ?_;rintro e W9 ⟨rfl,_,hb9,_⟩)
          obtain ⟨hnew,hbc⟩:=Yj9 (w:=W9) (B:=w.heap.size) (Yp7 hww.size (Yp7 hbw.size (Yp7 hb8.size hb9.size))) 5 (Zbg s)
          rw [Lib.run_convert_string_bytes W9 9 23 5 _ Tryz.underlying9 Tryz.underlying23 Tryz.underlying5]
          have hz:(⟨(Zbg s).toArray⟩:ByteArray).size=(Zbg s).length:=by simp [ByteArray.size]
          generalize Lib.bytesWorld W9 5 ⟨(Zbg s).toArray⟩=WA at *
          generalize grownCap W9 (⟨(Zbg s).toArray⟩:ByteArray).size 0 5=CA at *
          simp only [Result.andThen]
          go_wp2
          go_ret2
          refine ⟨((((hww.trans (K4 hbw hww.size)).trans (K4 hb8 hww.size)).trans (K4 hb9 hww.size))).trans (K4 hbc (Yp7 hww.size (Yp7 hbw.size (Yp7 hb8.size hb9.size)))),.inr ⟨he,_,rfl,?_⟩⟩
          exact hnew
    · go_wp2
      go_ret2
      exact ⟨((hb0w.trans (K4 hb1 hb0w.size)).trans (K4 hb2 (Yp7 hb0w.size hb1.size))).trans (K4 hb5 (Yp7 hb0w.size (Yp7 hb1.size hb2.size))),.inl ⟨he,rfl⟩⟩
end Cod
namespace Cod
open Go Go.RowKit Go.Proofs
set_option maxRecDepth 100000
theorem Zvl {c:Ctx}:∀ {l:List UInt8} {vs:List Value},VRL c (A1 l) vs→vs=Lib.byteCells l:=by
  intro l
  induction l with
  | nil=>intro vs h;simpa [A1,VRL,Lib.byteCells] using h
  | cons b l ih =>
    intro vs h
    rw [T3,VRL] at h
    obtain ⟨v,r,rfl,hv,hr⟩:=h
    rw [ih hr]
    simp only [VR] at hv
    rw [hv];rfl
def kHex:List AV→Option AV
  | [.agg cs]=>if Zfz cs=true∧cs.length=32 then (bytesOf cs).map fun l=>.str (O9 l) else none
  | _=>none
theorem ok_hex {E:Env}:Zf2 Tryz.prog E F.Zmp kHex:=by
  intro args v vs La w hg hv hr
  unfold kHex at hg
  split at hg
  · rename_i cs
    split at hg
    · rename_i hn
      obtain ⟨l,rfl⟩:=Zj1 hn.1
      rw [Zd1] at hg
      cases hg
      simp only [VRL] at hv
      obtain ⟨x,r,rfl,hx,rfl⟩:=hv
      simp only [VR] at hx
      obtain ⟨ws,rfl,hw⟩:=hx
      have hl:l.length=32:=by have:=hn.2;rwa [D8] at this
      have hws:ws=(Lib.byteCells l).toArray:=by
        have:=Zvl hw
        rw [←this]
      subst hws
      refine N4 Tryz.func59 (by rfl) (by kernel_rfl) ((Zlm hl).mono fun e w' ⟨he,hb⟩=>?_)
      exact ⟨_,he,fun c=>by simp [VR],hb⟩
    · cases hg
  · cases hg
end Cod
namespace Cod
open Go Go.RowKit Go.Proofs Go.Shelf
set_option maxRecDepth 100000
theorem Ypk:∀ {a b:List Id32},ids a=ids b→a=b:=by
  intro a
  induction a with
  | nil =>
    intro b h
    have:=congrArg List.length h
    rw [D5,D5] at this
    cases b with
    | nil=>rfl
    | cons=>simp at this
  | cons x a ih =>
    intro b h
    cases b with
    | nil=>have:=congrArg List.length h;rw [D5,D5] at this;simp at this
    | cons y b =>
      have h':x.cells++ids a=y.cells++ids b:=h
      obtain ⟨h1,h2⟩:=Yti h' (by rw [Zmz,Zmz])
      have h3:x=y:=by
        have:=Zlh h1
        cases x;cases y
        simp only at this
        subst this
        rfl
      rw [h3,ih h2]
theorem pv_inj {v:AV} {a b:List Id32} (h:PV v a) (h':PV v b):a=b:=by
  rcases h with rfl|⟨rfl,rfl⟩
  · rcases h' with h'|⟨_,h'⟩
    · injection h' with h1 h2
      exact Ypk h1
    · cases h'
  · rcases h' with h'|⟨rfl,_⟩
    · cases h'
    · rfl
theorem Yka {s s':Snap} {v v':AV} (hv:PV v s.par) (hv':PV v' s'.par) (h:snR s.tree v s.aut s.com s.msg=snR s'.tree v' s'.aut s'.com s'.msg):s=s':=by
  unfold snR at h
  obtain ⟨h1,h2⟩:=Yti h (by rw [D8,D8,s.ht,s'.ht])
  have h0:=Zlh h1
  simp only [List.cons.injEq,AV.str.injEq,AV.int.injEq,true_and,and_true] at h2
  obtain ⟨rfl,h3,h4,h5,h6,h7,h8,h9,h10,h11⟩:=h2
  have hp:=pv_inj hv hv'
  obtain ⟨t,ps,⟨a1,a2,a3,a4⟩,⟨c1,c2,c3,c4⟩,m,ht⟩:=s
  obtain ⟨t',ps',⟨a1',a2',a3',a4'⟩,⟨c1',c2',c3',c4'⟩,m',ht'⟩:=s'
  simp only at *
  subst h0 hp h3 h4 h5 h6 h7 h8 h9 h10 h11
  rfl
open Classical in
noncomputable def Zqx (args:List AV) (σ:A6):Option (AV × A6) :=
  if h:∃ s:Snap,(∃ v,PV v s.par∧args=[.agg (snR s.tree v s.aut s.com s.msg)]) ∧ σ=[]∧Zil s then some (Zvc (choose h)) else none
theorem Ykb {s:Snap} {v:AV} (hv:PV v s.par) (hs:Zil s):Zqx [.agg (snR s.tree v s.aut s.com s.msg)] []=some (Zvc s):=by
  have hx:∃ s':Snap,(∃ v',PV v' s'.par∧[AV.agg (snR s.tree v s.aut s.com s.msg)]=[.agg (snR s'.tree v' s'.aut s'.com s'.msg)])∧([]:A6)=[]∧Zil s':=⟨s,⟨v,hv,rfl⟩,rfl,hs⟩
  unfold Zqx
  rw [dif_pos hx]
  have key:∀ s':Snap,(∃ v',PV v' s'.par∧[AV.agg (snR s.tree v s.aut s.com s.msg)]=[.agg (snR s'.tree v' s'.aut s'.com s'.msg)])→s'=s:=by
    rintro s' ⟨v',h1,h2⟩
    injection h2 with h3 _
    injection h3 with h4
    exact (Yka hv h1 h4).symm
  rw [key _ (Classical.choose_spec hx).1]
theorem Yb8 {c:Ctx}:∀ {xs ys:List AV} {vs:List Value},VRL c (xs++ys) vs→∃ a b,vs=a++b∧VRL c xs a∧VRL c ys b:=by
  intro xs
  induction xs with
  | nil=>intro ys vs h;exact ⟨[],vs,rfl,rfl,h⟩
  | cons x xs ih =>
    intro ys vs h
    rw [Yp9,VRL] at h
    obtain ⟨v,r,rfl,h1,h2⟩:=h
    obtain ⟨a,b,rfl,h3,h4⟩:=ih h2
    exact ⟨v::a,b,rfl,by rw [VRL];exact ⟨v,a,rfl,h1,h3⟩,h4⟩
theorem Ykc {E:Env} {w w':World} {La:Lay} (h:Rel E w (J3 [] La) [] La [] La w) (hb:Below w.heap.size w w') {v':Value} {n:Nat} {xs:List Int} (hn:xs.length=n) (ho:Z4u w' w.heap.size v' n (xs.map (Value.int .u8))) :
    ∃ La',Rel E w (J3 [] La) [] La [(.r 0,⟨0,true,true,false,xs.map (AV.int .u8 ·)⟩)] La' w'∧VR (ctx [(.r 0,⟨0,true,true,false,xs.map (AV.int .u8 ·)⟩)] La' w') (.buf (.r 0) 0 0 n 1) v':=by
  obtain ⟨g,cap,cur,el,fr,rfl,hg,hcell,hfr,hcap,hsz,htake⟩:=ho
  refine ⟨_,Zhq h hb (pos:=some (g,0)) (fun g' o hh=>by cases hh;exact hg) ?_,?_⟩
  · simp only [Z9,ctx,if_true]
    refine .inl ⟨⟨cur,el,fr,hcell,by simp only [Yru];omega,hfr⟩,Zyl fun i hi=>?_⟩
    show w'.cell? ⟨g,i,none⟩=_
    have h1:(cur.toList.take n)[i]? = some (Value.int .u8 (xs.getD i 0)):=by rw [htake];simp [List.getD,hi]
    rw [List.getElem?_take_of_lt (by omega)] at h1
    simp only [World.cell?,hcell]
    simpa using h1
  · simp only [VR]
    refine ⟨rfl,0,true,rfl,Yp6 _,fun _ _=>?_⟩
    simp only [N9,ctx,if_true]
    exact .inr ⟨cap,rfl,hcap,cur,el,fr,hcell,by omega⟩
theorem Ypl {E:Env} (hE:E.glob=X7):Zg0 Tryz.prog E F.U9 Zqx:=by
  intro args σa v σr hk La w vs hr hv hup
  unfold Zqx at hk
  split at hk
  · rename_i hx
    obtain ⟨⟨pv,q0,q1⟩,q2,q3⟩:=Classical.choose_spec hx
    generalize Classical.choose hx=s at *
    subst q1 q2
    simp only [Option.some.injEq] at hk
    simp only [VRL] at hv
    obtain ⟨x,r,rfl,hx,rfl⟩:=hv
    simp only [VR] at hx
    obtain ⟨ws,rfl,hw⟩:=hx
    have hS:=Zyo hE hr
    unfold snR at hw
    obtain ⟨a,b,hab,h1,h2⟩:=Yb8 hw
    have ha:=Zvl h1
    simp only [VRL,VR] at h2
    obtain ⟨x0,r0,rfl,hx0,_,_,rfl,rfl,_,_,rfl,rfl,_,_,rfl,rfl,_,_,rfl,rfl,_,_,rfl,rfl,_,_,rfl,rfl,_,_,rfl,rfl,_,_,rfl,rfl,_,_,rfl,rfl,rfl⟩:=h2
    have hcase:∃ p b0 o0 cap,x0=.slice p s.par.length cap∧(0<s.par.length→p=some ⟨b0,o0,none⟩)∧(0<s.par.length→b0<w.heap.size)∧∀ k,k<s.par.length→w.rangeAt b0 (o0+k*32) (Lib.byteCells (iat s.par k).b):=by
      rcases q0 with rfl|⟨h0,rfl⟩
      · simp only [VR] at hx0
        obtain ⟨_,h2⟩:=hx0
        rcases h2 with ⟨h3,h4,h5⟩|⟨b,o,cap,h3,_,h4,_,h5⟩
        · exact ⟨none,0,0,0,by rw [h5,h4],fun h=>by omega,fun h=>by omega,fun k hk=>by omega⟩
        · refine ⟨_,b,o,cap,h3,fun _=>rfl,fun _=>h4,fun k hk=>?_⟩
          have:=Zdk h5 (k*32) 32
          rw [Z6l hk] at this
          obtain ⟨vs,g1,g2⟩:=Ze7 this
          rw [Zvl g1] at g2
          exact g2
      · simp only [VR] at hx0
        exact ⟨none,0,0,0,by rw [hx0,h0];rfl,fun h=>by rw [h0] at h;simp at h,fun h=>by rw [h0] at h;simp at h,fun k hk=>by rw [h0] at hk;simp at hk⟩
    obtain ⟨p,b0,o0,cap,rfl,hp,hb0,hrow⟩:=hcase
    have hws:ws=(Zkm s (.slice p s.par.length cap)).toArray:=by
      apply Array.ext'
      rw [hab,ha]
      rfl
    subst hws
    refine N4 Tryz.func22 (by rfl) (by kernel_rfl) ((Z4v q3 hS hp hrow hb0).mono fun e w' ⟨hb,hw⟩=>?_)
    unfold Zvc at hk
    rcases hw with ⟨he,rfl⟩|⟨he,v',rfl,hown⟩
    · rw [if_neg he] at hk
      cases hk
      exact ⟨_,rfl,La,Zhp hr hb,by simp [VR,VRL]⟩
    · rw [if_pos he] at hk
      cases hk
      have e1:((Zbg s).map fun b=>Value.int .u8 b.toNat)=((Zbg s).map fun b=>((b.toNat:Nat):Int)).map (Value.int .u8):=by rw [Ytj];rfl
      rw [e1] at hown
      obtain ⟨La',h1,h2⟩:=Ykc hr hb (by rw [Yru]) hown
      have e2:((Zbg s).map fun b=>((b.toNat:Nat):Int)).map (AV.int .u8 ·)=A1 (Zbg s):=by unfold A1;rw [Ytj];rfl
      rw [e2] at h1 h2
      refine ⟨_,rfl,La',h1,?_⟩
      simp only [VR,VRL]
      exact ⟨_,rfl,_,_,rfl,h2,_,_,rfl,rfl,rfl⟩
  · cases hk
end Cod
namespace Cod
open Go Go.RowKit Go.Proofs Go.Shelf
set_option maxRecDepth 100000
def Zkn (l:List Ety):AV × A6:=if Zbq l=0 then (.tup [.buf (.r 0) 0 0 (G4 l).length 1,.int .i64 0],[(.r 0,⟨0,true,true,false,A1 (G4 l)⟩)]) else (.tup [.nils,.int .i64 (Zbq l)],[])
open Classical in
noncomputable def Zqy (args:List AV) (σ:A6):Option (AV × A6) :=
  if h:∃ l,args=[.lst (I8 l) l.length] ∧ σ=[]∧Zem l then some (Zkn (choose h)) else none
theorem Ypm {a b:Ety} (h:a.cells=b.cells):a=b:=by
  unfold Ety.cells at h
  simp only [List.cons.injEq,AV.int.injEq,AV.str.injEq,true_and] at h
  obtain ⟨h1,h2,h30⟩:=h
  have h3:=Zlh h30
  clear h30
  cases a;cases b
  simp only at h1 h2 h3
  subst h1 h2 h3
  rfl
theorem Ykd:∀ {a b:List Ety},I8 a=I8 b→a=b:=by
  intro a
  induction a with
  | nil =>
    intro b h
    have:=congrArg List.length h
    rw [A2,A2] at this
    cases b with
    | nil=>rfl
    | cons=>simp at this
  | cons x a ih =>
    intro b h
    cases b with
    | nil=>have:=congrArg List.length h;rw [A2,A2] at this;simp at this
    | cons y b =>
      have h':x.cells++I8 a=y.cells++I8 b:=h
      obtain ⟨h1,h2⟩:=Yti h' (by rw [Zc0,Zc0])
      rw [Ypm h1,ih h2]
theorem Yke {l:List Ety} (h:Zem l):Zqy [.lst (I8 l) l.length] []=some (Zkn l):=by
  have hx:∃ l',[AV.lst (I8 l) l.length]=[.lst (I8 l') l'.length]∧([]:A6)=[]∧Zem l':=⟨l,rfl,rfl,h⟩
  unfold Zqy
  rw [dif_pos hx]
  have key:∀ l',[AV.lst (I8 l) l.length]=[.lst (I8 l') l'.length]→l'=l:=by
    intro l' hc
    injection hc with hc1 _
    injection hc1 with h1 h2
    exact (Ykd h1).symm
  rw [key _ (Classical.choose_spec hx).1]
theorem Yb9 {c':Lay} {w:World} {cs:List AV} {n:Nat} {v:Value} (h:VR (ctx [] c' w) (.lst cs n) v):VR (ctx [] LaE w) (.lst cs n) v:=by
  refine Zbr ?_ _ _ h
  refine ⟨fun s g0 al h=>by simp [ctx,Zwh,A9] at h,fun b _ h=>?_,fun b _ _=>rfl,fun _ _ h=>h,Yp6 _⟩
  rcases h with ⟨s,e,o,he,_⟩|h
  · simp [A9] at he
  · exact h.elim
theorem Ypn {E:Env} (hE:E.glob=X7):Zg0 Tryz.prog E F.P9 Zqy:=by
  intro args σa v σr hk La w vs hr hv hup
  unfold Zqy at hk
  split at hk
  · rename_i hx
    obtain ⟨q1,q2,q3⟩:=Classical.choose_spec hx
    generalize Classical.choose hx=l at *
    subst q1 q2
    simp only [Option.some.injEq] at hk
    simp only [VRL] at hv
    obtain ⟨x,r,rfl,hx,rfl⟩:=hv
    have hS:=Zyo hE hr
    have hx':=Yb9 hx
    have hcase:∃ p b0 o0 cap,x=.slice p l.length cap∧(0<l.length→p=some ⟨b0,o0,none⟩)∧(0<l.length→b0<w.heap.size)∧∀ k,k<l.length→w.rangeAt b0 (o0+k*34) (Zfm (eat l k)):=by
      have h2:=hx'
      simp only [VR] at h2
      obtain ⟨_,h2⟩:=h2
      rcases h2 with ⟨h3,h4,h5⟩|⟨b,o,cap,h3,_,h4,_,h5⟩
      · exact ⟨none,0,0,0,by rw [h5,h4],fun h=>by omega,fun h=>by omega,fun k hk=>by omega⟩
      · refine ⟨_,b,o,cap,h3,fun _=>rfl,fun _=>h4,fun k hk=>?_⟩
        have:=Zdk h5 (k*34) 34
        rw [Zyu hk] at this
        exact Ybv this
    obtain ⟨p,b0,o0,cap,rfl,hp,hb0,hrow⟩:=hcase
    refine N4 Tryz.func11 (by rfl) (by kernel_rfl) ((Yj6 q3 hS hx' hp hrow hb0).mono fun e w' ⟨hb,hw⟩=>?_)
    unfold Zkn at hk
    rcases hw with ⟨he,rfl⟩|⟨he,v',rfl,hown⟩
    · rw [if_neg he] at hk
      cases hk
      exact ⟨_,rfl,La,Zhp hr hb,by simp [VR,VRL]⟩
    · rw [if_pos he] at hk
      cases hk
      have e1:((G4 l).map fun b=>Value.int .u8 b.toNat)=((G4 l).map fun b=>((b.toNat:Nat):Int)).map (Value.int .u8):=by rw [Ytj];rfl
      rw [e1] at hown
      obtain ⟨La',h1,h2⟩:=Z56 hr hb hown
      have e2:((G4 l).map fun b=>((b.toNat:Nat):Int)).map (AV.int .u8 ·)=A1 (G4 l):=by unfold A1;rw [Ytj];rfl
      rw [e2] at h1 h2
      refine ⟨_,rfl,La',h1,?_⟩
      simp only [VR,VRL]
      exact ⟨_,rfl,_,_,rfl,h2,_,_,rfl,rfl,rfl⟩
  · cases hk
theorem Zor {E:Env} {fn:Nat→Option LFn} {tab:List (Nat × (List AV→A6→Option (AV × A6)))} {glob:Nat→List AV} {f:Nat} {h:List AV→A6→Option (AV × A6)} (hx:Ext E ⟨fn,fun g=>tab.lookup g,glob⟩) (h1:E.known f=none) (h2:E.fn f=none):Ext E ⟨fn,fun g=>((f,h)::tab).lookup g,glob⟩ where
  glob:=hx.glob
  fn:=hx.fn
  known g h' hk:=by
    show ((f,h)::tab).lookup g=some h'
    rw [Ytk]
    cases hb:g==f with
    | false=>exact hx.known g h' hk
    | true =>
      rw [beq_iff_eq] at hb
      rw [hb,h1] at hk
      cases hk
  none g hk:=by
    by_cases hb:g=f
    · right;rw [hb];exact h2
    · rcases hx.none g hk with hn|hn
      · left
        show ((f,h)::tab).lookup g=none
        rw [Ytk,beq_eq_false_iff_ne.2 hb]
        exact hn
      · exact .inr hn
noncomputable def Zln:List (Nat × (List AV→A6→Option (AV × A6))):=(F.U9,Zqx)::(F.Zmp,U0 kHex)::(F.P9,Zqy)::Zff
noncomputable def EE:Env:=⟨H4,fun f=>Zln.lookup f,X7⟩
theorem Ypo:Zl1 Tryz.prog EE:=Zno (by kernel_rfl) Z29 (fun _=>rfl)
theorem Yca:Zft Tryz.prog EE:=by
  intro f h hf
  have hm:=Zg1 (show Zln.lookup f=some h from hf)
  unfold Zln at hm
  rcases List.mem_cons.1 hm with hm|hm
  · cases hm;exact Ypl rfl
  rcases List.mem_cons.1 hm with hm|hm
  · cases hm;exact Zd7 ok_hex
  rcases List.mem_cons.1 hm with hm|hm
  · cases hm;exact Ypn rfl
  · exact Z58 (E:=EE) rfl (f,h) hm
theorem Ykf:Ext E ⟨H4,fun g=>Zff.lookup g,X7⟩:=⟨rfl,rfl,fun _ _ hk=>hk,fun _ hk=>.inl hk⟩
theorem Zeo:Ext E EE:=Zor (Zor (Zor Ykf rfl rfl) rfl rfl) rfl rfl
theorem envP:EnvP EE:=⟨Zeo,fun {id} h=>by
  rw [S_eq,show EE.known F.Zmp=some (U0 kHex) from rfl]
  show U0 kHex [.agg (A1 id)] []=_
  simp only [U0,kHex,List.isEmpty_nil,if_true,Zn0,D8,h,and_self,Zd1,Yqb]⟩
theorem envC:EnvC EE where
  toEnvP:=envP
  put {s v} hv hs:=by
    rw [S_eq,show EE.known F.U9=some Zqx from rfl]
    exact Ykb hv hs
theorem Ykg {f:Nat} {l:LFn} (hf:H4 f=some l) (hk:EE.known f=none) {args:List AV} {σ:A6} (hn:args.length=l.np):S EE f args σ=X EE l.results [.c l.code] ⟨params 0 args,σ⟩:=S_fn hk hf hn
theorem Zvm {l:List Ety} (h:Zem l):S EE F.P9 [.lst (I8 l) l.length] []=some (Zkn l):=by
  rw [S_eq,show EE.known F.P9=some Zqy from rfl]
  exact Yke h
end Cod
namespace Cod
open Go
def wE:Ety:=⟨33188,[97],List.replicate 32 0,by simp⟩
theorem Zm0:G4 [wE]=[49,48,48,54,52,52,32,97,0]++List.replicate 32 0:=by decide +kernel
theorem wE_ent:Zbq [wE]=0:=by decide +kernel
theorem wE_ok:Zem [wE]:=by
  refine ⟨fun i=>?_,fun i=>?_,by decide⟩
  · cases i with
    | zero=>decide
    | succ i=>show (default:Ety).name.length≤_;decide
  · cases i with
    | zero=>decide
    | succ i=>show _≤(default:Ety).mode∧(default:Ety).mode≤_;decide
theorem Ypp:S EE F.P9 [.lst (.int .i64 33188::.str [97]::A1 (List.replicate 32 0)) 1] []=some (.tup [.buf (.r 0) 0 0 41 1,.int .i64 0],[(.r 0,⟨0,true,true,false,A1 (G4 [wE])⟩)]):=by
  have h:=Zvm wE_ok
  have e:Zkn [wE]=(.tup [.buf (.r 0) 0 0 41 1,.int .i64 0],[(.r 0,⟨0,true,true,false,A1 (G4 [wE])⟩)]):=by
    unfold Zkn;rw [if_pos wE_ent,Zm0];rfl
  rw [e] at h
  exact h
theorem hdr_w:Zux 3 3=[98,108,111,98,32,51,0]:=by
  unfold Zux
  rw [show (3:Int)=((3:Nat):Int) from rfl,Lib.itoa_nonneg,Lib.decDigits_one (by omega)];rfl
theorem obj_w:Zox 3 3=0:=by decide +kernel
theorem go_idW:S EE F.Y2 [.agg [.int .i64 3,.lst (A1 [97,98,99]) 3]] []=some (.tup [.agg (A1 (Zmi [98,108,111,98,32,51,0,97,98,99])),.int .i64 0],[]):=by
  have h:=R9 Zeo (go_oid (k:=3) (p:=[97,98,99]) (n:=3) rfl (by simp))
  unfold idV idF at h
  simp only [Yqm,Yrj,Yq0,Nat.reduceAdd] at h
  rw [obj_w,if_pos rfl] at h
  rw [show (((3:Nat)):Int)=3 from rfl,hdr_w] at h
  exact h
theorem Zbh:S EE F.Y5 [] []=some (.bool true,[]):=by
  have h1:S EE F.Y2 [.agg [.int .i64 3,.lst [.int .u8 97,.int .u8 98,.int .u8 99] 3]] []=some (.tup [.agg (A1 (Zmi [98,108,111,98,32,51,0,97,98,99])),.int .i64 0],[]):=go_idW
  have h2:=Ypp
  have h3:S EE F.G5 [.lst [.int .u8 98,.int .u8 108,.int .u8 111,.int .u8 98,.int .u8 32,.int .u8 51,.int .u8 0,.int .u8 97,.int .u8 98,.int .u8 99] 10] []=some (.agg (A1 (Zmi [98,108,111,98,32,51,0,97,98,99])),[]):=R9 Zeo (Yie (p:=[98,108,111,98,32,51,0,97,98,99]) (by simp))
  have hs:(Zmi [98,108,111,98,32,51,0,97,98,99]).length=32:=by unfold Zmi;simp [Zy8]
  generalize Zmi [98,108,111,98,32,51,0,97,98,99]=d at *
  have ht:(G4 [wE]).length=41:=by rw [Zm0];rfl
  have h9:sub (G4 [wE]) 0 9=[49,48,48,54,52,52,32,97,0]:=by rw [Zm0];rfl
  have h9':(G4 [wE]).take 9=[49,48,48,54,52,52,32,97,0]:=by rw [Zm0];rfl
  generalize G4 [wE]=tr at *
  have s3:sub [AV.int .u8 97,AV.int .u8 98,AV.int .u8 99] 0 3=[.int .u8 97,.int .u8 98,.int .u8 99]:=rfl
  have s10:sub [AV.int .u8 98,AV.int .u8 108,AV.int .u8 111,AV.int .u8 98,AV.int .u8 32,AV.int .u8 51,AV.int .u8 0,AV.int .u8 97,AV.int .u8 98,AV.int .u8 99] 0 10=[.int .u8 98,.int .u8 108,.int .u8 111,.int .u8 98,.int .u8 32,.int .u8 51,.int .u8 0,.int .u8 97,.int .u8 98,.int .u8 99]:=rfl
  have s34:sub (AV.int .i64 33188::AV.str [97]::A1 (List.replicate 32 0)) 0 34=AV.int .i64 33188::AV.str [97]::A1 (List.replicate 32 0):=rfl
  have o1:over (default:Ety).cells 0 [AV.int .i64 33188]=AV.int .i64 33188::AV.str []::A1 (List.replicate 32 0):=rfl
  have o2:over (AV.int .i64 33188::AV.str []::A1 (List.replicate 32 0)) 1 [AV.str [97]]=AV.int .i64 33188::AV.str [97]::A1 (List.replicate 32 0):=rfl
  have l34:(AV.int .i64 33188::AV.str [97]::A1 (List.replicate 32 0)).length=34:=rfl
  have o3:over (default:Ety).cells 0 (AV.int .i64 33188::AV.str [97]::A1 (List.replicate 32 0))=AV.int .i64 33188::AV.str [97]::A1 (List.replicate 32 0):=rfl
  have o4:over (A1 (List.replicate 32 0)) 0 (A1 d)=A1 d:=X2 (by rw [hs];rfl)
  have q4:I7 [0,0,0,0,0,0,0,0,0,0,0,0,0,0,0,0,0,0,0,0,0,0,0,0,0,0,0,0,0,0,0,0] (A1 d) (A1 d)=some true:=by rw [Zim hs hs];simp
  rw [Ykg Zr4 rfl rfl]
  simp -dsimp (disch:=first|omega|(simp only [A5,A2,A3,treeB_length]<;>omega)|fail) only [L.Y5,go_sem,reduceIte,reduceCtorEq,B2,B3,B4,B5,B6,B7,B8,B9,C0,C1,C2,C3,C4,C5,C6,C7,C8,C9,D0,A4,BYs,h1,h2,h3,ht,h9,h9',List.isEmpty_cons,List.length_replicate,s3,s10,s34,o1,o2,o3,l34,o4,q4]
end Cod
namespace Cod
open Go
theorem Z61 (s:List UInt8) (hs:s.length≤1000000000000):∃ a b ok,S E F.Q9 [.str s,.str [32]] []=some (.tup [.str a,.str b,.bool ok],[])∧a.length≤s.length∧b.length≤s.length ∧
    ((ok=true∧32∈s∧a=s.take (s.idxOf 32)∧b=s.drop (s.idxOf 32+1))∨(ok=false∧32∉s)):=by
  have h:=Z6t (c:=32) hs
  by_cases hc:(32:UInt8)∈s
  · rw [if_pos hc] at h
    exact ⟨_,_,_,h,by rw [Yqd];omega,by rw [Yqe];omega,.inl ⟨rfl,hc,rfl,rfl⟩⟩
  · rw [if_neg hc] at h
    exact ⟨_,_,_,h,Yp6 _,by simp,.inr ⟨rfl,hc⟩⟩
def Zvn (rest:List UInt8):Option (Ety × List UInt8) :=
  if 0∈rest∧32∈rest.take (rest.idxOf 0)∧(pi8 ((rest.take (rest.idxOf 0)).take ((rest.take (rest.idxOf 0)).idxOf 32))).2=0∧32≤(rest.drop (rest.idxOf 0+1)).length then
    some (mkT (pi8 ((rest.take (rest.idxOf 0)).take ((rest.take (rest.idxOf 0)).idxOf 32))).1 ((rest.take (rest.idxOf 0)).drop ((rest.take (rest.idxOf 0)).idxOf 32+1)) ((rest.drop (rest.idxOf 0+1)).take 32),(rest.drop (rest.idxOf 0+1)).drop 32)
  else none
def ptL:Nat→List UInt8→List Ety→Option (List Ety)
  | 0,rest,acc=>if rest=[] then some acc else none
  | m+1,rest,acc=>if rest=[] then some acc else match Zvn rest with|none=>none|some (e,r)=>if acc.length=4096 then none else ptL m r (acc++[e])
theorem bld1 (m:Int):over (default:Ety).cells 0 [AV.int .i64 m]=(Ety.mk m [] (List.replicate 32 0) (by simp)).cells:=rfl
theorem bld2 (m:Int) (n:List UInt8):over (Ety.mk m [] (List.replicate 32 0) (by simp)).cells 1 [AV.str n]=(Ety.mk m n (List.replicate 32 0) (by simp)).cells:=rfl
theorem bld3 (m:Int) (n d:List UInt8) (h:d.length=32):over (Ety.mk m n (List.replicate 32 0) (by simp)).cells 2 (A1 d)=(mkT m n d).cells:=by
  rw [Zqu h]
  show over (AV.int .i64 m::AV.str n::A1 (List.replicate 32 0)) 2 (A1 d)=_
  rw [Zid,Zid,X2 (by rw [h];simp)]
def Zcl:AV × A6:=(.tup [.buf (.r 0) 0 0 0 34,.int .i64 4],[(.r 0,⟨0,true,true,false,[]⟩)])
theorem Ypq {p:List UInt8} (k:List It) {rest:List UInt8} {acc:List Ety} (hr:rest.length≤1048576) (h0:rest≠[]) (ha:acc.length≤4096) :
    X EE [.tmp 2,.tmp 3] (.c L.F6.x0::.lp [0,4,5] L.F6.x0::.blk 0::k) ⟨[(0,.lst (A1 p) p.length),(4,.buf (.s 1000000 0) 0 0 (acc).length 34),(5,.lst (A1 rest) (rest).length)],[(.s 1000000 0,⟨0,true,true,false,I8 acc⟩)]⟩ =
    match Zvn rest with
    | none=>some Zcl
    | some (e,r)=>if acc.length=4096 then some Zcl else X EE [.tmp 2,.tmp 3] (.c L.F6.x0::.lp [0,4,5] L.F6.x0::.blk 0::k) ⟨[(0,.lst (A1 p) p.length),(4,.buf (.s 1000000 0) 0 0 ((acc++[e])).length 34),(5,.lst (A1 r) (r).length)],[(.s 1000000 0,⟨0,true,true,false,I8 (acc++[e])⟩)]⟩:=by
  have hpos:0<rest.length:=by cases rest with|nil=>exact absurd rfl h0|cons=>simp
  have hc:=R9 Zeo (Yo9 (l:=rest) rfl (by omega))
  rw [G9 L.F6.x0.eq_1]
  unfold Zvn Zcl
  by_cases hz:(0:UInt8)∈rest
  · rw [if_pos hz] at hc
    have hi:=Ys7 hz
    have hth:(rest.take (rest.idxOf 0)).length=rest.idxOf 0:=by rw [Yqd];omega
    have htl:(rest.drop (rest.idxOf 0+1)).length=rest.length-(rest.idxOf 0+1):=Yqe
    generalize rest.take (rest.idxOf 0)=head at *
    generalize rest.drop (rest.idxOf 0+1)=tail at *
    obtain ⟨a,b,ok,hs,hal,hbl,hsp⟩:=Z61 head (by omega)
    have hs:=R9 Zeo hs
    rw [←htl,←hth] at hc
    have hp:=R9 Zeo (Yhd (s:=a) (by omega))
    unfold Zye at hp
    rcases hsp with ⟨rfl,h32,rfl,rfl⟩|⟨rfl,h32⟩
    · generalize head.take (head.idxOf 32)=a at *
      generalize head.drop (head.idxOf 32+1)=b at *
      by_cases he:(pi8 a).2=0
      · rw [if_pos he] at hp
        by_cases h5:32≤tail.length
        · rw [if_pos ⟨hz,h32,he,h5⟩]
          generalize (pi8 a).1=v at *
          have g1:(tail.take 32).length=32:=by rw [Yqd];omega
          have g2:=bld3 v b (tail.take 32) g1
          have g3:sub tail 32 (tail.drop 32).length=tail.drop 32:=D6 (by rw [Yqe];omega)
          have g6:(acc++[mkT v b (tail.take 32)]).length=acc.length+1:=by simp
          have g4:sub tail 0 32=tail.take 32:=by simp [sub]
          have g5:tail.length-32=(tail.drop 32).length:=List.length_drop.symm
          by_cases h6:acc.length=4096
          · simp -dsimp (disch:=first|omega|(simp only [A5,A2,A3]<;>omega)|fail) only [go_sem,reduceIte,reduceCtorEq,B2,B3,B4,B5,B6,B7,B8,B9,C0,C1,C2,C3,C4,C5,C6,C7,C8,C9,D0,A4,BYs,hc,hs,hp,h6]
          · simp -dsimp (disch:=first|omega|(simp only [A5,A2,A3]<;>omega)|fail) only [go_sem,reduceIte,reduceCtorEq,B2,B3,B4,B5,B6,B7,B8,B9,C0,C1,C2,C3,C4,C5,C6,C7,C8,C9,D0,A4,BYs,hc,hs,hp,h6,g1,g2,g3,g4,g5,g6,bld1,bld2,Zp0]
        · rw [if_neg (fun x=>h5 x.2.2.2)]
          simp -dsimp (disch:=first|omega|(simp only [A5,A2,A3]<;>omega)|fail) only [go_sem,reduceIte,reduceCtorEq,B2,B3,B4,B5,B6,B7,B8,B9,C0,C1,C2,C3,C4,C5,C6,C7,C8,C9,D0,A4,BYs,hc,hs,hp,h5]
      · rw [if_neg he] at hp
        rw [if_neg (fun x=>he x.2.2.1)]
        simp -dsimp (disch:=first|omega|(simp only [A5,A2,A3]<;>omega)|fail) only [go_sem,reduceIte,reduceCtorEq,B2,B3,B4,B5,B6,B7,B8,B9,C0,C1,C2,C3,C4,C5,C6,C7,C8,C9,D0,A4,BYs,hc,hs,hp]
    · rw [if_neg (fun x=>h32 x.2.1)]
      by_cases he:(pi8 a).2=0
      · rw [if_pos he] at hp
        simp -dsimp (disch:=first|omega|(simp only [A5,A2,A3]<;>omega)|fail) only [go_sem,reduceIte,reduceCtorEq,B2,B3,B4,B5,B6,B7,B8,B9,C0,C1,C2,C3,C4,C5,C6,C7,C8,C9,D0,A4,BYs,hc,hs,hp]
      · rw [if_neg he] at hp
        simp -dsimp (disch:=first|omega|(simp only [A5,A2,A3]<;>omega)|fail) only [go_sem,reduceIte,reduceCtorEq,B2,B3,B4,B5,B6,B7,B8,B9,C0,C1,C2,C3,C4,C5,C6,C7,C8,C9,D0,A4,BYs,hc,hs,hp]
  · rw [if_neg hz] at hc
    obtain ⟨a,b,ok,hs,hal,hbl,hsp⟩:=Z61 rest (by omega)
    have hs:=R9 Zeo hs
    have hp:=R9 Zeo (Yhd (s:=a) (by omega))
    unfold Zye at hp
    rw [if_neg (fun x=>hz x.1)]
    by_cases he:(pi8 a).2=0
    · rw [if_pos he] at hp
      simp -dsimp (disch:=first|omega|(simp only [A5,A2,A3]<;>omega)|fail) only [go_sem,reduceIte,reduceCtorEq,B2,B3,B4,B5,B6,B7,B8,B9,C0,C1,C2,C3,C4,C5,C6,C7,C8,C9,D0,A4,BYs,hc,hs,hp]
    · rw [if_neg he] at hp
      simp -dsimp (disch:=first|omega|(simp only [A5,A2,A3]<;>omega)|fail) only [go_sem,reduceIte,reduceCtorEq,B2,B3,B4,B5,B6,B7,B8,B9,C0,C1,C2,C3,C4,C5,C6,C7,C8,C9,D0,A4,BYs,hc,hs,hp]
theorem Zvo (b:Bool) (x:Lib.NumEnd Nat) : -2147483648≤(pr8 b x).1∧(pr8 b x).1≤2147483647:=by
  cases x with
  | range=>cases b<;>exact ⟨by decide,by decide⟩
  | ok u =>
    cases b
    · by_cases h:2147483648≤u
      · rw [pr8,if_neg (by simp),if_pos h];exact ⟨by decide,by decide⟩
      · rw [pr8,if_neg (by simp),if_neg h];simp only;omega
    · by_cases h:2147483648<u
      · rw [pr8,if_pos rfl,if_pos h];exact ⟨by decide,by decide⟩
      · rw [pr8,if_pos rfl,if_neg h];simp only;omega
  | _=>exact ⟨by show (-2147483648:Int)≤0;omega,by show (0:Int)≤2147483647;omega⟩
theorem Z62 (l:List UInt8) : -2147483648≤(pi8 l).1∧(pi8 l).1≤2147483647:=by
  cases l with
  | nil=>exact ⟨by show (-2147483648:Int)≤0;omega,by show (0:Int)≤2147483647;omega⟩
  | cons c r =>
    by_cases h:c=43
    · rw [pi8,if_pos h];exact Zvo _ _
    · by_cases h':c=45
      · rw [pi8,if_neg h,if_pos h'];exact Zvo _ _
      · rw [pi8,if_neg h,if_neg h'];exact Zvo _ _
theorem Zz0 {rest r:List UInt8} {e:Ety} (h:Zvn rest=some (e,r)):r.length<rest.length∧e.name.length≤rest.length ∧ -2147483648≤e.mode∧e.mode≤2147483647:=by
  unfold Zvn at h
  split at h
  · rename_i hc
    simp only [Option.some.injEq,Prod.mk.injEq] at h
    obtain ⟨rfl,rfl⟩:=h
    obtain ⟨h1,h2,h3,h4⟩:=hc
    have hi:=Ys7 h1
    have g1:((rest.drop (rest.idxOf 0+1)).take 32).length=32:=by rw [Yqd];omega
    unfold mkT
    rw [dif_pos g1]
    refine ⟨by simp only [Yqe];omega,by simp only [Yqe,Yqd];omega,?_,?_⟩
    · exact (Z62 _).1
    · exact (Z62 _).2
  · cases h
def Sm (acc:List Ety):Prop:=(∀ e∈acc,e.name.length≤1048576 ∧ -2147483648≤e.mode∧e.mode≤2147483647)∧acc.length≤4096
theorem Zlo {l:List Ety} (h:Sm l) (i:Nat):(eat l i).name.length≤1048576 ∧ -2147483648≤(eat l i).mode∧(eat l i).mode≤2147483647:=by
  unfold eat
  by_cases hi:i<l.length
  · have:=h.1 l[i] (List.getElem_mem hi)
    simpa [List.getD,hi] using this
  · rw [List.getD,List.getElem?_eq_none (by omega)]
    exact ⟨by decide,by decide,by decide⟩
theorem Ypr {l:List Ety} (h:Sm l):Zem l:=⟨fun i=>by have:=(Zlo h i).1;omega,fun i=>by have:=(Zlo h i).2;omega,by have:=h.2;omega⟩
theorem Yps {p:List UInt8} (k:List It):∀ (m:Nat) (rest:List UInt8) (acc:List Ety),rest.length≤m→rest.length≤1048576→Sm acc→∃ v,
    X EE [.tmp 2,.tmp 3] (.c L.F6.x0::.lp [0,4,5] L.F6.x0::.blk 0::k) ⟨[(0,.lst (A1 p) p.length),(4,.buf (.s 1000000 0) 0 0 (acc).length 34),(5,.lst (A1 rest) (rest).length)],[(.s 1000000 0,⟨0,true,true,false,I8 acc⟩)]⟩ =
    match ptL m rest acc with
    | none=>some Zcl
    | some l=>X EE [.tmp 2,.tmp 3] k ⟨[(0,.lst (A1 p) p.length),(4,.buf (.s 1000000 0) 0 0 l.length 34),(5,.lst [] 0),(22,v)],[(.s 1000000 0,⟨0,true,true,false,I8 l⟩)]⟩:=by
  intro m
  induction m with
  | zero =>
    intro rest acc hr _ ha
    obtain rfl:rest=[]:=Yqu (by omega)
    refine ⟨.bool false,?_⟩
    rw [G9 L.F6.x0.eq_1,ptL,if_pos rfl]
    simp -dsimp (disch:=first|omega|(simp only [A5,A2,A3]<;>omega)|fail) only [go_sem,reduceIte,reduceCtorEq,B2,B3,B4,B5,B6,B7,B8,B9,C0,C1,C2,C3,C4,C5,C6,C7,C8,C9,D0,A4,BYs,Zc8]
  | succ m ih =>
    intro rest acc hr hr2 ha
    by_cases h0:rest=[]
    · subst h0
      refine ⟨.bool false,?_⟩
      rw [G9 L.F6.x0.eq_1,ptL,if_pos rfl]
      simp -dsimp (disch:=first|omega|(simp only [A5,A2,A3]<;>omega)|fail) only [go_sem,reduceIte,reduceCtorEq,B2,B3,B4,B5,B6,B7,B8,B9,C0,C1,C2,C3,C4,C5,C6,C7,C8,C9,D0,A4,BYs,Zc8]
    · rw [Ypq k hr2 h0 ha.2,ptL,if_neg h0]
      cases hc:Zvn rest with
      | none=>exact ⟨.bool false,rfl⟩
      | some x =>
        obtain ⟨e,r⟩:=x
        obtain ⟨l1,l2,l3,l4⟩:=Zz0 hc
        by_cases h6:acc.length=4096
        · exact ⟨.bool false,by simp only [if_pos h6]⟩
        · have hsm:Sm (acc++[e]):=by
            refine ⟨fun x hx=>?_,by rw [Yqx,Ysf];have:=ha.2;omega⟩
            rcases List.mem_append.1 hx with hx|hx
            · exact ha.1 x hx
            · rw [List.mem_singleton.1 hx];exact ⟨by omega,l3,l4⟩
          obtain ⟨v,hv⟩:=ih r (acc++[e]) (by omega) (by omega) hsm
          exact ⟨v,by simp only [if_neg h6];exact hv⟩
theorem ptL_sm:∀ (m:Nat) (rest:List UInt8) (acc l:List Ety),rest.length≤1048576→Sm acc→ptL m rest acc=some l→Sm l:=by
  intro m
  induction m with
  | zero =>
    intro rest acc l _ ha h
    rw [ptL] at h
    split at h
    · cases h;exact ha
    · cases h
  | succ m ih =>
    intro rest acc l hr ha h
    rw [ptL] at h
    split at h
    · cases h;exact ha
    · cases hc:Zvn rest with
      | none=>rw [hc] at h;cases h
      | some x =>
        obtain ⟨e,r⟩:=x
        obtain ⟨l1,l2,l3,l4⟩:=Zz0 hc
        rw [hc] at h
        simp only at h
        split at h
        · cases h
        · rename_i h6
          refine ih r _ l (by omega) ?_ h
          refine ⟨fun x hx=>?_,by rw [Yqx,Ysf];have:=ha.2;omega⟩
          rcases List.mem_append.1 hx with hx|hx
          · exact ha.1 x hx
          · rw [List.mem_singleton.1 hx];exact ⟨by omega,l3,l4⟩
def okTr (l:List Ety):AV × A6:=(.tup [.buf (.r 0) 0 0 l.length 34,.int .i64 0],[(.r 0,⟨0,true,true,false,I8 l⟩)])
def Zvp:AV × A6:=(.tup [.buf (.r 0) 0 0 0 34,.int .i64 2],[(.r 0,⟨0,true,true,false,[]⟩)])
open Classical in
noncomputable def Zz1 (p:List UInt8):AV × A6:=if 1048576<p.length then Zvp else match ptL p.length p [] with|none=>Zcl|some l=>if Zbq l=0∧G4 l=p then okTr l else Zcl
theorem Ycb {a b:List UInt8} {n m:Nat} (hn:n=a.length) (hm:m=b.length):S E F.L6 [.lst (A1 a) n,.lst (A1 b) m] []=some (.bool (a==b),[]):=by
  rw [S_of Zjh rfl rfl]
  simp -dsimp (disch:=first|omega|(simp only [A5,A2,A3]<;>omega)|fail) only [L.L6,go_sem,reduceIte,reduceCtorEq,B2,B3,B4,B5,B6,B7,B8,B9,C0,C1,C2,C3,C4,C5,C6,C7,C8,C9,D0,A4,BYs]
theorem Zvq {p:List UInt8} {n:Nat} (hn:n=p.length) (hp:p.length≤1000000000000):S EE F.F6 [.lst (A1 p) n] []=some (Zz1 p):=by
  subst hn
  rw [Ykg Zr6 rfl rfl]
  unfold Zz1
  by_cases hl:1048576<p.length
  · rw [if_pos hl]
    unfold Zvp
    simp -dsimp (disch:=first|omega|(simp only [A5,A2,A3]<;>omega)|fail) only [L.F6,go_sem,reduceIte,reduceCtorEq,B2,B3,B4,B5,B6,B7,B8,B9,C0,C1,C2,C3,C4,C5,C6,C7,C8,C9,D0,A4,BYs,hl]
  · rw [if_neg hl]
    have hsm0:Sm []:=⟨fun e he=>by simp at he,by simp⟩
    obtain ⟨v,h⟩:=Yps (p:=p) [.c L.F6.r0] p.length p [] (Yp6 _) (by omega) hsm0
    rw [Zys] at h
    simp only [Yrj] at h
    simp -dsimp (disch:=first|omega|(simp only [A5,A2,A3]<;>omega)|fail) only [L.F6,go_sem,reduceIte,reduceCtorEq,B2,B3,B4,B5,B6,B7,B8,B9,C0,C1,C2,C3,C4,C5,C6,C7,C8,C9,D0,A4,BYs,hl]
    rw [h]
    cases hq:ptL p.length p [] with
    | none=>rfl
    | some l =>
      have hsm:=ptL_sm _ _ _ _ (by omega) hsm0 hq
      have ht:=Zvm (Ypr hsm)
      have hll:=hsm.2
      have hbe:=R9 Zeo (Ycb (a:=G4 l) (b:=p) (n:=(G4 l).length) (m:=p.length) rfl rfl)
      unfold Zkn at ht
      simp only
      by_cases he:Zbq l=0
      · rw [if_pos he] at ht
        have hts:=Zav he
        by_cases hb:G4 l=p
        · have hbb:(G4 l==p)=true:=by simp [hb]
          rw [hbb] at hbe
          rw [if_pos ⟨he,hb⟩]
          unfold okTr
          simp -dsimp (disch:=first|omega|(simp only [A5,A2,A3]<;>omega)|fail) only [L.F6.r0,go_sem,reduceIte,reduceCtorEq,B2,B3,B4,B5,B6,B7,B8,B9,C0,C1,C2,C3,C4,C5,C6,C7,C8,C9,D0,A4,BYs,ht,hbe]
        · have hbb:(G4 l==p)=false:=by simp [hb]
          rw [hbb] at hbe
          rw [if_neg (fun x=>hb x.2)]
          unfold Zcl
          simp -dsimp (disch:=first|omega|(simp only [A5,A2,A3]<;>omega)|fail) only [L.F6.r0,go_sem,reduceIte,reduceCtorEq,B2,B3,B4,B5,B6,B7,B8,B9,C0,C1,C2,C3,C4,C5,C6,C7,C8,C9,D0,A4,BYs,ht,hbe]
      · rw [if_neg he] at ht
        rw [if_neg (fun x=>he x.1)]
        unfold Zcl
        simp -dsimp (disch:=first|omega|(simp only [A5,A2,A3]<;>omega)|fail) only [L.F6.r0,go_sem,reduceIte,reduceCtorEq,B2,B3,B4,B5,B6,B7,B8,B9,C0,C1,C2,C3,C4,C5,C6,C7,C8,C9,D0,A4,BYs,ht,he]
end Cod
namespace Cod
open Go
theorem Ypt:∀ (s:List UInt8) (k:Nat) (v:Int),0≤v→v<8^k→k+s.length≤6 → -1≤ocL s v∧ocL s v<262144:=by
  intro s
  induction s with
  | nil =>
    intro k v h0 h1 h2
    have hpow:(8:Int)^k≤8^6:=by exact_mod_cast Nat.pow_le_pow_right (by omega) (by simpa using h2)
    rw [ocL]
    omega
  | cons c r ih =>
    intro k v h0 h1 h2
    rw [ocL]
    split
    · omega
    · rw [Yqm] at h2
      refine ih (k+1) _ (by unfold ocS;omega) (by unfold ocS;rw [Int.pow_succ];omega) (by omega)
theorem Ykh (s:List UInt8) : -1≤Zip s∧Zip s<262144:=by
  unfold Zip
  split
  · omega
  · split
    · omega
    · exact Ypt s 0 0 (by omega) (by simp) (by omega)
theorem Yki {v:Int} {n d:List UInt8} (h:d.length=32):(mkT v n d).name=n:=by unfold mkT;rw [dif_pos h]
theorem Ykj {v:Int} {n d:List UInt8} (h:d.length=32):(mkT v n d).mode=v:=by unfold mkT;rw [dif_pos h]
theorem Zqz {rest r:List UInt8} {e:Ety} (h:Zhd rest=some (e,r)):r.length<rest.length∧e.name.length≤rest.length ∧ -2147483648≤e.mode∧e.mode≤2147483647:=by
  unfold Zhd at h
  split at h
  · rename_i hc
    simp only [Option.some.injEq,Prod.mk.injEq] at h
    obtain ⟨rfl,rfl⟩:=h
    have g1:((rest.drop (Zh3 rest+1)).take 32).length=32:=by rw [Yqd,Yqe];omega
    have ho:=Ykh (rest.take (Zck rest))
    rw [Yki g1,Ykj g1]
    refine ⟨by rw [Yqe];omega,by simp only [sub,Yqd,Yqe];omega,by omega,by omega⟩
  · cases h
def rpL:Nat→List UInt8→List Ety→Option (List Ety)
  | 0,rest,acc=>if rest=[] then some acc else none
  | m+1,rest,acc=>if rest=[] then some acc else match Zhd rest with|none=>none|some (e,r)=>if acc.length=4096 then none else rpL m r (acc++[e])
theorem Ypu {p:List UInt8} (k:List It) {rest:List UInt8} {acc:List Ety} (hr:rest.length≤1048576) (h0:rest≠[]) (ha:acc.length≤4096) :
    X E [.tmp 2,.tmp 3] (.c L.G3.x0::.lp [0,4,5] L.G3.x0::.blk 0::k) ⟨[(0,.lst (A1 p) p.length),(4,.buf (.s 1000000 0) 0 0 (acc).length 34),(5,.lst (A1 rest) (rest).length)],[(.s 1000000 0,⟨0,true,true,false,I8 acc⟩)]⟩ =
    match Zhd rest with
    | none=>some Zcl
    | some (e,r)=>if acc.length=4096 then some Zcl else X E [.tmp 2,.tmp 3] (.c L.G3.x0::.lp [0,4,5] L.G3.x0::.blk 0::k) ⟨[(0,.lst (A1 p) p.length),(4,.buf (.s 1000000 0) 0 0 ((acc++[e])).length 34),(5,.lst (A1 r) (r).length)],[(.s 1000000 0,⟨0,true,true,false,I8 (acc++[e])⟩)]⟩:=by
  have hpos:0<rest.length:=by cases rest with|nil=>exact absurd rfl h0|cons=>simp
  have hn:=Yj5 hr
  rw [G9 L.G3.x0.eq_1]
  unfold Zcl
  cases hc:Zhd rest with
  | none =>
    rw [hc] at hn
    simp only at hn
    simp -dsimp (disch:=first|omega|(simp only [A5,A2,A3]<;>omega)|fail) only [go_sem,reduceIte,reduceCtorEq,B2,B3,B4,B5,B6,B7,B8,B9,C0,C1,C2,C3,C4,C5,C6,C7,C8,C9,D0,A4,BYs,hn]
  | some x =>
    obtain ⟨e,r⟩:=x
    rw [hc] at hn
    simp only at hn
    by_cases h6:acc.length=4096
    · simp -dsimp (disch:=first|omega|(simp only [A5,A2,A3]<;>omega)|fail) only [go_sem,reduceIte,reduceCtorEq,B2,B3,B4,B5,B6,B7,B8,B9,C0,C1,C2,C3,C4,C5,C6,C7,C8,C9,D0,A4,BYs,hn,h6]
    · have g6:(acc++[e]).length=acc.length+1:=by simp
      simp -dsimp (disch:=first|omega|(simp only [A5,A2,A3]<;>omega)|fail) only [go_sem,reduceIte,reduceCtorEq,B2,B3,B4,B5,B6,B7,B8,B9,C0,C1,C2,C3,C4,C5,C6,C7,C8,C9,D0,A4,BYs,hn,h6,g6,Zp0]
theorem Ypv {p:List UInt8} (k:List It):∀ (m:Nat) (rest:List UInt8) (acc:List Ety),rest.length≤m→rest.length≤1048576→Sm acc→∃ v,
    X E [.tmp 2,.tmp 3] (.c L.G3.x0::.lp [0,4,5] L.G3.x0::.blk 0::k) ⟨[(0,.lst (A1 p) p.length),(4,.buf (.s 1000000 0) 0 0 (acc).length 34),(5,.lst (A1 rest) (rest).length)],[(.s 1000000 0,⟨0,true,true,false,I8 acc⟩)]⟩ =
    match rpL m rest acc with
    | none=>some Zcl
    | some l=>X E [.tmp 2,.tmp 3] k ⟨[(0,.lst (A1 p) p.length),(4,.buf (.s 1000000 0) 0 0 l.length 34),(5,.lst [] 0),(15,v)],[(.s 1000000 0,⟨0,true,true,false,I8 l⟩)]⟩:=by
  intro m
  induction m with
  | zero =>
    intro rest acc hr _ ha
    obtain rfl:rest=[]:=Yqu (by omega)
    refine ⟨.bool false,?_⟩
    rw [G9 L.G3.x0.eq_1,rpL,if_pos rfl]
    simp -dsimp (disch:=first|omega|(simp only [A5,A2,A3]<;>omega)|fail) only [go_sem,reduceIte,reduceCtorEq,B2,B3,B4,B5,B6,B7,B8,B9,C0,C1,C2,C3,C4,C5,C6,C7,C8,C9,D0,A4,BYs,Zc8]
  | succ m ih =>
    intro rest acc hr hr2 ha
    by_cases h0:rest=[]
    · subst h0
      refine ⟨.bool false,?_⟩
      rw [G9 L.G3.x0.eq_1,rpL,if_pos rfl]
      simp -dsimp (disch:=first|omega|(simp only [A5,A2,A3]<;>omega)|fail) only [go_sem,reduceIte,reduceCtorEq,B2,B3,B4,B5,B6,B7,B8,B9,C0,C1,C2,C3,C4,C5,C6,C7,C8,C9,D0,A4,BYs,Zc8]
    · rw [Ypu k hr2 h0 ha.2,rpL,if_neg h0]
      cases hc:Zhd rest with
      | none=>exact ⟨.bool false,rfl⟩
      | some x =>
        obtain ⟨e,r⟩:=x
        obtain ⟨l1,l2,l3,l4⟩:=Zqz hc
        by_cases h6:acc.length=4096
        · exact ⟨.bool false,by simp only [if_pos h6]⟩
        · have hsm:Sm (acc++[e]):=by
            refine ⟨fun x hx=>?_,by rw [Yqx,Ysf];have:=ha.2;omega⟩
            rcases List.mem_append.1 hx with hx|hx
            · exact ha.1 x hx
            · rw [List.mem_singleton.1 hx];exact ⟨by omega,l3,l4⟩
          obtain ⟨v,hv⟩:=ih r (acc++[e]) (by omega) (by omega) hsm
          exact ⟨v,by simp only [if_neg h6];exact hv⟩
theorem rpL_sm:∀ (m:Nat) (rest:List UInt8) (acc l:List Ety),rest.length≤1048576→Sm acc→rpL m rest acc=some l→Sm l:=by
  intro m
  induction m with
  | zero =>
    intro rest acc l _ ha h
    rw [rpL] at h
    split at h
    · cases h;exact ha
    · cases h
  | succ m ih =>
    intro rest acc l hr ha h
    rw [rpL] at h
    split at h
    · cases h;exact ha
    · cases hc:Zhd rest with
      | none=>rw [hc] at h;cases h
      | some x =>
        obtain ⟨e,r⟩:=x
        obtain ⟨l1,l2,l3,l4⟩:=Zqz hc
        rw [hc] at h
        simp only at h
        split at h
        · cases h
        · rename_i h6
          refine ih r _ l (by omega) ?_ h
          refine ⟨fun x hx=>?_,by rw [Yqx,Ysf];have:=ha.2;omega⟩
          rcases List.mem_append.1 hx with hx|hx
          · exact ha.1 x hx
          · rw [List.mem_singleton.1 hx];exact ⟨by omega,l3,l4⟩
open Classical in
noncomputable def Zko (p:List UInt8):AV × A6:=if 1048576<p.length then Zvp else match rpL p.length p [] with|none=>Zcl|some l=>if Zbq l=0∧G4 l=p then okTr l else Zcl
theorem Zos {a b:List UInt8} {n m:Nat} (hn:n=a.length) (hm:m=b.length):S E F.L4 [.lst (A1 a) n,.lst (A1 b) m] []=some (.bool (a==b),[]):=by
  rw [S_of Zjf rfl rfl]
  simp -dsimp (disch:=first|omega|(simp only [A5,A2,A3]<;>omega)|fail) only [L.L4,go_sem,reduceIte,reduceCtorEq,B2,B3,B4,B5,B6,B7,B8,B9,C0,C1,C2,C3,C4,C5,C6,C7,C8,C9,D0,A4,BYs]
theorem Zvr {p:List UInt8} {n:Nat} (hn:n=p.length) (hp:p.length≤1000000000000):S E F.G3 [.lst (A1 p) n] []=some (Zko p):=by
  subst hn
  rw [S_of Zr7 rfl rfl]
  unfold Zko
  by_cases hl:1048576<p.length
  · rw [if_pos hl]
    unfold Zvp
    simp -dsimp (disch:=first|omega|(simp only [A5,A2,A3]<;>omega)|fail) only [L.G3,go_sem,reduceIte,reduceCtorEq,B2,B3,B4,B5,B6,B7,B8,B9,C0,C1,C2,C3,C4,C5,C6,C7,C8,C9,D0,A4,BYs,hl]
  · rw [if_neg hl]
    have hsm0:Sm []:=⟨fun e he=>by simp at he,by simp⟩
    obtain ⟨v,h⟩:=Ypv (p:=p) [.c L.G3.r0] p.length p [] (Yp6 _) (by omega) hsm0
    rw [Zys] at h
    simp only [Yrj] at h
    simp -dsimp (disch:=first|omega|(simp only [A5,A2,A3]<;>omega)|fail) only [L.G3,go_sem,reduceIte,reduceCtorEq,B2,B3,B4,B5,B6,B7,B8,B9,C0,C1,C2,C3,C4,C5,C6,C7,C8,C9,D0,A4,BYs,hl]
    rw [h]
    cases hq:rpL p.length p [] with
    | none=>rfl
    | some l =>
      have hsm:=rpL_sm _ _ _ _ (by omega) hsm0 hq
      have hll:=hsm.2
      have ht:=Zzx (B:=1048576) (fun i=>(Zlo hsm i).1) (by omega) (fun i=>by have:=(Zlo hsm i).2;omega) (by omega)
      have hT:=Zon (B:=1048576) (fun i=>(Zlo hsm i).1) (by omega) hll (fun i=>by have:=(Zlo hsm i).2;omega)
      have hbe:=Zos (a:=G4 l) (b:=p) (n:=(G4 l).length) (m:=p.length) rfl rfl
      simp only
      by_cases he:Zbq l=0
      · rw [he] at ht
        have hts:=Zav he
        by_cases hb:G4 l=p
        · have hbb:(G4 l==p)=true:=by simp [hb]
          rw [hbb] at hbe
          rw [if_pos ⟨he,hb⟩]
          unfold okTr
          simp -dsimp (disch:=first|omega|(simp only [A5,A2,A3]<;>omega)|fail) only [L.G3.r0,go_sem,reduceIte,reduceCtorEq,B2,B3,B4,B5,B6,B7,B8,B9,C0,C1,C2,C3,C4,C5,C6,C7,C8,C9,D0,A4,BYs,ht,hT,hbe]
        · have hbb:(G4 l==p)=false:=by simp [hb]
          rw [hbb] at hbe
          rw [if_neg (fun x=>hb x.2)]
          unfold Zcl
          simp -dsimp (disch:=first|omega|(simp only [A5,A2,A3]<;>omega)|fail) only [L.G3.r0,go_sem,reduceIte,reduceCtorEq,B2,B3,B4,B5,B6,B7,B8,B9,C0,C1,C2,C3,C4,C5,C6,C7,C8,C9,D0,A4,BYs,ht,hT,hbe]
      · rw [if_neg (fun x=>he x.1)]
        unfold Zcl
        simp -dsimp (disch:=first|omega|(simp only [A5,A2,A3]<;>omega)|fail) only [L.G3.r0,go_sem,reduceIte,reduceCtorEq,B2,B3,B4,B5,B6,B7,B8,B9,C0,C1,C2,C3,C4,C5,C6,C7,C8,C9,D0,A4,BYs,ht,he]
def Zvs (l:List Ety):AV × A6:=if Zbq l=0 then (.tup [.buf (.r 0) 0 0 (G4 l).length 1,.int .i64 0],[(.r 0,⟨0,true,true,false,A1 (G4 l)⟩)]) else (.tup [.buf (.r 0) 0 0 0 1,.int .i64 (Zbq l)],[(.r 0,⟨0,true,true,false,[]⟩)])
theorem Zvt {l:List Ety} {B:Nat} (hb:∀ i,(eat l i).name.length≤B) (hB:B≤1000000000) (hm:∀ i,-9223372036854775808≤(eat l i).mode∧(eat l i).mode≤9223372036854775807) (hl:l.length≤1000000000) :
    S E F.O4 [.lst (I8 l) l.length] []=some (Zvs l):=by
  have ht:=Zzx hb hB hm hl
  rw [S_of Zr5 rfl rfl]
  unfold Zvs
  by_cases he:Zbq l=0
  · have hlen:l.length≤4096:=by
      apply Classical.byContradiction
      intro h
      unfold Zbq at he
      rw [if_pos (by omega)] at he
      omega
    have hT:=Zon hb hB hlen hm
    have hts:=Zav he
    rw [if_pos he]
    simp -dsimp (disch:=first|omega|(simp only [A5,A2,A3]<;>omega)|fail) only [L.O4,go_sem,reduceIte,reduceCtorEq,B2,B3,B4,B5,B6,B7,B8,B9,C0,C1,C2,C3,C4,C5,C6,C7,C8,C9,D0,A4,BYs,ht,he,hT]
  · rw [if_neg he]
    simp -dsimp (disch:=first|omega|(simp only [A5,A2,A3]<;>omega)|fail) only [L.O4,go_sem,reduceIte,reduceCtorEq,B2,B3,B4,B5,B6,B7,B8,B9,C0,C1,C2,C3,C4,C5,C6,C7,C8,C9,D0,A4,BYs,ht,he]
end Cod
namespace Cod
open Go
theorem nmI_no {l:List Ety}:∀ (m i:Nat) (n:Bool),nmI l m i n=false→n=false∧∀ j,i≤j→j<i+m→P3 (eat l j).name=true:=by
  intro m
  induction m with
  | zero=>intro i n h;exact ⟨h,fun j h1 h2=>by omega⟩
  | succ m ih =>
    intro i n h
    rw [nmI] at h
    obtain ⟨h1,h2⟩:=ih (i+1) _ h
    rw [Yq9,Ytl] at h1
    refine ⟨h1.1,fun j h3 h4=>?_⟩
    by_cases hj:j=i
    · rw [hj];exact h1.2
    · exact h2 j (by omega) (by omega)
theorem fmI_no {l:List Ety}:∀ (m i:Nat) (f:Bool),fmI l m i f=false→f=false∧∀ j,i≤j→j<i+m→Zbp (eat l j).mode=true:=by
  intro m
  induction m with
  | zero=>intro i n h;exact ⟨h,fun j h1 h2=>by omega⟩
  | succ m ih =>
    intro i n h
    rw [fmI] at h
    obtain ⟨h1,h2⟩:=ih (i+1) _ h
    rw [Yq9,Yq9,Ytl] at h1
    refine ⟨h1.1.1,fun j h3 h4=>?_⟩
    by_cases hj:j=i
    · rw [hj];exact h1.1.2
    · exact h2 j (by omega) (by omega)
def okE (e:Ety):Prop:=P3 e.name=true∧Zbp e.mode=true
theorem Zvu {l:List Ety} (h:Zbq l=0):l.length≤4096∧∀ e∈l,okE e:=by
  have hl:l.length≤4096:=by
    apply Classical.byContradiction
    intro hn
    unfold Zbq at h
    rw [if_pos (by omega)] at h
    omega
  refine ⟨hl,?_⟩
  rw [Z6y l hl] at h
  have h1:nmI l l.length 0 false=false∧fmI l l.length 0 false=false:=by
    generalize nmI l l.length 0 false=a at *
    generalize fmI l l.length 0 false=b at *
    generalize tw l l.length 0=c at *
    generalize decide (1048576<(G4 l).length)=d at *
    revert h
    cases a<;>cases b<;>cases c<;>cases d<;>decide
  intro e he
  obtain ⟨i,hi,rfl⟩:=List.getElem_of_mem he
  have e1:eat l i=l[i]:=by simp [eat,List.getD,hi]
  exact ⟨by rw [←e1];exact (nmI_no _ _ _ h1.1).2 i (by omega) (by omega),by rw [←e1];exact (fmI_no _ _ _ h1.2).2 i (by omega) (by omega)⟩
theorem Zot {m:Int} (h:Zbp m=true):pi8 (P4 m)=(m,0)∧Zip (P4 m)=m∧(32:UInt8)∉P4 m∧(0:UInt8)∉P4 m:=by
  unfold Zbp at h
  simp only [Bool.or_eq_true,decide_eq_true_eq] at h
  rcases h with rfl|rfl|rfl|rfl<;>decide +kernel
theorem Zz2 {s:List UInt8} (h:P3 s=true):(0:UInt8)∉s:=by
  unfold P3 at h
  simp only [Bool.and_eq_true,Bool.not_eq_true',List.contains_eq_mem,decide_eq_false_iff_not] at h
  exact h.1.1.1.2
theorem Zq0 (e:Ety) (r:List UInt8):Zio e++r=(P4 e.mode++32::e.name)++0::(e.id++r):=by
  unfold Zio
  simp only [Yqy,Yp9,Yry]
theorem Ykk {c:UInt8} {H T:List UInt8} (h:c∉H):(H++c::T).idxOf c=H.length:=by
  rw [List.idxOf_append,if_neg h,List.idxOf_cons_self,Yq0]
theorem Zz3 (e:Ety):mkT e.mode e.name e.id=e:=by unfold mkT;rw [dif_pos e.hid]
theorem Ykl {e:Ety} (h:okE e) (r:List UInt8):Zvn (Zio e++r)=some (e,r):=by
  obtain ⟨m1,m2,m3,m4⟩:=Zot h.2
  have n0:=Zz2 h.1
  have hid:=e.hid
  rw [Zq0]
  have hH:(0:UInt8)∉P4 e.mode++32::e.name:=by
    simp only [Yse,List.mem_cons,not_or]
    exact ⟨m4,by decide,n0⟩
  have i1:=Ykk (T:=e.id++r) hH
  have i2:=Ykk (T:=e.name) m3
  have t1:((P4 e.mode++32::e.name)++0::(e.id++r)).take (P4 e.mode++32::e.name).length=P4 e.mode++32::e.name:=Ys9
  have t2:((P4 e.mode++32::e.name)++0::(e.id++r)).drop ((P4 e.mode++32::e.name).length+1)=e.id++r:=by
    rw [←Yq4,Ys8];rfl
  have t3:(P4 e.mode++32::e.name).take (P4 e.mode).length=P4 e.mode:=Ys9
  have t4:(P4 e.mode++32::e.name).drop ((P4 e.mode).length+1)=e.name:=by
    rw [←Yq4,Ys8];rfl
  have t5:(e.id++r).take 32=e.id:=by rw [←hid];exact Ys9
  have t6:(e.id++r).drop 32=r:=by rw [←hid];exact Ys8
  unfold Zvn
  rw [i1,t1,i2,t2,t3,t4,t5,t6,m1,Zz3]
  rw [if_pos]
  refine ⟨by simp,by simp,rfl,by rw [Yqx,hid];omega⟩
theorem Ykm {c:UInt8} {H T:List UInt8} {i0:Nat} (hH:∀ j,i0≤j→j<H.length→H.getD j 0≠c):∀ (m i:Nat),i0≤i→i≤H.length→i+m=(H++c::T).length→spI (H++c::T) c m i=H.length:=by
  intro m
  induction m with
  | zero=>intro i _ h1 h2;rw [Yqx,Yqm] at h2;omega
  | succ m ih =>
    intro i h0 h1 h2
    rw [spI]
    by_cases hi:i=H.length
    · rw [if_pos (by subst hi;simp [List.getD])];exact hi
    · have e1:(H++c::T).getD i 0=H.getD i 0:=by
        simp only [List.getD]
        rw [List.getElem?_append_left (by omega)]
      rw [e1,if_neg (hH i h0 (by omega))]
      exact ih (i+1) (by omega) (by omega) (by omega)
theorem Z63 {c:UInt8} {H:List UInt8} (h:c∉H) (j:Nat) (hj:j<H.length):H.getD j 0≠c:=by
  intro e
  apply h
  rw [←e]
  simp [List.getD,hj]
theorem Ycc {e:Ety} (h:okE e) (r:List UInt8):Zhd (Zio e++r)=some (e,r):=by
  obtain ⟨m1,m2,m3,m4⟩:=Zot h.2
  have n0:=Zz2 h.1
  have hid:=e.hid
  rw [Zq0]
  have hH:(0:UInt8)∉P4 e.mode++32::e.name:=by
    simp only [Yse,List.mem_cons,not_or]
    exact ⟨m4,by decide,n0⟩
  have ha:Zck ((P4 e.mode++32::e.name)++0::(e.id++r))=(P4 e.mode).length:=by
    unfold Zck
    rw [Yqy,Yp9]
    exact Ykm (i0:=0) (fun j _ hj=>Z63 m3 j hj) _ 0 (Yp6 _) (by omega) (by omega)
  have hb:Zh3 ((P4 e.mode++32::e.name)++0::(e.id++r))=(P4 e.mode++32::e.name).length:=by
    unfold Zh3
    rw [ha]
    refine Ykm (i0:=0) (fun j _ hj=>Z63 hH j hj) _ _ (by omega) (by rw [Yqx];omega) ?_
    simp only [Yqx,Yqm]
    omega
  have hl:(P4 e.mode++32::e.name).length=(P4 e.mode).length+1+e.name.length:=by simp only [Yqx,Yqm];omega
  have t1:((P4 e.mode++32::e.name)++0::(e.id++r)).take (P4 e.mode).length=P4 e.mode:=by
    rw [Yqy];exact Ys9
  have t2:sub ((P4 e.mode++32::e.name)++0::(e.id++r)) ((P4 e.mode).length+1) ((P4 e.mode++32::e.name).length-((P4 e.mode).length+1))=e.name:=by
    unfold sub
    rw [Yqy,←Yq4,Ys8,hl,show (P4 e.mode).length+1+e.name.length-((P4 e.mode).length+1)=e.name.length by omega]
    exact Ys9
  have t3:(((P4 e.mode++32::e.name)++0::(e.id++r)).drop ((P4 e.mode++32::e.name).length+1)).take 32=e.id:=by
    rw [←Yq4,Ys8,←hid]
    exact Ys9
  have t4:((P4 e.mode++32::e.name)++0::(e.id++r)).drop ((P4 e.mode++32::e.name).length+33)=r:=by
    rw [←Yq4,Ys8,show 33=1+e.id.length by omega,←Yq4]
    exact Ys8
  unfold Zhd
  rw [ha,hb,t1,t2,t3,t4,m2,Zz3,if_pos]
  refine ⟨by omega,?_⟩
  simp only [Yqx,Yqm,hid]
  omega
theorem Zz4 (e:Ety):0<(Zio e).length:=by rw [Zkl];omega
theorem Ypw:∀ (l:List Ety) (m:Nat) (acc:List Ety),(G4 l).length≤m→acc.length+l.length≤4096→(∀ e∈l,okE e)→ptL m (G4 l) acc=some (acc++l):=by
  intro l
  induction l with
  | nil =>
    intro m acc _ _ _
    cases m<;>rw [ptL,if_pos (show G4 []=[] from rfl),Ys4]
  | cons e l ih =>
    intro m acc hm ha ho
    have hp:=Zz4 e
    rw [Zaw,Yqx] at hm
    rw [Yqm] at ha
    cases m with
    | zero=>omega
    | succ m =>
      have hne:G4 (e::l)≠[]:=by
        intro h
        rw [Zaw] at h
        have:=congrArg List.length h
        rw [Yqx,Yrj] at this
        omega
      rw [ptL,if_neg hne,Zaw,Ykl (ho e (Ysx ..))]
      simp only
      rw [if_neg (by omega),ih m (acc++[e]) (by omega) (by rw [Yqx,Ysf];omega) (fun x hx=>ho x (Yra _ hx)),Yqy]
      rfl
theorem Ypx:∀ (l:List Ety) (m:Nat) (acc:List Ety),(G4 l).length≤m→acc.length+l.length≤4096→(∀ e∈l,okE e)→rpL m (G4 l) acc=some (acc++l):=by
  intro l
  induction l with
  | nil =>
    intro m acc _ _ _
    cases m<;>rw [rpL,if_pos (show G4 []=[] from rfl),Ys4]
  | cons e l ih =>
    intro m acc hm ha ho
    have hp:=Zz4 e
    rw [Zaw,Yqx] at hm
    rw [Yqm] at ha
    cases m with
    | zero=>omega
    | succ m =>
      have hne:G4 (e::l)≠[]:=by
        intro h
        rw [Zaw] at h
        have:=congrArg List.length h
        rw [Yqx,Yrj] at this
        omega
      rw [rpL,if_neg hne,Zaw,Ycc (ho e (Ysx ..))]
      simp only
      rw [if_neg (by omega),ih m (acc++[e]) (by omega) (by rw [Yqx,Ysf];omega) (fun x hx=>ho x (Yra _ hx)),Yqy]
      rfl
def Zhe (p:List UInt8) (l:List Ety):Prop:=Zbq l=0∧G4 l=p
theorem pt_of {p:List UInt8} {l:List Ety} (h:Zhe p l):ptL p.length p []=some l:=by
  obtain ⟨h1,h2⟩:=Zvu h.1
  have:=Ypw l (G4 l).length [] (Yp6 _) (by simpa using h1) h2
  rw [h.2] at this
  exact this
theorem rp_of {p:List UInt8} {l:List Ety} (h:Zhe p l):rpL p.length p []=some l:=by
  obtain ⟨h1,h2⟩:=Zvu h.1
  have:=Ypx l (G4 l).length [] (Yp6 _) (by simpa using h1) h2
  rw [h.2] at this
  exact this
theorem Ykn {p:List UInt8} {l:List Ety} (h:Zhe p l) (hp:p.length≤1048576):Zz1 p=okTr l:=by
  unfold Zz1
  rw [if_neg (by omega),pt_of h]
  exact if_pos h
theorem Ycd {p:List UInt8} {l:List Ety} (h:Zhe p l) (hp:p.length≤1048576):Zko p=okTr l:=by
  unfold Zko
  rw [if_neg (by omega),rp_of h]
  exact if_pos h
theorem Ypy {p:List UInt8} (h:∀ l,¬ Zhe p l) (hp:p.length≤1048576):Zz1 p=Zcl:=by
  unfold Zz1
  rw [if_neg (by omega)]
  cases ptL p.length p [] with
  | none=>rfl
  | some l=>exact if_neg (h l)
theorem Yko {p:List UInt8} (h:∀ l,¬ Zhe p l) (hp:p.length≤1048576):Zko p=Zcl:=by
  unfold Zko
  rw [if_neg (by omega)]
  cases rpL p.length p [] with
  | none=>rfl
  | some l=>exact if_neg (h l)
end Cod
namespace Cod
open Go
theorem Zz5 (e:Ety):I7 [0,2,0,0,0,0,0,0,0,0,0,0,0,0,0,0,0,0,0,0,0,0,0,0,0,0,0,0,0,0,0,0,0,0] e.cells e.cells=some true:=by
  show I7 (0::2::[0,0,0,0,0,0,0,0,0,0,0,0,0,0,0,0,0,0,0,0,0,0,0,0,0,0,0,0,0,0,0,0]) (.int .i64 e.mode::.str e.name::A1 e.id) (.int .i64 e.mode::.str e.name::A1 e.id)=_
  rw [I7,if_pos rfl,I7,Zim e.hid e.hid]
  simp
theorem se_l0 {l:List Ety} (hl:l.length≤4096):∀ (m i:Nat),i+m=l.length →
    X E [.tmp 4] (.c L.I9.x0::.lp [0,1,12,13] L.I9.x0::.blk 0::[.c L.I9.r0]) ⟨[(0,.lst (I8 l) l.length),(1,.lst (I8 l) l.length),(12,.int .i64 l.length),(13,.int .i64 i)],[]⟩=some (.bool true,[]):=by
  intro m
  induction m with
  | zero =>
    intro i h
    obtain rfl:i=l.length:=by omega
    rw [G9 L.I9.x0.eq_1]
    simp -dsimp (disch:=first|omega|(simp only [A5,A2,A3]<;>omega)|fail) only [go_sem,reduceIte,reduceCtorEq,B2,B3,B4,B5,B6,B7,B8,B9,C0,C1,C2,C3,C4,C5,C6,C7,C8,C9,D0,A4,L.I9.r0]
  | succ m ih =>
    intro i h
    have h1:=ih (i+1) (by omega)
    simp only [Int.natCast_add,Ysh] at h1
    have hq:=Zz5 (eat l i)
    rw [G9 L.I9.x0.eq_1]
    simp -dsimp (disch:=first|omega|(simp only [A5,A2,A3]<;>omega)|fail) only [go_sem,reduceIte,reduceCtorEq,B2,B3,B4,B5,B6,B7,B8,B9,C0,C1,C2,C3,C4,C5,C6,C7,C8,C9,D0,A4,hq,h1,Yqb,Bool.not_true]
theorem Zvv {l:List Ety} {n m:Nat} (hn:n=l.length) (hm:m=l.length) (hl:l.length≤4096):S E F.I9 [.lst (I8 l) n,.lst (I8 l) m] []=some (.bool true,[]):=by
  subst hn hm
  have h:=se_l0 hl l.length 0 (by omega)
  simp only [Ysh] at h
  rw [S_of Zr8 rfl rfl]
  simp -dsimp (disch:=first|omega|(simp only [A5,A2,A3]<;>omega)|fail) only [L.I9,go_sem,reduceIte,reduceCtorEq,B2,B3,B4,B5,B6,B7,B8,B9,C0,C1,C2,C3,C4,C5,C6,C7,C8,C9,D0,A4,h]
def parX (l:List Ety) (e:Int):AV × A6:=(.tup [.buf (.r 0) 0 0 l.length 34,.int .i64 e],[(.r 0,⟨0,true,true,false,I8 l⟩)])
theorem Z4w (p:List UInt8):∃ l e,l.length≤4096∧Zz1 p=parX l e∧Zko p=parX l e:=by
  by_cases hl:1048576<p.length
  · refine ⟨[],2,by simp,?_,?_⟩
    · unfold Zz1;rw [if_pos hl];rfl
    · unfold Zko;rw [if_pos hl];rfl
  · by_cases h:∃ l,Zhe p l
    · obtain ⟨l,h⟩:=h
      exact ⟨l,0,(Zvu h.1).1,Ykn h (by omega),Ycd h (by omega)⟩
    · have h':∀ l,¬ Zhe p l:=fun l hl=>h ⟨l,hl⟩
      exact ⟨[],4,by simp,Ypy h' (by omega),Yko h' (by omega)⟩
theorem Ykp:S E F.L4 [.lst [] 0,.lst [] 0] []=some (.bool true,[]):=Zos (a:=[]) (b:=[]) rfl rfl
end Cod
namespace Cod
open Go
end Cod
namespace Cod
open Go
structure Lnk where
  kind:Int
  id:Id32
instance:Inhabited Lnk:=⟨⟨0,default⟩⟩
def Lnk.cells (l:Lnk):List AV:=.int .i64 l.kind::A1 l.id.b
theorem Zhx (l:Lnk):l.cells.length=33:=by simp [Lnk.cells,D8,l.id.h]
theorem Zlp (l:Lnk):flats l.cells=true:=by simp [Lnk.cells,flats,K1,O8]
theorem Zq1 (l:Lnk):J9 l.cells=true:=by simp [Lnk.cells,J9,U2,Z4]
theorem Zq2 (l:Lnk):leadss l.cells=false:=by simp [Lnk.cells,leadss,T4,Z5]
theorem Zz6 (l:Lnk):refsOfs l.cells=[]:=by simp [Lnk.cells,refsOfs,X4,Z6]
theorem Zz7 (f:Site→Nat→Option (Site × Nat)) (l:Lnk):rens f l.cells=l.cells:=rens_flats _ (Zlp l)
theorem Ypz (l:Lnk):sub l.cells 0 33=l.cells:=Zeg (by rw [Zhx];exact Yp6 _)
theorem lnk_0 (l:Lnk):l.cells[0]? = some (.int .i64 l.kind):=rfl
theorem lnk_id (l:Lnk):sub l.cells 1 32=A1 l.id.b:=by
  simp only [sub,Lnk.cells,List.drop_succ_cons,List.drop_zero]
  exact List.take_of_length_le (by rw [D8,l.id.h];exact Yp6 _)
def Zlq (l:List Lnk):List AV:=l.flatMap Lnk.cells
def lat (l:List Lnk) (i:Nat):Lnk:=l.getD i default
theorem Zmc (l:List Lnk):(Zlq l).length=33*l.length:=Zg4 Zhx l
theorem Yce (a:List Lnk) (s:Lnk):Zlq a++s.cells=Zlq (a++[s]):=by simp [Zlq]
theorem Z4x (l:List Lnk):flats (Zlq l)=true:=Zf3 Zlp l
theorem Z4y (l:List Lnk):J9 (Zlq l)=true:=Zf4 Zq1 l
theorem Zz8 (l:List Lnk):leadss (Zlq l)=false:=Ze0 Zq2 l
theorem Zvw (l:List Lnk):refsOfs (Zlq l)=[]:=Zhs Zz6 l
theorem Ycf (f:Site→Nat→Option (Site × Nat)) (l:List Lnk):rens f (Zlq l)=Zlq l:=Zht f (Zz7 f) l
theorem Ykq {l:List Lnk} {i:Nat} (h:i<l.length):sub (Zlq l) (i*33) 33=(lat l i).cells:=Zn3 Zhx h
theorem Zvx {l:List Lnk}:sub (Zlq l) 0 (l.length*33)=Zlq l:=Zeg (by rw [Zmc];omega)
theorem lnk0z:Za8 [.int .i64 0] (zer (.int .u8 0) 32)=(Lnk.mk 0 default).cells:=rfl
theorem lnk0c:AV.int .i64 0::A1 (List.replicate 32 0)=(Lnk.mk 0 default).cells:=rfl
theorem lnk0d:[AV.int .i64 0]++A1 (List.replicate 32 0)=(Lnk.mk 0 default).cells:=rfl
theorem over_k (k x:Int) (d:Id32):over (Lnk.mk k d).cells 0 [.int .i64 x]=(Lnk.mk x d).cells:=rfl
theorem over_d (k:Int) (d e:Id32):over (Lnk.mk k d).cells 1 (A1 e.b)=(Lnk.mk k e).cells:=by
  show over (AV.int .i64 k::A1 d.b) 1 (A1 e.b)=_
  rw [Zid,X2 (by rw [e.h,d.h])]
  rfl
theorem Ykr (a b:Lnk):over a.cells 0 b.cells=b.cells:=by
  unfold over;exact Zhn (by rw [Zhx,Zhx])
attribute [go_sem] Zhx Zlp Zq1 Zq2 Zz6 Zz7 Ypz lnk_0 lnk_id Zmc Z4x Z4y Zz8 Zvw Ycf Ykq Zvx lnk0z lnk0c lnk0d over_k over_d Ykr Yce
end Cod

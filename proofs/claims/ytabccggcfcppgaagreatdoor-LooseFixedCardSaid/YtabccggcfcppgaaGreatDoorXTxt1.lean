/- Arguments of plain data, read as the rows read them: their abstract values. -/
import Derived.OpenShut
import Derived.Deep.Slices
import Derived.DataReads
import Derived.Carry
import Derived.Below
import Derived.Lib.LaidTab
import Derived.ChangeMaps
import Derived.WalkKit
import Derived.ProofKit
import Derived.Deep.DeepHandedRow
import Derived.Lib.ItoaNum
import Derived.Lib.BytesEntry
import Derived.Laws.AppendOwn
import Derived.Test.YtabccggcfcppgaaGreatDoorChecked
import Derived.Laws.Externs
import Derived.Lib.AppendIntMem
import Derived.KernelRfl
import Derived.Test.YtabccggcfcppgaaGreatDoorXCod5
import Derived.Test.YtabccggcfcppgaaGreatDoorXLit3
import Derived.Test.YtabccggcfcppgaaGreatDoorXCod6
import Derived.Test.YtabccggcfcppgaaGreatDoorXShelf1
set_option linter.unusedSimpArgs false
set_option linter.unusedVariables false
open List renaming append_toArray → Yhj, cons_append → Yfm, drop_drop → Ygh, drop_succ_cons → Yg9, drop_zero → Yg3, eq_nil_of_length_eq_zero → Yf6, flatten_cons → Yg2, isEmpty_nil → Yhf, length_cons → Yf0, length_drop → Yfr, length_map → Yg8, length_nil → Ygy, length_take → Yfq, map_drop → Yha, map_take → Yhb, mem_of_mem_drop → Yg6, mem_of_mem_take → Yg7, nil_append → Yhc, push_toArray → Yhi, size_toArray → Yfs, take_append_drop → Yg5, take_of_length_le → Yf8
open Nat renaming le_refl → Yfj, lt_or_ge → Yfn, min_eq_left → Yhd, mul_one → Yhe, succ_mul → Yg4, zero_add → Ygc
open Bool renaming and_eq_true → Yfz, and_true → Ygi, false_and → Yhm, false_or → Yhl, true_and → Yhk
open Option renaming bind_some → Yfg, map_eq_some_iff → Yfp
open Array renaming replicate_succ → Yhg, replicate_zero → Yhh
open Nat renaming reduceEqDiff → E2, reduceAdd → E3, reduceSub → E4, reduceMul → E5, reduceDiv → E6, reduceMod → E7, reduceBEq → E8, reduceLeDiff → E9, reduceLT → F0
open Int renaming reduceEq → F1, reduceNe → F2, reduceLT → F3, reduceLE → F4, reduceBEq → F5, reduceBNe → F6, reduceToNat → F7, reduceAdd → F8, reduceSub → F9, reduceMul → G0, reduceNeg → B2
namespace Cod
open Go
inductive Ty where
  | int (k:IntKind)
  | bool
  | str
  | nil
  | cat (a b:Ty)
  | rep (n:Nat) (a:Ty)
  | sl (e:Ty)
def Ty.noSl:Ty→Bool
  | .sl _=>false
  | .cat a b=>a.noSl&&b.noSl
  | .rep _ a=>a.noSl
  | _=>true
def Wf:Ty→List AV→Prop
  | .int k,ys0=>∃ n,ys0=[.int k n]∧(Lit.int k n).wf=true
  | .bool,ys0=>∃ b,ys0=[.bool b]
  | .str,ys0=>∃ s,ys0=[.str s]∧s.length≤maxLen
  | .nil,ys0=>ys0=[]
  | .cat a b,ys0=>∃ x y,ys0=x++y∧Wf a x∧Wf b y
  | .rep n a,ys0=>∃ r:List (List AV),ys0=r.flatten∧r.length=n∧∀ x∈r,Wf a x
  | .sl e,ys0=>∃ r:List (List AV),ys0=[.lst r.flatten r.length]∧r.length≤maxLen∧∀ x∈r,Wf e x
def Ze6 (P:Program) (rec:TypeId→Option Ty) (total:Nat):Nat→List Field→Option Ty
  | off,[]=>if off=total then some .nil else none
  | off,f::fs=>if f.offset=off then match rec f.type,Ze6 P rec total (off+P.cellsOf f.type) fs with
    | some a,some b=>some (.cat a b)
    | _,_=>none
    else none
def Zh6 (P:Program) (t:TypeId) (T:Ty):Option Ty:=if P.cellsOf t=1 then some T else none
def Zot (P:Program):Nat→TypeId→Option Ty
  | 0,_=>none
  | d+1,t=>match P.underlying t with
    | some .bool=>Zh6 P t .bool
    | some (.int k)=>Zh6 P t (.int k)
    | some .string=>Zh6 P t .str
    | some (.slice e)=>if P.cellsOf e=0 then none else match Zot P d e with
      | some T=>if T.noSl then Zh6 P t (.sl T) else none
      | none=>none
    | some (.struct fs)=>Ze6 P (Zot P d) (P.cellsOf t) 0 fs.toList
    | some (.array n e)=>if P.cellsOf t=n*P.cellsOf e then (Zot P d e).map (.rep n ·) else none
    | _=>none
/- The bulk that a reading has, and an abstract value's. -/
mutual
def P1 {H:Type}:DataW H→Nat
  | .lit (.string bytes)=>bytes.length+1
  | .lit _=>1
  | .nil=>1
  | .ptr d=>P1 d+1
  | .slice elems spare=>dbulkAll elems+dbulkAll spare+1
  | .agg parts=>dbulkAll parts+1
  | .iface _ d=>P1 d+1
  | .map entries=>dbulkEntries entries+1
  | .held _=>1
def dbulkAll {H:Type}:List (DataW H)→Nat
  | []=>0
  | d::r=>P1 d+dbulkAll r
def dbulkEntries {H:Type}:List (Lit × DataW H)→Nat
  | []=>0
  | x::r=>dbulkEntry x+dbulkEntries r
def dbulkEntry {H:Type}:Lit × DataW H→Nat
  | (.string bytes,d)=>bytes.length+P1 d+1
  | (_,d)=>P1 d+1
end
mutual
def Ziy:AV→Nat
  | .str s=>s.length+1
  | .lst cs n=>max (abulks cs) n+1
  | .agg cs=>abulks cs
  | _=>1
def abulks:List AV→Nat
  | []=>0
  | a::r=>Ziy a+abulks r
end
theorem Zg5 (a b:List AV):abulks (a++b)=abulks a+abulks b:=by
  induction a with
  | nil=>simp [abulks]
  | cons x a ih=>simp only [Yfm,abulks,ih];omega
theorem Zg6 {H:Type}:∀ (r:List (List AV)) (ds:List (DataW H)),r.length=ds.length→(∀ (i:Nat) (x:List AV) (d:DataW H),r[i]? = some x→ds[i]? = some d→abulks x≤P1 d)→abulks r.flatten≤dbulkAll ds:=by
  intro r
  induction r with
  | nil=>intro ds h _;cases ds with|nil=>simp [abulks,dbulkAll]|cons=>simp at h
  | cons x r ih =>
    intro ds h hx
    cases ds with
    | nil=>simp at h
    | cons d ds =>
      simp only [Yg2,Zg5,dbulkAll]
      have h1:=hx 0 x d (by simp) (by simp)
      have h2:=ih ds (by simpa using h) (fun i y e hy he=>hx (i+1) y e (by simpa using hy) (by simpa using he))
      omega
theorem Zou {H:Type} (d:DataW H):1≤P1 d:=by
  cases d with
  | lit l=>cases l<;>simp [P1]
  | _=>simp [P1]
theorem Zov {H:Type}:∀ (l:List (DataW H)),l.length≤dbulkAll l:=by
  intro l
  induction l with
  | nil=>simp
  | cons d l ih=>have:=Zou d;simp only [dbulkAll,Yf0];omega
theorem Zg7:∀ {r:List (List AV)},(∀ x∈r,flats x=true)→flats r.flatten=true:=by
  intro r
  induction r with
  | nil=>intro _;simp [flats]
  | cons x r ih=>intro h;rw [Yg2,Zdu,h x (by simp),ih (fun y hy=>h y (by simp [hy]))];rfl
theorem Zyb {p:Nat→List AV→Prop}:∀ (n:Nat),(∀ i,i<n→∃ ys0,p i ys0)→∃ r:List (List AV),r.length=n∧∀ i x,r[i]? = some x→p i x:=by
  intro n
  induction n with
  | zero=>intro _;exact ⟨[],rfl,fun i x h=>by simp at h⟩
  | succ n ih =>
    intro h
    obtain ⟨r,h1,h2⟩:=ih (fun i hi=>h i (by omega))
    obtain ⟨a,ha⟩:=h n (by omega)
    refine ⟨r++[a],by simp [h1],fun i x hx=>?_⟩
    rcases Yfn i r.length with hi|hi
    · rw [List.getElem?_append_left hi] at hx;exact h2 i x hx
    · rw [List.getElem?_append_right hi] at hx
      have:i=r.length:=by
        rcases Yfn (i-r.length) 1 with h3|h3
        · omega
        · rw [List.getElem?_eq_none (by simpa using h3)] at hx;cases hx
      subst this
      simp at hx
      subst hx
      rw [h1];exact ha
theorem Zrz {c:Ctx} {z:Nat}:∀ (r:List (List AV)) (cs:List Value),cs.length=r.length*z→(∀ i x,r[i]? = some x→VRL c x ((cs.drop (i*z)).take z))→VRL c r.flatten cs:=by
  intro r
  induction r with
  | nil=>intro cs h _;simp at h;subst h;simp [VRL]
  | cons x r ih =>
    intro cs h hx
    have h0:=hx 0 x (by simp)
    simp only [Nat.zero_mul,Yg3] at h0
    have h1:=ih (cs.drop z) (by rw [Yfr,h,Yf0,Yg4];omega) (fun i y hy=>by
      have:=hx (i+1) y (by simpa using hy)
      rw [Ygh,show z+i*z=(i+1)*z by rw [Yg4];omega]
      exact this)
    rw [Yg2,←Yg5 z cs]
    exact U4 h0 h1
theorem Zwf {c:Ctx} {b o:Nat}:∀ {xs:List AV} {vs:List Value},VRL c xs vs→(∀ i v,vs[i]? = some v→c.w.cell? ⟨b,o+i,none⟩=some v)→VRC c b o xs:=by
  intro xs vs h hc
  refine Q5 fun i x hx=>?_
  obtain ⟨v,h1,h2⟩:=Zam h hx
  exact ⟨v,hc i v h1,h2⟩
theorem Zwg {c:Ctx} {b:Nat}:∀ {o:Nat} {xs ys:List AV},VRC c b o xs→VRC c b (o+xs.length) ys→VRC c b o (xs++ys):=by
  intro o xs
  induction xs generalizing o with
  | nil=>intro ys _ h;simpa using h
  | cons x xs ih =>
    intro ys h k
    simp only [VRC] at h
    simp only [Yfm,VRC]
    refine ⟨h.1,ih h.2 ?_⟩
    rw [show o+1+xs.length=o+(x::xs).length by simp;omega]
    exact k
theorem Zr0 {c:Ctx} {b z:Nat}:∀ {o:Nat} (r:List (List AV)),(∀ x∈r,x.length=z)→(∀ i x,r[i]? = some x→VRC c b (o+i*z) x)→VRC c b o r.flatten:=by
  intro o r
  induction r generalizing o with
  | nil=>intro _ _;simp [VRC]
  | cons x r ih =>
    intro hl hx
    rw [Yg2]
    refine Zwg (by simpa using hx 0 x (by simp)) (ih (fun y hy=>hl y (by simp [hy])) fun i y hy=>?_)
    rw [hl x (by simp),show o+z+i*z=o+(i+1)*z by rw [Yg4];omega]
    exact hx (i+1) y (by simpa using hy)
def Placed (w:World) (cs:List Value):Prop:=∀ a n m,Value.slice (some a) n m∈cs→a.spot=none∧a.block<w.heap.size
section
variable {H:Type} {enc:TypeId × Value→H} {P:Program} {base:Nat} {held:Bool} {c:Ctx}
theorem Zc9 {t:TypeId} {T U:Ty} (h:Zh6 P t T=some U):P.cellsOf t=1∧U=T:=by
  unfold Zh6 at h
  split at h
  · exact ⟨by assumption,(Option.some.inj h).symm⟩
  · cases h
def Got (c:Ctx) (P:Program) (t:TypeId) (T:Ty) (cs:List Value) (d:DataW H):Prop :=
  ∃ ys0,VRL c ys0 cs∧Wf T ys0∧flats ys0=true∧abulks ys0≤P1 d∧cs.length=P.cellsOf t
theorem Zwh {rec:TypeId→Option Ty} {tr:TypeId→List Value→Option (DataW H × List MemPlace)} {total:Nat} {cs:List Value} (hcs:cs.length=total):∀ (fs:List Field) (off:Nat) (T:Ty) (xs:List (DataW H × List MemPlace)),
    Ze6 P rec total off fs=some T→xs.length=fs.length→(∀ (i:Nat) (f:Field),fs[i]? = some f→tr f.type ((cs.drop f.offset).take (P.cellsOf f.type))=xs[i]?) →
    (∀ (t:TypeId) (U:Ty) (us:List Value) (x:DataW H × List MemPlace),(∀ v∈us,v∈cs)→(T.noSl=true→U.noSl=true)→rec t=some U→tr t us=some x→Got c P t U us x.1)→off≤total →
    ∃ ys0,VRL c ys0 (cs.drop off)∧Wf T ys0∧flats ys0=true∧abulks ys0≤dbulkAll (xs.map (·.1)):=by
  intro fs
  induction fs with
  | nil =>
    intro off T xs h hl _ _ ho
    simp only [Ze6] at h
    split at h
    · cases h
      have:cs.drop off=[]:=by rw [List.drop_eq_nil_iff];omega
      rw [this]
      exact ⟨[],by simp [VRL],by simp [Wf],by simp [flats],by simp [abulks]⟩
    · cases h
  | cons f fs ih =>
    intro off T xs h hl hx hrec ho
    simp only [Ze6] at h
    split at h
    · rename_i hoff
      split at h
      · rename_i A B hA hB
        cases h
        cases xs with
        | nil=>simp at hl
        | cons x xs =>
          have h0:=hx 0 f (by simp)
          simp only [List.getElem?_cons_zero] at h0
          obtain ⟨ys0,k1,k2,k3,k4,k5⟩:=hrec f.type A _ x (fun v hv=>Yg6 (Yg7 hv)) (fun hn=>by simp only [Ty.noSl,Yfz] at hn;exact hn.1) hA h0
          rw [hoff] at k1 k5
          simp only [Yfq,Yfr] at k5
          have hle:off+P.cellsOf f.type≤total:=by omega
          obtain ⟨bs,l1,l2,l3,l4⟩:=ih (off+P.cellsOf f.type) B xs hB (by simpa using hl) (fun i g hg=>by have:=hx (i+1) g (by simpa using hg);simpa using this)
            (fun t U us y hus hn=>hrec t U us y hus (fun hn'=>hn (by simp only [Ty.noSl,Yfz] at hn';exact hn'.2))) hle
          refine ⟨ys0++bs,?_,⟨ys0,bs,rfl,k2,l2⟩,by rw [Zdu,k3,l3];rfl,?_⟩
          · rw [←Yg5 (P.cellsOf f.type) (cs.drop off),Ygh]
            exact U4 k1 l1
          · simp only [Zg5,List.map_cons,dbulkAll];omega
      · cases h
    · cases h
theorem Zyc (hO:∀ b,¬ c.O b):∀ (d:Nat) (t:TypeId) (T:Ty) (fuel:Nat) (cs:List Value) (x:DataW H × List MemPlace),Zot P d t=some T→(T.noSl=true∨Placed c.w cs) →
    DataW.trod enc P c.w base (fun _=>true) held fuel t cs=some x→Got c P t T cs x.1:=by
  intro d
  induction d with
  | zero=>intro t T fuel cs x h;simp [Zot] at h
  | succ d ih =>
    intro t T fuel cs x hT hp h
    unfold Zot at hT
    cases hu:P.underlying t with
    | none=>rw [hu] at hT;simp at hT
    | some u =>
      rw [hu] at hT
      cases u with
      | bool =>
        obtain ⟨hc,rfl⟩:=Zc9 hT
        obtain ⟨b,rfl,rfl⟩:=DataW.trod_bool hu h
        exact ⟨[.bool b],Zc2 (by simp [VR]),⟨b,rfl⟩,by simp [flats,M1],by simp [abulks,Ziy,P1],by simp [hc]⟩
      | int k =>
        obtain ⟨hc,rfl⟩:=Zc9 hT
        obtain ⟨n,rfl,rfl,hw⟩:=DataW.trod_int hu h
        exact ⟨[.int k n],Zc2 (by simp [VR]),⟨n,rfl,hw⟩,by simp [flats,M1],by simp [abulks,Ziy,P1],by simp [hc]⟩
      | string =>
        obtain ⟨hc,rfl⟩:=Zc9 hT
        obtain ⟨s,rfl,rfl,hs⟩:=DataW.trod_string hu h
        exact ⟨[.str s.data.toList],Zc2 (by simp [VR]),⟨_,rfl,by simpa using hs⟩,by simp [flats,M1],by simp [abulks,Ziy,P1],by simp [hc]⟩
      | slice e =>
        simp only at hT
        split at hT
        · cases hT
        · rename_i hz
          split at hT
          · rename_i U hU
            split at hT
            · rename_i hns
              obtain ⟨hc,rfl⟩:=Zc9 hT
              rcases Go.Deep.open_slice hu h with ⟨rfl,rfl⟩|⟨a,len,cap,m,n,D,Pl,rfl,_,hl,hm,hmm,rfl,hx⟩
              · exact ⟨[.lst [] 0],Zc2 (by simp [VR,flats]),⟨[],by simp,by simp,by simp⟩,by simp [flats,M1],by simp [abulks,Ziy,P1],by simp [hc]⟩
              · simp only [if_true] at hmm
                subst hmm
                obtain ⟨hsp,hblk⟩:=(hp.resolve_left (by simp [Ty.noSl])) a len m (by simp)
                obtain ⟨r,hr1,hr2⟩:=Zyb (p:=fun i ys0=>∃ cs',c.w.cells? base (a.add (i*P.cellsOf e)) (P.cellsOf e)=some cs'∧VRL c ys0 cs'∧Wf U ys0∧flats ys0=true∧abulks ys0≤P1 (D i)∧cs'.length=P.cellsOf e) len (fun i hi=>by
                  obtain ⟨cs',h1,h2⟩:=hx i (by omega)
                  obtain ⟨ys0,g⟩:=ih e U n cs' _ hU (.inl hns) h2
                  exact ⟨ys0,cs',h1,g⟩)
                have hlen:∀ x∈r,x.length=P.cellsOf e:=by
                  intro x hx
                  obtain ⟨i,hi⟩:=List.mem_iff_getElem?.1 hx
                  obtain ⟨cs',_,k1,_,_,_,k2⟩:=hr2 i x hi
                  rw [←H5 k1];exact k2
                refine ⟨[.lst r.flatten r.length],Zc2 ?_,⟨r,rfl,by omega,fun x hx=>?_⟩,?_,?_,by simp [hc]⟩
                · simp only [VR]
                  refine ⟨Zg7 fun x hx=>?_,.inr ⟨a.block,a.off,m,?_,by omega,hblk,hO _,?_⟩⟩
                  · obtain ⟨i,hi⟩:=List.mem_iff_getElem?.1 hx
                    obtain ⟨_,_,_,_,k,_⟩:=hr2 i x hi
                    exact k
                  · rw [hr1]
                    obtain ⟨b,o,s⟩:=a
                    simp only at hsp
                    subst hsp
                    rfl
                  · refine Zr0 r hlen fun i x hx=>?_
                    obtain ⟨cs',k0,k1,_,_,_,k2⟩:=hr2 i x hx
                    refine Zwf k1 fun j v hj=>?_
                    obtain ⟨_,_,hcell⟩:=World.cells?_some k0
                    have hjl:=(List.getElem?_eq_some_iff.1 hj).1
                    have:=hcell j (by omega)
                    rw [hj] at this
                    rw [←this]
                    have ha:(a.add (i*P.cellsOf e)).add j=a.add (i*P.cellsOf e+j):=Go.Deep.add_add _ _ _
                    rw [ha]
                    congr 1
                    unfold Addr.add
                    obtain ⟨b,o,s⟩:=a
                    simp only at hsp
                    subst hsp
                    split
                    · rename_i h0;simp only [Nat.add_assoc,h0,Nat.add_zero]
                    · simp only [Nat.add_assoc]
                · obtain ⟨i,hi⟩:=List.mem_iff_getElem?.1 hx
                  obtain ⟨_,_,_,k,_,_⟩:=hr2 i x hi
                  exact k
                · simp [flats,M1]
                · simp only [abulks,Ziy,P1,Nat.add_zero]
                  have h1:abulks r.flatten≤dbulkAll ((List.range len).map D):=Zg6 r _ (by simp [hr1]) (fun i x d hi hd=>by
                    obtain ⟨_,_,_,_,_,k,_⟩:=hr2 i x hi
                    have:d=D i:=by
                      rw [List.getElem?_map] at hd
                      obtain ⟨j,hj,rfl⟩:=Option.map_eq_some_iff.1 hd
                      rw [List.getElem?_range (by have:=(List.getElem?_eq_some_iff.1 hi).1;omega)] at hj
                      cases hj;rfl
                    subst this;exact k)
                  have h2:=Zov ((List.range len).map D)
                  simp only [Yg8,List.length_range] at h2
                  omega
            · cases hT
          · cases hT
      | struct fs =>
        simp only at hT
        obtain ⟨xs,n,rfl,rfl,hl,hxl,hx⟩:=DataW.trod_struct hu h
        obtain ⟨ys0,k1,k2,k3,k4⟩:=Zwh (c:=c) (tr:=fun t cs=>DataW.trod enc P c.w base (fun _=>true) held n t cs) hl fs.toList 0 T xs hT (by simpa using hxl) (fun i f hf=>hx i f (by simpa using hf))
          (fun t' U us y hus hn hr ht=>ih t' U n us y hr (by
            rcases hp with hp|hp
            · exact .inl (hn hp)
            · exact .inr fun a p q hv=>hp a p q (hus _ hv)) ht) (by omega)
        rw [Yg3] at k1
        exact ⟨ys0,k1,k2,k3,by simp only [P1];omega,hl⟩
      | array n e =>
        simp only at hT
        split at hT
        · rename_i hsz
          obtain ⟨U,hU,rfl⟩:=Option.map_eq_some_iff.1 hT
          obtain ⟨xs,m,rfl,rfl,hl,hxl,hx⟩:=DataW.trod_array hu h
          obtain ⟨r,hr1,hr2⟩:=Zyb (p:=fun i ys0=>∃ y,xs[i]? = some y∧VRL c ys0 ((cs.drop (i*P.cellsOf e)).take (P.cellsOf e))∧Wf U ys0∧flats ys0=true∧abulks ys0≤P1 y.1) n (fun i hi=>by
            have h1:=hx i hi
            rw [List.getElem?_eq_getElem (by omega)] at h1
            obtain ⟨ys0,g1,g2,g3,g4,_⟩:=ih e U m _ _ hU (by
              rcases hp with hp|hp
              · exact .inl hp
              · exact .inr fun a p q hv=>hp a p q (Yg6 (Yg7 hv))) h1
            exact ⟨ys0,_,List.getElem?_eq_getElem (by omega),g1,g2,g3,g4⟩)
          refine ⟨r.flatten,Zrz r cs (by rw [hl,hsz,hr1]) (fun i x hx=>?_),⟨r,rfl,hr1,fun x hx=>?_⟩,Zg7 fun x hx=>?_,?_,hl⟩
          · obtain ⟨_,_,k,_⟩:=hr2 i x hx;exact k
          · obtain ⟨i,hi⟩:=List.mem_iff_getElem?.1 hx
            obtain ⟨_,_,_,k,_⟩:=hr2 i x hi;exact k
          · obtain ⟨i,hi⟩:=List.mem_iff_getElem?.1 hx
            obtain ⟨_,_,_,_,k,_⟩:=hr2 i x hi;exact k
          · simp only [P1]
            have:abulks r.flatten≤dbulkAll (xs.map (·.1)):=Zg6 r _ (by simp [hr1,hxl]) (fun i x d hi hd=>by
              obtain ⟨y,hy,_,_,_,k⟩:=hr2 i x hi
              simp only [List.getElem?_map,hy,Option.map_some,Option.some.injEq] at hd
              subst hd;exact k)
            omega
        · cases hT
      | _=>simp at hT
end
end Cod
namespace Cod
open Go Go.RowKit
theorem Zec {P:Program} {f:Nat} {fn:Func} {c:Code} {w:World} (hf:P.funcs[f]? = some fn) (hb:fn.body=some c) (hn:(fn.name == "runtime.NumGoroutine")=false) {args:Array Value} {R:Value→World→Prop}
    (h:Zja P f args w R):Calls P f args w (fun e w'=>∃ y,e=.returned y∧R y w'):=by
  have h1:=h { dst:=some 0,op:=.move (.const undef),type:=0,pos := "",after := #[],guard:=none } ⟨#[undef],[]⟩ (fun a w'=>∃ y,a.tmps[0]? = some y∧R y w') (fun _ _ _=>False) (fun y w' hy=>⟨y,by simp [Act.put],hy⟩)
  have hrun:(callFunc f args).run P w=.ok (.enter f args) w:=by
    have hn2:¬ (fn.name = "runtime.NumGoroutine"):=by simpa using hn
    simp [callFunc,run_program,hf,hn2,hb]
  rw [hrun,Oper.upon_enter] at h1
  refine Calls.mono h1 fun e w' he=>?_
  cases e with
  | returned v =>
    obtain ⟨y,h2,h3⟩:=he
    simp only [Act.put] at h2
    have:v=y:=by simpa using h2
    subst this
    exact ⟨v,rfl,h3⟩
  | panicked ch=>exact he.elim
  | outgrown=>obtain ⟨_,_,h4⟩:=he;exact h4.elim
def La0:Lay:=⟨fun _=>none,fun _=>False⟩
def Zki (E:Env) (w:World):Prop:=∀ n,GV (ctx [] La0 w) n (E.glob n)
theorem own0 {w:World} (b:Nat):¬ (ctx [] La0 w).O b:=by
  rintro (⟨s,e,o,he,_⟩|h)
  · simp [A8] at he
  · exact h
theorem rel0 {E:Env} {w:World} (hg:Zki E w):Rel E w (I6 [] La0) [] La0 [] La0 w where
  store:=⟨fun s e he=>by simp [A8] at he,fun s s' e e' b o o' he=>by simp [A8] at he⟩
  keep:=Keep.refl _ _
  own b hb:=.inl hb
  glob:=hg
  ups x e he:=by simp [A8] at he
  src b hb:=.inl hb
  lf:=rfl
  f0 b hb:=hb.elim
theorem Z2q {P:Program} {E:Env} (hk:Zd1 P E) (hfn:Ziw P E) {f:Nat} {fn:Func} {c:Code} (hf:P.funcs[f]? = some fn) (hb:fn.body=some c) (hn:(fn.name == "runtime.NumGoroutine")=false)
    {args:List AV} {b:Bool} {σr:A2} (h:S E f args []=some (.bool b,σr)) {w:World} {vs:List Value} (hg:Zki E w) (hv:VRL (ctx [] La0 w) args vs) :
    Calls P f vs.toArray w fun e w'=>e=.returned (.bool b)∧Below w.heap.size w w':=by
  refine (Zec hf hb hn (Zd2 hk hfn h La0 (rel0 hg) hv)).mono fun e w' ⟨y,he,La',hr,hy⟩=>?_
  simp only [VR] at hy
  subst hy
  refine ⟨he,hr.keep.os,hr.keep.tape,hr.keep.output,hr.keep.size,fun k hk=>hr.keep.block k hk ?_⟩
  rintro ⟨s,e,o,he,_⟩
  simp [A8] at he
theorem Zr1 {P:Program} {W:World} {name:String} {d:DataW Unit}:∀ {l:List (String × DataW Unit)} {ps:List MemPlace},DataW.LaidVars P W l ps→(name,d)∈l →
    ∃ g t cs fuel p,P.globalNamed name=some g∧(P.globals[g]?).map (·.type)=some t∧W.var? P name=some cs∧DataW.trod (fun _=>()) P W 0 (fun _=>true) false fuel t cs.toList=some (d,p):=by
  intro l
  induction l with
  | nil=>intro ps _ h;simp at h
  | cons x l ih =>
    intro ps h hm
    obtain ⟨n,e⟩:=x
    obtain ⟨g,t,cs,fuel,p,q,h1,h2,h3,h4,h5,_⟩:=h
    rcases List.mem_cons.1 hm with hm|hm
    · cases hm;exact ⟨g,t,cs,fuel,p,h1,h2,h3,h4⟩
    · exact ih h5 hm
theorem Z2r {P:Program} {W:World} {l:List (String × DataW Unit)} (h:laidMetH P l W) {name:String} {d:DataW Unit} (hm:(name,d)∈l) (hd:d.handleName?.isNone=true) :
    ∃ g t cs fuel p,P.globalNamed name=some g∧(P.globals[g]?).map (·.type)=some t∧W.var? P name=some cs∧DataW.trod (fun _=>()) P W 0 (fun _=>true) false fuel t cs.toList=some (d,p):=by
  unfold laidMetH at h
  split at h
  · obtain ⟨ps,h1,_⟩:=h;exact Zr1 h1 hm
  · obtain ⟨⟨ps,h1,_⟩,_⟩:=h
    exact Zr1 h1 (List.mem_filter.2 ⟨hm,by simpa using hd⟩)
theorem Zda {P:Program} {W:World} {l:List (String × DataW Unit)} (h:laidMetH P l W) {name:String} {k:IntKind} {zs:List Int} {g:Nat} {t e:TypeId} {n:Nat} (hm:(name,Lib.tabData k zs)∈l)
    (hg:P.globalNamed name=some g) (hty:(P.globals[g]?).map (·.type)=some t) (ht:P.underlying t=some (.array n e)) (he:P.underlying e=some (.int k)) (hce:P.cellsOf e=1) (hct:P.cellsOf t=n):Lib.TabIs P W name k zs:=by
  obtain ⟨g',t',cs,fuel,p,hg',ht',hvar,hd⟩:=Z2r h hm rfl
  obtain rfl:=Option.some.inj (hg.symm.trans hg')
  obtain rfl:=Option.some.inj (hty.symm.trans ht')
  unfold Lib.TabIs
  rw [hvar,←Lib.cells_of_tab ht he hce hct hd]
theorem Zwi {k:IntKind}:∀ {zs:List Int},flats (zs.map fun z=>AV.int k z)=true:=by
  intro zs
  induction zs with
  | nil=>rfl
  | cons z zs ih=>simp only [List.map_cons,flats,ih,M1];rfl
theorem Yds {P:Program} {W:World} {name:String} {k:IntKind} {zs:List Int} {g:Nat} (h:Lib.TabIs P W name k zs) (hg:P.globalNamed name=some g) :
    ∃ cs el fr,W.heap[g]? = some (.cells cs el fr)∧cs.size=(zs.map fun z=>AV.int k z).length:=by
  unfold Lib.TabIs World.var? at h
  rw [hg] at h
  simp only [Yfg] at h
  split at h
  · rename_i cs el fr hc
    cases h
    exact ⟨_,el,fr,hc,by simp⟩
  · cases h
theorem Zr2 {P:Program} {W:World} {La:Lay} {name:String} {k:IntKind} {zs:List Int} {g:Nat} (h:GV (ctx [] La W) g (zs.map fun z=>AV.int k z)) (hg:P.globalNamed name=some g) (hz:zs≠[]):Lib.TabIs P W name k zs:=by
  obtain ⟨h1,h2⟩:=h
  rcases h2 with h2|⟨cs,el,fr,hc,hs⟩
  · exact absurd (List.map_eq_nil_iff.1 h2) hz
  · rw [show (ctx [] La W).w=W from rfl] at hc
    unfold Lib.TabIs World.var?
    rw [hg]
    simp only [Yfg,hc,Option.some.injEq]
    have hv:VR (ctx [] La W) (.fp (zs.map fun z=>AV.int k z) 0) (.pointer (some ⟨g,0,none⟩)):=by
      cases zs with
      | nil=>exact absurd rfl hz
      | cons z zs=>exact h1
    simp only [VR] at hv
    obtain ⟨_,b,o,h3,_,_,hcell⟩:=hv
    simp only [Value.pointer.injEq,Option.some.injEq,Addr.mk.injEq] at h3
    obtain ⟨rfl,h3,_⟩:=h3
    have ho:o=0:=by omega
    subst ho
    apply Array.ext
    · rw [hs];simp
    · intro i hi1 hi2
      have hi:i<zs.length:=by simpa using hi2
      obtain ⟨v,k1,k2⟩:=Za7 hcell (i:=i) (x:=.int k zs[i]) (by simp [hi])
      simp only [VR] at k2
      rw [show (ctx [] La W).w=W from rfl,Ygc] at k1
      simp only [World.cell?,hc] at k1
      rw [Array.getElem?_eq_getElem hi1] at k1
      cases k1
      rw [k2];simp
theorem Zg8 {P:Program} {W:World} {name:String} {k:IntKind} {zs:List Int} {g:Nat} (h:Lib.TabIs P W name k zs) (hg:P.globalNamed name=some g) (hz:zs≠[]) :
    GV (ctx [] La0 W) g (zs.map fun z=>AV.int k z):=by
  refine ⟨?_,.inr (Yds h hg)⟩
  cases zs with
  | nil=>exact absurd rfl hz
  | cons z zs =>
    show VR _ (.fp ((z::zs).map fun z=>AV.int k z) 0) _
    have hcell:=fun i hi=>Lib.TabIs.cell h hg i hi
    simp only [VR]
    refine ⟨Zwi,g,0,rfl,?_,own0 _,?_⟩
    · have h0:=hcell 0 (by simp)
      simp only [World.cell?] at h0
      rcases Yfn g W.heap.size with hlt|hge
      · exact hlt
      · rw [Array.getElem?_eq_none hge] at h0;cases h0
    · refine Q5 fun i x hx=>?_
      have hi:=(List.getElem?_eq_some_iff.1 hx).1
      rw [Yg8] at hi
      rw [List.getElem?_map] at hx
      obtain ⟨y,hy,rfl⟩:=Option.map_eq_some_iff.1 hx
      refine ⟨.int k y,?_,by simp [VR]⟩
      rw [Ygc]
      have:=hcell i hi
      rw [show (z::zs).getD i 0=y by simp [List.getD,hy]] at this
      exact this
theorem Z2s {w:World} {n:Nat}:GV (ctx [] La0 w) n []:=⟨by simp [Zgf,VR],.inl rfl⟩
def isAgg (P:Program) (t:TypeId):Bool:=match P.underlying t with|some (.struct _)|some (.array _ _)=>true|_=>false
theorem Zg9 {P:Program} {w:World} {r:Reach} {b:Nat} {t:TypeId} {a:Addr} {n m:Nat} (h:Cell.okWide P w r b t (.slice (some a) n m)):a.spot=none∧a.block<w.heap.size:=by
  have h2:Cell.ok P w r b t (.slice (some a) n m):=by
    unfold Cell.okWide at h
    split at h<;>simp_all
  have h3:∃ e,w.has P r b a e m:=by
    unfold Cell.ok at h2
    split at h2<;>simp_all
    rename_i h4
    obtain ⟨rfl,rfl,rfl⟩:=h4
    exact ⟨_,h2.2.2⟩
  obtain ⟨e,_,hsp,row,cells,hs,_⟩:=h3
  refine ⟨hsp,?_⟩
  simp only [World.shape?] at hs
  rcases Yfn a.block w.heap.size with hlt|hge
  · exact hlt
  · rw [Array.getElem?_eq_none hge] at hs;cases hs
theorem Z8q {H:Type} {enc:TypeId × Value→H} {P:Program} {base b2:Nat} {held:Bool} {w:World} {d:Nat} {t:TypeId} {T:Ty} {v:Value} {x:DataW H} {ps:List MemPlace} (hT:Zot P d t=some T) (hg:isAgg P t=false)
    (hok:Value.okWide P w .any b2 t v) (h:DataW.Trod enc P w base (fun _=>true) held t v x ps):∃ a,VR (ctx [] La0 w) a v∧Wf T [a]∧Ziy a≤P1 x:=by
  obtain ⟨fuel,h⟩:=h
  have hcell:Cell.okWide P w .any b2 t v:=by
    unfold Value.okWide at hok
    unfold isAgg at hg
    split at hok
    · rename_i hu;rw [hu] at hg;cases hg
    · rename_i hu;rw [hu] at hg;cases hg
    · exact hok
  have hone:v.cells = #[v]:=by
    cases v<;>first|rfl|(exfalso;unfold Cell.okWide at hcell;split at hcell<;>simp_all [Cell.ok])
  rw [hone] at h
  obtain ⟨ys0,h1,h2,h3,h4,h5⟩:=Zyc (c:=ctx [] La0 w) (fun b=>own0 b) d t T fuel _ _ hT (.inr (by
    intro a n m hm
    simp only [List.mem_singleton] at hm
    subst hm
    exact Zg9 hcell)) h
  match ys0,h1 with
  | [],h1=>simp [VRL] at h1
  | [a],h1 =>
    simp only [VRL] at h1
    obtain ⟨v',r,e,k1,rfl⟩:=h1
    simp at e
    subst e
    exact ⟨a,k1,h2,by simpa [abulks] using h4⟩
  | a::b::ys0,h1 =>
    simp only [VRL] at h1
    obtain ⟨v',r,e,k1,v2,r2,e2,_⟩:=h1
    simp at e
    obtain ⟨_,rfl⟩:=e
    simp at e2
theorem Ydt {H:Type} {enc:TypeId × Value→H} {P:Program} {base b2:Nat} {held:Bool} {w:World} {d:Nat} {t:TypeId} {T:Ty} {v:Value} {x:DataW H} {ps:List MemPlace} (hT:Zot P d t=some T) (hg:isAgg P t=true)
    (hok:Value.okWide P w .any b2 t v) (h:DataW.Trod enc P w base (fun _=>true) held t v x ps):∃ ys0,VR (ctx [] La0 w) (.agg ys0) v∧Wf T ys0∧abulks ys0≤P1 x:=by
  obtain ⟨fuel,h⟩:=h
  have hrow:∃ cs,v=.agg cs∧cs.size=P.cellsOf t∧Row.okWide P w .any b2 t cs:=by
    unfold Value.okWide at hok
    unfold isAgg at hg
    split at hok
    · exact hok
    · exact hok
    · rename_i h1 h2
      split at hg
      · rename_i hu;exact absurd hu (h1 _)
      · rename_i hu;exact absurd hu (h2 _ _)
      · cases hg
  obtain ⟨cs,rfl,_,ts,_,_,hc⟩:=hrow
  obtain ⟨ys0,h1,h2,h3,h4,h5⟩:=Zyc (c:=ctx [] La0 w) (fun b=>own0 b) d t T fuel _ _ hT (.inr (by
    intro a n m hm
    obtain ⟨i,hi⟩:=List.mem_iff_getElem?.1 hm
    obtain ⟨u,_,hu⟩:=hc i _ (by simpa [Value.cells] using hi)
    exact Zg9 hu)) h
  refine ⟨ys0,?_,h2,h4⟩
  simp only [VR]
  exact ⟨cs,rfl,by simpa [Value.cells] using h1⟩
end Cod
namespace Cod
open Go Go.RowKit Go.ChangeShapes Go.WideShapes Go.ChangeAt
def ArgOK (p:Bool × Ty) (a:AV):Prop:=match p.1 with
  | true=>∃ ys0,a=.agg ys0∧Wf p.2 ys0
  | false=>Wf p.2 [a]
def Zkj:List (Bool × Ty)→List AV→Prop
  | [],ys0=>ys0=[]
  | p::r,ys0=>∃ a b,ys0=a::b∧ArgOK p a∧Zkj r b
def Zkk (P:Program) (d:Nat):List TypeId→Option (List (Bool × Ty))
  | []=>some []
  | t::ts=>match Zot P d t,Zkk P d ts with
    | some T,some r=>some ((isAgg P t,T)::r)
    | _,_=>none
section
variable {H:Type} {enc:TypeId × Value→H} {P:Program} {W:World} {b2 d:Nat}
theorem Ydu:∀ {ts:List TypeId} {Ts:List (Bool × Ty)} {vs:List Value} {ds:List (DataW H)} {ps:List MemPlace},Zkk P d ts=some Ts →
    (∀ (j:Nat) t v,ts[j]? = some t→vs[j]? = some v→Value.okWide P W .any b2 t v)→DataW.TrodAll enc P W 0 (fun _=>true) true ts vs ds ps →
    ∃ ys0,VRL (ctx [] La0 W) ys0 vs∧Zkj Ts ys0∧abulks ys0≤dbulkAll ds:=by
  intro ts
  induction ts with
  | nil =>
    intro Ts vs ds ps h _ hA
    simp only [Zkk,Option.some.injEq] at h;subst h
    cases vs<;>cases ds<;>simp [DataW.TrodAll] at hA
    exact ⟨[],by simp [VRL],by simp [Zkj],by simp [abulks]⟩
  | cons t ts ih =>
    intro Ts vs ds ps h hok hA
    simp only [Zkk] at h
    split at h
    · rename_i T r hT hr
      cases h
      cases vs with
      | nil=>cases ds<;>simp [DataW.TrodAll] at hA
      | cons v vs =>
        cases ds with
        | nil=>simp [DataW.TrodAll] at hA
        | cons x ds =>
          obtain ⟨p,q,h1,h2,rfl⟩:=hA
          obtain ⟨ys0,k1,k2,k3⟩:=ih hr (fun j t' v' ht hv=>hok (j+1) t' v' (by simpa using ht) (by simpa using hv)) h2
          have h0:=hok 0 t v (by simp) (by simp)
          cases hg:isAgg P t with
          | true =>
            obtain ⟨bs,l1,l2,l3⟩:=Ydt hT hg h0 h1
            exact ⟨.agg bs::ys0,by simp only [VRL];exact ⟨v,vs,rfl,l1,k1⟩,⟨_,_,rfl,⟨bs,rfl,l2⟩,k2⟩,by simp only [abulks,Ziy,dbulkAll];omega⟩
          | false =>
            obtain ⟨a,l1,l2,l3⟩:=Z8q hT hg h0 h1
            exact ⟨a::ys0,by simp only [VRL];exact ⟨v,vs,rfl,l1,k1⟩,⟨_,_,rfl,l2,k2⟩,by simp only [abulks,dbulkAll];omega⟩
    · cases h
theorem Zow (hl:laidOutB P=true) {W':World} (hb:Below W.heap.size W W'):∀ {ts:List TypeId} {vs:List Value} {ds:List (DataW H)} {ps:List MemPlace},(∀ t∈ts,P.readableRec t=true∧t<P.types.size) →
    (∀ x∈ps,x.block<W.heap.size)→DataW.TrodAll enc P W 0 (fun _=>true) true ts vs ds ps→DataW.TrodAll enc P W' 0 (fun b=>decide (b<W.heap.size)) true ts vs ds ps:=by
  intro ts
  induction ts with
  | nil=>intro vs ds ps _ _ h;cases vs<;>cases ds<;>simp_all [DataW.TrodAll]
  | cons t ts ih =>
    intro vs ds ps hr hlt h
    cases vs with
    | nil=>cases ds<;>simp [DataW.TrodAll] at h
    | cons v vs =>
      cases ds with
      | nil=>simp [DataW.TrodAll] at h
      | cons x ds =>
        obtain ⟨p,q,h1,h2,rfl⟩:=h
        exact ⟨p,q,Below.trod hl (hr t (by simp)).1 (hr t (by simp)).2 h1 hb (fun x hx=>hlt x (by simp [hx])),ih (fun t ht=>hr t (by simp [ht])) (fun x hx=>hlt x (by simp [hx])) h2,rfl⟩
def Ydv (s:ChangeSpec) (n:Nat):Prop:=s.vars=[]∧∀ (H:Type) (ds:List (DataW H)),ds.length=n→s.fn H ds = { results:=[.lit (.bool true)],args:=ds }
theorem Zox:∀ {ts:List TypeId} {vs:List Value} {ds:List (DataW H)} {ps:List MemPlace} {b:Nat} {sp:Nat→Bool} {hd:Bool},DataW.TrodAll enc P W b sp hd ts vs ds ps→ds.length=ts.length:=by
  intro ts
  induction ts with
  | nil=>intro vs ds ps b sp hd h;cases vs<;>cases ds<;>simp_all [DataW.TrodAll]
  | cons t ts ih =>
    intro vs ds ps b sp hd h
    cases vs with
    | nil=>cases ds<;>simp [DataW.TrodAll] at h
    | cons v vs =>
      cases ds with
      | nil=>simp [DataW.TrodAll] at h
      | cons x ds=>obtain ⟨p,q,h1,h2,_⟩:=h;simp [ih h2]
theorem contract {E:Env} {f:Nat} {fn:Func} {c:Code} {s:ChangeSpec} {n rt:Nat} {Ts:List (Bool × Ty)} (hk:Zd1 P E) (hfn:Ziw P E) (hl:laidOutB P=true)
    (hf:P.funcs[f]? = some fn) (hb:fn.body=some c) (hn:(fn.name == "runtime.NumGoroutine")=false) (hT:Zkk P d fn.params.toList=some Ts)
    (hr:∀ t∈fn.params.toList,P.readableRec t=true∧t<P.types.size) (hrt:fn.resultTypes.toList=[rt]) (hrn:fn.resultTypes.size=1) (hrb:P.underlying rt=some .bool) (hs:Ydv s n) (hpn:fn.params.toList.length=n)
    {args:Array Value} {ds gs:List (DataW H)} {before:List MemPlace}
    (hg:Zki E W) (run:∀ ys0,Zkj Ts ys0→abulks ys0≤dbulkAll ds→∃ σr,S E f ys0 []=some (.bool true,σr))
    (hval:∀ (j:Nat) t v,fn.params[j]? = some t→args[j]? = some v→Value.okWide P W .any b2 t v)
    (hW:DataW.Whole enc P fn.params.toList s.vars false W args.toList ds gs before) :
    Calls P f args W fun e W'=>∃ v,e=.returned v∧s.post enc P fn false true false false W args v W':=by
  have hW':=hW
  obtain ⟨p,q,hA,hV,rfl,hfz,hnd⟩:=hW
  obtain ⟨ys0,h1,h2,h3⟩:=Ydu hT (fun j t v ht hv=>hval j t v (by simpa using ht) (by simpa using hv)) hA
  obtain ⟨σr,hrun⟩:=run ys0 h2 h3
  have hc:=Z2q hk hfn hf hb hn hrun hg h1
  rw [Array.toArray_toList] at hc
  have hgs:gs=[]∧q=[]:=by rw [hs.1] at hV;cases gs<;>simp_all [DataW.TrodVars]
  obtain ⟨rfl,rfl⟩:=hgs
  have hlt:∀ x∈p,x.block<W.heap.size:=fun x hx=>hW'.lt x (by simp [hx])
  have hlen:=Zox hA
  refine hc.mono fun e W' ⟨he,bel⟩=>?_
  subst he
  have hspec:=hs.2 H (ds++[]) (by simp;omega)
  refine ⟨_,rfl,ds,[],_,[],p,[],hW',?_,?_,?_,bel.frame _,fun h=>by cases h⟩
  · rw [hspec,hrt,hrn]
    exact trodAll_mk1 (shut_bool hrb _)
  · rw [hspec]
    simp only [List.append_nil]
    exact Zow hl bel hr hlt hA
  · rw [hspec,hs.1];rfl
end
end Cod
namespace Cod
open Go Go.RowKit
theorem Z8r {w:World} {g:Nat} {k:Option IntKind} {v:Value} {cs:Array Value} {el:TypeId} {fr:Nat × Nat} (hc:w.heap[g]? = some (.cells cs el fr)) (hs:cs.size=1) (h0:cs[0]? = some v) (hk:AnyOK k v):GV (ctx [] La0 w) g [.any k]:=by
  refine ⟨?_,.inr ⟨cs,el,fr,hc,hs⟩⟩
  simp only [Zgf,VR,VRC,flats,M1,Ygi,true_and,and_true]
  refine ⟨g,0,rfl,?_,own0 _,v,?_,hk⟩
  · rcases Yfn g w.heap.size with hlt|hge
    · exact hlt
    · rw [Array.getElem?_eq_none hge] at hc;cases hc
  · show w.cell? _=_
    simp only [World.cell?,hc]
    exact h0
theorem Zwj {P:Program} {W:World} {g:Nat} (h:W.ShapedOpen P) (hg:g<P.globals.size) (hz:(((Go.begin P (fun _ _=>0) default).world.heap[g]?).bind Obj.row?).map (fun r=>r.1.size)=some 1) (hc:∃ m,W.cell? ⟨g,0,none⟩=some (.int .i64 m)):GV (ctx [] La0 W) g [.any (some .i64)]:=by
  obtain ⟨m,hc⟩:=hc
  obtain ⟨⟨z,t⟩,h1,h2⟩:=Option.map_eq_some_iff.1 hz
  obtain ⟨cs,h3,h4,_⟩:=h.1 g z t hg h1
  simp only [World.cell?,h3] at hc
  exact Z8r h3 (h4.trans h2) (by simpa using hc) ⟨m,rfl⟩
end Cod
namespace Cod
open Go
theorem K1 {E:Env} {fn:List LRes} {k:List It} {st:St} {x y:LCode} (h:x=y):X E fn (.c x::k) st=X E fn (.c y::k) st:=by rw [h]
theorem Ydw {live:List Nat} {sl:List (Nat × AV)} {σ:A2}:Zqc live ⟨sl,σ⟩ =
    LetA (N1 σ 64 (ups σ++live.flatMap fun t=>V6 (T8 sl t)) []) (fun acc=>⟨live.map fun t=>(t,ren (N6 (Site.s 1000000) 0 acc) (T8 sl t)),U3 σ (N6 (Site.s 1000000) 0 acc) acc⟩) ⟨⟩:=rfl
def resC (σ:A2) (n:Option Nat):AV→Option AV
  | .ref s g off=>((Q9 s g).run σ).bind fun e=>(match n with|none=>e.cells[off]? | some n=>if off+n≤e.cells.length then some (.agg (sub e.cells off n)) else none)
  | _=>none
theorem Zwk {sl:List (Nat × AV)} {σ:A2} {t:Nat} {n:Option Nat}:Zio ⟨sl,σ⟩ (.cell t n)=resC σ n (T8 sl t):=by
  cases n<;>(unfold Zio resC;rfl)
theorem resC_0 {σ:A2} {s:Site} {g off:Nat}:resC σ none (.ref s g off)=Zrg ((Q9 s g).run σ) (fun e=>e.cells[off]?) ⟨⟩:=rfl
theorem resC_N {σ:A2} {s:Site} {g off n:Nat}:resC σ (some n) (.ref s g off)=Zrg ((Q9 s g).run σ) (fun e=>if off+n≤e.cells.length then some (.agg (sub e.cells off n)) else none) ⟨⟩:=rfl
theorem ifp {α:Type} {c:Prop} [Decidable c] {x y:Acc α} (h:c):(if c then x else y)=x:=if_pos h
theorem ifO {α:Type} {c:Prop} [Decidable c] {x y:Option α} (h:c):(if c then x else y)=x:=if_pos h
theorem ifnO {α:Type} {c:Prop} [Decidable c] {x y:Option α} (h:¬ c):(if c then x else y)=y:=if_neg h
theorem Z8s {a b:Int} (h:0≤a):a.tmod b=a%b:=Int.tmod_eq_emod_of_nonneg h
theorem Z8t {a b:Int} (h:0≤a):a.tdiv b=a/b:=Int.tdiv_eq_ediv_of_nonneg h
theorem wrap_i64 {x:Int} (h1 : -9223372036854775808≤x) (h2:x≤9223372036854775807):IntKind.i64.wrap x=x:=by
  simp only [IntKind.wrap,IntKind.signed,IntKind.bits]
  simp
  omega
theorem Zkl {x:Int} (h1:0≤x) (h2:x≤18446744073709551615):IntKind.u64.wrap x=x:=by
  simp only [IntKind.wrap,IntKind.signed,IntKind.bits]
  simp
  omega
theorem Z8u {x:Int} (h1:0≤x) (h2:x≤4294967295):IntKind.u32.wrap x=x:=by
  simp only [IntKind.wrap,IntKind.signed,IntKind.bits]
  simp
  omega
theorem Zha {x:Int}:IntKind.u8.wrap x=x%256:=by
  simp only [IntKind.wrap,IntKind.signed,IntKind.bits]
  simp
theorem Zwl {n:Nat}:((n:Int)).toNat=n:=Int.toNat_natCast n
theorem Zr3 {a b:Int} (h:a=b):(a==b)=true:=by simp [h]
theorem Ziz {a b:Int} (h:a≠b):(a==b)=false:=by simp [h]
theorem bne_t {a b:Int} (h:a≠b):(a != b)=true:=by simp [h]
theorem bne_f {a b:Int} (h:a=b):(a != b)=false:=by simp [h]
theorem N4 {p:Prop} [Decidable p] (h:p):decide p=true:=by simp [h]
theorem Zat {p:Prop} [Decidable p] (h:¬ p):decide p=false:=by simp [h]
theorem Zr4 (a b:Site):(a==b)=decide (a=b):=by by_cases h:a=b<;>simp [h]
theorem Z8v (a c:Site) (b d:Nat):(((a,b):Site × Nat)==(c,d))=(decide (a=c)&&(b==d)):=by
  show ((a==c)&&(b==d))=_
  rw [Zr4]
theorem Ydx (a b:List AV):Zer a b=a++b:=rfl
theorem Z2t (n:Nat):zer (.int .u8 0) n=A0 (List.replicate n 0):=by simp [zer,A0]
theorem Z2u {cs:List AV}:over cs 0 []=cs:=by simp [over]
theorem Zwm {c x:AV} {cs xs:List AV}:over (c::cs) 0 (x::xs)=x::over cs 0 xs:=by simp [over]
theorem over_S {c:AV} {cs xs:List AV} {n:Nat}:over (c::cs) (n+1) xs=c::over cs n xs:=by simp [over];rw [show n+1+xs.length=n+xs.length+1 by omega,Yg9]
def strs (l:List (List UInt8)):List AV:=l.map .str
theorem Zr5 (l:List (List UInt8)):(strs l).length=l.length:=by simp [strs]
theorem Zr6 (l m:List UInt8):A0 l++A0 m=A0 (l++m):=by simp [A0]
theorem S7 (b:UInt8) (l:List UInt8):A0 (b::l)=.int .u8 b.toNat::A0 l:=rfl
theorem Zoy (l:List UInt8):flats (A0 l)=true:=by
  induction l with
  | nil=>rfl
  | cons b l ih=>simp [S7,flats,M1,ih]
theorem Zoz (l:List UInt8):T7 (A0 l)=true:=by
  induction l with
  | nil=>rfl
  | cons b l ih=>simp [S7,T7,R1,ih]
theorem Zo0 (l:List UInt8):leadss (A0 l)=false:=by
  induction l with
  | nil=>rfl
  | cons b l ih=>simp [S7,leadss,leads,ih]
theorem Zo1 (l:List UInt8):refsOfs (A0 l)=[]:=by
  induction l with
  | nil=>rfl
  | cons b l ih=>simp [S7,refsOfs,V6,ih]
theorem Zo2 (f:Site→Nat→Option (Site × Nat)) (l:List UInt8):rens f (A0 l)=A0 l:=by
  induction l with
  | nil=>rfl
  | cons b l ih=>simp [S7,rens,ren,ih]
theorem Zhb (l:List UInt8):bytesOf (A0 l)=some l:=by
  induction l with
  | nil=>rfl
  | cons b l ih=>simp [S7,bytesOf,ih]
theorem Zr7 (l:List UInt8) (i n:Nat):sub (A0 l) i n=A0 (sub l i n):=by simp [sub,A0,Yha,Yhb]
theorem Ydy {α:Type} (l:List α):sub l 0 l.length=l:=by simp [sub]
theorem C2 {α:Type} {l:List α} {a n:Nat} (h:l.length≤a+n):sub l a n=l.drop a:=by
  unfold sub;exact Yf8 (by rw [Yfr];omega)
theorem Zo3 (l:List UInt8) (n:Nat):(A0 l).take n=A0 (l.take n):=by simp [A0,Yhb]
theorem Zo4 (l:List UInt8) (n:Nat):(A0 l).drop n=A0 (l.drop n):=by simp [A0,Yha]
theorem C3 {α:Type} {l:List α} {n:Nat} (h:l.length≤n):l.take n=l:=Yf8 h
theorem Z8w {α:Type} {l:List α} {n:Nat} (h:l.length≤n):sub l 0 n=l:=Yf8 h
theorem C4 {α:Type} {l:List α} {n:Nat}:sub l 0 n=l.take n:=rfl
theorem Zo5 {l:List UInt8} {i:Nat} {x:Int} (h:i<l.length) (h0:0≤x) (h1:x<256):over (A0 l) i [.int .u8 x]=A0 (l.set i (UInt8.ofNat x.toNat)):=by
  have hx:x=(((UInt8.ofNat x.toNat).toNat:Nat):Int):=by
    have:(UInt8.ofNat x.toNat).toNat=x.toNat:=by simp;omega
    rw [this];omega
  unfold over A0
  rw [List.length_singleton,List.map_set,List.set_eq_take_append_cons_drop,if_pos (by simpa using h)]
  simp only [Yhb,Yha,Yfm,Yhc,List.append_assoc]
  rw [←hx]
theorem Zyd {α:Type} {l m:List α} (h:m.length=l.length):l.take 0++m++l.drop (0+m.length)=m:=by simp [h]
theorem Zo6 {l m:List UInt8} (h:m.length=l.length):over (A0 l) 0 (A0 m)=A0 m:=by
  unfold over;exact Zyd (by rw [U5,U5,h])
def bat (l:List UInt8) (i:Nat):Int:=((l.getD i 0).toNat:Int)
theorem Zr8 {l:List UInt8} {i:Nat} (h:i<l.length):(A0 l)[i]? = some (.int .u8 (bat l i)):=by
  simp [A0,bat,h]
theorem Zfw (l:List UInt8) (i:Nat):0≤bat l i∧bat l i<256:=by
  unfold bat
  have:=(l.getD i 0).toNat_lt
  omega
def byt (n:Int):UInt8:=UInt8.ofNat n.toNat
theorem Zfx {t:List UInt8} {i:Nat} (h:i<t.length):Zxf t[i]? = .ret (.int .u8 (bat t i),[]):=by
  rw [List.getElem?_eq_getElem h,Zkg]
  simp [bat,h]
theorem Zo7 {l:List UInt8} {n:Int} (h0:0≤n) (h1:n<256):A0 l++[.int .u8 n]=A0 (l++[byt n]):=by
  have:(UInt8.ofNat n.toNat).toNat=n.toNat:=by simp;omega
  simp [A0,byt]
  omega
theorem BYs:(∀ n:Nat,zer (.int .u8 0) n=A0 (List.replicate n 0))∧(∀ l m:List UInt8,A0 l++A0 m=A0 (l++m))∧(∀ l:List UInt8,(A0 l).length=l.length)∧(∀ l:List UInt8,flats (A0 l)=true)∧(∀ l:List UInt8,T7 (A0 l)=true)∧(∀ l:List UInt8,leadss (A0 l)=false)∧(∀ l:List UInt8,refsOfs (A0 l)=[])∧(∀ (f:Site→Nat→Option (Site × Nat)) (l:List UInt8),rens f (A0 l)=A0 l)∧(∀ l:List UInt8,bytesOf (A0 l)=some l)∧(∀ (l:List UInt8) (i n:Nat),sub (A0 l) i n=A0 (sub l i n))∧(∀ (l:List UInt8) (n:Nat),(A0 l).take n=A0 (l.take n))∧(∀ (l:List UInt8) (n:Nat),(A0 l).drop n=A0 (l.drop n))∧(∀ (l:List UInt8) (i:Nat),i<l.length→(A0 l)[i]? = some (.int .u8 (bat l i)))∧(∀ l m:List UInt8,m.length=l.length→over (A0 l) 0 (A0 m)=A0 m)∧(∀ (l:List UInt8) (i:Nat) (x:Int),i<l.length→0≤x→x<256→over (A0 l) i [.int .u8 x]=A0 (l.set i (UInt8.ofNat x.toNat)))∧(∀ (l:List UInt8) (n:Int),0≤n→n<256→A0 l++[.int .u8 n]=A0 (l++[byt n])) :=
  ⟨Z2t,Zr6,U5,Zoy,Zoz,Zo0,Zo1,Zo2,Zhb,Zr7,Zo3,Zo4,fun _ _ h=>Zr8 h,fun _ _ h=>Zo6 h,fun _ _ _ h h0 h1=>Zo5 h h0 h1,fun _ _ h0 h1=>Zo7 h0 h1⟩
theorem Z8x {a:Int} {n:Nat} (hn:n≤64):Zcy .u64 a n=(a*2^n)%18446744073709551616:=by
  unfold Zcy
  rw [show ((n:Int)).toNat=n by omega,show Nat.min n (IntKind.u64.bits)=n from Yhd hn]
  simp only [IntKind.wrap,IntKind.signed,IntKind.bits]
  simp
theorem Z8y {k:IntKind} {a:Int} {n:Nat} (hn:n≤k.bits):Zcq k a n=a/2^n:=by
  unfold Zcq
  rw [show ((n:Int)).toNat=n by omega,show Nat.min n k.bits=n from Yhd hn,Int.fdiv_eq_ediv_of_nonneg _ (Int.le_of_lt (Int.pow_pos (by omega)))]
theorem Zye {n:Int} (h0:0≤n) (h1:n<256):AV.int .u8 n=.int .u8 ((byt n).toNat:Int):=by
  unfold byt
  have:(UInt8.ofNat n.toNat).toNat=n.toNat:=by simp;omega
  rw [this];congr 1;omega
attribute [go_sem] X_lp Ydw Zwk resC_0 resC_N Bool.cond_true Bool.cond_false Option.isNone_some Option.isNone_none List.take_succ_cons List.take_zero Yg9 Z2u Zwm over_S Zfx N7 Ydx Zr4 Z8v ifp ifO ifnO
  Z8s Z8t wrap_i64 Zkl Z8u Zha Zwl Yhe Nat.one_mul Nat.zero_mul Nat.mul_zero Yg3 Z8w Zr3 Ziz bne_t bne_f N4 Zat
end Cod
namespace Cod
open Go
def Zkm (b:UInt8):UInt8:=if 65≤b∧b≤90 then b+32 else b
def Zhc:List UInt8→Bool
  | [a,b,c,d]=>a==46&&Zkm b==103&&Zkm c==105&&Zkm d==116
  | _=>false
def Zau (s:List UInt8):Bool:=decide (1≤s.length)&&decide (s.length≤100) && !s.contains 47 && !s.contains 0&&s != [46]&&s != [46,46] && !Zhc s
def parts:List UInt8→List (List UInt8)
  | []=>[[]]
  | c::t=>if c=47 then []::parts t else match parts t with|p::r=>(c::p)::r|[]=>[[c]]
def Zed (s:List UInt8):Bool:=decide (s.length≤200)&&(parts s).all Zau
def O6 (l:List UInt8) (c:UInt8):Int:=if c∈l then (l.idxOf c:Int) else -1
def Zr9 (a b:List UInt8):Int:=if a=b then 0 else if Op.bytesLess a b then -1 else 1
def Zee:List AV→Option AV
  | [.lst cs n,.int .u8 c]=>if n=cs.length then (bytesOf cs).map fun l=>.int .i64 (O6 l (byt c)) else none
  | _=>none
def Zhd:List AV→Option AV
  | [.str l,.int .u8 c]=>some (.int .i64 (O6 l (byt c)))
  | _=>none
def kCmp:List AV→Option AV
  | [.str a,.str b]=>some (.int .i64 (Zr9 a b))
  | _=>none
def Z8z:List AV→Option AV
  | [.str s]=>some (.bool (Zed s))
  | _=>none
def Zsa:List AV→Option AV
  | [.int .i64 n]=>if -9223372036854775808≤n∧n≤9223372036854775807 then some (.str (Lib.itoa n)) else none
  | _=>none
def Zo8:List (BitVec 32):=[
  1116352408,1899447441,3049323471,3921009573,961987163,1508970993,2453635748,2870763221,3624381080,310598401,607225278,1426881987,1925078388,2162078206,2614888103,3248222580,
  3835390401,4022224774,264347078,604807628,770255983,1249150122,1555081692,1996064986,2554220882,2821834349,2952996808,3210313671,3336571891,3584528711,113926993,338241895,
  666307205,773529912,1294757372,1396182291,1695183700,1986661051,2177026350,2456956037,2730485921,2820302411,3259730800,3345764771,3516065817,3600352804,4094571909,275423344,
  430227734,506948616,659060556,883997877,958139571,1322822218,1537002063,1747873779,1955562222,2024104815,2227730452,2361852424,2428436474,2756734187,3204031479,3329325298]
def Zjl:List Int:=[
  0,1,2,3,4,5,6,7,8,9,10,11,12,13,14,15,
  16,17,18,19,20,21,22,23,24,25,26,27,28,29,30,31,
  32,33,34,35,36,37,38,39,40,41,42,43,44,45,46,47,
  48,49,50,51,52,53,54,55,56,57,58,59,60,61,62,63,
  64,97,98,99,100,101,102,103,104,105,106,107,108,109,110,111,
  112,113,114,115,116,117,118,119,120,121,122,91,92,93,94,95,
  96,65,66,67,68,69,70,71,72,73,74,8490,76,77,78,79,
  80,81,82,383,84,85,86,87,88,89,90,123,124,125,126,127]
def W (x:BitVec 32):AV:=.int .u32 (x.toNat:Int)
def C7 (l:List (BitVec 32)):List AV:=l.map W
def Zbk (g:List AV→Option AV) (args:List AV) (σ:A2):Option (AV × A2):=if σ.isEmpty then (g args).map fun v=>(v,[]) else none
def Zef:List AV→Bool
  | []=>true
  | .int .u8 n::cs=>decide (0≤n)&&(decide (n<256)&&Zef cs)
  | _::_=>false
theorem Zwn:∀ l:List UInt8,Zef (A0 l)=true:=by
  intro l
  induction l with
  | nil=>rfl
  | cons b l ih =>
    have:=b.toNat_lt
    rw [S7,Zef,ih,N4 (by omega),N4 (by omega)];rfl
theorem Zhe:∀ {cs:List AV},Zef cs=true→∃ l:List UInt8,cs=A0 l:=by
  intro cs
  induction cs with
  | nil=>intro _;exact ⟨[],rfl⟩
  | cons c cs ih =>
    intro h
    unfold Zef at h
    split at h
    · rename_i he;cases he
    · rename_i n cs' he
      cases he
      simp only [Yfz,decide_eq_true_eq] at h
      obtain ⟨l,rfl⟩:=ih h.2.2
      refine ⟨byt n::l,?_⟩
      rw [Zye h.1 h.2.1];rfl
    · cases h
def Zkn (args:List AV) (σ:A2):Option (AV × A2):=match args,σ with
  | [.lst cs n],[]=>if cs.length=n∧n≤140737488355328∧Zef cs=true then some (.buf (.r 0) 0 0 n 1,[(.r 0,⟨0,true,true,false,cs⟩)]) else none
  | _,_=>none
theorem Zce (l:List (BitVec 32)):(C7 l).length=l.length:=by simp [C7]
theorem B0:(∀ l:List (List UInt8),(strs l).length=l.length)∧(∀ l:List (BitVec 32),(C7 l).length=l.length)∧(∀ l:List UInt8,(A0 l).length=l.length)∧(∀ (α:Type) (l:List α) (i:Nat) (x : α),(l.set i x).length=l.length)∧(∀ (α:Type) (n:Nat) (x : α),(List.replicate n x).length=n)∧(∀ (α:Type) (l m:List α),(l++m).length=l.length+m.length)∧(∀ (α:Type) (x : α) (l:List α),(x::l).length=l.length+1)∧(∀ α:Type,([]:List α).length=0)∧(∀ (α:Type) (n:Nat) (l:List α),(l.take n).length=min n l.length)∧(∀ (α:Type) (n:Nat) (l:List α),(l.drop n).length=l.length-n) :=
  ⟨Zr5,Zce,U5,fun _ _ _ _=>List.length_set,fun _ _ _=>List.length_replicate,fun _ _ _=>List.length_append,fun _ _ _=>Yf0,fun _=>Ygy,fun _ _ _=>Yfq,fun _ _ _=>Yfr⟩
def Zo9:List (Nat × (List AV→A2→Option (AV × A2))):=(F.strconv_Itoa,Zbk Zsa)::(F.Zb8,Zbk Zee)::(F.X8,Zbk Zhd)::(F.Zd5,Zbk kCmp)::[]
def Zdn:List (Nat × (List AV→A2→Option (AV × A2))):=(F.L6,Zkn)::Zo9
def Zdo:List (Nat × (List AV→A2→Option (AV × A2))):=(F.Zga,Zbk Z8z)::Zdn
def Zsb (f:Nat):Option (List AV→A2→Option (AV × A2)):=Zdn.lookup f
def Zpa (f:Nat):Option (List AV→A2→Option (AV × A2)):=Zdo.lookup f
def ordI:List Nat:=[16,17,18,0,8,7,9,6,10,5,11,4,12,3,13,2,14,1,15]
def Zjm:List (Nat × List AV):=(G.Zcb,ordI.map fun z:Nat=>.int .i64 (z:Int))::(G.Zrw,C7 Zo8)::(G.Zcd,Zjl.map fun z=>.int .u16 z)::(G.Zcc,Lib.pow10Tab.map fun z=>.int .u64 z)::(G.X9,[.any (some .i64)])::[]
def Zav (n:Nat):List AV:=match Zjm.lookup n with|some l=>l|none=>[]
def E:Env:=⟨N5,Zpa,Zav⟩
def E0:Env:=⟨N5,Zsb,Zav⟩
theorem L4 {f:Nat} {l:LFn} (hf:N5 f=some l) (hk:Zpa f=none) {args:List AV} {σ:A2} (hn:args.length=l.np):S E f args σ=X E l.results [.c l.code] ⟨params 0 args,σ⟩:=S_fn hk hf hn
theorem Zyf {f:Nat} {h:List AV→A2→Option (AV × A2)} (hk:Zpa f=some h) {args:List AV} {σ:A2}:S E f args σ=h args σ:=by
  rw [S_eq,show E.known f=some h from hk]
theorem S_itoa {n:Int} (h : -9223372036854775808≤n∧n≤9223372036854775807):S E F.strconv_Itoa [.int .i64 n] []=some (.str (Lib.itoa n),[]):=by
  rw [Zyf (h:=Zbk Zsa) rfl];simp only [Zbk,Zsa,if_pos h];rfl
theorem Ydz {l:List UInt8} {n:Nat} (h:n=l.length) (hb:n≤140737488355328):S E F.L6 [.lst (A0 l) n] []=some (.buf (.r 0) 0 0 n 1,[(.r 0,⟨0,true,true,false,A0 l⟩)]):=by
  rw [Zyf (h:=Zkn) rfl]
  simp only [Zkn,U5,Zwn,and_true]
  rw [if_pos ⟨h.symm,hb⟩]
theorem Zbl {f:Nat} {l:LFn} (hf:N5 f=some l) (hk:Zsb f=none) {args:List AV} {σ:A2} (hn:args.length=l.np):S E0 f args σ=X E0 l.results [.c l.code] ⟨params 0 args,σ⟩:=S_fn hk hf hn
theorem Zsc {l:List UInt8} {c:Int}:S E0 F.X8 [.str l,.int .u8 c] []=some (.int .i64 (O6 l (byt c)),[]):=by
  rw [S_eq,show E0.known F.X8=some (Zbk Zhd) from rfl];rfl
theorem glob_k:Zgf (E.glob G.Zrw)=.fp (C7 Zo8) 0:=rfl
end Cod
namespace Cod
open Go Go.RowKit
variable {P:Program} {E:Env} {w w':World} {La:Lay}
theorem Zdp (hb:Below w.heap.size w w'):CLe (ctx [] La w) (ctx [] La w') where
  tab s g0 al h:=by simp [ctx,Ztj,A8] at h
  own b _ h:=h
  block b h _:=hb.block b h
  room b k h:=by
    obtain ⟨cs,el,fr,h1,h2⟩:=h
    have hlt:b<w.heap.size:=by
      rcases Yfn b w.heap.size with h3|h3
      · exact h3
      · rw [show (ctx [] La w).w=w from rfl,Array.getElem?_eq_none h3] at h1;cases h1
    exact ⟨cs,el,fr,(hb.block b hlt).trans h1,h2⟩
  size:=hb.size
theorem Zma (h:Rel E w (I6 [] La) [] La [] La w) (hb:Below w.heap.size w w'):Rel E w (I6 [] La) [] La [] La w' where
  store:=⟨fun s e he=>by simp [A8] at he,fun s s' e e' b o o' he=>by simp [A8] at he⟩
  keep:=⟨hb.os,hb.tape,hb.output,hb.size,fun b hlt _=>hb.block b hlt,(Zdp (La:=La) hb).room⟩
  own b hb':=.inl hb'
  glob n:=Zqg (Zdp hb) (h.glob n)
  ups x e he:=by simp [A8] at he
  src b hb':=.inl hb'
  lf:=rfl
  f0:=h.f0
def Zko (P:Program) (E:Env) (f:Nat) (g:List AV→Option AV):Prop :=
  ∀ (args:List AV) (v:AV) (vs:List Value) (La:Lay) (w:World),g args=some v→VRL (ctx [] La w) args vs→Rel E w (I6 [] La) [] La [] La w →
    ∃ y,(∀ c,VR c v y)∧Zja P f vs.toArray w (fun z w'=>z=y∧Below w.heap.size w w')
def Zi0 (P:Program) (E:Env) (f:Nat) (h:List AV→A2→Option (AV × A2)):Prop :=
  ∀ (args:List AV) (σa:A2) (v:AV) (σr:A2),h args σa=some (v,σr)→∀ (La:Lay) (w:World) (vs:List Value),Rel E w (I6 σa La) σa La σa La w→VRL (ctx σa La w) args vs →
    (∀ s e,A8 σa s=some e→∃ x,s=.up x)→Zja P f vs.toArray w (fun y w'=>∃ La',Rel E w (I6 σa La) σa La σr La' w'∧VR (ctx σr La' w') v y)
theorem Zja.mono {f:FuncId} {args:Array Value} {R R':Value→World→Prop} (h:Zja P f args w R) (hR:∀ y w',R y w'→R' y w'):Zja P f args w R' :=
  fun o a next Q hn=>h o a next Q fun y w' hy=>hn y w' (hR y w' hy)
end Cod
namespace Cod
open Go Go.RowKit Go.Proofs
set_option maxRecDepth 100000
theorem Zhf {P:Program} {E:Env} {f:Nat} {g:List AV→Option AV} (h:Zko P E f g):Zi0 P E f (Zbk g):=by
  intro args σa v σr hk La w vs hr hv _
  unfold Zbk at hk
  cases σa with
  | nil =>
    simp only [Yhf,if_true,Yfp,Prod.mk.injEq] at hk
    obtain ⟨v',hg,rfl,rfl⟩:=hk
    obtain ⟨y,hy,hf⟩:=h args v' vs La w hg hv hr
    exact hf.mono fun z w' ⟨hz,hb⟩=>⟨La,Zma hr hb,hz▸hy _⟩
  | cons=>simp at hk
theorem Zcf {P:Program} {f:FuncId} {fn:Func} {e:Array Value→Sem Value} (hf:P.funcs[f]? = some fn) (hname:(fn.name == "runtime.NumGoroutine")=false)
    (hb:fn.body.isNone=true) (hn:Extern.findNext fn=none) (he:Extern.find fn=some e) {args:Array Value} {w w':World} {v:Value} {R:Value→World→Prop} (hrun:(e args).run P w=.ok v w') (hR:R v w'):Zja P f args w R:=by
  intro o a next Q h
  rw [run_callFunc_extern hf hname hb hn he,hrun]
  exact h v w' hR
theorem cmp_eq:∀ (a b:List UInt8),Lib.compareBytes a b=Zr9 a b:=by
  intro a
  induction a with
  | nil=>intro b;cases b<;>simp [Lib.compareBytes,Zr9,Op.bytesLess]
  | cons x a ih =>
    intro b
    cases b with
    | nil=>simp [Lib.compareBytes,Zr9,Op.bytesLess]
    | cons y b =>
      unfold Lib.compareBytes
      by_cases h1:x<y
      · have hne:x≠y:=fun e=>by subst e;exact UInt8.lt_irrefl x h1
        rw [if_pos h1]
        simp [Zr9,Op.bytesLess,h1,hne]
      · rw [if_neg h1]
        by_cases h2:y<x
        · have hne:x≠y:=fun e=>by subst e;exact UInt8.lt_irrefl x h2
          rw [if_pos h2]
          simp [Zr9,Op.bytesLess,h1,hne]
        · have he:x=y:=UInt8.le_antisymm (UInt8.not_lt.1 h2) (UInt8.not_lt.1 h1)
          subst he
          rw [if_neg h2,ih]
          simp [Zr9,Op.bytesLess,h1]
theorem Zsd (l:List UInt8) (c:UInt8):Lib.indexByte l c=O6 l c:=by
  induction l with
  | nil=>simp [Lib.indexByte,O6]
  | cons x l ih =>
    unfold Lib.indexByte
    by_cases h:x=c
    · subst h;simp [O6]
    · have hb:(x==c)=false:=by simpa using h
      have hc:¬ c=x:=fun e=>h e.symm
      rw [hb,ih]
      unfold O6
      by_cases hm:c∈l
      · simp [hm,List.idxOf_cons,hb]
      · simp [hm,hc]
theorem ok_cmp {E:Env}:Zko Tryz.prog E F.Zd5 kCmp:=by
  intro args v vs La w hg hv hr
  unfold kCmp at hg
  split at hg
  · rename_i a b
    cases hg
    simp only [VRL,VR] at hv
    obtain ⟨x,r,rfl,rfl,y,r2,rfl,rfl,rfl⟩:=hv
    refine ⟨.int .i64 (Zr9 a b),fun c=>by simp [VR],?_⟩
    have h:=Lib.run_compareString (P:=Tryz.prog) ⟨a.toArray⟩ ⟨b.toArray⟩ w
    simp only [cmp_eq] at h
    exact Zcf Tryz.func241 (by kernel_rfl) (by kernel_rfl) (by kernel_rfl) (e:=Extern.BytealgCompare.compare) (by kernel_rfl) h ⟨rfl,Below.refl _ _⟩
  · cases hg
theorem Zpb:∀ {cs:List AV} {l:List UInt8},bytesOf cs=some l→∃ xs:List Int,cs=xs.map (AV.int .u8 ·)∧l=Lib.bytesOf xs:=by
  intro cs
  induction cs with
  | nil=>intro l h;simp [bytesOf] at h;subst h;exact ⟨[],rfl,rfl⟩
  | cons x cs ih =>
    intro l h
    unfold bytesOf at h
    split at h
    · rename_i he;cases he
    · rename_i n cs' he
      cases he
      obtain ⟨l',hl,rfl⟩:=Option.map_eq_some_iff.1 h
      obtain ⟨xs,h1,h2⟩:=ih hl
      exact ⟨n::xs,by rw [h1];rfl,by rw [h2];rfl⟩
    · cases h
theorem Zwo {c:Ctx} {b o:Nat} {xs:List Int} (h:VRC c b o (xs.map (AV.int .u8 ·))):∀ i,i<xs.length→c.w.cell? ⟨b,o+i,none⟩=some (.int .u8 (xs.getD i 0)):=by
  intro i hi
  obtain ⟨v,h1,h2⟩:=Za7 h (i:=i) (x:=.int .u8 (xs.getD i 0)) (by simp [hi])
  simp only [VR] at h2
  rw [h1,h2]
theorem Z80 {E:Env}:Zko Tryz.prog E F.Zb8 Zee:=by
  intro args v vs La w hg hv hr
  unfold Zee at hg
  split at hg
  · rename_i cs n c
    split at hg
    · rename_i hn
      obtain ⟨l,hl,rfl⟩:=Option.map_eq_some_iff.1 hg
      simp only [VRL,VR] at hv
      obtain ⟨x,r,rfl,⟨_,hx⟩,y,r2,rfl,rfl,rfl⟩:=hv
      refine ⟨.int .i64 (O6 l (byt c)),fun c=>by simp [VR],?_⟩
      obtain ⟨xs,rfl,rfl⟩:=Zpb hl
      rw [Yg8] at hn
      rw [←Zsd]
      rcases hx with ⟨h0,rfl,rfl⟩|⟨b,o,cap,rfl,_,_,_,hc⟩
      · have hxs:xs=[]:=by simpa using h0
        subst hxs
        exact Zcf Tryz.func281 (by kernel_rfl) (by kernel_rfl) (by kernel_rfl) (e:=Extern.BytealgIndexByte.indexByte) (by kernel_rfl) (Lib.run_indexByteNil (P:=Tryz.prog) w 0 0 c) ⟨rfl,Below.refl _ _⟩
      · exact Zcf Tryz.func281 (by kernel_rfl) (by kernel_rfl) (by kernel_rfl) (e:=Extern.BytealgIndexByte.indexByte) (by kernel_rfl)
          (Lib.run_indexByteSlice (P:=Tryz.prog) w b o n cap xs hn.symm (fun i hi=>Zwo hc i (by omega)) c) ⟨rfl,Below.refl _ _⟩
    · cases hg
  · cases hg
theorem Z2v {E:Env}:Zko Tryz.prog E F.X8 Zhd:=by
  intro args v vs La w hg hv hr
  unfold Zhd at hg
  split at hg
  · rename_i l c
    cases hg
    simp only [VRL,VR] at hv
    obtain ⟨x,r,rfl,rfl,y,r2,rfl,rfl,rfl⟩:=hv
    refine ⟨.int .i64 (O6 l (byt c)),fun c=>by simp [VR],?_⟩
    have h:=Lib.run_indexByteString (P:=Tryz.prog) ⟨l.toArray⟩ c w
    simp only [Zsd] at h
    exact Zcf Tryz.func294 (by kernel_rfl) (by kernel_rfl) (by kernel_rfl) (e:=Extern.BytealgIndexByte.indexByte) (by kernel_rfl) h ⟨rfl,Below.refl _ _⟩
  · cases hg
theorem Z81 {c:Ctx} {b:Nat} {xs:List Int} (h:∀ i,i<xs.length→c.w.cell? ⟨b,i,none⟩=some (.int .u8 (xs.getD i 0))):VRC c b 0 (xs.map (AV.int .u8 ·)):=by
  refine Q5 fun i x hx=>?_
  have hi:=(List.getElem?_eq_some_iff.1 hx).1
  rw [Yg8] at hi
  rw [List.getElem?_map] at hx
  obtain ⟨y,hy,rfl⟩:=Option.map_eq_some_iff.1 hx
  refine ⟨.int .u8 y,?_,by simp [VR]⟩
  rw [Ygc,h i hi]
  simp [List.getD,hy]
theorem Zh7 {E:Env} {w w':World} {La:Lay} (h:Rel E w (I6 [] La) [] La [] La w) (hb:Below w.heap.size w w') {cs:List AV} {pos:Option (Nat × Nat)} (hge:∀ g o,pos=some (g,o)→w.heap.size≤g)
    (hent:V1 (ctx [(.r 0,⟨0,true,true,false,cs⟩)] ⟨fun s=>if s=.r 0 then pos else La.pos s,La.F⟩ w') (.r 0) ⟨0,true,true,false,cs⟩) :
    Rel E w (I6 [] La) [] La [(.r 0,⟨0,true,true,false,cs⟩)] ⟨fun s=>if s=.r 0 then pos else La.pos s,La.F⟩ w':=by
  have hget:∀ s e,A8 [(Site.r 0,(⟨0,true,true,false,cs⟩:Ent))] s=some e→s=.r 0∧e=⟨0,true,true,false,cs⟩:=by
    intro s e he
    simp only [A8] at he
    split at he
    · rename_i hs;exact ⟨hs.symm,(Option.some.inj he).symm⟩
    · cases he
  have hblk:∀ b,inS [(Site.r 0,(⟨0,true,true,false,cs⟩:Ent))] ⟨fun s=>if s=.r 0 then pos else La.pos s,La.F⟩ b→w.heap.size≤b:=by
    rintro b ⟨s,e,o,he,_,hl⟩
    obtain ⟨rfl,rfl⟩:=hget s e he
    exact hge b o (by simpa using hl)
  have hown:∀ b,I6 [(Site.r 0,(⟨0,true,true,false,cs⟩:Ent))] ⟨fun s=>if s=.r 0 then pos else La.pos s,La.F⟩ b→w.heap.size≤b:=fun b ⟨s,e,o,he,ha,_,hl⟩=>hblk b ⟨s,e,o,he,ha,hl⟩
  have hc:CLe (ctx [] La w) (ctx [(Site.r 0,(⟨0,true,true,false,cs⟩:Ent))] ⟨fun s=>if s=.r 0 then pos else La.pos s,La.F⟩ w'):=by
    have h0:=Zdp (La:=La) hb
    refine ⟨fun s g0 al hh=>by simp [ctx,Ztj,A8] at hh,fun b hlt ho=>?_,h0.block,h0.room,h0.size⟩
    rcases ho with ho|ho
    · have:=hown b ho
      exact absurd hlt (by show ¬ b<w.heap.size;omega)
    · exact .inr ho
  refine ⟨⟨fun s e he _=>?_,fun s s' e e' b o o' he _ he' _ _ _=>?_⟩,⟨hb.os,hb.tape,hb.output,hb.size,fun b hlt _=>hb.block b hlt,(Zdp (La:=La) hb).room⟩,fun b hb'=>.inr (hown b hb'),fun n=>Zqg hc (h.glob n),fun x e he _=>?_,fun b hb'=>.inr (hblk b hb'),rfl,h.f0⟩
  · obtain ⟨rfl,rfl⟩:=hget s e he
    exact hent
  · rw [(hget s e he).1,(hget s' e' he').1]
  · exact absurd (hget _ e he).1 (by simp)
theorem Yd0 {E:Env} {w w':World} {La:Lay} (h:Rel E w (I6 [] La) [] La [] La w) (hb:Below w.heap.size w w') {v':Value} {n e:Nat} {xs:List Int} (ho:w'.ownsRow w.heap.size e 1 v' n (xs.map (Value.int .u8))) :
    ∃ La',Rel E w (I6 [] La) [] La [(.r 0,⟨0,true,true,false,xs.map (AV.int .u8 ·)⟩)] La' w'∧VR (ctx [(.r 0,⟨0,true,true,false,xs.map (AV.int .u8 ·)⟩)] La' w') (.buf (.r 0) 0 0 n 1) v':=by
  obtain ⟨hlen,ho⟩:=ho
  rw [Yg8,Yhe] at hlen
  rcases ho with ⟨rfl,rfl⟩|⟨g,cap,cur,rfl,hg,hcell,hcap,_,hsz,htake⟩
  · obtain rfl:=Yf6 hlen
    refine ⟨_,Zh7 h hb (pos:=none) (fun g o hh=>by cases hh) ?_,?_⟩
    · simp [V1,ctx]
    · simp only [VR]
      exact ⟨rfl,0,true,rfl,Yfj _,fun _ _=>by simp [L5,ctx]⟩
  · rw [Yhe] at hsz htake
    have hroom:n≤cur.size:=by omega
    refine ⟨_,Zh7 h hb (pos:=some (g,0)) (fun g' o hh=>by cases hh;exact hg) ?_,?_⟩
    · have hl:(xs.map (AV.int .u8 ·)).length=n:=by rw [Yg8,hlen]
      simp only [V1,ctx,if_true]
      refine .inl ⟨⟨cur,e,(0,0),hcell,by simp only [Yg8];omega,.inl rfl⟩,Z81 fun i hi=>?_⟩
      show w'.cell? ⟨g,i,none⟩=_
      have h1:(cur.toList.take n)[i]? = some (Value.int .u8 (xs.getD i 0)):=by rw [htake];simp [List.getD,hi]
      rw [List.getElem?_take_of_lt (by omega)] at h1
      simp only [World.cell?,hcell]
      simpa using h1
    · simp only [VR]
      refine ⟨rfl,0,true,rfl,Yfj _,fun _ _=>?_⟩
      simp only [L5,ctx,if_true]
      exact .inr ⟨cap,rfl,hcap,cur,e,(0,0),hcell,by omega⟩
theorem Ze7 {α:Type}:∀ {tab:List (Nat × α)} {f:Nat} {h : α},tab.lookup f=some h→(f,h)∈tab:=by
  intro tab
  induction tab with
  | nil=>intro f h hh;simp at hh
  | cons p tab ih =>
    intro f h hh
    obtain ⟨g,m⟩:=p
    rw [List.lookup_cons] at hh
    cases hb:(f==g) with
    | true =>
      rw [hb] at hh
      simp only [Option.some.injEq] at hh
      simp only [beq_iff_eq] at hb
      subst hb hh
      simp
    | false=>rw [hb] at hh;exact List.mem_cons_of_mem _ (ih hh)
end Cod
namespace Cod
open Go Go.RowKit Go.Proofs
set_option maxRecDepth 100000
def Zpc (P:Program) (E:Env) (f:Nat) (g:List AV→Option AV):Prop :=
  ∀ (args:List AV) (v:AV) (vs:List Value) (La:Lay) (w:World),g args=some v→VRL (ctx [] La w) args vs→Rel E w (I6 [] La) [] La [] La w →
    Zja P f vs.toArray w (fun z w'=>(∀ c,VR c v z)∧Below w.heap.size w w')
theorem Zmb {P:Program} {E:Env} {f:Nat} {g:List AV→Option AV} (h:Zpc P E f g):Zi0 P E f (Zbk g):=by
  intro args σa v σr hk La w vs hr hv _
  unfold Zbk at hk
  cases σa with
  | nil =>
    simp only [Yhf,if_true,Yfp,Prod.mk.injEq] at hk
    obtain ⟨v',hg,rfl,rfl⟩:=hk
    exact (h args v' vs La w hg hv hr).mono fun z w' ⟨hz,hb⟩=>⟨La,Zma hr hb,hz _⟩
  | cons=>simp at hk
theorem Yd1 {E:Env} (hE:E.glob=Zav):Zpc Tryz.prog E F.strconv_Itoa Zsa:=by
  intro args v vs La w hg hv hr
  unfold Zsa at hg
  split at hg
  · rename_i n
    split at hg
    · rename_i hn
      cases hg
      simp only [VRL,VR] at hv
      obtain ⟨x,r,rfl,rfl,rfl⟩:=hv
      have ht:Lib.TabIs Tryz.prog w "internal/strconv.uint64pow10" .u64 Lib.pow10Tab := by
        have:=hr.glob G.Zcc
        rw [hE] at this
        exact Zr2 this (by kernel_rfl) (by simp [Lib.pow10Tab])
      refine Zab Tryz.func130 (by rfl) (by kernel_rfl) ((Tryz.strconv_Itoa n hn.1 hn.2 w ht).mono fun e w' ⟨he,k,os,hw⟩=>?_)
      subst hw
      exact ⟨_,he,fun c=>by simp [VR],Lib.below_grow _ _ (Yfj _) _ _⟩
    · cases hg
  · cases hg
end Cod
namespace Cod
open Go Go.RowKit Go.Proofs
set_option maxRecDepth 100000
set_option maxHeartbeats 2000000
theorem Zyg {E:Env} (hE:E.glob=Zav):∀ p∈Zo9,Zi0 Tryz.prog E p.1 p.2:=by
  unfold Zo9
  refine List.forall_mem_cons.2 ⟨Zmb (Yd1 hE),?_⟩
  refine List.forall_mem_cons.2 ⟨show Zi0 Tryz.prog E F.Zb8 (Zbk Zee) from Zhf Z80,?_⟩
  refine List.forall_mem_cons.2 ⟨show Zi0 Tryz.prog E F.X8 (Zbk Zhd) from Zhf Z2v,?_⟩
  refine List.forall_mem_cons.2 ⟨Zhf ok_cmp,?_⟩
  exact fun p h=>nomatch h
end Cod
namespace Cod
open Go
def Zmc:List (Nat × (List AV→A2→Option (AV × A2))):=Zo9
def E1:Env:=⟨N5,fun f=>Zmc.lookup f,Zav⟩
theorem Z82 {cs:List AV} {n:Nat}:Zem 1 (.lst cs (n+1))=.ret false:=rfl
theorem Z2w {l:List UInt8} {n:Nat} (hn:n=l.length) (h1:1≤n) (h2:n≤140737488355328):S E1 F.L6 [.lst (A0 l) n] []=some (.buf (.r 0) 0 0 n 1,[(.r 0,⟨0,true,true,false,A0 l⟩)]):=by
  obtain ⟨m,rfl⟩:∃ m,n=m+1:=⟨n-1,by omega⟩
  rw [show S E1 F.L6 [.lst (A0 l) (m+1)] []=X E1 L.L6.results [.c L.L6.code] ⟨params 0 [.lst (A0 l) (m+1)],[]⟩ from S_fn rfl Zn4 rfl]
  simp -dsimp (disch:=first|omega|(simp only [B0]<;>omega)|fail) only [L.L6,go_sem,reduceIte,reduceCtorEq,E2,E3,E4,E5,E6,E7,E8,E9,F0,F1,F2,F3,F4,F5,F6,F7,F8,F9,G0,B2,BYs,Z82]
end Cod
namespace Cod
open Go Go.RowKit Go.Proofs
set_option maxRecDepth 100000
theorem Z2x (w:World):Calls Tryz.prog 117 #[.slice none 0 0] w (fun e w'=>e=.returned (.slice none 0 0)∧w'=w):=by
  refine calls_of_wp Tryz.func117 rfl ?_
  simp only [Tryz.ntmps117,Yfs,Yf0,Ygy,Nat.reduceAdd,Nat.reduceSub,Yhg,Yhh,Yhi,Yhj,Yhc,Yfm]
  have e1:∀ W:World,(binOp .eql 25 (.slice none 0 0) (.slice none 0 0)).run Tryz.prog W=.ok (.bool true) W:=fun W=>by kernel_rfl
  go_wp2
  refine bodyPost_ret (results_tmp rfl _ _ _) rfl ?_
  exact ⟨rfl,rfl⟩
theorem Zwp (w:World) (b o cap:Nat):Calls Tryz.prog 117 #[.slice (some ⟨b,o,none⟩) 0 cap] w (fun e w'=>∃ g,e=.returned (.slice (some ⟨g,0,none⟩) 0 0)∧w.heap.size≤g∧Below w.heap.size w w'∧∃ cs el,w'.heap[g]? = some (.cells cs el (0,0))):=by
  refine calls_of_wp Tryz.func117 rfl ?_
  simp only [Tryz.ntmps117,Yfs,Yf0,Ygy,Nat.reduceAdd,Nat.reduceSub,Yhg,Yhh,Yhi,Yhj,Yhc,Yfm]
  have e1:∀ W:World,(binOp .eql 25 (.slice (some ⟨b,o,none⟩) 0 cap) (.slice none 0 0)).run Tryz.prog W=.ok (.bool false) W:=fun W=>by kernel_rfl
  go_wp2
  refine bodyPost_ret (results_tmp rfl _ _ _) rfl ?_
  exact ⟨_,rfl,Yfj _,(Below.refl _ w).alloc (Yfj _) _,_,_,heap_alloc_new w _⟩
theorem Z2y:Zd1 Tryz.prog E1:=fun f h hf=>Zyg (E:=E1) rfl (f,h) (Ze7 (show Zmc.lookup f=some h from hf))
theorem Yd2:Ziw Tryz.prog E1:=Zkc (by kernel_rfl) Zwe (fun _=>rfl)
theorem Zse {E E':Env} (hE:E'.glob=E.glob) {w0:World} {O0:Nat→Prop} {σ0:A2} {L0:Lay} {σ:A2} {L:Lay} {w:World} (h:Rel E w0 O0 σ0 L0 σ L w):Rel E' w0 O0 σ0 L0 σ L w :=
  ⟨h.store,h.keep,h.own,fun n=>by rw [hE];exact h.glob n,h.ups,h.src,h.lf,h.f0⟩
theorem Z83 {E:Env} (hE:E.glob=Zav):Zi0 Tryz.prog E F.L6 Zkn:=by
  intro args σa v σr hk La w vs hr hv hup
  unfold Zkn at hk
  split at hk
  · rename_i cs n
    split at hk
    · rename_i hc
      cases hk
      obtain ⟨hl,hbig,hs⟩:=hc
      obtain ⟨l,rfl⟩:=Zhe hs
      rw [U5] at hl
      by_cases h1:1≤n
      · have:=Zd2 Z2y Yd2 (Z2w (l:=l) (n:=n) hl.symm h1 hbig) La (Zse (E:=E) (E':=E1) hE.symm hr) hv
        refine this.mono fun y w' ⟨La',k1,k2⟩=>⟨La',?_,k2⟩
        exact Zse hE k1
      · obtain rfl:n=0:=by omega
        have hxs:l=[]:=Yf6 hl
        subst hxs
        simp only [VRL,VR] at hv
        obtain ⟨x,r,rfl,⟨_,hx⟩,rfl⟩:=hv
        rcases hx with ⟨_,_,rfl⟩|⟨b,o,cap,rfl,_,_,_,_⟩
        · refine Zab Tryz.func117 (by rfl) (by kernel_rfl) ((Z2x w).mono fun e w' ⟨he,hw⟩=>?_)
          subst hw
          exact ⟨_,he,Yd0 (xs:=[]) hr (Below.refl _ _) (e:=5) ⟨by simp,.inl ⟨rfl,rfl⟩⟩⟩
        · refine Zab Tryz.func117 (by rfl) (by kernel_rfl) ((Zwp w b o cap).mono fun e w' ⟨g,he,hg,hbel,cs,el,hcell⟩=>?_)
          refine ⟨_,he,_,Zh7 hr hbel (pos:=some (g,0)) (fun g' o hh=>by cases hh;exact hg) ?_,?_⟩
          · simp only [V1,ctx,if_true]
            exact .inl ⟨⟨cs,el,(0,0),hcell,Nat.zero_le _,.inl rfl⟩,by simp [A0,VRC]⟩
          · simp only [VR]
            refine ⟨rfl,0,true,rfl,Yfj _,fun _ _=>?_⟩
            simp only [L5,ctx,if_true]
            exact .inl ⟨trivial,⟨cs,el,(0,0),hcell,Nat.zero_le _⟩,0,rfl⟩
    · cases hk
  · cases hk
end Cod
namespace Cod
open Go Go.RowKit Go.Proofs Go.Shelf
set_option maxRecDepth 100000
theorem Zyh {E:Env} (hE:E.glob=Zav):∀ p∈Zdn,Zi0 Tryz.prog E p.1 p.2:=by
  unfold Zdn
  refine List.forall_mem_cons.2 ⟨Z83 hE,?_⟩
  exact Zyg hE
theorem Zmd:Zd1 Tryz.prog E0:=fun f h hf=>Zyh (E:=E0) rfl (f,h) (Ze7 (show Zdn.lookup f=some h from hf))
theorem Zyi:Ziw Tryz.prog E0:=Zkc (by kernel_rfl) Zwe (fun _=>rfl)
def LaE:Lay:=⟨fun _=>none,fun _=>False⟩
def Zcr (W:World):Prop:=∀ n,GV (ctx [] LaE W) n (Zav n)
theorem Z84 {E:Env} (hE:E.glob=Zav) {w:World} {La:Lay} (hr:Rel E w (I6 [] La) [] La [] La w):Zcr w:=by
  intro n
  have:=hr.glob n
  rw [hE] at this
  refine Zqg ?_ this
  refine ⟨fun s g0 al h=>by simp [ctx,Ztj,A8] at h,fun b _ h=>?_,fun b _ _=>rfl,fun _ _ h=>h,Yfj _⟩
  rcases h with ⟨s,e,o,he,_⟩|h
  · simp [A8] at he
  · exact h.elim
theorem Zcr.below {w W:World} (h:Zcr w) (hb:Below w.heap.size w W):Zcr W:=fun n=>Zqg (Zdp hb) (h n)
theorem Zcr.rel {W:World} (h:Zcr W):Rel E0 W (I6 [] LaE) [] LaE [] LaE W :=
  ⟨⟨fun s e he=>by simp [A8] at he,fun s s' e e' b o o' he=>by simp [A8] at he⟩,Keep.refl _ _,fun b hb=>.inl hb,h,fun x e he=>by simp [A8] at he,fun b hb=>.inl hb,rfl,fun b hb=>hb.elim⟩
theorem Zkp {W W':World} (h:Keep (I6 [] LaE) W W'):Below W.heap.size W W' :=
  ⟨h.os,h.tape,h.output,h.size,fun b hb=>h.block b hb (fun ⟨s,e,o,he,_⟩=>by simp [A8] at he)⟩
theorem Zkq {f:Nat} {fn:Func} {c:Code} (hf:Tryz.prog.funcs[f]? = some fn) (hb:fn.body=some c) (hn:(fn.name == "runtime.NumGoroutine")=false) {args:List AV} {v:AV} (h:S E0 f args []=some (v,[]))
    {W:World} (hW:Zcr W) {vs:List Value} (hv:∀ c,VRL c args vs) {y:Value} (hy:∀ c z,VR c v z→z=y):Calls Tryz.prog f vs.toArray W (fun e W'=>e=.returned y∧Below W.heap.size W W'):=by
  refine (Zec hf hb hn (Zd2 Zmd Zyi h LaE hW.rel (hv _))).mono ?_
  rintro e W' ⟨z,rfl,La',h1,h2⟩
  rw [hy _ _ h2]
  exact ⟨rfl,Zkp h1.keep⟩
end Cod
namespace Cod
open Go
set_option maxRecDepth 100000
theorem W9 (r v:Int) (h:(r=46∧v=46)∨(r=103∧v=71)∨(r=71∧v=103)∨(r=105∧v=73)∨(r=73∧v=105)∨(r=116∧v=84)∨(r=84∧v=116)):S E0 F.O5 [.int .i32 r] []=some (.int .i32 v,[]):=by
  rcases h with ⟨rfl,rfl⟩|⟨rfl,rfl⟩|⟨rfl,rfl⟩|⟨rfl,rfl⟩|⟨rfl,rfl⟩|⟨rfl,rfl⟩|⟨rfl,rfl⟩<;>exact Zel.2 ⟨60,by kernel_rfl⟩
theorem Zcg {b:UInt8} {l:List UInt8} (h:b<128):S E0 F.K9 [.str (b::l)] []=some (.tup [.int .i32 b.toNat,.int .i64 1],[]):=by
  have hb:b.toNat<128:=h
  rw [Zbl Zos rfl rfl]
  have h1:((b::l:List UInt8) == [])=false:=rfl
  have h2:((b.toNat:Int)<128):=by omega
  have h3:IntKind.i32.wrap (b.toNat:Int)=b.toNat:=by
    simp only [IntKind.wrap,IntKind.signed,IntKind.bits];simp;omega
  simp -dsimp (disch:=first|omega|(simp only [B0]<;>omega)|fail) only [L.K9,go_sem,reduceIte,reduceCtorEq,E2,E3,E4,E5,E6,E7,E8,E9,F0,F1,F2,F3,F4,F5,F6,F7,F8,F9,G0,B2,h1,h2,h3,bat,List.getD_cons_zero]
def Zgb:LCode:=match L.A5.r0 with|.seq _ (.seq _ r)=>r|_=>.skip
theorem Zwq {l:List UInt8} {i:Nat} (h:i<l.length):((⟨l.toArray⟩:ByteArray).get! i).toNat=(l.getD i 0).toNat:=by
  simp [ByteArray.get!,h,List.getD]
theorem Z85 {l:List UInt8} {i:Nat} (h:i<l.length) (hb:128≤bat l i):128≤(Zbb l i).1:=by
  have hg:((⟨l.toArray⟩:ByteArray).get! (i+0)).toNat=(l.getD i 0).toNat:=Zwq h
  unfold bat at hb
  unfold Zbb Utf8.decode Utf8.runeError
  simp only [hg]
  repeat' split
  all_goals (try simp only [ge_iff_le,Yfz,decide_eq_true_eq] at *)
  all_goals omega
theorem Yd3:∀ t ∈ [46,103,105,116],∀ n:Nat,n<256→(decide ((128:Int)≤ior .u8 n t))=decide (128≤n):=by decide +kernel
theorem ef_uni {SC:LCode} {s:List UInt8} (hs:s.length=4) (i:Nat) (hi:i<4) (hb:128≤bat s i) (v6 v21 v7 v8 v33:AV) :
    X E0 [.tmp 4] [.c Zgb,.scp SC] ⟨[(0,.str s),(1,.str [46,103,105,116]),(5,.int .i64 i),(6,v6),(21,v21),(7,v7),(8,v8),(33,v33)],[]⟩=some (.bool false,[]):=by
  have hd:0<(s.drop i).length:=by rw [Yfr];omega
  have hb':128≤bat (s.drop i) 0:=by simpa [bat] using hb
  have hr:=Z85 hd hb'
  generalize he:Zbb (s.drop i) 0=q at hr
  obtain ⟨r,wd⟩:=q
  have:i=0∨i=1∨i=2∨i=3:=by omega
  have hrz:(128:Int)≤r:=by simp only at hr;omega
  have d46:S E0 F.K9 [.str [46,103,105,116]] []=some (.tup [.int .i32 46,.int .i64 1],[]):=Zcg (by decide)
  have d103:S E0 F.K9 [.str [103,105,116]] []=some (.tup [.int .i32 103,.int .i64 1],[]):=Zcg (by decide)
  have d105:S E0 F.K9 [.str [105,116]] []=some (.tup [.int .i32 105,.int .i64 1],[]):=Zcg (by decide)
  have d116:S E0 F.K9 [.str [116]] []=some (.tup [.int .i32 116,.int .i64 1],[]):=Zcg (by decide)
  have f46:=W9 46 46 (by simp)
  have f103:=W9 103 71 (by simp)
  have f71:=W9 71 103 (by simp)
  have f105:=W9 105 73 (by simp)
  have f73:=W9 73 105 (by simp)
  have f116:=W9 116 84 (by simp)
  have f84:=W9 84 116 (by simp)
  rcases this with rfl|rfl|rfl|rfl
  · simp -dsimp (disch:=first|omega|(simp only [B0]<;>omega)|fail) only [Zgb,L.A5.r0,go_sem,reduceIte,reduceCtorEq,E2,E3,E4,E5,E6,E7,E8,E9,F0,F1,F2,F3,F4,F5,F6,F7,F8,F9,G0,B2,C4,C3,C2]
    simp only [Yg3] at hd he
    rw [K1 L.A5.x1.eq_1]
    simp -dsimp (disch:=first|omega|(simp only [B0]<;>omega)|fail) only [go_sem,reduceIte,reduceCtorEq,E2,E3,E4,E5,E6,E7,E8,E9,F0,F1,F2,F3,F4,F5,F6,F7,F8,F9,G0,B2,C4,C3,C2,hd,he,d46,f46]
    rw [K1 L.A5.x2.eq_1]
    simp -dsimp (disch:=first|omega|(simp only [B0]<;>omega)|fail) only [go_sem,reduceIte,reduceCtorEq,E2,E3,E4,E5,E6,E7,E8,E9,F0,F1,F2,F3,F4,F5,F6,F7,F8,F9,G0,B2,C4,C3,C2,f46,L.A5.r1]
  · simp -dsimp (disch:=first|omega|(simp only [B0]<;>omega)|fail) only [Zgb,L.A5.r0,go_sem,reduceIte,reduceCtorEq,E2,E3,E4,E5,E6,E7,E8,E9,F0,F1,F2,F3,F4,F5,F6,F7,F8,F9,G0,B2,C4,C3,C2]
    rw [K1 L.A5.x1.eq_1]
    simp -dsimp (disch:=first|omega|(simp only [B0]<;>omega)|fail) only [go_sem,reduceIte,reduceCtorEq,E2,E3,E4,E5,E6,E7,E8,E9,F0,F1,F2,F3,F4,F5,F6,F7,F8,F9,G0,B2,C4,C3,C2,hd,he,d103,f103]
    rw [K1 L.A5.x2.eq_1]
    simp -dsimp (disch:=first|omega|(simp only [B0]<;>omega)|fail) only [go_sem,reduceIte,reduceCtorEq,E2,E3,E4,E5,E6,E7,E8,E9,F0,F1,F2,F3,F4,F5,F6,F7,F8,F9,G0,B2,C4,C3,C2,f71,L.A5.r1]
    rw [K1 L.A5.x2.eq_1]
    simp -dsimp (disch:=first|omega|(simp only [B0]<;>omega)|fail) only [go_sem,reduceIte,reduceCtorEq,E2,E3,E4,E5,E6,E7,E8,E9,F0,F1,F2,F3,F4,F5,F6,F7,F8,F9,G0,B2,C4,C3,C2,f71,L.A5.r1]
  · simp -dsimp (disch:=first|omega|(simp only [B0]<;>omega)|fail) only [Zgb,L.A5.r0,go_sem,reduceIte,reduceCtorEq,E2,E3,E4,E5,E6,E7,E8,E9,F0,F1,F2,F3,F4,F5,F6,F7,F8,F9,G0,B2,C4,C3,C2]
    rw [K1 L.A5.x1.eq_1]
    simp -dsimp (disch:=first|omega|(simp only [B0]<;>omega)|fail) only [go_sem,reduceIte,reduceCtorEq,E2,E3,E4,E5,E6,E7,E8,E9,F0,F1,F2,F3,F4,F5,F6,F7,F8,F9,G0,B2,C4,C3,C2,hd,he,d105,f105]
    rw [K1 L.A5.x2.eq_1]
    simp -dsimp (disch:=first|omega|(simp only [B0]<;>omega)|fail) only [go_sem,reduceIte,reduceCtorEq,E2,E3,E4,E5,E6,E7,E8,E9,F0,F1,F2,F3,F4,F5,F6,F7,F8,F9,G0,B2,C4,C3,C2,f73,L.A5.r1]
    rw [K1 L.A5.x2.eq_1]
    simp -dsimp (disch:=first|omega|(simp only [B0]<;>omega)|fail) only [go_sem,reduceIte,reduceCtorEq,E2,E3,E4,E5,E6,E7,E8,E9,F0,F1,F2,F3,F4,F5,F6,F7,F8,F9,G0,B2,C4,C3,C2,f73,L.A5.r1]
  · simp -dsimp (disch:=first|omega|(simp only [B0]<;>omega)|fail) only [Zgb,L.A5.r0,go_sem,reduceIte,reduceCtorEq,E2,E3,E4,E5,E6,E7,E8,E9,F0,F1,F2,F3,F4,F5,F6,F7,F8,F9,G0,B2,C4,C3,C2]
    rw [K1 L.A5.x1.eq_1]
    simp -dsimp (disch:=first|omega|(simp only [B0]<;>omega)|fail) only [go_sem,reduceIte,reduceCtorEq,E2,E3,E4,E5,E6,E7,E8,E9,F0,F1,F2,F3,F4,F5,F6,F7,F8,F9,G0,B2,C4,C3,C2,hd,he,d116,f116]
    rw [K1 L.A5.x2.eq_1]
    simp -dsimp (disch:=first|omega|(simp only [B0]<;>omega)|fail) only [go_sem,reduceIte,reduceCtorEq,E2,E3,E4,E5,E6,E7,E8,E9,F0,F1,F2,F3,F4,F5,F6,F7,F8,F9,G0,B2,C4,C3,C2,f84,L.A5.r1]
    rw [K1 L.A5.x2.eq_1]
    simp -dsimp (disch:=first|omega|(simp only [B0]<;>omega)|fail) only [go_sem,reduceIte,reduceCtorEq,E2,E3,E4,E5,E6,E7,E8,E9,F0,F1,F2,F3,F4,F5,F6,F7,F8,F9,G0,B2,C4,C3,C2,f84,L.A5.r1]
def Z0 (b t:Int):Bool:=b==t||(decide (b<t)&&(decide (65≤b)&&(decide (b≤90)&&(t==b+32))))
theorem Zyj {SC:LCode} (hSC:P9 SC 0=some (.seq .skip Zgb)) {s:List UInt8} (hs:s.length=4) (i:Nat) (t:Int) (hi:(i=0∧t=46)∨(i=1∧t=103)∨(i=2∧t=105)∨(i=3∧t=116)) :
    X E0 [.tmp 4] (.c L.A5.x0::.lp [0,1,5,6] L.A5.x0::.blk 0::.c L.A5.r0::.scp SC::[]) ⟨[(0,.str s),(1,.str [46,103,105,116]),(5,.int .i64 i),(6,.int .i64 4)],[]⟩ =
    if bat s i<128∧Z0 (bat s i) t=true then X E0 [.tmp 4] (.c L.A5.x0::.lp [0,1,5,6] L.A5.x0::.blk 0::.c L.A5.r0::.scp SC::[]) ⟨[(0,.str s),(1,.str [46,103,105,116]),(5,.int .i64 (i+1:Int)),(6,.int .i64 4)],[]⟩ else some (.bool false,[]):=by
  obtain ⟨h0,h1⟩:=Zfw s i
  have hor:=Yd3 t (by rcases hi with ⟨_,rfl⟩|⟨_,rfl⟩|⟨_,rfl⟩|⟨_,rfl⟩<;>simp) (bat s i).toNat (by omega)
  rw [show (((bat s i).toNat:Nat):Int)=bat s i by omega] at hor
  have hti:bat [46,103,105,116] i=t:=by rcases hi with ⟨rfl,rfl⟩|⟨rfl,rfl⟩|⟨rfl,rfl⟩|⟨rfl,rfl⟩<;>rfl
  have hi4:i<4:=by omega
  have htr:46≤t∧t≤116:=by omega
  have hil:i < [46,103,105,(116:UInt8)].length:=by simpa using hi4
  rw [K1 L.A5.x0.eq_1]
  by_cases hb:bat s i<128
  · have hd:decide (128≤(bat s i).toNat)=false:=by simp;omega
    rw [hd] at hor
    generalize hx:bat s i=x at *
    by_cases e1:x=t
    · rw [if_pos ⟨hb,by simp [Z0,e1]⟩]
      have e9:(t==x)=true:=Zr3 e1.symm
      simp -dsimp (disch:=first|omega|(simp only [B0]<;>omega)|fail) only [go_sem,reduceIte,reduceCtorEq,E2,E3,E4,E5,E6,E7,E8,E9,F0,F1,F2,F3,F4,F5,F6,F7,F8,F9,G0,B2,C4,C3,C2,hx,hti,hor,e9]
    · have e2:(x==t)=false:=Ziz e1
      have e2':(t==x)=false:=Ziz (fun h=>e1 h.symm)
      by_cases e3:x<t
      · have e4:¬ t<x:=by omega
        by_cases e5:65≤x
        · by_cases e6:x≤90
          · have w1:IntKind.u8.wrap (x+97)=x+97:=by rw [Zha];omega
            have w2:IntKind.u8.wrap (x+97-65)=x+32:=by rw [Zha];omega
            by_cases e7:t=x+32
            · rw [if_pos ⟨hb,by simp only [Z0,e2,N4 e3,N4 e5,N4 e6,Zr3 e7,Yhk,Ygi,Yhl]⟩]
              have e8:(t==x+32)=true:=Zr3 e7
              simp -dsimp (disch:=first|omega|(simp only [B0]<;>omega)|fail) only [go_sem,reduceIte,reduceCtorEq,E2,E3,E4,E5,E6,E7,E8,E9,F0,F1,F2,F3,F4,F5,F6,F7,F8,F9,G0,B2,C4,C3,C2,hx,hti,hor,e2',e4,e5,e6,w1,w2,e8]
            · rw [if_neg (by simp only [Z0,e2,N4 e3,N4 e5,N4 e6,Ziz e7,Yhk,Ygi,Yhl];simp)]
              have e8:(t==x+32)=false:=Ziz e7
              simp -dsimp (disch:=first|omega|(simp only [B0]<;>omega)|fail) only [go_sem,reduceIte,reduceCtorEq,E2,E3,E4,E5,E6,E7,E8,E9,F0,F1,F2,F3,F4,F5,F6,F7,F8,F9,G0,B2,C4,C3,C2,hx,hti,hor,e2',e4,e5,e6,w1,w2,e8]
          · rw [if_neg (by simp only [Z0,e2,N4 e3,N4 e5,Zat e6,Yhk,Yhm,Yhl];simp)]
            simp -dsimp (disch:=first|omega|(simp only [B0]<;>omega)|fail) only [go_sem,reduceIte,reduceCtorEq,E2,E3,E4,E5,E6,E7,E8,E9,F0,F1,F2,F3,F4,F5,F6,F7,F8,F9,G0,B2,C4,C3,C2,hx,hti,hor,e2',e4,e5,e6]
        · rw [if_neg (by simp only [Z0,e2,N4 e3,Zat e5,Yhk,Yhm,Yhl];simp)]
          simp -dsimp (disch:=first|omega|(simp only [B0]<;>omega)|fail) only [go_sem,reduceIte,reduceCtorEq,E2,E3,E4,E5,E6,E7,E8,E9,F0,F1,F2,F3,F4,F5,F6,F7,F8,F9,G0,B2,C4,C3,C2,hx,hti,hor,e2',e4,e5]
      · have e4:t<x:=by omega
        rw [if_neg (by simp only [Z0,e2,Zat e3,Yhm,Yhl];simp)]
        by_cases e5:65≤t
        · have e6:¬ t≤90:=by omega
          simp -dsimp (disch:=first|omega|(simp only [B0]<;>omega)|fail) only [go_sem,reduceIte,reduceCtorEq,E2,E3,E4,E5,E6,E7,E8,E9,F0,F1,F2,F3,F4,F5,F6,F7,F8,F9,G0,B2,C4,C3,C2,hx,hti,hor,e2',e4,e5,e6]
        · simp -dsimp (disch:=first|omega|(simp only [B0]<;>omega)|fail) only [go_sem,reduceIte,reduceCtorEq,E2,E3,E4,E5,E6,E7,E8,E9,F0,F1,F2,F3,F4,F5,F6,F7,F8,F9,G0,B2,C4,C3,C2,hx,hti,hor,e2',e4,e5]
  · have hd:decide (128≤(bat s i).toNat)=true:=by simp;omega
    rw [hd] at hor
    rw [if_neg (fun h=>hb h.1)]
    simp -dsimp (disch:=first|omega|(simp only [B0]<;>omega)|fail) only [go_sem,reduceIte,reduceCtorEq,E2,E3,E4,E5,E6,E7,E8,E9,F0,F1,F2,F3,F4,F5,F6,F7,F8,F9,G0,B2,C4,C3,C2,hti,hor,hSC]
    exact ef_uni hs i hi4 (by omega) _ _ _ _ _
def Zsf (s:List UInt8):Bool:=decide (bat s 0<128∧Z0 (bat s 0) 46=true)&&(decide (bat s 1<128∧Z0 (bat s 1) 103=true)&&(decide (bat s 2<128∧Z0 (bat s 2) 105=true)&&decide (bat s 3<128∧Z0 (bat s 3) 116=true)))
theorem Yd4 {s:List UInt8} (hs:s.length=4):S E0 F.A5 [.str s,.str [46,103,105,116]] []=some (.bool (Zsf s),[]):=by
  rw [Zbl Zon rfl rfl]
  have l4:((s.length:Int))=4:=by omega
  simp -dsimp (disch:=first|omega|(simp only [B0]<;>omega)|fail) only [L.A5,go_sem,reduceIte,reduceCtorEq,E2,E3,E4,E5,E6,E7,E8,E9,F0,F1,F2,F3,F4,F5,F6,F7,F8,F9,G0,B2,hs]
  generalize hSC:LCode.seq _ _=SC
  have hf:P9 SC 0=some (.seq .skip Zgb):=by subst hSC;rfl
  have i0:=Zyj hf hs 0 46 (by simp)
  have i1:=Zyj hf hs 1 103 (by simp)
  have i2:=Zyj hf hs 2 105 (by simp)
  have i3:=Zyj hf hs 3 116 (by simp)
  have i4:X E0 [.tmp 4] (.c L.A5.x0::.lp [0,1,5,6] L.A5.x0::.blk 0::.c L.A5.r0::.scp SC::[]) ⟨[(0,.str s),(1,.str [46,103,105,116]),(5,.int .i64 4),(6,.int .i64 4)],[]⟩=some (.bool true,[]):=by
    rw [K1 L.A5.x0.eq_1]
    simp -dsimp (disch:=first|omega|(simp only [B0]<;>omega)|fail) only [go_sem,reduceIte,reduceCtorEq,E2,E3,E4,E5,E6,E7,E8,E9,F0,F1,F2,F3,F4,F5,F6,F7,F8,F9,G0,B2,L.A5.r0,hs]
  simp only [show ((0:Nat):Int)=0 from rfl,show ((1:Nat):Int)=1 from rfl,show ((2:Nat):Int)=2 from rfl,show ((3:Nat):Int)=3 from rfl,show (0:Int)+1=1 from rfl,show (1:Int)+1=2 from rfl,show (2:Int)+1=3 from rfl,show (3:Int)+1=4 from rfl] at i0 i1 i2 i3
  rw [show (if ((4:Nat):Int)<((4:Nat):Int) then ((4:Nat):Int) else ((4:Nat):Int))=4 from rfl,i0]
  by_cases c0:bat s 0<128∧Z0 (bat s 0) 46=true
  · rw [if_pos c0,i1]
    by_cases c1:bat s 1<128∧Z0 (bat s 1) 103=true
    · rw [if_pos c1,i2]
      by_cases c2:bat s 2<128∧Z0 (bat s 2) 105=true
      · rw [if_pos c2,i3]
        by_cases c3:bat s 3<128∧Z0 (bat s 3) 116=true
        · rw [if_pos c3,i4];simp only [Zsf,N4 c0,N4 c1,N4 c2,N4 c3];rfl
        · rw [if_neg c3];simp only [Zsf,N4 c0,N4 c1,N4 c2,Zat c3];rfl
      · rw [if_neg c2];simp only [Zsf,N4 c0,N4 c1,Zat c2];rfl
    · rw [if_neg c1];simp only [Zsf,N4 c0,Zat c1];rfl
  · rw [if_neg c0];simp only [Zsf,Zat c0];rfl
theorem Zsg:∀ n:Nat,n<256→∀ t ∈ [(46:UInt8),103,105,116],decide ((n:Int)<128∧Z0 n t.toNat=true)=(Zkm (UInt8.ofNat n)==t):=by decide +kernel
theorem Zyk {s:List UInt8} (hs:s.length=4):Zsf s=Zhc s:=by
  match s,hs with
  | [a,b,c,d],_ =>
    have key:∀ (x:UInt8) (t:UInt8),t ∈ [(46:UInt8),103,105,116]→decide ((x.toNat:Int)<128∧Z0 x.toNat t.toNat=true)=(Zkm x==t):=fun x t ht=>by
      have:=Zsg x.toNat x.toNat_lt t ht
      rwa [UInt8.ofNat_toNat] at this
    have h0:=key a 46 (by simp)
    have h1:=key b 103 (by simp)
    have h2:=key c 105 (by simp)
    have h3:=key d 116 (by simp)
    have e0:(Zkm a==46)=(a==46):=by
      have:∀ n:Nat,n<256→(Zkm (UInt8.ofNat n)==46)=(UInt8.ofNat n==46):=by decide +kernel
      have:=this a.toNat a.toNat_lt
      rwa [UInt8.ofNat_toNat] at this
    show (decide ((a.toNat:Int)<128∧Z0 a.toNat (46:UInt8).toNat=true)&&(decide ((b.toNat:Int)<128∧Z0 b.toNat (103:UInt8).toNat=true)&&(decide ((c.toNat:Int)<128∧Z0 c.toNat (105:UInt8).toNat=true)&&decide ((d.toNat:Int)<128∧Z0 d.toNat (116:UInt8).toNat=true))))=_
    rw [h0,h1,h2,h3,e0]
    simp only [Zhc,Bool.and_assoc]
end Cod

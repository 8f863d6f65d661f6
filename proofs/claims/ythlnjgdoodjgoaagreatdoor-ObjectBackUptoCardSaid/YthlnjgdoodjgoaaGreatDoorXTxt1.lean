/- Arguments of plain data, read as the rows read them: their abstract values. -/
import Derived.OpenShut
import Derived.Deep.Slices
import Derived.DataReads
import Derived.Carry
import Derived.Below
import Derived.Lib.LaidTab
import Derived.ChangeMaps
import Derived.WalkKit
import Derived.ProofKit
import Derived.Deep.DeepHandedRow
import Derived.Lib.AtoiAll
import Derived.Lib.ItoaNum
import Derived.Lib.LastIndexLaws
import Derived.Lib.IndexMore
import Derived.Lib.BytesEntry
import Derived.Laws.AppendOwn
import Derived.Test.YthlnjgdoodjgoaaGreatDoorChecked
import Derived.Laws.Externs
import Derived.Shelf.Strconv.ParseUint10At
import Derived.Lib.Hide
import Derived.Laws.Closers25b
import Derived.Shelf.Strconv.ErrVarParseInt
import Derived.Lib.IfaceNeq
import Derived.Lib.AppendIntMem
import Derived.Test.YthlnjgdoodjgoaaGreatDoorXCod5
import Derived.Test.YthlnjgdoodjgoaaGreatDoorXLit3
import Derived.Test.YthlnjgdoodjgoaaGreatDoorXCod6
import Derived.Test.YthlnjgdoodjgoaaGreatDoorXShelf1
set_option linter.unusedSimpArgs false
set_option linter.unusedVariables false
open List renaming append_toArray → Yo7, cons_append → Yna, drop_drop → Yn5, drop_succ_cons → Yow, drop_zero → Yoq, eq_nil_of_length_eq_zero → Ynv, flatten_cons → Yop, isEmpty_nil → Yo2, length_cons → Ynn, length_drop → Ynf, length_map → Yov, length_nil → Yok, length_take → Yne, map_drop → Yox, map_take → Yoy, mem_of_mem_drop → Yot, mem_of_mem_take → You, nil_append → Yoz, push_toArray → Yo6, size_toArray → Yng, take_append_drop → Yos, take_of_length_le → Ynx
open Nat renaming le_refl → Ym7, lt_or_ge → Ynb, min_eq_left → Yo0, mul_one → Yo1, succ_mul → Yor, zero_add → Yn1
open Bool renaming and_eq_true → Ynm
open Option renaming bind_some → Ym4, map_eq_some_iff → Ynd
open Array renaming eq_empty_of_size_eq_zero → Yo3, replicate_succ → Yo4, replicate_zero → Yo5
open Nat renaming reduceEqDiff → B9, reduceAdd → C0, reduceSub → C1, reduceMul → C2, reduceDiv → C3, reduceMod → C4, reduceBEq → C5, reduceLeDiff → C6, reduceLT → C7
open Int renaming reduceEq → C8, reduceNe → C9, reduceLT → D0, reduceLE → D1, reduceBEq → D2, reduceBNe → D3, reduceToNat → D4, reduceAdd → D5, reduceSub → D6, reduceMul → D7, reduceNeg → A3
namespace Cod
open Go
inductive Ty where
  | int (k:IntKind)
  | bool
  | str
  | nil
  | cat (a b:Ty)
  | rep (n:Nat) (a:Ty)
  | sl (e:Ty)
def Ty.noSl:Ty→Bool
  | .sl _=>false
  | .cat a b=>a.noSl&&b.noSl
  | .rep _ a=>a.noSl
  | _=>true
def Wf:Ty→List AV→Prop
  | .int k,ys0=>∃ n,ys0=[.int k n]∧(Lit.int k n).wf=true
  | .bool,ys0=>∃ b,ys0=[.bool b]
  | .str,ys0=>∃ s,ys0=[.str s]∧s.length≤maxLen
  | .nil,ys0=>ys0=[]
  | .cat a b,ys0=>∃ x y,ys0=x++y∧Wf a x∧Wf b y
  | .rep n a,ys0=>∃ r:List (List AV),ys0=r.flatten∧r.length=n∧∀ x∈r,Wf a x
  | .sl e,ys0=>∃ r:List (List AV),ys0=[.lst r.flatten r.length]∧r.length≤maxLen∧∀ x∈r,Wf e x
def Zfv (P:Program) (rec:TypeId→Option Ty) (total:Nat):Nat→List Field→Option Ty
  | off,[]=>if off=total then some .nil else none
  | off,f::fs=>if f.offset=off then match rec f.type,Zfv P rec total (off+P.cellsOf f.type) fs with
    | some a,some b=>some (.cat a b)
    | _,_=>none
    else none
def Zj3 (P:Program) (t:TypeId) (T:Ty):Option Ty:=if P.cellsOf t=1 then some T else none
def Zsc (P:Program):Nat→TypeId→Option Ty
  | 0,_=>none
  | d+1,t=>match P.underlying t with
    | some .bool=>Zj3 P t .bool
    | some (.int k)=>Zj3 P t (.int k)
    | some .string=>Zj3 P t .str
    | some (.slice e)=>if P.cellsOf e=0 then none else match Zsc P d e with
      | some T=>if T.noSl then Zj3 P t (.sl T) else none
      | none=>none
    | some (.struct fs)=>Zfv P (Zsc P d) (P.cellsOf t) 0 fs.toList
    | some (.array n e)=>if P.cellsOf t=n*P.cellsOf e then (Zsc P d e).map (.rep n ·) else none
    | _=>none
/- The bulk that a reading has, and an abstract value's. -/
mutual
def O9 {H:Type}:DataW H→Nat
  | .lit (.string bytes)=>bytes.length+1
  | .lit _=>1
  | .nil=>1
  | .ptr d=>O9 d+1
  | .slice elems spare=>dbulkAll elems+dbulkAll spare+1
  | .agg parts=>dbulkAll parts+1
  | .iface _ d=>O9 d+1
  | .map entries=>dbulkEntries entries+1
  | .held _=>1
def dbulkAll {H:Type}:List (DataW H)→Nat
  | []=>0
  | d::r=>O9 d+dbulkAll r
def dbulkEntries {H:Type}:List (Lit × DataW H)→Nat
  | []=>0
  | x::r=>dbulkEntry x+dbulkEntries r
def dbulkEntry {H:Type}:Lit × DataW H→Nat
  | (.string bytes,d)=>bytes.length+O9 d+1
  | (_,d)=>O9 d+1
end
mutual
def Zdd:AV→Nat
  | .str s=>s.length+1
  | .lst cs n=>max (abulks cs) n+1
  | .agg cs=>abulks cs
  | _=>1
def abulks:List AV→Nat
  | []=>0
  | a::r=>Zdd a+abulks r
end
theorem Za9 (a b:List AV):abulks (a++b)=abulks a+abulks b:=by
  induction a with
  | nil=>simp [abulks]
  | cons x a ih=>simp only [Yna,abulks,ih];omega
theorem Ziv {H:Type}:∀ (r:List (List AV)) (ds:List (DataW H)),r.length=ds.length→(∀ (i:Nat) (x:List AV) (d:DataW H),r[i]? = some x→ds[i]? = some d→abulks x≤O9 d)→abulks r.flatten≤dbulkAll ds:=by
  intro r
  induction r with
  | nil=>intro ds h _;cases ds with|nil=>simp [abulks,dbulkAll]|cons=>simp at h
  | cons x r ih =>
    intro ds h hx
    cases ds with
    | nil=>simp at h
    | cons d ds =>
      simp only [Yop,Za9,dbulkAll]
      have h1:=hx 0 x d (by simp) (by simp)
      have h2:=ih ds (by simpa using h) (fun i y e hy he=>hx (i+1) y e (by simpa using hy) (by simpa using he))
      omega
theorem Zsd {H:Type} (d:DataW H):1≤O9 d:=by
  cases d with
  | lit l=>cases l<;>simp [O9]
  | _=>simp [O9]
theorem Zse {H:Type}:∀ (l:List (DataW H)),l.length≤dbulkAll l:=by
  intro l
  induction l with
  | nil=>simp
  | cons d l ih=>have:=Zsd d;simp only [dbulkAll,Ynn];omega
theorem Ziw:∀ {r:List (List AV)},(∀ x∈r,flats x=true)→flats r.flatten=true:=by
  intro r
  induction r with
  | nil=>intro _;simp [flats]
  | cons x r ih=>intro h;rw [Yop,Zce,h x (by simp),ih (fun y hy=>h y (by simp [hy]))];rfl
theorem Z3p {p:Nat→List AV→Prop}:∀ (n:Nat),(∀ i,i<n→∃ ys0,p i ys0)→∃ r:List (List AV),r.length=n∧∀ i x,r[i]? = some x→p i x:=by
  intro n
  induction n with
  | zero=>intro _;exact ⟨[],rfl,fun i x h=>by simp at h⟩
  | succ n ih =>
    intro h
    obtain ⟨r,h1,h2⟩:=ih (fun i hi=>h i (by omega))
    obtain ⟨a,ha⟩:=h n (by omega)
    refine ⟨r++[a],by simp [h1],fun i x hx=>?_⟩
    rcases Ynb i r.length with hi|hi
    · rw [List.getElem?_append_left hi] at hx;exact h2 i x hx
    · rw [List.getElem?_append_right hi] at hx
      have:i=r.length:=by
        rcases Ynb (i-r.length) 1 with h3|h3
        · omega
        · rw [List.getElem?_eq_none (by simpa using h3)] at hx;cases hx
      subst this
      simp at hx
      subst hx
      rw [h1];exact ha
theorem Zvx {c:Ctx} {z:Nat}:∀ (r:List (List AV)) (cs:List Value),cs.length=r.length*z→(∀ i x,r[i]? = some x→VRL c x ((cs.drop (i*z)).take z))→VRL c r.flatten cs:=by
  intro r
  induction r with
  | nil=>intro cs h _;simp at h;subst h;simp [VRL]
  | cons x r ih =>
    intro cs h hx
    have h0:=hx 0 x (by simp)
    simp only [Nat.zero_mul,Yoq] at h0
    have h1:=ih (cs.drop z) (by rw [Ynf,h,Ynn,Yor];omega) (fun i y hy=>by
      have:=hx (i+1) y (by simpa using hy)
      rw [Yn5,show z+i*z=(i+1)*z by rw [Yor];omega]
      exact this)
    rw [Yop,←Yos z cs]
    exact X7 h0 h1
theorem Z01 {c:Ctx} {b o:Nat}:∀ {xs:List AV} {vs:List Value},VRL c xs vs→(∀ i v,vs[i]? = some v→c.w.cell? ⟨b,o+i,none⟩=some v)→VRC c b o xs:=by
  intro xs vs h hc
  refine X8 fun i x hx=>?_
  obtain ⟨v,h1,h2⟩:=Zcf h hx
  exact ⟨v,hc i v h1,h2⟩
theorem Z02 {c:Ctx} {b:Nat}:∀ {o:Nat} {xs ys:List AV},VRC c b o xs→VRC c b (o+xs.length) ys→VRC c b o (xs++ys):=by
  intro o xs
  induction xs generalizing o with
  | nil=>intro ys _ h;simpa using h
  | cons x xs ih =>
    intro ys h k
    simp only [VRC] at h
    simp only [Yna,VRC]
    refine ⟨h.1,ih h.2 ?_⟩
    rw [show o+1+xs.length=o+(x::xs).length by simp;omega]
    exact k
theorem Zvy {c:Ctx} {b z:Nat}:∀ {o:Nat} (r:List (List AV)),(∀ x∈r,x.length=z)→(∀ i x,r[i]? = some x→VRC c b (o+i*z) x)→VRC c b o r.flatten:=by
  intro o r
  induction r generalizing o with
  | nil=>intro _ _;simp [VRC]
  | cons x r ih =>
    intro hl hx
    rw [Yop]
    refine Z02 (by simpa using hx 0 x (by simp)) (ih (fun y hy=>hl y (by simp [hy])) fun i y hy=>?_)
    rw [hl x (by simp),show o+z+i*z=o+(i+1)*z by rw [Yor];omega]
    exact hx (i+1) y (by simpa using hy)
def Placed (w:World) (cs:List Value):Prop:=∀ a n m,Value.slice (some a) n m∈cs→a.spot=none∧a.block<w.heap.size
section
variable {H:Type} {enc:TypeId × Value→H} {P:Program} {base:Nat} {held:Bool} {c:Ctx}
theorem Zdq {t:TypeId} {T U:Ty} (h:Zj3 P t T=some U):P.cellsOf t=1∧U=T:=by
  unfold Zj3 at h
  split at h
  · exact ⟨by assumption,(Option.some.inj h).symm⟩
  · cases h
def Got (c:Ctx) (P:Program) (t:TypeId) (T:Ty) (cs:List Value) (d:DataW H):Prop :=
  ∃ ys0,VRL c ys0 cs∧Wf T ys0∧flats ys0=true∧abulks ys0≤O9 d∧cs.length=P.cellsOf t
theorem Z03 {rec:TypeId→Option Ty} {tr:TypeId→List Value→Option (DataW H × List MemPlace)} {total:Nat} {cs:List Value} (hcs:cs.length=total):∀ (fs:List Field) (off:Nat) (T:Ty) (xs:List (DataW H × List MemPlace)),
    Zfv P rec total off fs=some T→xs.length=fs.length→(∀ (i:Nat) (f:Field),fs[i]? = some f→tr f.type ((cs.drop f.offset).take (P.cellsOf f.type))=xs[i]?) →
    (∀ (t:TypeId) (U:Ty) (us:List Value) (x:DataW H × List MemPlace),(∀ v∈us,v∈cs)→(T.noSl=true→U.noSl=true)→rec t=some U→tr t us=some x→Got c P t U us x.1)→off≤total →
    ∃ ys0,VRL c ys0 (cs.drop off)∧Wf T ys0∧flats ys0=true∧abulks ys0≤dbulkAll (xs.map (·.1)):=by
  intro fs
  induction fs with
  | nil =>
    intro off T xs h hl _ _ ho
    simp only [Zfv] at h
    split at h
    · cases h
      have:cs.drop off=[]:=by rw [List.drop_eq_nil_iff];omega
      rw [this]
      exact ⟨[],by simp [VRL],by simp [Wf],by simp [flats],by simp [abulks]⟩
    · cases h
  | cons f fs ih =>
    intro off T xs h hl hx hrec ho
    simp only [Zfv] at h
    split at h
    · rename_i hoff
      split at h
      · rename_i A B hA hB
        cases h
        cases xs with
        | nil=>simp at hl
        | cons x xs =>
          have h0:=hx 0 f (by simp)
          simp only [List.getElem?_cons_zero] at h0
          obtain ⟨ys0,k1,k2,k3,k4,k5⟩:=hrec f.type A _ x (fun v hv=>Yot (You hv)) (fun hn=>by simp only [Ty.noSl,Ynm] at hn;exact hn.1) hA h0
          rw [hoff] at k1 k5
          simp only [Yne,Ynf] at k5
          have hle:off+P.cellsOf f.type≤total:=by omega
          obtain ⟨bs,l1,l2,l3,l4⟩:=ih (off+P.cellsOf f.type) B xs hB (by simpa using hl) (fun i g hg=>by have:=hx (i+1) g (by simpa using hg);simpa using this)
            (fun t U us y hus hn=>hrec t U us y hus (fun hn'=>hn (by simp only [Ty.noSl,Ynm] at hn';exact hn'.2))) hle
          refine ⟨ys0++bs,?_,⟨ys0,bs,rfl,k2,l2⟩,by rw [Zce,k3,l3];rfl,?_⟩
          · rw [←Yos (P.cellsOf f.type) (cs.drop off),Yn5]
            exact X7 k1 l1
          · simp only [Za9,List.map_cons,dbulkAll];omega
      · cases h
    · cases h
theorem Z3q (hO:∀ b,¬ c.O b):∀ (d:Nat) (t:TypeId) (T:Ty) (fuel:Nat) (cs:List Value) (x:DataW H × List MemPlace),Zsc P d t=some T→(T.noSl=true∨Placed c.w cs) →
    DataW.trod enc P c.w base (fun _=>true) held fuel t cs=some x→Got c P t T cs x.1:=by
  intro d
  induction d with
  | zero=>intro t T fuel cs x h;simp [Zsc] at h
  | succ d ih =>
    intro t T fuel cs x hT hp h
    unfold Zsc at hT
    cases hu:P.underlying t with
    | none=>rw [hu] at hT;simp at hT
    | some u =>
      rw [hu] at hT
      cases u with
      | bool =>
        obtain ⟨hc,rfl⟩:=Zdq hT
        obtain ⟨b,rfl,rfl⟩:=DataW.trod_bool hu h
        exact ⟨[.bool b],Zdm (by simp [VR]),⟨b,rfl⟩,by simp [flats,L9],by simp [abulks,Zdd,O9],by simp [hc]⟩
      | int k =>
        obtain ⟨hc,rfl⟩:=Zdq hT
        obtain ⟨n,rfl,rfl,hw⟩:=DataW.trod_int hu h
        exact ⟨[.int k n],Zdm (by simp [VR]),⟨n,rfl,hw⟩,by simp [flats,L9],by simp [abulks,Zdd,O9],by simp [hc]⟩
      | string =>
        obtain ⟨hc,rfl⟩:=Zdq hT
        obtain ⟨s,rfl,rfl,hs⟩:=DataW.trod_string hu h
        exact ⟨[.str s.data.toList],Zdm (by simp [VR]),⟨_,rfl,by simpa using hs⟩,by simp [flats,L9],by simp [abulks,Zdd,O9],by simp [hc]⟩
      | slice e =>
        simp only at hT
        split at hT
        · cases hT
        · rename_i hz
          split at hT
          · rename_i U hU
            split at hT
            · rename_i hns
              obtain ⟨hc,rfl⟩:=Zdq hT
              rcases Go.Deep.open_slice hu h with ⟨rfl,rfl⟩|⟨a,len,cap,m,n,D,Pl,rfl,_,hl,hm,hmm,rfl,hx⟩
              · exact ⟨[.lst [] 0],Zdm (by simp [VR,flats]),⟨[],by simp,by simp,by simp⟩,by simp [flats,L9],by simp [abulks,Zdd,O9],by simp [hc]⟩
              · simp only [if_true] at hmm
                subst hmm
                obtain ⟨hsp,hblk⟩:=(hp.resolve_left (by simp [Ty.noSl])) a len m (by simp)
                obtain ⟨r,hr1,hr2⟩:=Z3p (p:=fun i ys0=>∃ cs',c.w.cells? base (a.add (i*P.cellsOf e)) (P.cellsOf e)=some cs'∧VRL c ys0 cs'∧Wf U ys0∧flats ys0=true∧abulks ys0≤O9 (D i)∧cs'.length=P.cellsOf e) len (fun i hi=>by
                  obtain ⟨cs',h1,h2⟩:=hx i (by omega)
                  obtain ⟨ys0,g⟩:=ih e U n cs' _ hU (.inl hns) h2
                  exact ⟨ys0,cs',h1,g⟩)
                have hlen:∀ x∈r,x.length=P.cellsOf e:=by
                  intro x hx
                  obtain ⟨i,hi⟩:=List.mem_iff_getElem?.1 hx
                  obtain ⟨cs',_,k1,_,_,_,k2⟩:=hr2 i x hi
                  rw [←H7 k1];exact k2
                refine ⟨[.lst r.flatten r.length],Zdm ?_,⟨r,rfl,by omega,fun x hx=>?_⟩,?_,?_,by simp [hc]⟩
                · simp only [VR]
                  refine ⟨Ziw fun x hx=>?_,.inr ⟨a.block,a.off,m,?_,by omega,hblk,hO _,?_⟩⟩
                  · obtain ⟨i,hi⟩:=List.mem_iff_getElem?.1 hx
                    obtain ⟨_,_,_,_,k,_⟩:=hr2 i x hi
                    exact k
                  · rw [hr1]
                    obtain ⟨b,o,s⟩:=a
                    simp only at hsp
                    subst hsp
                    rfl
                  · refine Zvy r hlen fun i x hx=>?_
                    obtain ⟨cs',k0,k1,_,_,_,k2⟩:=hr2 i x hx
                    refine Z01 k1 fun j v hj=>?_
                    obtain ⟨_,_,hcell⟩:=World.cells?_some k0
                    have hjl:=(List.getElem?_eq_some_iff.1 hj).1
                    have:=hcell j (by omega)
                    rw [hj] at this
                    rw [←this]
                    have ha:(a.add (i*P.cellsOf e)).add j=a.add (i*P.cellsOf e+j):=Go.Deep.add_add _ _ _
                    rw [ha]
                    congr 1
                    unfold Addr.add
                    obtain ⟨b,o,s⟩:=a
                    simp only at hsp
                    subst hsp
                    split
                    · rename_i h0;simp only [Nat.add_assoc,h0,Nat.add_zero]
                    · simp only [Nat.add_assoc]
                · obtain ⟨i,hi⟩:=List.mem_iff_getElem?.1 hx
                  obtain ⟨_,_,_,k,_,_⟩:=hr2 i x hi
                  exact k
                · simp [flats,L9]
                · simp only [abulks,Zdd,O9,Nat.add_zero]
                  have h1:abulks r.flatten≤dbulkAll ((List.range len).map D):=Ziv r _ (by simp [hr1]) (fun i x d hi hd=>by
                    obtain ⟨_,_,_,_,_,k,_⟩:=hr2 i x hi
                    have:d=D i:=by
                      rw [List.getElem?_map] at hd
                      obtain ⟨j,hj,rfl⟩:=Option.map_eq_some_iff.1 hd
                      rw [List.getElem?_range (by have:=(List.getElem?_eq_some_iff.1 hi).1;omega)] at hj
                      cases hj;rfl
                    subst this;exact k)
                  have h2:=Zse ((List.range len).map D)
                  simp only [Yov,List.length_range] at h2
                  omega
            · cases hT
          · cases hT
      | struct fs =>
        simp only at hT
        obtain ⟨xs,n,rfl,rfl,hl,hxl,hx⟩:=DataW.trod_struct hu h
        obtain ⟨ys0,k1,k2,k3,k4⟩:=Z03 (c:=c) (tr:=fun t cs=>DataW.trod enc P c.w base (fun _=>true) held n t cs) hl fs.toList 0 T xs hT (by simpa using hxl) (fun i f hf=>hx i f (by simpa using hf))
          (fun t' U us y hus hn hr ht=>ih t' U n us y hr (by
            rcases hp with hp|hp
            · exact .inl (hn hp)
            · exact .inr fun a p q hv=>hp a p q (hus _ hv)) ht) (by omega)
        rw [Yoq] at k1
        exact ⟨ys0,k1,k2,k3,by simp only [O9];omega,hl⟩
      | array n e =>
        simp only at hT
        split at hT
        · rename_i hsz
          obtain ⟨U,hU,rfl⟩:=Option.map_eq_some_iff.1 hT
          obtain ⟨xs,m,rfl,rfl,hl,hxl,hx⟩:=DataW.trod_array hu h
          obtain ⟨r,hr1,hr2⟩:=Z3p (p:=fun i ys0=>∃ y,xs[i]? = some y∧VRL c ys0 ((cs.drop (i*P.cellsOf e)).take (P.cellsOf e))∧Wf U ys0∧flats ys0=true∧abulks ys0≤O9 y.1) n (fun i hi=>by
            have h1:=hx i hi
            rw [List.getElem?_eq_getElem (by omega)] at h1
            obtain ⟨ys0,g1,g2,g3,g4,_⟩:=ih e U m _ _ hU (by
              rcases hp with hp|hp
              · exact .inl hp
              · exact .inr fun a p q hv=>hp a p q (Yot (You hv))) h1
            exact ⟨ys0,_,List.getElem?_eq_getElem (by omega),g1,g2,g3,g4⟩)
          refine ⟨r.flatten,Zvx r cs (by rw [hl,hsz,hr1]) (fun i x hx=>?_),⟨r,rfl,hr1,fun x hx=>?_⟩,Ziw fun x hx=>?_,?_,hl⟩
          · obtain ⟨_,_,k,_⟩:=hr2 i x hx;exact k
          · obtain ⟨i,hi⟩:=List.mem_iff_getElem?.1 hx
            obtain ⟨_,_,_,k,_⟩:=hr2 i x hi;exact k
          · obtain ⟨i,hi⟩:=List.mem_iff_getElem?.1 hx
            obtain ⟨_,_,_,_,k,_⟩:=hr2 i x hi;exact k
          · simp only [O9]
            have:abulks r.flatten≤dbulkAll (xs.map (·.1)):=Ziv r _ (by simp [hr1,hxl]) (fun i x d hi hd=>by
              obtain ⟨y,hy,_,_,_,k⟩:=hr2 i x hi
              simp only [List.getElem?_map,hy,Option.map_some,Option.some.injEq] at hd
              subst hd;exact k)
            omega
        · cases hT
      | _=>simp at hT
end
end Cod
namespace Cod
open Go Go.RowKit
theorem Zix {P:Program} {f:Nat} {fn:Func} {c:Code} {w:World} (hf:P.funcs[f]? = some fn) (hb:fn.body=some c) (hn:(fn.name == "runtime.NumGoroutine")=false) {args:Array Value} {R:Value→World→Prop}
    (h:Zlb P f args w R):Calls P f args w (fun e w'=>∃ y,e=.returned y∧R y w'):=by
  have h1:=h { dst:=some 0,op:=.move (.const undef),type:=0,pos := "",after := #[],guard:=none } ⟨#[undef],[]⟩ (fun a w'=>∃ y,a.tmps[0]? = some y∧R y w') (fun _ _ _=>False) (fun y w' hy=>⟨y,by simp [Act.put],hy⟩)
  have hrun:(callFunc f args).run P w=.ok (.enter f args) w:=by
    have hn2:¬ (fn.name = "runtime.NumGoroutine"):=by simpa using hn
    simp [callFunc,run_program,hf,hn2,hb]
  rw [hrun,Oper.upon_enter] at h1
  refine Calls.mono h1 fun e w' he=>?_
  cases e with
  | returned v =>
    obtain ⟨y,h2,h3⟩:=he
    simp only [Act.put] at h2
    have:v=y:=by simpa using h2
    subst this
    exact ⟨v,rfl,h3⟩
  | panicked ch=>exact he.elim
  | outgrown=>obtain ⟨_,_,h4⟩:=he;exact h4.elim
def La0:Lay:=⟨fun _=>none,fun _=>False⟩
def Zmr (E:Env) (w:World):Prop:=∀ n,GV (ctx [] La0 w) n (E.glob n)
theorem own0 {w:World} (b:Nat):¬ (ctx [] La0 w).O b:=by
  rintro (⟨s,e,o,he,_⟩|h)
  · simp [B0] at he
  · exact h
theorem rel0 {E:Env} {w:World} (hg:Zmr E w):Rel E w (I0 [] La0) [] La0 [] La0 w where
  store:=⟨fun s e he=>by simp [B0] at he,fun s s' e e' b o o' he=>by simp [B0] at he⟩
  keep:=Keep.refl _ _
  own b hb:=.inl hb
  glob:=hg
  ups x e he:=by simp [B0] at he
  src b hb:=.inl hb
  lf:=rfl
  f0 b hb:=hb.elim
theorem Z7t {P:Program} {E:Env} (hk:Zep P E) (hfn:Zky P E) {f:Nat} {fn:Func} {c:Code} (hf:P.funcs[f]? = some fn) (hb:fn.body=some c) (hn:(fn.name == "runtime.NumGoroutine")=false)
    {args:List AV} {b:Bool} {σr:A1} (h:S E f args []=some (.bool b,σr)) {w:World} {vs:List Value} (hg:Zmr E w) (hv:VRL (ctx [] La0 w) args vs) :
    Calls P f vs.toArray w fun e w'=>e=.returned (.bool b)∧Below w.heap.size w w':=by
  refine (Zix hf hb hn (Zhi hk hfn h La0 (rel0 hg) hv)).mono fun e w' ⟨y,he,La',hr,hy⟩=>?_
  simp only [VR] at hy
  subst hy
  refine ⟨he,hr.keep.os,hr.keep.tape,hr.keep.output,hr.keep.size,fun k hk=>hr.keep.block k hk ?_⟩
  rintro ⟨s,e,o,he,_⟩
  simp [B0] at he
theorem Zvz {P:Program} {W:World} {name:String} {d:DataW Unit}:∀ {l:List (String × DataW Unit)} {ps:List MemPlace},DataW.LaidVars P W l ps→(name,d)∈l →
    ∃ g t cs fuel p,P.globalNamed name=some g∧(P.globals[g]?).map (·.type)=some t∧W.var? P name=some cs∧DataW.trod (fun _=>()) P W 0 (fun _=>true) false fuel t cs.toList=some (d,p):=by
  intro l
  induction l with
  | nil=>intro ps _ h;simp at h
  | cons x l ih =>
    intro ps h hm
    obtain ⟨n,e⟩:=x
    obtain ⟨g,t,cs,fuel,p,q,h1,h2,h3,h4,h5,_⟩:=h
    rcases List.mem_cons.1 hm with hm|hm
    · cases hm;exact ⟨g,t,cs,fuel,p,h1,h2,h3,h4⟩
    · exact ih h5 hm
theorem Zor {P:Program} {W:World} {l:List (String × DataW Unit)} (h:laidMetH P l W) {name:String} {d:DataW Unit} (hm:(name,d)∈l) (hd:d.handleName?.isNone=true) :
    ∃ g t cs fuel p,P.globalNamed name=some g∧(P.globals[g]?).map (·.type)=some t∧W.var? P name=some cs∧DataW.trod (fun _=>()) P W 0 (fun _=>true) false fuel t cs.toList=some (d,p):=by
  unfold laidMetH at h
  split at h
  · obtain ⟨ps,h1,_⟩:=h;exact Zvz h1 hm
  · obtain ⟨⟨ps,h1,_⟩,_⟩:=h
    exact Zvz h1 (List.mem_filter.2 ⟨hm,by simpa using hd⟩)
theorem Zdr {P:Program} {W:World} {l:List (String × DataW Unit)} (h:laidMetH P l W) {name:String} {k:IntKind} {zs:List Int} {g:Nat} {t e:TypeId} {n:Nat} (hm:(name,Lib.tabData k zs)∈l)
    (hg:P.globalNamed name=some g) (hty:(P.globals[g]?).map (·.type)=some t) (ht:P.underlying t=some (.array n e)) (he:P.underlying e=some (.int k)) (hce:P.cellsOf e=1) (hct:P.cellsOf t=n):Lib.TabIs P W name k zs:=by
  obtain ⟨g',t',cs,fuel,p,hg',ht',hvar,hd⟩:=Zor h hm rfl
  obtain rfl:=Option.some.inj (hg.symm.trans hg')
  obtain rfl:=Option.some.inj (hty.symm.trans ht')
  unfold Lib.TabIs
  rw [hvar,←Lib.cells_of_tab ht he hce hct hd]
theorem Z04 {k:IntKind}:∀ {zs:List Int},flats (zs.map fun z=>AV.int k z)=true:=by
  intro zs
  induction zs with
  | nil=>rfl
  | cons z zs ih=>simp only [List.map_cons,flats,ih,L9];rfl
theorem Ykp {P:Program} {W:World} {name:String} {k:IntKind} {zs:List Int} {g:Nat} (h:Lib.TabIs P W name k zs) (hg:P.globalNamed name=some g) :
    ∃ cs el fr,W.heap[g]? = some (.cells cs el fr)∧cs.size=(zs.map fun z=>AV.int k z).length:=by
  unfold Lib.TabIs World.var? at h
  rw [hg] at h
  simp only [Ym4] at h
  split at h
  · rename_i cs el fr hc
    cases h
    exact ⟨_,el,fr,hc,by simp⟩
  · cases h
theorem Zv0 {P:Program} {W:World} {La:Lay} {name:String} {k:IntKind} {zs:List Int} {g:Nat} (h:GV (ctx [] La W) g (zs.map fun z=>AV.int k z)) (hg:P.globalNamed name=some g) (hz:zs≠[]):Lib.TabIs P W name k zs:=by
  obtain ⟨h1,h2⟩:=h
  rcases h2 with h2|⟨cs,el,fr,hc,hs⟩
  · exact absurd (List.map_eq_nil_iff.1 h2) hz
  · rw [show (ctx [] La W).w=W from rfl] at hc
    unfold Lib.TabIs World.var?
    rw [hg]
    simp only [Ym4,hc,Option.some.injEq]
    have hv:VR (ctx [] La W) (.fp (zs.map fun z=>AV.int k z) 0) (.pointer (some ⟨g,0,none⟩)):=by
      cases zs with
      | nil=>exact absurd rfl hz
      | cons z zs=>exact h1
    simp only [VR] at hv
    obtain ⟨_,b,o,h3,_,_,hcell⟩:=hv
    simp only [Value.pointer.injEq,Option.some.injEq,Addr.mk.injEq] at h3
    obtain ⟨rfl,h3,_⟩:=h3
    have ho:o=0:=by omega
    subst ho
    apply Array.ext
    · rw [hs];simp
    · intro i hi1 hi2
      have hi:i<zs.length:=by simpa using hi2
      obtain ⟨v,k1,k2⟩:=Zdn hcell (i:=i) (x:=.int k zs[i]) (by simp [hi])
      simp only [VR] at k2
      rw [show (ctx [] La W).w=W from rfl,Yn1] at k1
      simp only [World.cell?,hc] at k1
      rw [Array.getElem?_eq_getElem hi1] at k1
      cases k1
      rw [k2];simp
theorem Ziy {P:Program} {W:World} {name:String} {k:IntKind} {zs:List Int} {g:Nat} (h:Lib.TabIs P W name k zs) (hg:P.globalNamed name=some g) (hz:zs≠[]) :
    GV (ctx [] La0 W) g (zs.map fun z=>AV.int k z):=by
  refine ⟨?_,.inr (Ykp h hg)⟩
  cases zs with
  | nil=>exact absurd rfl hz
  | cons z zs =>
    show VR _ (.fp ((z::zs).map fun z=>AV.int k z) 0) _
    have hcell:=fun i hi=>Lib.TabIs.cell h hg i hi
    simp only [VR]
    refine ⟨Z04,g,0,rfl,?_,own0 _,?_⟩
    · have h0:=hcell 0 (by simp)
      simp only [World.cell?] at h0
      rcases Ynb g W.heap.size with hlt|hge
      · exact hlt
      · rw [Array.getElem?_eq_none hge] at h0;cases h0
    · refine X8 fun i x hx=>?_
      have hi:=(List.getElem?_eq_some_iff.1 hx).1
      rw [Yov] at hi
      rw [List.getElem?_map] at hx
      obtain ⟨y,hy,rfl⟩:=Option.map_eq_some_iff.1 hx
      refine ⟨.int k y,?_,by simp [VR]⟩
      rw [Yn1]
      have:=hcell i hi
      rw [show (z::zs).getD i 0=y by simp [List.getD,hy]] at this
      exact this
theorem Z7u {w:World} {n:Nat}:GV (ctx [] La0 w) n []:=⟨by simp [Zhb,VR],.inl rfl⟩
def isAgg (P:Program) (t:TypeId):Bool:=match P.underlying t with|some (.struct _)|some (.array _ _)=>true|_=>false
theorem Ziz {P:Program} {w:World} {r:Reach} {b:Nat} {t:TypeId} {a:Addr} {n m:Nat} (h:Cell.okWide P w r b t (.slice (some a) n m)):a.spot=none∧a.block<w.heap.size:=by
  have h2:Cell.ok P w r b t (.slice (some a) n m):=by
    unfold Cell.okWide at h
    split at h<;>simp_all
  have h3:∃ e,w.has P r b a e m:=by
    unfold Cell.ok at h2
    split at h2<;>simp_all
    rename_i h4
    obtain ⟨rfl,rfl,rfl⟩:=h4
    exact ⟨_,h2.2.2⟩
  obtain ⟨e,_,hsp,row,cells,hs,_⟩:=h3
  refine ⟨hsp,?_⟩
  simp only [World.shape?] at hs
  rcases Ynb a.block w.heap.size with hlt|hge
  · exact hlt
  · rw [Array.getElem?_eq_none hge] at hs;cases hs
theorem Yeo {H:Type} {enc:TypeId × Value→H} {P:Program} {base b2:Nat} {held:Bool} {w:World} {d:Nat} {t:TypeId} {T:Ty} {v:Value} {x:DataW H} {ps:List MemPlace} (hT:Zsc P d t=some T) (hg:isAgg P t=false)
    (hok:Value.okWide P w .any b2 t v) (h:DataW.Trod enc P w base (fun _=>true) held t v x ps):∃ a,VR (ctx [] La0 w) a v∧Wf T [a]∧Zdd a≤O9 x:=by
  obtain ⟨fuel,h⟩:=h
  have hcell:Cell.okWide P w .any b2 t v:=by
    unfold Value.okWide at hok
    unfold isAgg at hg
    split at hok
    · rename_i hu;rw [hu] at hg;cases hg
    · rename_i hu;rw [hu] at hg;cases hg
    · exact hok
  have hone:v.cells = #[v]:=by
    cases v<;>first|rfl|(exfalso;unfold Cell.okWide at hcell;split at hcell<;>simp_all [Cell.ok])
  rw [hone] at h
  obtain ⟨ys0,h1,h2,h3,h4,h5⟩:=Z3q (c:=ctx [] La0 w) (fun b=>own0 b) d t T fuel _ _ hT (.inr (by
    intro a n m hm
    simp only [List.mem_singleton] at hm
    subst hm
    exact Ziz hcell)) h
  match ys0,h1 with
  | [],h1=>simp [VRL] at h1
  | [a],h1 =>
    simp only [VRL] at h1
    obtain ⟨v',r,e,k1,rfl⟩:=h1
    simp at e
    subst e
    exact ⟨a,k1,h2,by simpa [abulks] using h4⟩
  | a::b::ys0,h1 =>
    simp only [VRL] at h1
    obtain ⟨v',r,e,k1,v2,r2,e2,_⟩:=h1
    simp at e
    obtain ⟨_,rfl⟩:=e
    simp at e2
theorem Ykq {H:Type} {enc:TypeId × Value→H} {P:Program} {base b2:Nat} {held:Bool} {w:World} {d:Nat} {t:TypeId} {T:Ty} {v:Value} {x:DataW H} {ps:List MemPlace} (hT:Zsc P d t=some T) (hg:isAgg P t=true)
    (hok:Value.okWide P w .any b2 t v) (h:DataW.Trod enc P w base (fun _=>true) held t v x ps):∃ ys0,VR (ctx [] La0 w) (.agg ys0) v∧Wf T ys0∧abulks ys0≤O9 x:=by
  obtain ⟨fuel,h⟩:=h
  have hrow:∃ cs,v=.agg cs∧cs.size=P.cellsOf t∧Row.okWide P w .any b2 t cs:=by
    unfold Value.okWide at hok
    unfold isAgg at hg
    split at hok
    · exact hok
    · exact hok
    · rename_i h1 h2
      split at hg
      · rename_i hu;exact absurd hu (h1 _)
      · rename_i hu;exact absurd hu (h2 _ _)
      · cases hg
  obtain ⟨cs,rfl,_,ts,_,_,hc⟩:=hrow
  obtain ⟨ys0,h1,h2,h3,h4,h5⟩:=Z3q (c:=ctx [] La0 w) (fun b=>own0 b) d t T fuel _ _ hT (.inr (by
    intro a n m hm
    obtain ⟨i,hi⟩:=List.mem_iff_getElem?.1 hm
    obtain ⟨u,_,hu⟩:=hc i _ (by simpa [Value.cells] using hi)
    exact Ziz hu)) h
  refine ⟨ys0,?_,h2,h4⟩
  simp only [VR]
  exact ⟨cs,rfl,by simpa [Value.cells] using h1⟩
end Cod
namespace Cod
open Go Go.RowKit Go.ChangeShapes Go.WideShapes Go.ChangeAt
def ArgOK (p:Bool × Ty) (a:AV):Prop:=match p.1 with
  | true=>∃ ys0,a=.agg ys0∧Wf p.2 ys0
  | false=>Wf p.2 [a]
def Zms:List (Bool × Ty)→List AV→Prop
  | [],ys0=>ys0=[]
  | p::r,ys0=>∃ a b,ys0=a::b∧ArgOK p a∧Zms r b
def Zmt (P:Program) (d:Nat):List TypeId→Option (List (Bool × Ty))
  | []=>some []
  | t::ts=>match Zsc P d t,Zmt P d ts with
    | some T,some r=>some ((isAgg P t,T)::r)
    | _,_=>none
section
variable {H:Type} {enc:TypeId × Value→H} {P:Program} {W:World} {b2 d:Nat}
theorem Ykr:∀ {ts:List TypeId} {Ts:List (Bool × Ty)} {vs:List Value} {ds:List (DataW H)} {ps:List MemPlace},Zmt P d ts=some Ts →
    (∀ (j:Nat) t v,ts[j]? = some t→vs[j]? = some v→Value.okWide P W .any b2 t v)→DataW.TrodAll enc P W 0 (fun _=>true) true ts vs ds ps →
    ∃ ys0,VRL (ctx [] La0 W) ys0 vs∧Zms Ts ys0∧abulks ys0≤dbulkAll ds:=by
  intro ts
  induction ts with
  | nil =>
    intro Ts vs ds ps h _ hA
    simp only [Zmt,Option.some.injEq] at h;subst h
    cases vs<;>cases ds<;>simp [DataW.TrodAll] at hA
    exact ⟨[],by simp [VRL],by simp [Zms],by simp [abulks]⟩
  | cons t ts ih =>
    intro Ts vs ds ps h hok hA
    simp only [Zmt] at h
    split at h
    · rename_i T r hT hr
      cases h
      cases vs with
      | nil=>cases ds<;>simp [DataW.TrodAll] at hA
      | cons v vs =>
        cases ds with
        | nil=>simp [DataW.TrodAll] at hA
        | cons x ds =>
          obtain ⟨p,q,h1,h2,rfl⟩:=hA
          obtain ⟨ys0,k1,k2,k3⟩:=ih hr (fun j t' v' ht hv=>hok (j+1) t' v' (by simpa using ht) (by simpa using hv)) h2
          have h0:=hok 0 t v (by simp) (by simp)
          cases hg:isAgg P t with
          | true =>
            obtain ⟨bs,l1,l2,l3⟩:=Ykq hT hg h0 h1
            exact ⟨.agg bs::ys0,by simp only [VRL];exact ⟨v,vs,rfl,l1,k1⟩,⟨_,_,rfl,⟨bs,rfl,l2⟩,k2⟩,by simp only [abulks,Zdd,dbulkAll];omega⟩
          | false =>
            obtain ⟨a,l1,l2,l3⟩:=Yeo hT hg h0 h1
            exact ⟨a::ys0,by simp only [VRL];exact ⟨v,vs,rfl,l1,k1⟩,⟨_,_,rfl,l2,k2⟩,by simp only [abulks,dbulkAll];omega⟩
    · cases h
theorem Zsf (hl:laidOutB P=true) {W':World} (hb:Below W.heap.size W W'):∀ {ts:List TypeId} {vs:List Value} {ds:List (DataW H)} {ps:List MemPlace},(∀ t∈ts,P.readableRec t=true∧t<P.types.size) →
    (∀ x∈ps,x.block<W.heap.size)→DataW.TrodAll enc P W 0 (fun _=>true) true ts vs ds ps→DataW.TrodAll enc P W' 0 (fun b=>decide (b<W.heap.size)) true ts vs ds ps:=by
  intro ts
  induction ts with
  | nil=>intro vs ds ps _ _ h;cases vs<;>cases ds<;>simp_all [DataW.TrodAll]
  | cons t ts ih =>
    intro vs ds ps hr hlt h
    cases vs with
    | nil=>cases ds<;>simp [DataW.TrodAll] at h
    | cons v vs =>
      cases ds with
      | nil=>simp [DataW.TrodAll] at h
      | cons x ds =>
        obtain ⟨p,q,h1,h2,rfl⟩:=h
        exact ⟨p,q,Below.trod hl (hr t (by simp)).1 (hr t (by simp)).2 h1 hb (fun x hx=>hlt x (by simp [hx])),ih (fun t ht=>hr t (by simp [ht])) (fun x hx=>hlt x (by simp [hx])) h2,rfl⟩
def Yks (s:ChangeSpec) (n:Nat):Prop:=s.vars=[]∧∀ (H:Type) (ds:List (DataW H)),ds.length=n→s.fn H ds = { results:=[.lit (.bool true)],args:=ds }
theorem Zsg:∀ {ts:List TypeId} {vs:List Value} {ds:List (DataW H)} {ps:List MemPlace} {b:Nat} {sp:Nat→Bool} {hd:Bool},DataW.TrodAll enc P W b sp hd ts vs ds ps→ds.length=ts.length:=by
  intro ts
  induction ts with
  | nil=>intro vs ds ps b sp hd h;cases vs<;>cases ds<;>simp_all [DataW.TrodAll]
  | cons t ts ih =>
    intro vs ds ps b sp hd h
    cases vs with
    | nil=>cases ds<;>simp [DataW.TrodAll] at h
    | cons v vs =>
      cases ds with
      | nil=>simp [DataW.TrodAll] at h
      | cons x ds=>obtain ⟨p,q,h1,h2,_⟩:=h;simp [ih h2]
theorem contract {E:Env} {f:Nat} {fn:Func} {c:Code} {s:ChangeSpec} {n rt:Nat} {Ts:List (Bool × Ty)} (hk:Zep P E) (hfn:Zky P E) (hl:laidOutB P=true)
    (hf:P.funcs[f]? = some fn) (hb:fn.body=some c) (hn:(fn.name == "runtime.NumGoroutine")=false) (hT:Zmt P d fn.params.toList=some Ts)
    (hr:∀ t∈fn.params.toList,P.readableRec t=true∧t<P.types.size) (hrt:fn.resultTypes.toList=[rt]) (hrn:fn.resultTypes.size=1) (hrb:P.underlying rt=some .bool) (hs:Yks s n) (hpn:fn.params.toList.length=n)
    {args:Array Value} {ds gs:List (DataW H)} {before:List MemPlace}
    (hg:Zmr E W) (run:∀ ys0,Zms Ts ys0→abulks ys0≤dbulkAll ds→∃ σr,S E f ys0 []=some (.bool true,σr))
    (hval:∀ (j:Nat) t v,fn.params[j]? = some t→args[j]? = some v→Value.okWide P W .any b2 t v)
    (hW:DataW.Whole enc P fn.params.toList s.vars false W args.toList ds gs before) :
    Calls P f args W fun e W'=>∃ v,e=.returned v∧s.post enc P fn false true false false W args v W':=by
  have hW':=hW
  obtain ⟨p,q,hA,hV,rfl,hfz,hnd⟩:=hW
  obtain ⟨ys0,h1,h2,h3⟩:=Ykr hT (fun j t v ht hv=>hval j t v (by simpa using ht) (by simpa using hv)) hA
  obtain ⟨σr,hrun⟩:=run ys0 h2 h3
  have hc:=Z7t hk hfn hf hb hn hrun hg h1
  rw [Array.toArray_toList] at hc
  have hgs:gs=[]∧q=[]:=by rw [hs.1] at hV;cases gs<;>simp_all [DataW.TrodVars]
  obtain ⟨rfl,rfl⟩:=hgs
  have hlt:∀ x∈p,x.block<W.heap.size:=fun x hx=>hW'.lt x (by simp [hx])
  have hlen:=Zsg hA
  refine hc.mono fun e W' ⟨he,bel⟩=>?_
  subst he
  have hspec:=hs.2 H (ds++[]) (by simp;omega)
  refine ⟨_,rfl,ds,[],_,[],p,[],hW',?_,?_,?_,bel.frame _,fun h=>by cases h⟩
  · rw [hspec,hrt,hrn]
    exact trodAll_mk1 (shut_bool hrb _)
  · rw [hspec]
    simp only [List.append_nil]
    exact Zsf hl bel hr hlt hA
  · rw [hspec,hs.1];rfl
end
end Cod
namespace Cod
open Go Go.RowKit
theorem Zv1 {w:World} {g:Nat} {k:Option IntKind} {v:Value} {cs:Array Value} {el:TypeId} {fr:Nat × Nat} (hc:w.heap[g]? = some (.cells cs el fr)) (hs:cs.size=1) (h0:cs[0]? = some v) (hk:Z93 k v):GV (ctx [] La0 w) g [.any k]:=by
  refine ⟨?_,.inr ⟨cs,el,fr,hc,hs⟩⟩
  simp only [Zhb,VR,VRC,flats,L9,Bool.and_true,true_and,and_true]
  refine ⟨g,0,rfl,?_,own0 _,v,?_,hk⟩
  · rcases Ynb g w.heap.size with hlt|hge
    · exact hlt
    · rw [Array.getElem?_eq_none hge] at hc;cases hc
  · show w.cell? _=_
    simp only [World.cell?,hc]
    exact h0
def Z3r (P:Program) (t:TypeId):Bool:=match P.underlying t with|some (.interface _)=>true|_=>false
theorem Zv2 {P:Program} {W:World} {l:List (String × DataW Unit)} (h:laidMetH P l W) {name nm:String} {d:DataW Unit} {g t:Nat} (hm:(name,.iface nm d)∈l) (hh:(DataW.iface nm d).handleName?.isNone=true)
    (hg:P.globalNamed name=some g) (hty:(P.globals[g]?).map (·.type)=some t) (ht:Z3r P t=true):GV (ctx [] La0 W) g [.any none]:=by
  obtain ⟨g',t',cs,fuel,p,hg',ht',hvar,hd⟩:=Zor h hm hh
  obtain rfl:=Option.some.inj (hg.symm.trans hg')
  obtain rfl:=Option.some.inj (hty.symm.trans ht')
  obtain ⟨ms,ht⟩:∃ ms,P.underlying t=some (.interface ms):=by
    unfold Z3r at ht
    split at ht
    · exact ⟨_,by assumption⟩
    · cases ht
  have hi:∃ u v,cs.toList=[.iface u v]:=by
    cases fuel with
    | zero=>simp [DataW.trod] at hd
    | succ fuel =>
      unfold DataW.trod at hd
      rw [ht] at hd
      generalize cs.toList=xs at hd
      split at hd<;>first|(rename_i he;cases he;done)|(cases hd;done)|exact ⟨_,_,rfl⟩
  obtain ⟨u,v,hcs⟩:=hi
  unfold World.var? at hvar
  rw [hg] at hvar
  simp only [Ym4] at hvar
  split at hvar
  · rename_i cs' el fr hc
    cases hvar
    have hsz:cs = #[.iface u v]:=by cases cs;simp at hcs;rw [hcs]
    subst hsz
    exact Zv1 hc rfl rfl (.inr ⟨u,v,rfl⟩)
  · cases hvar
theorem Z05 {P:Program} {W:World} {g:Nat} (h:W.ShapedOpen P) (hg:g<P.globals.size) (hz:(((Go.begin P (fun _ _=>0) default).world.heap[g]?).bind Obj.row?).map (fun r=>r.1.size)=some 1) (hc:∃ m,W.cell? ⟨g,0,none⟩=some (.int .i64 m)):GV (ctx [] La0 W) g [.any (some .i64)]:=by
  obtain ⟨m,hc⟩:=hc
  obtain ⟨⟨z,t⟩,h1,h2⟩:=Option.map_eq_some_iff.1 hz
  obtain ⟨cs,h3,h4,_⟩:=h.1 g z t hg h1
  simp only [World.cell?,h3] at hc
  exact Zv1 h3 (h4.trans h2) (by simpa using hc) ⟨m,rfl⟩
end Cod
namespace Cod
open Go
theorem K4 {E:Env} {fn:List LRes} {k:List It} {st:St} {x y:LCode} (h:x=y):X E fn (.c x::k) st=X E fn (.c y::k) st:=by rw [h]
theorem Ykt {live:List Nat} {sl:List (Nat × AV)} {σ:A1}:Zua live ⟨sl,σ⟩ =
    LetA (M3 σ 64 (ups σ++live.flatMap fun t=>X1 (J5 sl t)) []) (fun acc=>⟨live.map fun t=>(t,ren (N4 (Site.s 1000000) 0 acc) (J5 sl t)),U5 σ (N4 (Site.s 1000000) 0 acc) acc⟩) ⟨⟩:=rfl
def resC (σ:A1) (n:Option Nat):AV→Option AV
  | .ref s g off=>((R3 s g).run σ).bind fun e=>(match n with|none=>e.cells[off]? | some n=>if off+n≤e.cells.length then some (.agg (sub e.cells off n)) else none)
  | _=>none
theorem Z06 {sl:List (Nat × AV)} {σ:A1} {t:Nat} {n:Option Nat}:Zkq ⟨sl,σ⟩ (.cell t n)=resC σ n (J5 sl t):=by
  cases n<;>(unfold Zkq resC;rfl)
theorem resC_0 {σ:A1} {s:Site} {g off:Nat}:resC σ none (.ref s g off)=Zve ((R3 s g).run σ) (fun e=>e.cells[off]?) ⟨⟩:=rfl
theorem resC_N {σ:A1} {s:Site} {g off n:Nat}:resC σ (some n) (.ref s g off)=Zve ((R3 s g).run σ) (fun e=>if off+n≤e.cells.length then some (.agg (sub e.cells off n)) else none) ⟨⟩:=rfl
theorem ifp {α:Type} {c:Prop} [Decidable c] {x y:Acc α} (h:c):(if c then x else y)=x:=if_pos h
theorem ifO {α:Type} {c:Prop} [Decidable c] {x y:Option α} (h:c):(if c then x else y)=x:=if_pos h
theorem ifnO {α:Type} {c:Prop} [Decidable c] {x y:Option α} (h:¬ c):(if c then x else y)=y:=if_neg h
theorem Zfw {a b:Int} (h:0≤a):a.tmod b=a%b:=Int.tmod_eq_emod_of_nonneg h
theorem Zfx {a b:Int} (h:0≤a):a.tdiv b=a/b:=Int.tdiv_eq_ediv_of_nonneg h
theorem wrap_i64 {x:Int} (h1 : -9223372036854775808≤x) (h2:x≤9223372036854775807):IntKind.i64.wrap x=x:=by
  simp only [IntKind.wrap,IntKind.signed,IntKind.bits]
  simp
  omega
theorem wrap_u64 {x:Int} (h1:0≤x) (h2:x≤18446744073709551615):IntKind.u64.wrap x=x:=by
  simp only [IntKind.wrap,IntKind.signed,IntKind.bits]
  simp
  omega
theorem Yep {x:Int} (h1:0≤x) (h2:x≤4294967295):IntKind.u32.wrap x=x:=by
  simp only [IntKind.wrap,IntKind.signed,IntKind.bits]
  simp
  omega
theorem Zew {x:Int}:IntKind.u8.wrap x=x%256:=by
  simp only [IntKind.wrap,IntKind.signed,IntKind.bits]
  simp
theorem Y4 {n:Nat}:((n:Int)).toNat=n:=Int.toNat_natCast n
theorem Zos {a b:Int} (h:a=b):(a==b)=true:=by simp [h]
theorem Zd9 {a b:Int} (h:a≠b):(a==b)=false:=by simp [h]
theorem Zot {a b:Int} (h:a≠b):(a != b)=true:=by simp [h]
theorem bne_f {a b:Int} (h:a=b):(a != b)=false:=by simp [h]
theorem J1 {p:Prop} [Decidable p] (h:p):decide p=true:=by simp [h]
theorem X2 {p:Prop} [Decidable p] (h:¬ p):decide p=false:=by simp [h]
theorem Zv3 (a b:Site):(a==b)=decide (a=b):=by by_cases h:a=b<;>simp [h]
theorem Yeq (a c:Site) (b d:Nat):(((a,b):Site × Nat)==(c,d))=(decide (a=c)&&(b==d)):=by
  show ((a==c)&&(b==d))=_
  rw [Zv3]
theorem Yku (a b:List AV):X6 a b=a++b:=rfl
theorem Z7v (n:Nat):zer (.int .u8 0) n=A0 (List.replicate n 0):=by simp [zer,A0]
theorem Z7w {cs:List AV}:over cs 0 []=cs:=by simp [over]
theorem Z07 {c x:AV} {cs xs:List AV}:over (c::cs) 0 (x::xs)=x::over cs 0 xs:=by simp [over]
theorem Zmu {c:AV} {cs xs:List AV} {n:Nat}:over (c::cs) (n+1) xs=c::over cs n xs:=by simp [over];rw [show n+1+xs.length=n+xs.length+1 by omega,Yow]
def Zbo (l:List (List UInt8)):List AV:=l.map .str
theorem Zap (l:List (List UInt8)):(Zbo l).length=l.length:=by simp [Zbo]
theorem Zv4 (l m:List UInt8):A0 l++A0 m=A0 (l++m):=by simp [A0]
theorem Zk0:A0 []=[]:=rfl
theorem Q1 (b:UInt8) (l:List UInt8):A0 (b::l)=.int .u8 b.toNat::A0 l:=rfl
theorem V0 (l:List UInt8):flats (A0 l)=true:=by
  induction l with
  | nil=>rfl
  | cons b l ih=>simp [Q1,flats,L9,ih]
theorem V1 (l:List UInt8):I7 (A0 l)=true:=by
  induction l with
  | nil=>rfl
  | cons b l ih=>simp [Q1,I7,R1,ih]
theorem V2 (l:List UInt8):leadss (A0 l)=false:=by
  induction l with
  | nil=>rfl
  | cons b l ih=>simp [Q1,leadss,Q3,ih]
theorem V3 (l:List UInt8):refsOfs (A0 l)=[]:=by
  induction l with
  | nil=>rfl
  | cons b l ih=>simp [Q1,refsOfs,X1,ih]
theorem Zex (f:Site→Nat→Option (Site × Nat)) (l:List UInt8):rens f (A0 l)=A0 l:=by
  induction l with
  | nil=>rfl
  | cons b l ih=>simp [Q1,rens,ren,ih]
theorem Zcv (l:List UInt8):bytesOf (A0 l)=some l:=by
  induction l with
  | nil=>rfl
  | cons b l ih=>simp [Q1,bytesOf,ih]
theorem Zv5 (l:List UInt8) (i n:Nat):sub (A0 l) i n=A0 (sub l i n):=by simp [sub,A0,Yox,Yoy]
theorem B5 {α:Type} {l:List α} {a n:Nat} (h:l.length≤a+n):sub l a n=l.drop a:=by
  unfold sub;exact Ynx (by rw [Ynf];omega)
theorem Zsh (l:List UInt8) (n:Nat):(A0 l).take n=A0 (l.take n):=by simp [A0,Yoy]
theorem Zsi (l:List UInt8) (n:Nat):(A0 l).drop n=A0 (l.drop n):=by simp [A0,Yox]
theorem B6 {α:Type} {l:List α} {n:Nat} (h:l.length≤n):l.take n=l:=Ynx h
theorem Zde {α:Type} {l:List α} {n:Nat} (h:l.length≤n):sub l 0 n=l:=Ynx h
theorem B7 {α:Type} {l:List α} {n:Nat}:sub l 0 n=l.take n:=rfl
theorem Zsj {l:List UInt8} {i:Nat} {x:Int} (h:i<l.length) (h0:0≤x) (h1:x<256):over (A0 l) i [.int .u8 x]=A0 (l.set i (UInt8.ofNat x.toNat)):=by
  have hx:x=(((UInt8.ofNat x.toNat).toNat:Nat):Int):=by
    have:(UInt8.ofNat x.toNat).toNat=x.toNat:=by simp;omega
    rw [this];omega
  unfold over A0
  rw [List.length_singleton,List.map_set,List.set_eq_take_append_cons_drop,if_pos (by simpa using h)]
  simp only [Yoy,Yox,Yna,Yoz,List.append_assoc]
  rw [←hx]
theorem Zgp {α:Type} {l m:List α} (h:m.length=l.length):l.take 0++m++l.drop (0+m.length)=m:=by simp [h]
theorem Z4 {l m:List UInt8} (h:m.length=l.length):over (A0 l) 0 (A0 m)=A0 m:=by
  unfold over;exact Zgp (by rw [D8,D8,h])
def bat (l:List UInt8) (i:Nat):Int:=((l.getD i 0).toNat:Int)
theorem Zv6 {l:List UInt8} {i:Nat} (h:i<l.length):(A0 l)[i]? = some (.int .u8 (bat l i)):=by
  simp [A0,bat,h]
theorem T8 (l:List UInt8) (i:Nat):0≤bat l i∧bat l i<256:=by
  unfold bat
  have:=(l.getD i 0).toNat_lt
  omega
def byt (n:Int):UInt8:=UInt8.ofNat n.toNat
theorem Z7x {t:List UInt8} {i:Nat} (h:i<t.length):Z2t t[i]? = .ret (.int .u8 (bat t i),[]):=by
  rw [List.getElem?_eq_getElem h,Zmp]
  simp [bat,h]
theorem Zsk {l:List UInt8} {n:Int} (h0:0≤n) (h1:n<256):A0 l++[.int .u8 n]=A0 (l++[byt n]):=by
  have:(UInt8.ofNat n.toNat).toNat=n.toNat:=by simp;omega
  simp [A0,byt]
  omega
theorem BYs:(∀ n:Nat,zer (.int .u8 0) n=A0 (List.replicate n 0))∧(∀ l m:List UInt8,A0 l++A0 m=A0 (l++m))∧(∀ l:List UInt8,(A0 l).length=l.length)∧(∀ l:List UInt8,flats (A0 l)=true)∧(∀ l:List UInt8,I7 (A0 l)=true)∧(∀ l:List UInt8,leadss (A0 l)=false)∧(∀ l:List UInt8,refsOfs (A0 l)=[])∧(∀ (f:Site→Nat→Option (Site × Nat)) (l:List UInt8),rens f (A0 l)=A0 l)∧(∀ l:List UInt8,bytesOf (A0 l)=some l)∧(∀ (l:List UInt8) (i n:Nat),sub (A0 l) i n=A0 (sub l i n))∧(∀ (l:List UInt8) (n:Nat),(A0 l).take n=A0 (l.take n))∧(∀ (l:List UInt8) (n:Nat),(A0 l).drop n=A0 (l.drop n))∧(∀ (l:List UInt8) (i:Nat),i<l.length→(A0 l)[i]? = some (.int .u8 (bat l i)))∧(∀ l m:List UInt8,m.length=l.length→over (A0 l) 0 (A0 m)=A0 m)∧(∀ (l:List UInt8) (i:Nat) (x:Int),i<l.length→0≤x→x<256→over (A0 l) i [.int .u8 x]=A0 (l.set i (UInt8.ofNat x.toNat)))∧(∀ (l:List UInt8) (n:Int),0≤n→n<256→A0 l++[.int .u8 n]=A0 (l++[byt n])) :=
  ⟨Z7v,Zv4,D8,V0,V1,V2,V3,Zex,Zcv,Zv5,Zsh,Zsi,fun _ _ h=>Zv6 h,fun _ _ h=>Z4 h,fun _ _ _ h h0 h1=>Zsj h h0 h1,fun _ _ h0 h1=>Zsk h0 h1⟩
theorem Yer {a:Int} {n:Nat} (hn:n≤64):Zzx .u64 a n=(a*2^n)%18446744073709551616:=by
  unfold Zzx
  rw [show ((n:Int)).toNat=n by omega,show Nat.min n (IntKind.u64.bits)=n from Yo0 hn]
  simp only [IntKind.wrap,IntKind.signed,IntKind.bits]
  simp
theorem Zv7 {k:IntKind} {a:Int} {n:Nat} (hn:n≤k.bits):Zvd k a n=a/2^n:=by
  unfold Zvd
  rw [show ((n:Int)).toNat=n by omega,show Nat.min n k.bits=n from Yo0 hn,Int.fdiv_eq_ediv_of_nonneg _ (Int.le_of_lt (Int.pow_pos (by omega)))]
theorem Zll {n:Int} (h0:0≤n) (h1:n<256):AV.int .u8 n=.int .u8 ((byt n).toNat:Int):=by
  unfold byt
  have:(UInt8.ofNat n.toNat).toNat=n.toNat:=by simp;omega
  rw [this];congr 1;omega
attribute [go_sem] X_lp Ykt Z06 resC_0 resC_N Bool.cond_true Bool.cond_false Option.isNone_some Option.isNone_none List.take_succ_cons List.take_zero Yow Z7w Z07 Zmu Z7x O5 Yku Zv3 Yeq ifp ifO ifnO
  Zfw Zfx wrap_i64 wrap_u64 Yep Zew Y4 Yo1 Nat.one_mul Nat.zero_mul Nat.mul_zero Yoq Zde Zos Zd9 Zot bne_f J1 X2
end Cod
namespace Cod
open Go
def dg8 (c:UInt8):Nat:=c.toNat-48
def pu8 (acc:Nat):List UInt8→Lib.NumEnd Nat
  | []=>.ok acc
  | c::r=>if 48≤c.toNat∧c.toNat≤55 then if 4294967295<acc*8+dg8 c then .range else pu8 (acc*8+dg8 c) r else Go.Lib.NumEnd.syntax
def Zj4 (l:List UInt8):Lib.NumEnd Nat:=if l=[] then Go.Lib.NumEnd.syntax else pu8 0 l
def pr8 (neg:Bool):Lib.NumEnd Nat→Int × Int
  | Go.Lib.NumEnd.syntax=>(0,2)
  | .range=>(if neg then -2147483648 else 2147483647,1)
  | .ok u=>if neg then (if 2147483648<u then (-2147483648,1) else (-(u:Int),0)) else (if 2147483648≤u then (2147483647,1) else ((u:Int),0))
def pi8:List UInt8→Int × Int
  | []=>(0,2)
  | c::r=>if c=43 then pr8 false (Zj4 r) else if c=45 then pr8 true (Zj4 r) else pr8 false (Zj4 (c::r))
end Cod
namespace Cod
open Go
def Zmv (b:UInt8):UInt8:=if 65≤b∧b≤90 then b+32 else b
def Zi0:List UInt8→Bool
  | [a,b,c,d]=>a==46&&Zmv b==103&&Zmv c==105&&Zmv d==116
  | _=>false
def Q7 (s:List UInt8):Bool:=decide (1≤s.length)&&decide (s.length≤100) && !s.contains 47 && !s.contains 0&&s != [46]&&s != [46,46] && !Zi0 s
def parts:List UInt8→List (List UInt8)
  | []=>[[]]
  | c::t=>if c=47 then []::parts t else match parts t with|p::r=>(c::p)::r|[]=>[[c]]
def G6 (l:List UInt8) (c:UInt8):Int:=if c∈l then (l.idxOf c:Int) else -1
def Zsl (a b:List UInt8):Int:=if a=b then 0 else if Op.bytesLess a b then -1 else 1
def Zbp:List AV→Option AV
  | [.lst cs n,.int .u8 c]=>if n=cs.length then (bytesOf cs).map fun l=>.int .i64 (G6 l (byt c)) else none
  | _=>none
def Zi1:List AV→Option AV
  | [.str l,.int .u8 c]=>some (.int .i64 (G6 l (byt c)))
  | _=>none
def Zv8:List AV→Option AV
  | [.int .i64 n]=>if -9223372036854775808≤n∧n≤9223372036854775807 then some (.str (Lib.itoa n)) else none
  | _=>none
def Zha (s:List UInt8):AV:=match Lib.atoiAll s with
  | .ok v=>.tup [.int .i64 v,.nili]
  | .range=>.tup [.int .i64 (Lib.atoiSat s),.ifc 176 .junk]
  | _=>.tup [.int .i64 0,.ifc 176 .junk]
def Zv9:List AV→Option AV
  | [.str s]=>if s.length≤281474976710656 then some (Zha s) else none
  | _=>none
def Zwa (s:List UInt8):AV:=.tup [.int .i64 (pi8 s).1,if (pi8 s).2=0 then .nili else .ifc 176 .junk]
def Zou:List AV→Option AV
  | [.str s,.int .i64 8,.int .i64 32]=>if s.length≤281474976710656 then some (Zwa s) else none
  | _=>none
def Zwb:List AV→Option AV
  | [.str s,.str t]=>if s.length<4611686018427387904 then some (.int .i64 (Lib.lastIndex s t)) else none
  | _=>none
def Zsm:List (BitVec 32):=[
  1116352408,1899447441,3049323471,3921009573,961987163,1508970993,2453635748,2870763221,3624381080,310598401,607225278,1426881987,1925078388,2162078206,2614888103,3248222580,
  3835390401,4022224774,264347078,604807628,770255983,1249150122,1555081692,1996064986,2554220882,2821834349,2952996808,3210313671,3336571891,3584528711,113926993,338241895,
  666307205,773529912,1294757372,1396182291,1695183700,1986661051,2177026350,2456956037,2730485921,2820302411,3259730800,3345764771,3516065817,3600352804,4094571909,275423344,
  430227734,506948616,659060556,883997877,958139571,1322822218,1537002063,1747873779,1955562222,2024104815,2227730452,2361852424,2428436474,2756734187,3204031479,3329325298]
def Zlm:List Int:=[
  0,1,2,3,4,5,6,7,8,9,10,11,12,13,14,15,
  16,17,18,19,20,21,22,23,24,25,26,27,28,29,30,31,
  32,33,34,35,36,37,38,39,40,41,42,43,44,45,46,47,
  48,49,50,51,52,53,54,55,56,57,58,59,60,61,62,63,
  64,97,98,99,100,101,102,103,104,105,106,107,108,109,110,111,
  112,113,114,115,116,117,118,119,120,121,122,91,92,93,94,95,
  96,65,66,67,68,69,70,71,72,73,74,8490,76,77,78,79,
  80,81,82,383,84,85,86,87,88,89,90,123,124,125,126,127]
def W (x:BitVec 32):AV:=.int .u32 (x.toNat:Int)
def F1 (l:List (BitVec 32)):List AV:=l.map W
def Q8 (g:List AV→Option AV) (args:List AV) (σ:A1):Option (AV × A1):=if σ.isEmpty then (g args).map fun v=>(v,[]) else none
def Zey:List AV→Bool
  | []=>true
  | .int .u8 n::cs=>decide (0≤n)&&(decide (n<256)&&Zey cs)
  | _::_=>false
theorem Zmw:∀ l:List UInt8,Zey (A0 l)=true:=by
  intro l
  induction l with
  | nil=>rfl
  | cons b l ih =>
    have:=b.toNat_lt
    rw [Q1,Zey,ih,J1 (by omega),J1 (by omega)];rfl
theorem Zi2:∀ {cs:List AV},Zey cs=true→∃ l:List UInt8,cs=A0 l:=by
  intro cs
  induction cs with
  | nil=>intro _;exact ⟨[],rfl⟩
  | cons c cs ih =>
    intro h
    unfold Zey at h
    split at h
    · rename_i he;cases he
    · rename_i n cs' he
      cases he
      simp only [Ynm,decide_eq_true_eq] at h
      obtain ⟨l,rfl⟩:=ih h.2.2
      refine ⟨byt n::l,?_⟩
      rw [Zll h.1 h.2.1];rfl
    · cases h
def Zmx (args:List AV) (σ:A1):Option (AV × A1):=match args,σ with
  | [.lst cs n],[]=>if cs.length=n∧n≤140737488355328∧Zey cs=true then some (.buf (.r 0) 0 0 n 1,[(.r 0,⟨0,true,true,false,cs⟩)]) else none
  | _,_=>none
def Zea:List AV→Option AV
  | [.str s,.str t]=>if s.length<4294967281 then some (.bool (Lib.contains s t)) else none
  | _=>none
theorem Zcw (l:List (BitVec 32)):(F1 l).length=l.length:=by simp [F1]
theorem A4:(∀ l:List (List UInt8),(Zbo l).length=l.length)∧(∀ l:List (BitVec 32),(F1 l).length=l.length)∧(∀ l:List UInt8,(A0 l).length=l.length)∧(∀ (α:Type) (l:List α) (i:Nat) (x : α),(l.set i x).length=l.length)∧(∀ (α:Type) (n:Nat) (x : α),(List.replicate n x).length=n)∧(∀ (α:Type) (l m:List α),(l++m).length=l.length+m.length)∧(∀ (α:Type) (x : α) (l:List α),(x::l).length=l.length+1)∧(∀ α:Type,([]:List α).length=0)∧(∀ (α:Type) (n:Nat) (l:List α),(l.take n).length=min n l.length)∧(∀ (α:Type) (n:Nat) (l:List α),(l.drop n).length=l.length-n) :=
  ⟨Zap,Zcw,D8,fun _ _ _ _=>List.length_set,fun _ _ _=>List.length_replicate,fun _ _ _=>List.length_append,fun _ _ _=>Ynn,fun _=>Yok,fun _ _ _=>Yne,fun _ _ _=>Ynf⟩
def Zsn:List (Nat × (List AV→A1→Option (AV × A1))):=(F.strings_Contains,Q8 Zea)::(F.strconv_Itoa,Q8 Zv8)::(F.S5,Q8 Zv9)::(F.R9,Q8 Zou)::(F.strings_LastIndex,Q8 Zwb)::(F.Za5,Q8 Zbp)::(F.U8,Q8 Zi1)::[]
def Zgq:List (Nat × (List AV→A1→Option (AV × A1))):=(F.K3,Zmx)::Zsn
def Zeb:List (Nat × (List AV→A1→Option (AV × A1))):=Zgq
def Zwc (f:Nat):Option (List AV→A1→Option (AV × A1)):=Zgq.lookup f
def Zln (f:Nat):Option (List AV→A1→Option (AV × A1)):=Zeb.lookup f
def Zso:List Int:=[
  0,1,56,2,57,49,28,3,61,58,42,50,38,29,17,4,62,47,59,36,45,43,51,22,53,39,33,30,24,18,12,5,
  63,55,48,27,60,41,37,16,46,35,44,21,52,32,23,11,54,26,40,15,34,20,31,10,25,14,19,9,13,8,7,6]
def Zlo:List (Nat × List AV):=(G.Zvw,F1 Zsm)::(G.Zcs,Zlm.map fun z=>.int .u16 z)::(G.Za7,Lib.pow10Tab.map fun z=>.int .u64 z)::(G.Zcq,[.any none])::(G.Zcr,[.any none])::(G.U9,[.any (some .i64)])::(G.Zct,Zso.map fun z=>.int .u8 z)::[]
def T3 (n:Nat):List AV:=match Zlo.lookup n with|some l=>l|none=>[]
def E:Env:=⟨I4,Zln,T3⟩
def E0:Env:=⟨I4,Zwc,T3⟩
theorem S_of {f:Nat} {l:LFn} (hf:I4 f=some l) (hk:Zln f=none) {args:List AV} {σ:A1} (hn:args.length=l.np):S E f args σ=X E l.results [.c l.code] ⟨params 0 args,σ⟩:=S_fn hk hf hn
theorem Zez {f:Nat} {h:List AV→A1→Option (AV × A1)} (hk:Zln f=some h) {args:List AV} {σ:A1}:S E f args σ=h args σ:=by
  rw [S_eq,show E.known f=some h from hk]
theorem Zsp {n:Int} (h : -9223372036854775808≤n∧n≤9223372036854775807):S E F.strconv_Itoa [.int .i64 n] []=some (.str (Lib.itoa n),[]):=by
  rw [Zez (h:=Q8 Zv8) rfl];simp only [Q8,Zv8,if_pos h];rfl
theorem Zsq {s:List UInt8} (h:s.length≤281474976710656):S E F.S5 [.str s] []=some (Zha s,[]):=by
  rw [Zez (h:=Q8 Zv9) rfl];simp only [Q8,Zv9,if_pos h];rfl
theorem Yes {s:List UInt8} (h:s.length≤281474976710656):S E F.R9 [.str s,.int .i64 8,.int .i64 32] []=some (Zwa s,[]):=by
  rw [Zez (h:=Q8 Zou) rfl];simp only [Q8,Zou,if_pos h];rfl
theorem Zsr {s t:List UInt8} (h:s.length<4611686018427387904):S E F.strings_LastIndex [.str s,.str t] []=some (.int .i64 (Lib.lastIndex s t),[]):=by
  rw [Zez (h:=Q8 Zwb) rfl];simp only [Q8,Zwb,if_pos h];rfl
theorem Z08 {s t:List UInt8} (h:s.length<4294967281):S E F.strings_Contains [.str s,.str t] []=some (.bool (Lib.contains s t),[]):=by
  rw [Zez (h:=Q8 Zea) rfl];simp only [Q8,Zea,if_pos h];rfl
theorem Zwd {l:List UInt8} {n:Nat} {c:Int} (h:n=l.length):S E F.Za5 [.lst (A0 l) n,.int .u8 c] []=some (.int .i64 (G6 l (byt c)),[]):=by
  rw [Zez (h:=Q8 Zbp) rfl]
  simp [Q8,Zbp,Zcv,D8,h]
theorem Ykv {l:List UInt8} {n:Nat} (h:n=l.length) (hb:n≤140737488355328):S E F.K3 [.lst (A0 l) n] []=some (.buf (.r 0) 0 0 n 1,[(.r 0,⟨0,true,true,false,A0 l⟩)]):=by
  rw [Zez (h:=Zmx) rfl]
  simp only [Zmx,D8,Zmw,and_true]
  rw [if_pos ⟨h.symm,hb⟩]
theorem Zab {f:Nat} {l:LFn} (hf:I4 f=some l) (hk:Zwc f=none) {args:List AV} {σ:A1} (hn:args.length=l.np):S E0 f args σ=X E0 l.results [.c l.code] ⟨params 0 args,σ⟩:=S_fn hk hf hn
theorem Zwe {l:List UInt8} {c:Int}:S E0 F.U8 [.str l,.int .u8 c] []=some (.int .i64 (G6 l (byt c)),[]):=by
  rw [S_eq,show E0.known F.U8=some (Q8 Zi1) from rfl];rfl
theorem glob_k:Zhb (E.glob G.Zvw)=.fp (F1 Zsm) 0:=rfl
end Cod
namespace Cod
open Go Go.RowKit
variable {P:Program} {E:Env} {w w':World} {La:Lay}
theorem Zec (hb:Below w.heap.size w w'):CLe (ctx [] La w) (ctx [] La w') where
  tab s g0 al h:=by simp [ctx,Zue,B0] at h
  own b _ h:=h
  block b h _:=hb.block b h
  room b k h:=by
    obtain ⟨cs,el,fr,h1,h2⟩:=h
    have hlt:b<w.heap.size:=by
      rcases Ynb b w.heap.size with h3|h3
      · exact h3
      · rw [show (ctx [] La w).w=w from rfl,Array.getElem?_eq_none h3] at h1;cases h1
    exact ⟨cs,el,fr,(hb.block b hlt).trans h1,h2⟩
  size:=hb.size
theorem Zgr (h:Rel E w (I0 [] La) [] La [] La w) (hb:Below w.heap.size w w'):Rel E w (I0 [] La) [] La [] La w' where
  store:=⟨fun s e he=>by simp [B0] at he,fun s s' e e' b o o' he=>by simp [B0] at he⟩
  keep:=⟨hb.os,hb.tape,hb.output,hb.size,fun b hlt _=>hb.block b hlt,(Zec (La:=La) hb).room⟩
  own b hb':=.inl hb'
  glob n:=Zuf (Zec hb) (h.glob n)
  ups x e he:=by simp [B0] at he
  src b hb':=.inl hb'
  lf:=rfl
  f0:=h.f0
def Z09 (P:Program) (E:Env) (f:Nat) (g:List AV→Option AV):Prop :=
  ∀ (args:List AV) (v:AV) (vs:List Value) (La:Lay) (w:World),g args=some v→VRL (ctx [] La w) args vs→Rel E w (I0 [] La) [] La [] La w →
    ∃ y,(∀ c,VR c v y)∧Zlb P f vs.toArray w (fun z w'=>z=y∧Below w.heap.size w w')
def Zfy (P:Program) (E:Env) (f:Nat) (h:List AV→A1→Option (AV × A1)):Prop :=
  ∀ (args:List AV) (σa:A1) (v:AV) (σr:A1),h args σa=some (v,σr)→∀ (La:Lay) (w:World) (vs:List Value),Rel E w (I0 σa La) σa La σa La w→VRL (ctx σa La w) args vs →
    (∀ s e,B0 σa s=some e→∃ x,s=.up x)→Zlb P f vs.toArray w (fun y w'=>∃ La',Rel E w (I0 σa La) σa La σr La' w'∧VR (ctx σr La' w') v y)
theorem Zlb.mono {f:FuncId} {args:Array Value} {R R':Value→World→Prop} (h:Zlb P f args w R) (hR:∀ y w',R y w'→R' y w'):Zlb P f args w R' :=
  fun o a next Q hn=>h o a next Q fun y w' hy=>hn y w' (hR y w' hy)
end Cod
namespace Cod
open Go Go.RowKit Go.Proofs
set_option maxRecDepth 100000
theorem Zwf {P:Program} {E:Env} {f:Nat} {g:List AV→Option AV} (h:Z09 P E f g):Zfy P E f (Q8 g):=by
  intro args σa v σr hk La w vs hr hv _
  unfold Q8 at hk
  cases σa with
  | nil =>
    simp only [Yo2,if_true,Ynd,Prod.mk.injEq] at hk
    obtain ⟨v',hg,rfl,rfl⟩:=hk
    obtain ⟨y,hy,hf⟩:=h args v' vs La w hg hv hr
    exact hf.mono fun z w' ⟨hz,hb⟩=>⟨La,Zgr hr hb,hz▸hy _⟩
  | cons=>simp at hk
theorem Ze0 {P:Program} {f:FuncId} {fn:Func} {e:Array Value→Sem Value} (hf:P.funcs[f]? = some fn) (hname:(fn.name == "runtime.NumGoroutine")=false)
    (hb:fn.body.isNone=true) (hn:Extern.findNext fn=none) (he:Extern.find fn=some e) {args:Array Value} {w w':World} {v:Value} {R:Value→World→Prop} (hrun:(e args).run P w=.ok v w') (hR:R v w'):Zlb P f args w R:=by
  intro o a next Q h
  rw [run_callFunc_extern hf hname hb hn he,hrun]
  exact h v w' hR
theorem Zwg (l:List UInt8) (c:UInt8):Lib.indexByte l c=G6 l c:=by
  induction l with
  | nil=>simp [Lib.indexByte,G6]
  | cons x l ih =>
    unfold Lib.indexByte
    by_cases h:x=c
    · subst h;simp [G6]
    · have hb:(x==c)=false:=by simpa using h
      have hc:¬ c=x:=fun e=>h e.symm
      rw [hb,ih]
      unfold G6
      by_cases hm:c∈l
      · simp [hm,List.idxOf_cons,hb]
      · simp [hm,hc]
theorem Zss:∀ {cs:List AV} {l:List UInt8},bytesOf cs=some l→∃ xs:List Int,cs=xs.map (AV.int .u8 ·)∧l=Lib.bytesOf xs:=by
  intro cs
  induction cs with
  | nil=>intro l h;simp [bytesOf] at h;subst h;exact ⟨[],rfl,rfl⟩
  | cons x cs ih =>
    intro l h
    unfold bytesOf at h
    split at h
    · rename_i he;cases he
    · rename_i n cs' he
      cases he
      obtain ⟨l',hl,rfl⟩:=Option.map_eq_some_iff.1 h
      obtain ⟨xs,h1,h2⟩:=ih hl
      exact ⟨n::xs,by rw [h1];rfl,by rw [h2];rfl⟩
    · cases h
theorem Z1a {c:Ctx} {b o:Nat} {xs:List Int} (h:VRC c b o (xs.map (AV.int .u8 ·))):∀ i,i<xs.length→c.w.cell? ⟨b,o+i,none⟩=some (.int .u8 (xs.getD i 0)):=by
  intro i hi
  obtain ⟨v,h1,h2⟩:=Zdn h (i:=i) (x:=.int .u8 (xs.getD i 0)) (by simp [hi])
  simp only [VR] at h2
  rw [h1,h2]
theorem Yet {E:Env}:Z09 Tryz.prog E F.Za5 Zbp:=by
  intro args v vs La w hg hv hr
  unfold Zbp at hg
  split at hg
  · rename_i cs n c
    split at hg
    · rename_i hn
      obtain ⟨l,hl,rfl⟩:=Option.map_eq_some_iff.1 hg
      simp only [VRL,VR] at hv
      obtain ⟨x,r,rfl,⟨_,hx⟩,y,r2,rfl,rfl,rfl⟩:=hv
      refine ⟨.int .i64 (G6 l (byt c)),fun c=>by simp [VR],?_⟩
      obtain ⟨xs,rfl,rfl⟩:=Zss hl
      rw [Yov] at hn
      rw [←Zwg]
      rcases hx with ⟨h0,rfl,rfl⟩|⟨b,o,cap,rfl,_,_,_,hc⟩
      · have hxs:xs=[]:=by simpa using h0
        subst hxs
        exact Ze0 Tryz.func163 (by kernel_rfl) (by kernel_rfl) (by kernel_rfl) (e:=Extern.BytealgIndexByte.indexByte) (by kernel_rfl) (Lib.run_indexByteNil (P:=Tryz.prog) w 0 0 c) ⟨rfl,Below.refl _ _⟩
      · exact Ze0 Tryz.func163 (by kernel_rfl) (by kernel_rfl) (by kernel_rfl) (e:=Extern.BytealgIndexByte.indexByte) (by kernel_rfl)
          (Lib.run_indexByteSlice (P:=Tryz.prog) w b o n cap xs hn.symm (fun i hi=>Z1a hc i (by omega)) c) ⟨rfl,Below.refl _ _⟩
    · cases hg
  · cases hg
theorem Z7y {E:Env}:Z09 Tryz.prog E F.U8 Zi1:=by
  intro args v vs La w hg hv hr
  unfold Zi1 at hg
  split at hg
  · rename_i l c
    cases hg
    simp only [VRL,VR] at hv
    obtain ⟨x,r,rfl,rfl,y,r2,rfl,rfl,rfl⟩:=hv
    refine ⟨.int .i64 (G6 l (byt c)),fun c=>by simp [VR],?_⟩
    have h:=Lib.run_indexByteString (P:=Tryz.prog) ⟨l.toArray⟩ c w
    simp only [Zwg] at h
    exact Ze0 Tryz.func182 (by kernel_rfl) (by kernel_rfl) (by kernel_rfl) (e:=Extern.BytealgIndexByte.indexByte) (by kernel_rfl) h ⟨rfl,Below.refl _ _⟩
  · cases hg
theorem Zwh {c:Ctx} {b:Nat} {xs:List Int} (h:∀ i,i<xs.length→c.w.cell? ⟨b,i,none⟩=some (.int .u8 (xs.getD i 0))):VRC c b 0 (xs.map (AV.int .u8 ·)):=by
  refine X8 fun i x hx=>?_
  have hi:=(List.getElem?_eq_some_iff.1 hx).1
  rw [Yov] at hi
  rw [List.getElem?_map] at hx
  obtain ⟨y,hy,rfl⟩:=Option.map_eq_some_iff.1 hx
  refine ⟨.int .u8 y,?_,by simp [VR]⟩
  rw [Yn1,h i hi]
  simp [List.getD,hy]
theorem Zgs {E:Env} {w w':World} {La:Lay} (h:Rel E w (I0 [] La) [] La [] La w) (hb:Below w.heap.size w w') {cs:List AV} {pos:Option (Nat × Nat)} (hge:∀ g o,pos=some (g,o)→w.heap.size≤g)
    (hent:V6 (ctx [(.r 0,⟨0,true,true,false,cs⟩)] ⟨fun s=>if s=.r 0 then pos else La.pos s,La.F⟩ w') (.r 0) ⟨0,true,true,false,cs⟩) :
    Rel E w (I0 [] La) [] La [(.r 0,⟨0,true,true,false,cs⟩)] ⟨fun s=>if s=.r 0 then pos else La.pos s,La.F⟩ w':=by
  have hget:∀ s e,B0 [(Site.r 0,(⟨0,true,true,false,cs⟩:Ent))] s=some e→s=.r 0∧e=⟨0,true,true,false,cs⟩:=by
    intro s e he
    simp only [B0] at he
    split at he
    · rename_i hs;exact ⟨hs.symm,(Option.some.inj he).symm⟩
    · cases he
  have hblk:∀ b,inS [(Site.r 0,(⟨0,true,true,false,cs⟩:Ent))] ⟨fun s=>if s=.r 0 then pos else La.pos s,La.F⟩ b→w.heap.size≤b:=by
    rintro b ⟨s,e,o,he,_,hl⟩
    obtain ⟨rfl,rfl⟩:=hget s e he
    exact hge b o (by simpa using hl)
  have hown:∀ b,I0 [(Site.r 0,(⟨0,true,true,false,cs⟩:Ent))] ⟨fun s=>if s=.r 0 then pos else La.pos s,La.F⟩ b→w.heap.size≤b:=fun b ⟨s,e,o,he,ha,_,hl⟩=>hblk b ⟨s,e,o,he,ha,hl⟩
  have hc:CLe (ctx [] La w) (ctx [(Site.r 0,(⟨0,true,true,false,cs⟩:Ent))] ⟨fun s=>if s=.r 0 then pos else La.pos s,La.F⟩ w'):=by
    have h0:=Zec (La:=La) hb
    refine ⟨fun s g0 al hh=>by simp [ctx,Zue,B0] at hh,fun b hlt ho=>?_,h0.block,h0.room,h0.size⟩
    rcases ho with ho|ho
    · have:=hown b ho
      exact absurd hlt (by show ¬ b<w.heap.size;omega)
    · exact .inr ho
  refine ⟨⟨fun s e he _=>?_,fun s s' e e' b o o' he _ he' _ _ _=>?_⟩,⟨hb.os,hb.tape,hb.output,hb.size,fun b hlt _=>hb.block b hlt,(Zec (La:=La) hb).room⟩,fun b hb'=>.inr (hown b hb'),fun n=>Zuf hc (h.glob n),fun x e he _=>?_,fun b hb'=>.inr (hblk b hb'),rfl,h.f0⟩
  · obtain ⟨rfl,rfl⟩:=hget s e he
    exact hent
  · rw [(hget s e he).1,(hget s' e' he').1]
  · exact absurd (hget _ e he).1 (by simp)
theorem Z3s {E:Env} {w w':World} {La:Lay} (h:Rel E w (I0 [] La) [] La [] La w) (hb:Below w.heap.size w w') {v':Value} {n e:Nat} {xs:List Int} (ho:w'.ownsRow w.heap.size e 1 v' n (xs.map (Value.int .u8))) :
    ∃ La',Rel E w (I0 [] La) [] La [(.r 0,⟨0,true,true,false,xs.map (AV.int .u8 ·)⟩)] La' w'∧VR (ctx [(.r 0,⟨0,true,true,false,xs.map (AV.int .u8 ·)⟩)] La' w') (.buf (.r 0) 0 0 n 1) v':=by
  obtain ⟨hlen,ho⟩:=ho
  rw [Yov,Yo1] at hlen
  rcases ho with ⟨rfl,rfl⟩|⟨g,cap,cur,rfl,hg,hcell,hcap,_,hsz,htake⟩
  · obtain rfl:=Ynv hlen
    refine ⟨_,Zgs h hb (pos:=none) (fun g o hh=>by cases hh) ?_,?_⟩
    · simp [V6,ctx]
    · simp only [VR]
      exact ⟨rfl,0,true,rfl,Ym7 _,fun _ _=>by simp [M5,ctx]⟩
  · rw [Yo1] at hsz htake
    have hroom:n≤cur.size:=by omega
    refine ⟨_,Zgs h hb (pos:=some (g,0)) (fun g' o hh=>by cases hh;exact hg) ?_,?_⟩
    · have hl:(xs.map (AV.int .u8 ·)).length=n:=by rw [Yov,hlen]
      simp only [V6,ctx,if_true]
      refine .inl ⟨⟨cur,e,(0,0),hcell,by simp only [Yov];omega,.inl rfl⟩,Zwh fun i hi=>?_⟩
      show w'.cell? ⟨g,i,none⟩=_
      have h1:(cur.toList.take n)[i]? = some (Value.int .u8 (xs.getD i 0)):=by rw [htake];simp [List.getD,hi]
      rw [List.getElem?_take_of_lt (by omega)] at h1
      simp only [World.cell?,hcell]
      simpa using h1
    · simp only [VR]
      refine ⟨rfl,0,true,rfl,Ym7 _,fun _ _=>?_⟩
      simp only [M5,ctx,if_true]
      exact .inr ⟨cap,rfl,hcap,cur,e,(0,0),hcell,by omega⟩
theorem Zfz {α:Type}:∀ {tab:List (Nat × α)} {f:Nat} {h : α},tab.lookup f=some h→(f,h)∈tab:=by
  intro tab
  induction tab with
  | nil=>intro f h hh;simp at hh
  | cons p tab ih =>
    intro f h hh
    obtain ⟨g,m⟩:=p
    rw [List.lookup_cons] at hh
    cases hb:(f==g) with
    | true =>
      rw [hb] at hh
      simp only [Option.some.injEq] at hh
      simp only [beq_iff_eq] at hb
      subst hb hh
      simp
    | false=>rw [hb] at hh;exact List.mem_cons_of_mem _ (ih hh)
end Cod
namespace Cod
open Go Go.Proofs Go.Shelf Go.RowKit
variable {P:Program} {ρ:Ren}
theorem pu8_le:∀ {l:List UInt8} {acc u:Nat},acc≤4294967295→pu8 acc l=.ok u→u≤4294967295:=by
  intro l
  induction l with
  | nil=>intro acc u ha h;rw [pu8] at h;cases h;exact ha
  | cons c r ih =>
    intro acc u ha h
    rw [pu8] at h
    split at h
    · split at h
      · cases h
      · exact ih (by omega) h
    · cases h
set_option maxHeartbeats 32000000 in
set_option maxRecDepth 100000 in
theorem Z1b (L:Lays.n287 P ρ) (t:ByteArray) (hne:t.size≠0) (hmax:t.size≤9223372036854775806) (w:World) :
    Calls P (ρ.f 287) #[.string t,.int .i64 8,.int .i64 32] w fun e w'=>e=.returned (Lib.uintTupleM (ρ.t 167) 4294967295 (pu8 0 t.data.toList))∧w'=Lib.bytesWorld w (ρ.t 5) t:=by
  have mixed:=L.mixed
  have t9:=L.t9;have a9:=L.a9;have z9:=L.z9;have v9:=L.v9
  have t3:=L.t3;have a3:=L.a3;have z3:=L.z3;have v3:=L.v3
  have t53:=L.t53;have a53:=L.a53;have z53:=L.z53;have v53:=L.v53
  have t75:=L.t75;have a75:=L.a75;have z75:=L.z75;have v75:=L.v75
  have t4:=L.t4;have a4:=L.a4;have z4:=L.z4;have v4:=L.v4
  have t167:=L.t167;have a167:=L.a167;have z167:=L.z167;have v167:=L.v167
  have t5:=L.t5;have a5:=L.a5;have z5:=L.z5;have v5:=L.v5
  have t46:=L.t46;have a46:=L.a46;have z46:=L.z46;have v46:=L.v46
  have t37:=L.t37;have a37:=L.a37;have z37:=L.z37;have v37:=L.v37
  have t0:=L.t0;have a0:=L.a0;have z0:=L.z0;have v0:=L.v0
  have e321:∀ args w,(callFunc (ρ.f 321) args).run P w=.ok (.enter (ρ.f 321) args) w:=enters_of L.f321 (by kernel_rfl) rfl
  have hemp:t.toList.isEmpty=false:=by
    rw [←decide_eq_emptyBytes]
    exact decide_eq_false (fun h=>hne (by rw [h];rfl))
  have hcv:=Lib.run_convert_string_bytes (P:=P) w (ρ.t 9) (ρ.t 37) (ρ.t 5) t (u:=.string) L.t9 L.t37 L.t5
  have hB:∀ j,j<t.size→(Lib.bytesWorld w (ρ.t 5) t).cell? ⟨w.heap.size,j,none⟩=some (.int .u8 (t.data.toList.getD j 0).toNat):=fun j hj=>Lib.bytesWorld_cell w (ρ.t 5) t j hj
  obtain ⟨W1,hW1⟩:∃ W1,W1=Lib.bytesWorld w (ρ.t 5) t:=⟨_,rfl⟩
  rw [←hW1] at hcv hB ⊢
  clear hW1
  obtain ⟨bs,hL⟩:∃ bs,bs=t.data.toList:=⟨_,rfl⟩
  have hLn:bs.length=t.size:=by rw [hL,Lib.size_eq]
  rw [←hL] at hB ⊢
  clear hL
  have hmv:IntKind.u64.wrap (IntKind.u64.wrap 4294967296-1)=4294967295:=by
    rw [IntKind.wrap_u64,IntKind.wrap_u64]
    decide
  go_enter L.f287,Body.n287_ntmps ρ
  go_wp2
  go_loop [12,13,101] (fun vu vn vi=>∃ (k acc:Nat) (a:Int),vu=.bool false∧vn=.int .u64 a∧vi=.int .i64 k∧k≤t.size∧Hid (a=(acc:Int)∧acc≤4294967295∧pu8 0 bs=pu8 acc (bs.drop k)))
    (fun _ _ vi=>t.size-(intOf vi).toNat)
  case atStart=>exact ⟨0,0,0,rfl,rfl,rfl,by omega,rfl,by omega,rfl⟩
  case round =>
    obtain ⟨k,acc,a,rfl,rfl,rfl,hk,hh⟩:=hrel
    obtain ⟨ha,hacc,hdec⟩:=hh.out
    clear hh
    have a0:0≤a:=by omega
    have a1:a≤4294967295:=by omega
    by_cases hkn:k<t.size
    · have hc:=hB k hkn
      have hdrop:bs.drop k=bs[k]'(by omega)::bs.drop (k+1):=List.drop_eq_getElem_cons (by omega)
      have hget:bs.getD k 0=bs[k]'(by omega):=by simp [List.getD,List.getElem?_eq_getElem (show k<bs.length by omega)]
      rw [hdrop] at hdec
      rw [hget] at hc
      generalize bs[k]'(by omega)=c at hc hdec
      have hc256:c.toNat<256:=c.toNat_lt
      clear hB hdrop hget
      by_cases hdig:48≤c.toNat∧c.toNat≤55
      · obtain ⟨hd0,hd1⟩:=hdig
        have hd:dg8 c=c.toNat-48:=rfl
        by_cases hov:4294967295<acc*8+(c.toNat-48)
        · have hF:pu8 acc (c::bs.drop (k+1))=.range:=by simp [pu8,hd0,hd1,hd,hov]
          rw [hF] at hdec
          have iov:4294967295<a*8+((c.toNat:Int)-48):=by omega
          clear hacc hF hov ha hd
          go_wp2
          go_ret2
          exact ⟨rfl,rfl⟩
        · have hF:pu8 acc (c::bs.drop (k+1))=pu8 (acc*8+(c.toNat-48)) (bs.drop (k+1)):=by simp [pu8,hd0,hd1,hd,hov]
          have HN:Hid (a*8+((c.toNat:Int)-48)=((acc*8+(c.toNat-48):Nat):Int)∧acc*8+(c.toNat-48)≤4294967295∧pu8 0 bs=pu8 (acc*8+(c.toNat-48)) (bs.drop (k+1))):=Lib.hid ⟨by omega,by omega,hdec.trans hF⟩
          have iov:a*8+((c.toNat:Int)-48)≤4294967295:=by omega
          clear hacc hF hov hdec ha hd
          go_wp2
          refine ⟨⟨k+1,acc*8+(c.toNat-48),a*8+((c.toNat:Int)-48),rfl,(by first|rfl|(congr 1;omega)),(by first|rfl|(congr 1;omega)),by omega,HN⟩,by simp [intOf];omega⟩
      · have hF:pu8 acc (c::bs.drop (k+1))=Go.Lib.NumEnd.syntax:=by simp [pu8,hdig]
        rw [hF] at hdec
        clear hacc hF ha
        have hv0:=bits_lo_u8 .or (c.toNat:Int) 32
        have hv1:=bits_hi_u8 .or (c.toNat:Int) 32
        have hu0:=bits_lo_u8 .or 95 32
        have hu1:=bits_hi_u8 .or 95 32
        go_wp2_with (go_at_fn (ρ.f 321);refine (Any.internal_strconv_lower { L with } _ _).mono ?_;rintro e w' ⟨rfl,rfl⟩)
        all_goals go_ret2
        all_goals first|exact ⟨rfl,rfl⟩|exact ⟨by rw [hdec];rfl,rfl⟩
    · have hkk:k=t.size:=by omega
      subst hkk
      have hF:pu8 acc (bs.drop t.size)=.ok acc:=by rw [List.drop_eq_nil_of_le (by omega)];rfl
      rw [hF] at hdec
      subst ha
      clear hacc hF a0 a1
      go_wp2
      go_ret2
      exact ⟨rfl,rfl⟩
end Cod
namespace Cod
open Go Go.Proofs Go.Shelf Go.RowKit
variable {P:Program} {ρ:Ren}
def Z1c (T:TypeId) (e:Int):Value:=if e=0 then .nilIface else .iface T (.int .i64 e)
def Zi3 (T:TypeId) (x:Int × Int):Value:=.tuple #[.int .i64 x.1,Z1c T x.2]
theorem Zf0 (L:Lays.n287 P ρ) (t:ByteArray) (hmax:t.size≤9223372036854775806) (w:World) :
    Calls P (ρ.f 287) #[.string t,.int .i64 8,.int .i64 32] w fun e w'=>e=.returned (Lib.uintTupleM (ρ.t 167) 4294967295 (Zj4 t.data.toList))∧(w'=w∨w'=Lib.bytesWorld w (ρ.t 5) t):=by
  by_cases h0:t.size=0
  · have ht:t=⟨#[]⟩:=by
      apply ByteArray.ext
      exact Yo3 h0
    subst ht
    exact (Any.internal_strconv_ParseUint_empty { L with } 8 32 w).mono fun e w' ⟨he,hw⟩=>⟨he,Or.inl hw⟩
  · have hne:t.data.toList≠[]:=fun h=>h0 (by rw [Lib.size_eq,h];rfl)
    refine (Z1b { L with } t h0 hmax w).mono fun e w' ⟨he,hw⟩=>⟨?_,Or.inr hw⟩
    rw [he,Zj4,if_neg hne]
theorem Zst {l:List UInt8} {u:Nat} (h:Zj4 l=.ok u):u≤4294967295:=by
  unfold Zj4 at h
  split at h
  · cases h
  · exact pu8_le (by omega) h
set_option maxHeartbeats 32000000 in
set_option maxRecDepth 100000 in
theorem Z7z (L:LaysC.n247 P ρ) (s:ByteArray) (hne:s.size≠0) (hmax:s.size≤9223372036854775806) (w:World) :
    Calls P (ρ.f 247) #[.string s,.int .i64 8,.int .i64 32] w fun e w'=>e=.returned (Zi3 (ρ.t 167) (pi8 s.data.toList))∧(w'=w∨∃ t,w'=Lib.bytesWorld w (ρ.t 5) t):=by
  have mixed:=L.mixed
  have t9:=L.t9;have a9:=L.a9;have z9:=L.z9;have v9:=L.v9
  have t3:=L.t3;have a3:=L.a3;have z3:=L.z3;have v3:=L.v3
  have t2:=L.t2;have a2:=L.a2;have z2:=L.z2;have v2:=L.v2
  have t75:=L.t75;have a75:=L.a75;have z75:=L.z75;have v75:=L.v75
  have t4:=L.t4;have a4:=L.a4;have z4:=L.z4;have v4:=L.v4
  have t167:=L.t167;have a167:=L.a167;have z167:=L.z167;have v167:=L.v167
  have t5:=L.t5;have a5:=L.a5;have z5:=L.z5;have v5:=L.v5
  have t53:=L.t53;have a53:=L.a53;have z53:=L.z53;have v53:=L.v53
  have t175:=L.t175;have a175:=L.a175;have z175:=L.z175;have v175:=L.v175
  have t46:=L.t46;have a46:=L.a46;have z46:=L.z46;have v46:=L.v46
  have e287:∀ args w,(callFunc (ρ.f 287) args).run P w=.ok (.enter (ρ.f 287) args) w:=enters_of L.f287 (by kernel_rfl) rfl
  have hemp:s.toList.isEmpty=false:=by
    rw [←decide_eq_emptyBytes]
    exact decide_eq_false (fun h=>hne (by rw [h];rfl))
  have hpos:0<s.size:=by omega
  obtain ⟨c0,r,hL⟩:∃ c0 r,s.data.toList=c0::r:=by
    cases h:s.data.toList with
    | nil=>exact absurd (by rw [Lib.size_eq,h];rfl) hne
    | cons c0 r=>exact ⟨c0,r,rfl⟩
  have hsz:s.size=r.length+1:=by rw [Lib.size_eq,hL];rfl
  have hs0:s[0]'hpos=c0:=by have:=Lib.getD_at s 0 hpos;rw [hL] at this;exact this
  have hq2:∀ W,(binOp .neq (ρ.t 75) (.iface (ρ.t 167) (.int .i64 2)) (.iface (ρ.t 167) (.int .i64 1))).run P W=.ok (.bool true) W:=fun W=>Lib.run_neq_iface_int W 2 1 L.t75 L.c167 L.t167
  have hq1:∀ W,(binOp .neq (ρ.t 75) (.iface (ρ.t 167) (.int .i64 1)) (.iface (ρ.t 167) (.int .i64 1))).run P W=.ok (.bool false) W:=fun W=>Lib.run_neq_iface_int W 1 1 L.t75 L.c167 L.t167
  have hmin:wrap64 (-wrap64 2147483648) = -2147483648:=by
    unfold wrap64
    omega
  rw [hL]
  have hsl:∀ W,(Instr.slice (ρ.t 9) (.string s) (some (.int .i64 1)) none none).run P W=.ok (.string (s.extract 1 s.size)) W:=fun W=>by
    rw [run_slice_string_from_if W (ρ.t 9) s .i64 _ L.t9,if_pos ⟨by omega,by omega⟩]
    rfl
  have htl:(s.extract 1 s.size).data.toList=r:=by
    rw [Lib.extract_data,hL,Yow,Yoq,Ynx (by omega)]
  have hts:(s.extract 1 s.size).size=s.size-1:=by rw [Lib.size_eq,htl];omega
  by_cases h43:c0=43
  · subst h43
    generalize s.extract 1 s.size=t at hsl htl hts
    have hU:=Zf0 { L with } t (by omega) w
    rw [htl] at hU
    have hwd:∀ w1:World,(w1=w∨w1=Lib.bytesWorld w (ρ.t 5) t)→(w1=w∨∃ t,w1=Lib.bytesWorld w (ρ.t 5) t):=fun w1 h=>h.imp id fun h=>⟨t,h⟩
    clear hL
    rw [show pi8 (43::r)=pr8 false (Zj4 r) from rfl]
    cases hE:Zj4 r with
    | range =>
      rw [hE] at hU
      have hU:Calls P (ρ.f 287) #[.string t,.int .i64 8,.int .i64 32] w fun e w'=>e=.returned (.tuple #[.int .u64 4294967295,.iface (ρ.t 167) (.int .i64 1)])∧(w'=w∨w'=Lib.bytesWorld w (ρ.t 5) t):=hU
      go_enter L.f247,Body.n247_ntmps ρ
      go_wp2_with (go_at_fn (ρ.f 287);refine hU.mono ?_;rintro e w1 ⟨rfl,hw1⟩)
      go_wp2
      go_ret2
      refine ⟨?_,hwd w1 hw1⟩
      first|rfl|(simp only [hmin];rfl)
    | ok u =>
      have hu64:=Zst hE
      rw [hE] at hU
      obtain ⟨a,ha⟩:∃ a:Int,a=(u:Int):=⟨_,rfl⟩
      have hU:Calls P (ρ.f 287) #[.string t,.int .i64 8,.int .i64 32] w fun e w'=>e=.returned (.tuple #[.int .u64 a,.nilIface])∧(w'=w∨w'=Lib.bytesWorld w (ρ.t 5) t):=by rw [ha];exact hU
      have a0:0≤a:=by omega
      have a1:a≤4294967295:=by omega
      by_cases hout:2147483648≤u
      · have hres:Zi3 (ρ.t 167) (pr8 false (.ok u))=.tuple #[.int .i64 (2147483647),.iface (ρ.t 167) (.int .i64 1)]:=by simp [pr8,hout,Zi3,Z1c]
        rw [hres]
        have iout:2147483648≤a:=by omega
        clear hres hout hu64 ha hE
        go_enter L.f247,Body.n247_ntmps ρ
        go_wp2_with (go_at_fn (ρ.f 287);refine hU.mono ?_;rintro e w1 ⟨rfl,hw1⟩)
        go_wp2
        go_ret2
        refine ⟨?_,hwd w1 hw1⟩
        first|rfl|(simp only [hmin];rfl)
      · have hres:Zi3 (ρ.t 167) (pr8 false (.ok u))=.tuple #[.int .i64 a,.nilIface]:=by simp [pr8,hout,Zi3,Z1c,ha]
        rw [hres]
        have iin:a<2147483648:=by omega
        clear hres hout hu64 ha hE
        go_enter L.f247,Body.n247_ntmps ρ
        go_wp2_with (go_at_fn (ρ.f 287);refine hU.mono ?_;rintro e w1 ⟨rfl,hw1⟩)
        go_wp2
        go_ret2
        exact ⟨rfl,hwd w1 hw1⟩
    | _ =>
      rw [hE] at hU
      have hU:Calls P (ρ.f 287) #[.string t,.int .i64 8,.int .i64 32] w fun e w'=>e=.returned (.tuple #[.int .u64 0,.iface (ρ.t 167) (.int .i64 2)])∧(w'=w∨w'=Lib.bytesWorld w (ρ.t 5) t):=hU
      go_enter L.f247,Body.n247_ntmps ρ
      go_wp2_with (go_at_fn (ρ.f 287);refine hU.mono ?_;rintro e w1 ⟨rfl,hw1⟩)
      go_wp2
      go_ret2
      exact ⟨rfl,hwd w1 hw1⟩
  by_cases h45:c0=45
  · subst h45
    generalize s.extract 1 s.size=t at hsl htl hts
    have hU:=Zf0 { L with } t (by omega) w
    rw [htl] at hU
    have hwd:∀ w1:World,(w1=w∨w1=Lib.bytesWorld w (ρ.t 5) t)→(w1=w∨∃ t,w1=Lib.bytesWorld w (ρ.t 5) t):=fun w1 h=>h.imp id fun h=>⟨t,h⟩
    clear hL
    rw [show pi8 (45::r)=pr8 true (Zj4 r) from rfl]
    cases hE:Zj4 r with
    | range =>
      rw [hE] at hU
      have hU:Calls P (ρ.f 287) #[.string t,.int .i64 8,.int .i64 32] w fun e w'=>e=.returned (.tuple #[.int .u64 4294967295,.iface (ρ.t 167) (.int .i64 1)])∧(w'=w∨w'=Lib.bytesWorld w (ρ.t 5) t):=hU
      go_enter L.f247,Body.n247_ntmps ρ
      go_wp2_with (go_at_fn (ρ.f 287);refine hU.mono ?_;rintro e w1 ⟨rfl,hw1⟩)
      go_wp2
      go_ret2
      refine ⟨?_,hwd w1 hw1⟩
      first|rfl|(simp only [hmin];rfl)
    | ok u =>
      have hu64:=Zst hE
      rw [hE] at hU
      obtain ⟨a,ha⟩:∃ a:Int,a=(u:Int):=⟨_,rfl⟩
      have hU:Calls P (ρ.f 287) #[.string t,.int .i64 8,.int .i64 32] w fun e w'=>e=.returned (.tuple #[.int .u64 a,.nilIface])∧(w'=w∨w'=Lib.bytesWorld w (ρ.t 5) t):=by rw [ha];exact hU
      have a0:0≤a:=by omega
      have a1:a≤4294967295:=by omega
      by_cases hout:2147483648<u
      · have hres:Zi3 (ρ.t 167) (pr8 true (.ok u))=.tuple #[.int .i64 (-2147483648),.iface (ρ.t 167) (.int .i64 1)]:=by simp [pr8,hout,Zi3,Z1c]
        rw [hres]
        have iout:2147483648<a:=by omega
        clear hres hout hu64 ha hE
        go_enter L.f247,Body.n247_ntmps ρ
        go_wp2_with (go_at_fn (ρ.f 287);refine hU.mono ?_;rintro e w1 ⟨rfl,hw1⟩)
        go_wp2
        go_ret2
        refine ⟨?_,hwd w1 hw1⟩
        first|rfl|(simp only [hmin];rfl)
      · have hres:Zi3 (ρ.t 167) (pr8 true (.ok u))=.tuple #[.int .i64 (-a),.nilIface]:=by simp [pr8,hout,Zi3,Z1c,ha]
        rw [hres]
        have iin:a≤2147483648:=by omega
        have hwn:wrap64 (-wrap64 a) = -a:=by
          unfold wrap64
          omega
        clear hres hout hu64 ha hE
        go_enter L.f247,Body.n247_ntmps ρ
        go_wp2_with (go_at_fn (ρ.f 287);refine hU.mono ?_;rintro e w1 ⟨rfl,hw1⟩)
        go_wp2
        go_ret2
        refine ⟨?_,hwd w1 hw1⟩
        first|rfl|(simp only [hwn];rfl)
    | _ =>
      rw [hE] at hU
      have hU:Calls P (ρ.f 287) #[.string t,.int .i64 8,.int .i64 32] w fun e w'=>e=.returned (.tuple #[.int .u64 0,.iface (ρ.t 167) (.int .i64 2)])∧(w'=w∨w'=Lib.bytesWorld w (ρ.t 5) t):=hU
      go_enter L.f247,Body.n247_ntmps ρ
      go_wp2_with (go_at_fn (ρ.f 287);refine hU.mono ?_;rintro e w1 ⟨rfl,hw1⟩)
      go_wp2
      go_ret2
      exact ⟨rfl,hwd w1 hw1⟩
  · have i43:¬ (c0.toNat:Int)=43:=fun h=>h43 (UInt8.toNat_inj.1 (by show c0.toNat=43;omega))
    have i45:¬ (c0.toNat:Int)=45:=fun h=>h45 (UInt8.toNat_inj.1 (by show c0.toNat=45;omega))
    obtain ⟨t,ht⟩:∃ t,t=s:=⟨_,rfl⟩
    have hU:=Zf0 { L with } s hmax w
    rw [hL] at hU
    have hwd:∀ w1:World,(w1=w∨w1=Lib.bytesWorld w (ρ.t 5) s)→(w1=w∨∃ t,w1=Lib.bytesWorld w (ρ.t 5) t):=fun w1 h=>h.imp id fun h=>⟨s,h⟩
    clear hsl htl hts
    subst ht
    clear hL
    rw [show pi8 (c0::r)=pr8 false (Zj4 (c0::r)) by rw [pi8,if_neg h43,if_neg h45]]
    cases hE:Zj4 (c0::r) with
    | range =>
      rw [hE] at hU
      have hU:Calls P (ρ.f 287) #[.string t,.int .i64 8,.int .i64 32] w fun e w'=>e=.returned (.tuple #[.int .u64 4294967295,.iface (ρ.t 167) (.int .i64 1)])∧(w'=w∨w'=Lib.bytesWorld w (ρ.t 5) t):=hU
      go_enter L.f247,Body.n247_ntmps ρ
      go_wp2_with (go_at_fn (ρ.f 287);refine hU.mono ?_;rintro e w1 ⟨rfl,hw1⟩)
      go_wp2
      go_ret2
      refine ⟨?_,hwd w1 hw1⟩
      first|rfl|(simp only [hmin];rfl)
    | ok u =>
      have hu64:=Zst hE
      rw [hE] at hU
      obtain ⟨a,ha⟩:∃ a:Int,a=(u:Int):=⟨_,rfl⟩
      have hU:Calls P (ρ.f 287) #[.string t,.int .i64 8,.int .i64 32] w fun e w'=>e=.returned (.tuple #[.int .u64 a,.nilIface])∧(w'=w∨w'=Lib.bytesWorld w (ρ.t 5) t):=by rw [ha];exact hU
      have a0:0≤a:=by omega
      have a1:a≤4294967295:=by omega
      by_cases hout:2147483648≤u
      · have hres:Zi3 (ρ.t 167) (pr8 false (.ok u))=.tuple #[.int .i64 (2147483647),.iface (ρ.t 167) (.int .i64 1)]:=by simp [pr8,hout,Zi3,Z1c]
        rw [hres]
        have iout:2147483648≤a:=by omega
        clear hres hout hu64 ha hE
        go_enter L.f247,Body.n247_ntmps ρ
        go_wp2_with (go_at_fn (ρ.f 287);refine hU.mono ?_;rintro e w1 ⟨rfl,hw1⟩)
        go_wp2
        go_ret2
        refine ⟨?_,hwd w1 hw1⟩
        first|rfl|(simp only [hmin];rfl)
      · have hres:Zi3 (ρ.t 167) (pr8 false (.ok u))=.tuple #[.int .i64 a,.nilIface]:=by simp [pr8,hout,Zi3,Z1c,ha]
        rw [hres]
        have iin:a<2147483648:=by omega
        clear hres hout hu64 ha hE
        go_enter L.f247,Body.n247_ntmps ρ
        go_wp2_with (go_at_fn (ρ.f 287);refine hU.mono ?_;rintro e w1 ⟨rfl,hw1⟩)
        go_wp2
        go_ret2
        exact ⟨rfl,hwd w1 hw1⟩
    | _ =>
      rw [hE] at hU
      have hU:Calls P (ρ.f 287) #[.string t,.int .i64 8,.int .i64 32] w fun e w'=>e=.returned (.tuple #[.int .u64 0,.iface (ρ.t 167) (.int .i64 2)])∧(w'=w∨w'=Lib.bytesWorld w (ρ.t 5) t):=hU
      go_enter L.f247,Body.n247_ntmps ρ
      go_wp2_with (go_at_fn (ρ.f 287);refine hU.mono ?_;rintro e w1 ⟨rfl,hw1⟩)
      go_wp2
      go_ret2
      exact ⟨rfl,hwd w1 hw1⟩
theorem Z1d (L:LaysC.n247 P ρ) (s:ByteArray) (hmax:s.size≤9223372036854775806) (w:World) :
    Calls P (ρ.f 247) #[.string s,.int .i64 8,.int .i64 32] w fun e w'=>e=.returned (Zi3 (ρ.t 167) (pi8 s.data.toList))∧(w'=w∨∃ t,w'=Lib.bytesWorld w (ρ.t 5) t):=by
  by_cases h0:s.size=0
  · have hs:s=⟨#[]⟩:=by
      apply ByteArray.ext
      exact Yo3 h0
    subst hs
    exact (Any.internal_strconv_ParseInt_empty { L with } 8 32 w).mono fun e w' ⟨he,hw⟩=>⟨he,Or.inl hw⟩
  · exact Z7z L s h0 hmax w
theorem Zsu (b:Bool) (x:Lib.NumEnd Nat):(pr8 b x).2=0∨(pr8 b x).2=1∨(pr8 b x).2=2:=by
  cases x<;>simp only [pr8]<;>(try split)<;>(try split)<;>simp
theorem Ykw (l:List UInt8):(pi8 l).2=0∨(pi8 l).2=1∨(pi8 l).2=2:=by
  cases l with
  | nil=>simp [pi8]
  | cons c r =>
    by_cases h:c=43
    · rw [pi8,if_pos h];exact Zsu _ _
    · by_cases h':c=45
      · rw [pi8,if_neg h,if_pos h'];exact Zsu _ _
      · rw [pi8,if_neg h,if_neg h'];exact Zsu _ _
set_option maxHeartbeats 4000000 in
set_option maxRecDepth 100000 in
theorem Z1e (L:LaysC.n174 P ρ) (s:ByteArray) (hlim:s.size≤281474976710656) (ev1 ev2:Value) (w:World)
    (h1:w.cell? ⟨(ρ.g 15),0,none⟩=some ev1) (k1:ev1=.nilIface∨∃ te pe,ev1=.iface te pe) (h2:w.cell? ⟨(ρ.g 16),0,none⟩=some ev2) (k2:ev2=.nilIface∨∃ te pe,ev2=.iface te pe) :
    Calls P (ρ.f 174) #[.string s,.int .i64 8,.int .i64 32] w fun e w'=>(∃ ev,e=.returned (.tuple #[.int .i64 (pi8 s.data.toList).1,ev])∧(((pi8 s.data.toList).2=0∧ev=.nilIface)∨((pi8 s.data.toList).2≠0∧∃ v,ev=.iface (ρ.t 168) v)))∧Below w.heap.size w w':=by
  have mixed:=L.mixed
  have t9:=L.t9;have a9:=L.a9;have z9:=L.z9;have v9:=L.v9
  have t3:=L.t3;have a3:=L.a3;have z3:=L.z3;have v3:=L.v3
  have t2:=L.t2;have a2:=L.a2;have z2:=L.z2;have v2:=L.v2
  have t75:=L.t75;have a75:=L.a75;have z75:=L.z75;have v75:=L.v75
  have t85:=L.t85;have a85:=L.a85;have z85:=L.z85;have v85:=L.v85
  have t4:=L.t4;have a4:=L.a4;have z4:=L.z4;have v4:=L.v4
  have e247:∀ args w,(callFunc (ρ.f 247) args).run P w=.ok (.enter (ρ.f 247) args) w:=enters_of L.f247 (by kernel_rfl) rfl
  have e245:∀ args w,(callFunc (ρ.f 245) args).run P w=.ok (.enter (ρ.f 245) args) w:=enters_of L.f245 (by kernel_rfl) rfl
  have hG1:(ρ.g 15)<w.heap.size:=Lib.lt_of_cell h1
  have hG2:(ρ.g 16)<w.heap.size:=Lib.lt_of_cell h2
  have hI:=Z1d { L with } s (by omega) w
  have hE:=Ykw s.data.toList
  generalize pi8 s.data.toList=x at *
  obtain ⟨v,ec⟩:=x
  have below:∀ {W1:World},(W1=w∨∃ t,W1=Lib.bytesWorld w (ρ.t 5) t)→Below w.heap.size w W1:=by
    rintro W1 (rfl|⟨t,rfl⟩)
    · exact Below.refl _ _
    · exact Lib.bytesWorld_below _ _ _
  rcases hE with hE|hE|hE
  · simp only at hE
    subst hE
    have hI:Calls P (ρ.f 247) #[.string s,.int .i64 8,.int .i64 32] w fun e w'=>e=.returned (.tuple #[.int .i64 v,.nilIface])∧(w'=w∨∃ t,w'=Lib.bytesWorld w (ρ.t 5) t):=hI
    go_enter L.f174,Body.n174_ntmps ρ
    go_wp2_with (go_at_fn (ρ.f 247);refine hI.mono ?_;rintro e W1 ⟨rfl,hW⟩)
    go_wp2
    go_ret2
    exact ⟨⟨_,rfl,.inl ⟨by simp,rfl⟩⟩,below hW⟩
  · simp only at hE
    subst hE
    have hI:Calls P (ρ.f 247) #[.string s,.int .i64 8,.int .i64 32] w fun e w'=>e=.returned (.tuple #[.int .i64 v,.iface (ρ.t 167) (.int .i64 1)])∧(w'=w∨∃ t,w'=Lib.bytesWorld w (ρ.t 5) t):=hI
    go_enter L.f174,Body.n174_ntmps ρ
    go_wp2_with (go_at_fn (ρ.f 247);refine hI.mono ?_)
    rintro e W1 ⟨rfl,hW⟩
    have hb1:=below hW
    have hv1:W1.cell? ⟨(ρ.g 16),0,none⟩=some ev2:=(hb1.cell (show (⟨(ρ.g 16),0,none⟩:Addr).block<w.heap.size from hG2)).trans h2
    clear hW
    go_wp2_with (go_at_fn (ρ.f 245);refine (Any.strconv_toError_range { L with } ⟨#[80,97,114,115,101,73,110,116]⟩ s 8 32 ev2 _ hlim ?_ k2).mono ?_)
    · exact hv1
    rintro e W2 ⟨N,rfl,h1,h2,h3⟩
    go_wp2
    go_ret2
    exact ⟨⟨_,rfl,.inr ⟨by simp,_,rfl⟩⟩,hb1.trans (h3.mono hb1.size)⟩
  · simp only at hE
    subst hE
    have hI:Calls P (ρ.f 247) #[.string s,.int .i64 8,.int .i64 32] w fun e w'=>e=.returned (.tuple #[.int .i64 v,.iface (ρ.t 167) (.int .i64 2)])∧(w'=w∨∃ t,w'=Lib.bytesWorld w (ρ.t 5) t):=hI
    go_enter L.f174,Body.n174_ntmps ρ
    go_wp2_with (go_at_fn (ρ.f 247);refine hI.mono ?_)
    rintro e W1 ⟨rfl,hW⟩
    have hb1:=below hW
    have hv1:W1.cell? ⟨(ρ.g 15),0,none⟩=some ev1:=(hb1.cell (show (⟨(ρ.g 15),0,none⟩:Addr).block<w.heap.size from hG1)).trans h1
    clear hW
    go_wp2_with (go_at_fn (ρ.f 245);refine (Any.strconv_toError_syntax { L with } ⟨#[80,97,114,115,101,73,110,116]⟩ s 8 32 ev1 _ hlim ?_ k1).mono ?_)
    · exact hv1
    rintro e W2 ⟨N,rfl,h1,h2,h3⟩
    go_wp2
    go_ret2
    exact ⟨⟨_,rfl,.inr ⟨by simp,_,rfl⟩⟩,hb1.trans (h3.mono hb1.size)⟩
end Cod
namespace Cod
open Go Go.RowKit Go.Proofs
set_option maxRecDepth 100000
def Ze1 (P:Program) (E:Env) (f:Nat) (g:List AV→Option AV):Prop :=
  ∀ (args:List AV) (v:AV) (vs:List Value) (La:Lay) (w:World),g args=some v→VRL (ctx [] La w) args vs→Rel E w (I0 [] La) [] La [] La w →
    Zlb P f vs.toArray w (fun z w'=>(∀ c,VR c v z)∧Below w.heap.size w w')
theorem Zc3 {P:Program} {E:Env} {f:Nat} {g:List AV→Option AV} (h:Ze1 P E f g):Zfy P E f (Q8 g):=by
  intro args σa v σr hk La w vs hr hv _
  unfold Q8 at hk
  cases σa with
  | nil =>
    simp only [Yo2,if_true,Ynd,Prod.mk.injEq] at hk
    obtain ⟨v',hg,rfl,rfl⟩:=hk
    exact (h args v' vs La w hg hv hr).mono fun z w' ⟨hz,hb⟩=>⟨La,Zgr hr hb,hz _⟩
  | cons=>simp at hk
theorem Ykx {E:Env} (hE:E.glob=T3):Ze1 Tryz.prog E F.strconv_Itoa Zv8:=by
  intro args v vs La w hg hv hr
  unfold Zv8 at hg
  split at hg
  · rename_i n
    split at hg
    · rename_i hn
      cases hg
      simp only [VRL,VR] at hv
      obtain ⟨x,r,rfl,rfl,rfl⟩:=hv
      have ht:Lib.TabIs Tryz.prog w "internal/strconv.uint64pow10" .u64 Lib.pow10Tab := by
        have:=hr.glob G.Za7
        rw [hE] at this
        exact Zv0 this (by kernel_rfl) (by simp [Lib.pow10Tab])
      refine M1 Tryz.func77 (by rfl) (by kernel_rfl) ((Tryz.strconv_Itoa n hn.1 hn.2 w ht).mono fun e w' ⟨he,k,os,hw⟩=>?_)
      subst hw
      exact ⟨_,he,fun c=>by simp [VR],Lib.below_grow _ _ (Ym7 _) _ _⟩
    · cases hg
  · cases hg
theorem Zf1 {E:Env} (hE:E.glob=T3) {w:World} {La:Lay} (hr:Rel E w (I0 [] La) [] La [] La w) {g:Nat} {k:Option IntKind} (hg:T3 g=[.any k]):∃ ev,w.cell? ⟨g,0,none⟩=some ev∧Z93 k ev:=by
  have:=(hr.glob g).1
  rw [hE,hg] at this
  simp only [Zhb,VR,VRC] at this
  obtain ⟨_,b,o,h1,_,_,⟨v,h2,h3⟩,_⟩:=this
  simp only [Value.pointer.injEq,Option.some.injEq,Addr.mk.injEq] at h1
  obtain ⟨rfl,h1,_⟩:=h1
  have ho:o=0:=by omega
  subst ho
  exact ⟨v,h2,h3⟩
theorem Yky {E:Env} (hE:E.glob=T3):Ze1 Tryz.prog E F.S5 Zv9:=by
  intro args v vs La w hg hv hr
  unfold Zv9 at hg
  split at hg
  · rename_i s
    split at hg
    · rename_i hn
      cases hg
      simp only [VRL,VR] at hv
      obtain ⟨x,r,rfl,rfl,rfl⟩:=hv
      have hsz:(⟨s.toArray⟩:ByteArray).size=s.length:=by simp [ByteArray.size]
      unfold Zha
      split
      · rename_i v hx
        refine M1 Tryz.func151 (by rfl) (by kernel_rfl) ((Any.strconv_Atoi_ok Tryz.laysC172 ⟨s.toArray⟩ (by rw [hsz];omega) v hx w).mono fun e w' ⟨he,hw⟩=>?_)
        refine ⟨_,he,fun c=>by simp [VR,VRL],?_⟩
        rcases hw with rfl|⟨t,rfl⟩
        · exact Below.refl _ _
        · exact Lib.bytesWorld_below _ _ _
      · rename_i hx
        obtain ⟨ev,h1,h2⟩:=Zf1 hE hr (g:=G.Zcr) (k:=none) rfl
        refine M1 Tryz.func151 (by rfl) (by kernel_rfl) ((Any.strconv_Atoi_range Tryz.laysC172 ⟨s.toArray⟩ (by rw [hsz];omega) hx ev w h1 h2).mono fun e w' ⟨N,he,_,_,hb⟩=>?_)
        refine ⟨_,he,fun c=>?_,hb⟩
        simp only [VR,VRL]
        exact ⟨_,rfl,_,_,rfl,rfl,_,_,rfl,⟨_,rfl,trivial⟩,rfl⟩
      · rename_i hx1 hx2
        obtain ⟨ev,h1,h2⟩:=Zf1 hE hr (g:=G.Zcq) (k:=none) rfl
        refine M1 Tryz.func151 (by rfl) (by kernel_rfl) ((Any.strconv_Atoi_syntax Tryz.laysC172 ⟨s.toArray⟩ (by rw [hsz];omega) (by
          cases hc:Lib.atoiAll s with
          | ok v=>exact absurd hc (hx1 v)
          | range=>exact absurd hc hx2
          | _=>rfl) ev w h1 h2).mono fun e w' ⟨N,he,_,_,hb⟩=>?_)
        refine ⟨_,he,fun c=>?_,hb⟩
        simp only [VR,VRL]
        exact ⟨_,rfl,_,_,rfl,rfl,_,_,rfl,⟨_,rfl,trivial⟩,rfl⟩
    · cases hg
  · cases hg
theorem Ykz {E:Env} (hE:E.glob=T3):Ze1 Tryz.prog E F.R9 Zou:=by
  intro args v vs La w hg hv hr
  unfold Zou at hg
  split at hg
  · rename_i s
    split at hg
    · rename_i hn
      cases hg
      simp only [VRL,VR] at hv
      obtain ⟨x,r,rfl,rfl,y,r2,rfl,rfl,z,r3,rfl,rfl,rfl⟩:=hv
      have hsz:(⟨s.toArray⟩:ByteArray).size=s.length:=by simp [ByteArray.size]
      obtain ⟨ev1,h1,k1⟩:=Zf1 hE hr (g:=G.Zcq) (k:=none) rfl
      obtain ⟨ev2,h2,k2⟩:=Zf1 hE hr (g:=G.Zcr) (k:=none) rfl
      refine M1 Tryz.func50 (by rfl) (by kernel_rfl) ((Z1e Tryz.laysC174 ⟨s.toArray⟩ (by rw [hsz];omega) ev1 ev2 w h1 k1 h2 k2).mono fun e w' ⟨⟨ev,he,hev⟩,hb⟩=>?_)
      refine ⟨_,he,fun c=>?_,hb⟩
      simp only [Zwa,VR,VRL]
      refine ⟨_,rfl,_,_,rfl,rfl,_,_,rfl,?_,rfl⟩
      rcases hev with ⟨h3,rfl⟩|⟨h3,v,rfl⟩
      · rw [if_pos h3];simp [VR]
      · rw [if_neg h3];exact ⟨_,rfl,trivial⟩
    · cases hg
  · cases hg
theorem Yk0 {E:Env}:Ze1 Tryz.prog E F.strings_LastIndex Zwb:=by
  intro args v vs La w hg hv hr
  unfold Zwb at hg
  split at hg
  · rename_i s t
    split at hg
    · rename_i hn
      cases hg
      simp only [VRL,VR] at hv
      obtain ⟨x,r,rfl,rfl,y,r2,rfl,rfl,rfl⟩:=hv
      have hsz:(⟨s.toArray⟩:ByteArray).size=s.length:=by simp [ByteArray.size]
      refine M1 Tryz.func174 (by rfl) (by kernel_rfl) ((Tryz.strings_LastIndex ⟨s.toArray⟩ ⟨t.toArray⟩ (by rw [hsz];exact hn) w).mono fun e w' ⟨he,hw⟩=>?_)
      subst hw
      exact ⟨_,he,fun c=>by simp [VR],Below.refl _ _⟩
    · cases hg
  · cases hg
theorem Zwi {E:Env} (hE:E.glob=T3):Ze1 Tryz.prog E F.strings_Contains Zea:=by
  intro args v vs La w hg hv hr
  unfold Zea at hg
  split at hg
  · rename_i s t
    split at hg
    · rename_i hn
      cases hg
      simp only [VRL,VR] at hv
      obtain ⟨x,r,rfl,rfl,y,r2,rfl,rfl,rfl⟩:=hv
      have hsz:(⟨s.toArray⟩:ByteArray).size=s.length:=by simp [ByteArray.size]
      obtain ⟨ev,h1,m,rfl⟩:=Zf1 hE hr (g:=G.U9) (k:=some .i64) rfl
      refine M1 Tryz.func101 (by rfl) (by kernel_rfl) ((Tryz.strings_Contains ⟨s.toArray⟩ ⟨t.toArray⟩ m w (by rw [hsz];exact hn) h1).mono fun e w' ⟨he,hw⟩=>?_)
      subst hw
      exact ⟨_,he,fun c=>by simp [VR],Below.refl _ _⟩
    · cases hg
  · cases hg
end Cod
namespace Cod
open Go Go.RowKit Go.Proofs
set_option maxRecDepth 100000
set_option maxHeartbeats 2000000
theorem Z3t {E:Env} (hE:E.glob=T3):∀ p∈Zsn,Zfy Tryz.prog E p.1 p.2:=by
  unfold Zsn
  refine List.forall_mem_cons.2 ⟨Zc3 (Zwi hE),?_⟩
  refine List.forall_mem_cons.2 ⟨Zc3 (Ykx hE),?_⟩
  refine List.forall_mem_cons.2 ⟨Zc3 (Yky hE),?_⟩
  refine List.forall_mem_cons.2 ⟨show Zfy Tryz.prog E F.R9 (Q8 Zou) from Zc3 (Ykz hE),?_⟩
  refine List.forall_mem_cons.2 ⟨Zc3 Yk0,?_⟩
  refine List.forall_mem_cons.2 ⟨show Zfy Tryz.prog E F.Za5 (Q8 Zbp) from Zwf Yet,?_⟩
  refine List.forall_mem_cons.2 ⟨show Zfy Tryz.prog E F.U8 (Q8 Zi1) from Zwf Z7y,?_⟩
  exact fun p h=>nomatch h
end Cod
namespace Cod
open Go
def Zov:List (Nat × (List AV→A1→Option (AV × A1))):=Zsn
def E1:Env:=⟨I4,fun f=>Zov.lookup f,T3⟩
theorem Yeu {cs:List AV} {n:Nat}:Zfa 1 (.lst cs (n+1))=.ret false:=rfl
theorem Z70 {l:List UInt8} {n:Nat} (hn:n=l.length) (h1:1≤n) (h2:n≤140737488355328):S E1 F.K3 [.lst (A0 l) n] []=some (.buf (.r 0) 0 0 n 1,[(.r 0,⟨0,true,true,false,A0 l⟩)]):=by
  obtain ⟨m,rfl⟩:∃ m,n=m+1:=⟨n-1,by omega⟩
  rw [show S E1 F.K3 [.lst (A0 l) (m+1)] []=X E1 L.K3.results [.c L.K3.code] ⟨params 0 [.lst (A0 l) (m+1)],[]⟩ from S_fn rfl Zrm rfl]
  simp -dsimp (disch:=first|omega|(simp only [A4]<;>omega)|fail) only [L.K3,go_sem,reduceIte,reduceCtorEq,B9,C0,C1,C2,C3,C4,C5,C6,C7,C8,C9,D0,D1,D2,D3,D4,D5,D6,D7,A3,BYs,Yeu]
end Cod
namespace Cod
open Go Go.RowKit Go.Proofs
set_option maxRecDepth 100000
theorem Z71 (w:World):Calls Tryz.prog 80 #[.slice none 0 0] w (fun e w'=>e=.returned (.slice none 0 0)∧w'=w):=by
  refine calls_of_wp Tryz.func80 rfl ?_
  simp only [Tryz.ntmps80,Yng,Ynn,Yok,Nat.reduceAdd,Nat.reduceSub,Yo4,Yo5,Yo6,Yo7,Yoz,Yna]
  have e1:∀ W:World,(binOp .eql 23 (.slice none 0 0) (.slice none 0 0)).run Tryz.prog W=.ok (.bool true) W:=fun W=>by kernel_rfl
  go_wp2
  refine bodyPost_ret (results_tmp rfl _ _ _) rfl ?_
  exact ⟨rfl,rfl⟩
theorem Z1f (w:World) (b o cap:Nat):Calls Tryz.prog 80 #[.slice (some ⟨b,o,none⟩) 0 cap] w (fun e w'=>∃ g,e=.returned (.slice (some ⟨g,0,none⟩) 0 0)∧w.heap.size≤g∧Below w.heap.size w w'∧∃ cs el,w'.heap[g]? = some (.cells cs el (0,0))):=by
  refine calls_of_wp Tryz.func80 rfl ?_
  simp only [Tryz.ntmps80,Yng,Ynn,Yok,Nat.reduceAdd,Nat.reduceSub,Yo4,Yo5,Yo6,Yo7,Yoz,Yna]
  have e1:∀ W:World,(binOp .eql 23 (.slice (some ⟨b,o,none⟩) 0 cap) (.slice none 0 0)).run Tryz.prog W=.ok (.bool false) W:=fun W=>by kernel_rfl
  go_wp2
  refine bodyPost_ret (results_tmp rfl _ _ _) rfl ?_
  exact ⟨_,rfl,Ym7 _,(Below.refl _ w).alloc (Ym7 _) _,_,_,heap_alloc_new w _⟩
theorem Z72:Zep Tryz.prog E1:=fun f h hf=>Z3t (E:=E1) rfl (f,h) (Zfz (show Zov.lookup f=some h from hf))
theorem Yk1:Zky Tryz.prog E1:=Zml (by kernel_rfl) Z00 (fun _=>rfl)
theorem Zwj {E E':Env} (hE:E'.glob=E.glob) {w0:World} {O0:Nat→Prop} {σ0:A1} {L0:Lay} {σ:A1} {L:Lay} {w:World} (h:Rel E w0 O0 σ0 L0 σ L w):Rel E' w0 O0 σ0 L0 σ L w :=
  ⟨h.store,h.keep,h.own,fun n=>by rw [hE];exact h.glob n,h.ups,h.src,h.lf,h.f0⟩
theorem Yev {E:Env} (hE:E.glob=T3):Zfy Tryz.prog E F.K3 Zmx:=by
  intro args σa v σr hk La w vs hr hv hup
  unfold Zmx at hk
  split at hk
  · rename_i cs n
    split at hk
    · rename_i hc
      cases hk
      obtain ⟨hl,hbig,hs⟩:=hc
      obtain ⟨l,rfl⟩:=Zi2 hs
      rw [D8] at hl
      by_cases h1:1≤n
      · have:=Zhi Z72 Yk1 (Z70 (l:=l) (n:=n) hl.symm h1 hbig) La (Zwj (E:=E) (E':=E1) hE.symm hr) hv
        refine this.mono fun y w' ⟨La',k1,k2⟩=>⟨La',?_,k2⟩
        exact Zwj hE k1
      · obtain rfl:n=0:=by omega
        have hxs:l=[]:=Ynv hl
        subst hxs
        simp only [VRL,VR] at hv
        obtain ⟨x,r,rfl,⟨_,hx⟩,rfl⟩:=hv
        rcases hx with ⟨_,_,rfl⟩|⟨b,o,cap,rfl,_,_,_,_⟩
        · refine M1 Tryz.func80 (by rfl) (by kernel_rfl) ((Z71 w).mono fun e w' ⟨he,hw⟩=>?_)
          subst hw
          exact ⟨_,he,Z3s (xs:=[]) hr (Below.refl _ _) (e:=5) ⟨by simp,.inl ⟨rfl,rfl⟩⟩⟩
        · refine M1 Tryz.func80 (by rfl) (by kernel_rfl) ((Z1f w b o cap).mono fun e w' ⟨g,he,hg,hbel,cs,el,hcell⟩=>?_)
          refine ⟨_,he,_,Zgs hr hbel (pos:=some (g,0)) (fun g' o hh=>by cases hh;exact hg) ?_,?_⟩
          · simp only [V6,ctx,if_true]
            exact .inl ⟨⟨cs,el,(0,0),hcell,Nat.zero_le _,.inl rfl⟩,by simp [A0,VRC]⟩
          · simp only [VR]
            refine ⟨rfl,0,true,rfl,Ym7 _,fun _ _=>?_⟩
            simp only [M5,ctx,if_true]
            exact .inl ⟨trivial,⟨cs,el,(0,0),hcell,Nat.zero_le _⟩,0,rfl⟩
    · cases hk
  · cases hk
end Cod
namespace Cod
open Go Go.RowKit Go.Proofs Go.Shelf
set_option maxRecDepth 100000
theorem Yk2 {E:Env} (hE:E.glob=T3):∀ p∈Zgq,Zfy Tryz.prog E p.1 p.2:=by
  unfold Zgq
  refine List.forall_mem_cons.2 ⟨Yev hE,?_⟩
  exact Z3t hE
def LaE:Lay:=⟨fun _=>none,fun _=>False⟩
def Y5 (W:World):Prop:=∀ n,GV (ctx [] LaE W) n (T3 n)
theorem Zwk {E:Env} (hE:E.glob=T3) {w:World} {La:Lay} (hr:Rel E w (I0 [] La) [] La [] La w):Y5 w:=by
  intro n
  have:=hr.glob n
  rw [hE] at this
  refine Zuf ?_ this
  refine ⟨fun s g0 al h=>by simp [ctx,Zue,B0] at h,fun b _ h=>?_,fun b _ _=>rfl,fun _ _ h=>h,Ym7 _⟩
  rcases h with ⟨s,e,o,he,_⟩|h
  · simp [B0] at he
  · exact h.elim
theorem Y5.below {w W:World} (h:Y5 w) (hb:Below w.heap.size w W):Y5 W:=fun n=>Zuf (Zec hb) (h n)
theorem Y5.rel {W:World} (h:Y5 W):Rel E0 W (I0 [] LaE) [] LaE [] LaE W :=
  ⟨⟨fun s e he=>by simp [B0] at he,fun s s' e e' b o o' he=>by simp [B0] at he⟩,Keep.refl _ _,fun b hb=>.inl hb,h,fun x e he=>by simp [B0] at he,fun b hb=>.inl hb,rfl,fun b hb=>hb.elim⟩
theorem Z1g {W W':World} (h:Keep (I0 [] LaE) W W'):Below W.heap.size W W' :=
  ⟨h.os,h.tape,h.output,h.size,fun b hb=>h.block b hb (fun ⟨s,e,o,he,_⟩=>by simp [B0] at he)⟩
end Cod

/- Arguments of plain data, read as the rows read them: their abstract values. -/
import Derived.OpenShut
import Derived.Deep.Slices
import Derived.DataReads
import Derived.Carry
import Derived.Below
import Derived.Lib.LaidTab
import Derived.ChangeMaps
import Derived.WalkKit
import Derived.ProofKit
import Derived.Deep.DeepHandedRow
import Derived.Lib.AtoiAll
import Derived.Lib.ItoaNum
import Derived.Lib.BytesEntry
import Derived.Laws.AppendOwn
import Derived.Test.YthlnjgdoodjgoaaGreatDoorChecked
import Derived.Laws.Externs
import Derived.Shelf.Strconv.ParseUint10At
import Derived.Lib.Hide
import Derived.Laws.Closers25b
import Derived.Shelf.Strconv.ErrVarParseInt
import Derived.Lib.IfaceNeq
import Derived.Lib.AppendIntMem
import Derived.Test.YthlnjgdoodjgoaaGreatDoorXCod5
import Derived.Test.YthlnjgdoodjgoaaGreatDoorXLit3
import Derived.Test.YthlnjgdoodjgoaaGreatDoorXCod6
import Derived.Test.YthlnjgdoodjgoaaGreatDoorXShelf1
set_option linter.unusedSimpArgs false
set_option linter.unusedVariables false
open List renaming append_toArray → Yft, cons_append → Ydw, drop_drop → Yer, drop_succ_cons → Yfi, drop_zero → Yfc, eq_nil_of_length_eq_zero → Yeh, flatten_cons → Yfb, isEmpty_nil → Yfo, length_cons → Yd9, length_drop → Yd1, length_map → Yfh, length_nil → Ye6, length_take → Yd0, map_drop → Yfj, map_take → Yfk, mem_of_mem_drop → Yff, mem_of_mem_take → Yfg, nil_append → Yfl, push_toArray → Yfs, size_toArray → Yd2, take_append_drop → Yfe, take_of_length_le → Yej
open Nat renaming le_refl → Ydt, lt_or_ge → Ydx, min_eq_left → Yfm, mul_one → Yfn, succ_mul → Yfd, zero_add → Yen
open Bool renaming and_eq_true → Yd8
open Option renaming bind_some → Ydq, map_eq_some_iff → Ydz
open Array renaming eq_empty_of_size_eq_zero → Yfp, replicate_succ → Yfq, replicate_zero → Yfr
open Nat renaming reduceEqDiff → D1, reduceAdd → D2, reduceSub → D3, reduceMul → D4, reduceDiv → D5, reduceMod → D6, reduceBEq → D7, reduceLeDiff → D8, reduceLT → D9
open Int renaming reduceEq → E2, reduceNe → E3, reduceLT → E4, reduceLE → E5, reduceBEq → E6, reduceBNe → E7, reduceToNat → E8, reduceAdd → E9, reduceSub → F0, reduceMul → F1, reduceNeg → A5
namespace Cod
open Go
inductive Ty where
  | int (k:IntKind)
  | bool
  | str
  | nil
  | cat (a b:Ty)
  | rep (n:Nat) (a:Ty)
  | sl (e:Ty)
def Ty.noSl:Ty→Bool
  | .sl _=>false
  | .cat a b=>a.noSl&&b.noSl
  | .rep _ a=>a.noSl
  | _=>true
def Wf:Ty→List AV→Prop
  | .int k,ys0=>∃ n,ys0=[.int k n]∧(Lit.int k n).wf=true
  | .bool,ys0=>∃ b,ys0=[.bool b]
  | .str,ys0=>∃ s,ys0=[.str s]∧s.length≤maxLen
  | .nil,ys0=>ys0=[]
  | .cat a b,ys0=>∃ x y,ys0=x++y∧Wf a x∧Wf b y
  | .rep n a,ys0=>∃ r:List (List AV),ys0=r.flatten∧r.length=n∧∀ x∈r,Wf a x
  | .sl e,ys0=>∃ r:List (List AV),ys0=[.lst r.flatten r.length]∧r.length≤maxLen∧∀ x∈r,Wf e x
def Zdf (P:Program) (rec:TypeId→Option Ty) (total:Nat):Nat→List Field→Option Ty
  | off,[]=>if off=total then some .nil else none
  | off,f::fs=>if f.offset=off then match rec f.type,Zdf P rec total (off+P.cellsOf f.type) fs with
    | some a,some b=>some (.cat a b)
    | _,_=>none
    else none
def Zga (P:Program) (t:TypeId) (T:Ty):Option Ty:=if P.cellsOf t=1 then some T else none
def Znc (P:Program):Nat→TypeId→Option Ty
  | 0,_=>none
  | d+1,t=>match P.underlying t with
    | some .bool=>Zga P t .bool
    | some (.int k)=>Zga P t (.int k)
    | some .string=>Zga P t .str
    | some (.slice e)=>if P.cellsOf e=0 then none else match Znc P d e with
      | some T=>if T.noSl then Zga P t (.sl T) else none
      | none=>none
    | some (.struct fs)=>Zdf P (Znc P d) (P.cellsOf t) 0 fs.toList
    | some (.array n e)=>if P.cellsOf t=n*P.cellsOf e then (Znc P d e).map (.rep n ·) else none
    | _=>none
/- The bulk that a reading has, and an abstract value's. -/
mutual
def M1 {H:Type}:DataW H→Nat
  | .lit (.string bytes)=>bytes.length+1
  | .lit _=>1
  | .nil=>1
  | .ptr d=>M1 d+1
  | .slice elems spare=>dbulkAll elems+dbulkAll spare+1
  | .agg parts=>dbulkAll parts+1
  | .iface _ d=>M1 d+1
  | .map entries=>dbulkEntries entries+1
  | .held _=>1
def dbulkAll {H:Type}:List (DataW H)→Nat
  | []=>0
  | d::r=>M1 d+dbulkAll r
def dbulkEntries {H:Type}:List (Lit × DataW H)→Nat
  | []=>0
  | x::r=>dbulkEntry x+dbulkEntries r
def dbulkEntry {H:Type}:Lit × DataW H→Nat
  | (.string bytes,d)=>bytes.length+M1 d+1
  | (_,d)=>M1 d+1
end
mutual
def Zdg:AV→Nat
  | .str s=>s.length+1
  | .lst cs n=>max (abulks cs) n+1
  | .agg cs=>abulks cs
  | _=>1
def abulks:List AV→Nat
  | []=>0
  | a::r=>Zdg a+abulks r
end
theorem Zcj (a b:List AV):abulks (a++b)=abulks a+abulks b:=by
  induction a with
  | nil=>simp [abulks]
  | cons x a ih=>simp only [Ydw,abulks,ih];omega
theorem Zff {H:Type}:∀ (r:List (List AV)) (ds:List (DataW H)),r.length=ds.length→(∀ (i:Nat) (x:List AV) (d:DataW H),r[i]? = some x→ds[i]? = some d→abulks x≤M1 d)→abulks r.flatten≤dbulkAll ds:=by
  intro r
  induction r with
  | nil=>intro ds h _;cases ds with|nil=>simp [abulks,dbulkAll]|cons=>simp at h
  | cons x r ih =>
    intro ds h hx
    cases ds with
    | nil=>simp at h
    | cons d ds =>
      simp only [Yfb,Zcj,dbulkAll]
      have h1:=hx 0 x d (by simp) (by simp)
      have h2:=ih ds (by simpa using h) (fun i y e hy he=>hx (i+1) y e (by simpa using hy) (by simpa using he))
      omega
theorem Znd {H:Type} (d:DataW H):1≤M1 d:=by
  cases d with
  | lit l=>cases l<;>simp [M1]
  | _=>simp [M1]
theorem Zne {H:Type}:∀ (l:List (DataW H)),l.length≤dbulkAll l:=by
  intro l
  induction l with
  | nil=>simp
  | cons d l ih=>have:=Znd d;simp only [dbulkAll,Yd9];omega
theorem Zfg:∀ {r:List (List AV)},(∀ x∈r,flats x=true)→flats r.flatten=true:=by
  intro r
  induction r with
  | nil=>intro _;simp [flats]
  | cons x r ih=>intro h;rw [Yfb,Zet,h x (by simp),ih (fun y hy=>h y (by simp [hy]))];rfl
theorem Zw3 {p:Nat→List AV→Prop}:∀ (n:Nat),(∀ i,i<n→∃ ys0,p i ys0)→∃ r:List (List AV),r.length=n∧∀ i x,r[i]? = some x→p i x:=by
  intro n
  induction n with
  | zero=>intro _;exact ⟨[],rfl,fun i x h=>by simp at h⟩
  | succ n ih =>
    intro h
    obtain ⟨r,h1,h2⟩:=ih (fun i hi=>h i (by omega))
    obtain ⟨a,ha⟩:=h n (by omega)
    refine ⟨r++[a],by simp [h1],fun i x hx=>?_⟩
    rcases Ydx i r.length with hi|hi
    · rw [List.getElem?_append_left hi] at hx;exact h2 i x hx
    · rw [List.getElem?_append_right hi] at hx
      have:i=r.length:=by
        rcases Ydx (i-r.length) 1 with h3|h3
        · omega
        · rw [List.getElem?_eq_none (by simpa using h3)] at hx;cases hx
      subst this
      simp at hx
      subst hx
      rw [h1];exact ha
theorem Zqi {c:Ctx} {z:Nat}:∀ (r:List (List AV)) (cs:List Value),cs.length=r.length*z→(∀ i x,r[i]? = some x→VRL c x ((cs.drop (i*z)).take z))→VRL c r.flatten cs:=by
  intro r
  induction r with
  | nil=>intro cs h _;simp at h;subst h;simp [VRL]
  | cons x r ih =>
    intro cs h hx
    have h0:=hx 0 x (by simp)
    simp only [Nat.zero_mul,Yfc] at h0
    have h1:=ih (cs.drop z) (by rw [Yd1,h,Yd9,Yfd];omega) (fun i y hy=>by
      have:=hx (i+1) y (by simpa using hy)
      rw [Yer,show z+i*z=(i+1)*z by rw [Yfd];omega]
      exact this)
    rw [Yfb,←Yfe z cs]
    exact S4 h0 h1
theorem Zu0 {c:Ctx} {b o:Nat}:∀ {xs:List AV} {vs:List Value},VRL c xs vs→(∀ i v,vs[i]? = some v→c.w.cell? ⟨b,o+i,none⟩=some v)→VRC c b o xs:=by
  intro xs vs h hc
  refine S5 fun i x hx=>?_
  obtain ⟨v,h1,h2⟩:=Zav h hx
  exact ⟨v,hc i v h1,h2⟩
theorem Zu1 {c:Ctx} {b:Nat}:∀ {o:Nat} {xs ys:List AV},VRC c b o xs→VRC c b (o+xs.length) ys→VRC c b o (xs++ys):=by
  intro o xs
  induction xs generalizing o with
  | nil=>intro ys _ h;simpa using h
  | cons x xs ih =>
    intro ys h k
    simp only [VRC] at h
    simp only [Ydw,VRC]
    refine ⟨h.1,ih h.2 ?_⟩
    rw [show o+1+xs.length=o+(x::xs).length by simp;omega]
    exact k
theorem Zqj {c:Ctx} {b z:Nat}:∀ {o:Nat} (r:List (List AV)),(∀ x∈r,x.length=z)→(∀ i x,r[i]? = some x→VRC c b (o+i*z) x)→VRC c b o r.flatten:=by
  intro o r
  induction r generalizing o with
  | nil=>intro _ _;simp [VRC]
  | cons x r ih =>
    intro hl hx
    rw [Yfb]
    refine Zu1 (by simpa using hx 0 x (by simp)) (ih (fun y hy=>hl y (by simp [hy])) fun i y hy=>?_)
    rw [hl x (by simp),show o+z+i*z=o+(i+1)*z by rw [Yfd];omega]
    exact hx (i+1) y (by simpa using hy)
def Placed (w:World) (cs:List Value):Prop:=∀ a n m,Value.slice (some a) n m∈cs→a.spot=none∧a.block<w.heap.size
section
variable {H:Type} {enc:TypeId × Value→H} {P:Program} {base:Nat} {held:Bool} {c:Ctx}
theorem Zbq {t:TypeId} {T U:Ty} (h:Zga P t T=some U):P.cellsOf t=1∧U=T:=by
  unfold Zga at h
  split at h
  · exact ⟨by assumption,(Option.some.inj h).symm⟩
  · cases h
def Got (c:Ctx) (P:Program) (t:TypeId) (T:Ty) (cs:List Value) (d:DataW H):Prop :=
  ∃ ys0,VRL c ys0 cs∧Wf T ys0∧flats ys0=true∧abulks ys0≤M1 d∧cs.length=P.cellsOf t
theorem Zu2 {rec:TypeId→Option Ty} {tr:TypeId→List Value→Option (DataW H × List MemPlace)} {total:Nat} {cs:List Value} (hcs:cs.length=total):∀ (fs:List Field) (off:Nat) (T:Ty) (xs:List (DataW H × List MemPlace)),
    Zdf P rec total off fs=some T→xs.length=fs.length→(∀ (i:Nat) (f:Field),fs[i]? = some f→tr f.type ((cs.drop f.offset).take (P.cellsOf f.type))=xs[i]?) →
    (∀ (t:TypeId) (U:Ty) (us:List Value) (x:DataW H × List MemPlace),(∀ v∈us,v∈cs)→(T.noSl=true→U.noSl=true)→rec t=some U→tr t us=some x→Got c P t U us x.1)→off≤total →
    ∃ ys0,VRL c ys0 (cs.drop off)∧Wf T ys0∧flats ys0=true∧abulks ys0≤dbulkAll (xs.map (·.1)):=by
  intro fs
  induction fs with
  | nil =>
    intro off T xs h hl _ _ ho
    simp only [Zdf] at h
    split at h
    · cases h
      have:cs.drop off=[]:=by rw [List.drop_eq_nil_iff];omega
      rw [this]
      exact ⟨[],by simp [VRL],by simp [Wf],by simp [flats],by simp [abulks]⟩
    · cases h
  | cons f fs ih =>
    intro off T xs h hl hx hrec ho
    simp only [Zdf] at h
    split at h
    · rename_i hoff
      split at h
      · rename_i A B hA hB
        cases h
        cases xs with
        | nil=>simp at hl
        | cons x xs =>
          have h0:=hx 0 f (by simp)
          simp only [List.getElem?_cons_zero] at h0
          obtain ⟨ys0,k1,k2,k3,k4,k5⟩:=hrec f.type A _ x (fun v hv=>Yff (Yfg hv)) (fun hn=>by simp only [Ty.noSl,Yd8] at hn;exact hn.1) hA h0
          rw [hoff] at k1 k5
          simp only [Yd0,Yd1] at k5
          have hle:off+P.cellsOf f.type≤total:=by omega
          obtain ⟨bs,l1,l2,l3,l4⟩:=ih (off+P.cellsOf f.type) B xs hB (by simpa using hl) (fun i g hg=>by have:=hx (i+1) g (by simpa using hg);simpa using this)
            (fun t U us y hus hn=>hrec t U us y hus (fun hn'=>hn (by simp only [Ty.noSl,Yd8] at hn';exact hn'.2))) hle
          refine ⟨ys0++bs,?_,⟨ys0,bs,rfl,k2,l2⟩,by rw [Zet,k3,l3];rfl,?_⟩
          · rw [←Yfe (P.cellsOf f.type) (cs.drop off),Yer]
            exact S4 k1 l1
          · simp only [Zcj,List.map_cons,dbulkAll];omega
      · cases h
    · cases h
theorem Zw4 (hO:∀ b,¬ c.O b):∀ (d:Nat) (t:TypeId) (T:Ty) (fuel:Nat) (cs:List Value) (x:DataW H × List MemPlace),Znc P d t=some T→(T.noSl=true∨Placed c.w cs) →
    DataW.trod enc P c.w base (fun _=>true) held fuel t cs=some x→Got c P t T cs x.1:=by
  intro d
  induction d with
  | zero=>intro t T fuel cs x h;simp [Znc] at h
  | succ d ih =>
    intro t T fuel cs x hT hp h
    unfold Znc at hT
    cases hu:P.underlying t with
    | none=>rw [hu] at hT;simp at hT
    | some u =>
      rw [hu] at hT
      cases u with
      | bool =>
        obtain ⟨hc,rfl⟩:=Zbq hT
        obtain ⟨b,rfl,rfl⟩:=DataW.trod_bool hu h
        exact ⟨[.bool b],Zbl (by simp [VR]),⟨b,rfl⟩,by simp [flats,J6],by simp [abulks,Zdg,M1],by simp [hc]⟩
      | int k =>
        obtain ⟨hc,rfl⟩:=Zbq hT
        obtain ⟨n,rfl,rfl,hw⟩:=DataW.trod_int hu h
        exact ⟨[.int k n],Zbl (by simp [VR]),⟨n,rfl,hw⟩,by simp [flats,J6],by simp [abulks,Zdg,M1],by simp [hc]⟩
      | string =>
        obtain ⟨hc,rfl⟩:=Zbq hT
        obtain ⟨s,rfl,rfl,hs⟩:=DataW.trod_string hu h
        exact ⟨[.str s.data.toList],Zbl (by simp [VR]),⟨_,rfl,by simpa using hs⟩,by simp [flats,J6],by simp [abulks,Zdg,M1],by simp [hc]⟩
      | slice e =>
        simp only at hT
        split at hT
        · cases hT
        · rename_i hz
          split at hT
          · rename_i U hU
            split at hT
            · rename_i hns
              obtain ⟨hc,rfl⟩:=Zbq hT
              rcases Go.Deep.open_slice hu h with ⟨rfl,rfl⟩|⟨a,len,cap,m,n,D,Pl,rfl,_,hl,hm,hmm,rfl,hx⟩
              · exact ⟨[.lst [] 0],Zbl (by simp [VR,flats]),⟨[],by simp,by simp,by simp⟩,by simp [flats,J6],by simp [abulks,Zdg,M1],by simp [hc]⟩
              · simp only [if_true] at hmm
                subst hmm
                obtain ⟨hsp,hblk⟩:=(hp.resolve_left (by simp [Ty.noSl])) a len m (by simp)
                obtain ⟨r,hr1,hr2⟩:=Zw3 (p:=fun i ys0=>∃ cs',c.w.cells? base (a.add (i*P.cellsOf e)) (P.cellsOf e)=some cs'∧VRL c ys0 cs'∧Wf U ys0∧flats ys0=true∧abulks ys0≤M1 (D i)∧cs'.length=P.cellsOf e) len (fun i hi=>by
                  obtain ⟨cs',h1,h2⟩:=hx i (by omega)
                  obtain ⟨ys0,g⟩:=ih e U n cs' _ hU (.inl hns) h2
                  exact ⟨ys0,cs',h1,g⟩)
                have hlen:∀ x∈r,x.length=P.cellsOf e:=by
                  intro x hx
                  obtain ⟨i,hi⟩:=List.mem_iff_getElem?.1 hx
                  obtain ⟨cs',_,k1,_,_,_,k2⟩:=hr2 i x hi
                  rw [←G4 k1];exact k2
                refine ⟨[.lst r.flatten r.length],Zbl ?_,⟨r,rfl,by omega,fun x hx=>?_⟩,?_,?_,by simp [hc]⟩
                · simp only [VR]
                  refine ⟨Zfg fun x hx=>?_,.inr ⟨a.block,a.off,m,?_,by omega,hblk,hO _,?_⟩⟩
                  · obtain ⟨i,hi⟩:=List.mem_iff_getElem?.1 hx
                    obtain ⟨_,_,_,_,k,_⟩:=hr2 i x hi
                    exact k
                  · rw [hr1]
                    obtain ⟨b,o,s⟩:=a
                    simp only at hsp
                    subst hsp
                    rfl
                  · refine Zqj r hlen fun i x hx=>?_
                    obtain ⟨cs',k0,k1,_,_,_,k2⟩:=hr2 i x hx
                    refine Zu0 k1 fun j v hj=>?_
                    obtain ⟨_,_,hcell⟩:=World.cells?_some k0
                    have hjl:=(List.getElem?_eq_some_iff.1 hj).1
                    have:=hcell j (by omega)
                    rw [hj] at this
                    rw [←this]
                    have ha:(a.add (i*P.cellsOf e)).add j=a.add (i*P.cellsOf e+j):=Go.Deep.add_add _ _ _
                    rw [ha]
                    congr 1
                    unfold Addr.add
                    obtain ⟨b,o,s⟩:=a
                    simp only at hsp
                    subst hsp
                    split
                    · rename_i h0;simp only [Nat.add_assoc,h0,Nat.add_zero]
                    · simp only [Nat.add_assoc]
                · obtain ⟨i,hi⟩:=List.mem_iff_getElem?.1 hx
                  obtain ⟨_,_,_,k,_,_⟩:=hr2 i x hi
                  exact k
                · simp [flats,J6]
                · simp only [abulks,Zdg,M1,Nat.add_zero]
                  have h1:abulks r.flatten≤dbulkAll ((List.range len).map D):=Zff r _ (by simp [hr1]) (fun i x d hi hd=>by
                    obtain ⟨_,_,_,_,_,k,_⟩:=hr2 i x hi
                    have:d=D i:=by
                      rw [List.getElem?_map] at hd
                      obtain ⟨j,hj,rfl⟩:=Option.map_eq_some_iff.1 hd
                      rw [List.getElem?_range (by have:=(List.getElem?_eq_some_iff.1 hi).1;omega)] at hj
                      cases hj;rfl
                    subst this;exact k)
                  have h2:=Zne ((List.range len).map D)
                  simp only [Yfh,List.length_range] at h2
                  omega
            · cases hT
          · cases hT
      | struct fs =>
        simp only at hT
        obtain ⟨xs,n,rfl,rfl,hl,hxl,hx⟩:=DataW.trod_struct hu h
        obtain ⟨ys0,k1,k2,k3,k4⟩:=Zu2 (c:=c) (tr:=fun t cs=>DataW.trod enc P c.w base (fun _=>true) held n t cs) hl fs.toList 0 T xs hT (by simpa using hxl) (fun i f hf=>hx i f (by simpa using hf))
          (fun t' U us y hus hn hr ht=>ih t' U n us y hr (by
            rcases hp with hp|hp
            · exact .inl (hn hp)
            · exact .inr fun a p q hv=>hp a p q (hus _ hv)) ht) (by omega)
        rw [Yfc] at k1
        exact ⟨ys0,k1,k2,k3,by simp only [M1];omega,hl⟩
      | array n e =>
        simp only at hT
        split at hT
        · rename_i hsz
          obtain ⟨U,hU,rfl⟩:=Option.map_eq_some_iff.1 hT
          obtain ⟨xs,m,rfl,rfl,hl,hxl,hx⟩:=DataW.trod_array hu h
          obtain ⟨r,hr1,hr2⟩:=Zw3 (p:=fun i ys0=>∃ y,xs[i]? = some y∧VRL c ys0 ((cs.drop (i*P.cellsOf e)).take (P.cellsOf e))∧Wf U ys0∧flats ys0=true∧abulks ys0≤M1 y.1) n (fun i hi=>by
            have h1:=hx i hi
            rw [List.getElem?_eq_getElem (by omega)] at h1
            obtain ⟨ys0,g1,g2,g3,g4,_⟩:=ih e U m _ _ hU (by
              rcases hp with hp|hp
              · exact .inl hp
              · exact .inr fun a p q hv=>hp a p q (Yff (Yfg hv))) h1
            exact ⟨ys0,_,List.getElem?_eq_getElem (by omega),g1,g2,g3,g4⟩)
          refine ⟨r.flatten,Zqi r cs (by rw [hl,hsz,hr1]) (fun i x hx=>?_),⟨r,rfl,hr1,fun x hx=>?_⟩,Zfg fun x hx=>?_,?_,hl⟩
          · obtain ⟨_,_,k,_⟩:=hr2 i x hx;exact k
          · obtain ⟨i,hi⟩:=List.mem_iff_getElem?.1 hx
            obtain ⟨_,_,_,k,_⟩:=hr2 i x hi;exact k
          · obtain ⟨i,hi⟩:=List.mem_iff_getElem?.1 hx
            obtain ⟨_,_,_,_,k,_⟩:=hr2 i x hi;exact k
          · simp only [M1]
            have:abulks r.flatten≤dbulkAll (xs.map (·.1)):=Zff r _ (by simp [hr1,hxl]) (fun i x d hi hd=>by
              obtain ⟨y,hy,_,_,_,k⟩:=hr2 i x hi
              simp only [List.getElem?_map,hy,Option.map_some,Option.some.injEq] at hd
              subst hd;exact k)
            omega
        · cases hT
      | _=>simp at hT
end
end Cod
namespace Cod
open Go Go.RowKit
theorem Zfh {P:Program} {f:Nat} {fn:Func} {c:Code} {w:World} (hf:P.funcs[f]? = some fn) (hb:fn.body=some c) (hn:(fn.name == "runtime.NumGoroutine")=false) {args:Array Value} {R:Value→World→Prop}
    (h:Zhc P f args w R):Calls P f args w (fun e w'=>∃ y,e=.returned y∧R y w'):=by
  have h1:=h { dst:=some 0,op:=.move (.const undef),type:=0,pos := "",after := #[],guard:=none } ⟨#[undef],[]⟩ (fun a w'=>∃ y,a.tmps[0]? = some y∧R y w') (fun _ _ _=>False) (fun y w' hy=>⟨y,by simp [Act.put],hy⟩)
  have hrun:(callFunc f args).run P w=.ok (.enter f args) w:=by
    have hn2:¬ (fn.name = "runtime.NumGoroutine"):=by simpa using hn
    simp [callFunc,run_program,hf,hn2,hb]
  rw [hrun,Oper.upon_enter] at h1
  refine Calls.mono h1 fun e w' he=>?_
  cases e with
  | returned v =>
    obtain ⟨y,h2,h3⟩:=he
    simp only [Act.put] at h2
    have:v=y:=by simpa using h2
    subst this
    exact ⟨v,rfl,h3⟩
  | panicked ch=>exact he.elim
  | outgrown=>obtain ⟨_,_,h4⟩:=he;exact h4.elim
def La0:Lay:=⟨fun _=>none,fun _=>False⟩
def Zij (E:Env) (w:World):Prop:=∀ n,GV (ctx [] La0 w) n (E.glob n)
theorem own0 {w:World} (b:Nat):¬ (ctx [] La0 w).O b:=by
  rintro (⟨s,e,o,he,_⟩|h)
  · simp [A6] at he
  · exact h
theorem rel0 {E:Env} {w:World} (hg:Zij E w):Rel E w (G7 [] La0) [] La0 [] La0 w where
  store:=⟨fun s e he=>by simp [A6] at he,fun s s' e e' b o o' he=>by simp [A6] at he⟩
  keep:=Keep.refl _ _
  own b hb:=.inl hb
  glob:=hg
  ups x e he:=by simp [A6] at he
  src b hb:=.inl hb
  lf:=rfl
  f0 b hb:=hb.elim
theorem Z08 {P:Program} {E:Env} (hk:Zce P E) (hfn:Zgy P E) {f:Nat} {fn:Func} {c:Code} (hf:P.funcs[f]? = some fn) (hb:fn.body=some c) (hn:(fn.name == "runtime.NumGoroutine")=false)
    {args:List AV} {b:Bool} {σr:A3} (h:S E f args []=some (.bool b,σr)) {w:World} {vs:List Value} (hg:Zij E w) (hv:VRL (ctx [] La0 w) args vs) :
    Calls P f vs.toArray w fun e w'=>e=.returned (.bool b)∧Below w.heap.size w w':=by
  refine (Zfh hf hb hn (Zeg hk hfn h La0 (rel0 hg) hv)).mono fun e w' ⟨y,he,La',hr,hy⟩=>?_
  simp only [VR] at hy
  subst hy
  refine ⟨he,hr.keep.os,hr.keep.tape,hr.keep.output,hr.keep.size,fun k hk=>hr.keep.block k hk ?_⟩
  rintro ⟨s,e,o,he,_⟩
  simp [A6] at he
theorem Zqk {P:Program} {W:World} {name:String} {d:DataW Unit}:∀ {l:List (String × DataW Unit)} {ps:List MemPlace},DataW.LaidVars P W l ps→(name,d)∈l →
    ∃ g t cs fuel p,P.globalNamed name=some g∧(P.globals[g]?).map (·.type)=some t∧W.var? P name=some cs∧DataW.trod (fun _=>()) P W 0 (fun _=>true) false fuel t cs.toList=some (d,p):=by
  intro l
  induction l with
  | nil=>intro ps _ h;simp at h
  | cons x l ih =>
    intro ps h hm
    obtain ⟨n,e⟩:=x
    obtain ⟨g,t,cs,fuel,p,q,h1,h2,h3,h4,h5,_⟩:=h
    rcases List.mem_cons.1 hm with hm|hm
    · cases hm;exact ⟨g,t,cs,fuel,p,h1,h2,h3,h4⟩
    · exact ih h5 hm
theorem Zjz {P:Program} {W:World} {l:List (String × DataW Unit)} (h:laidMetH P l W) {name:String} {d:DataW Unit} (hm:(name,d)∈l) (hd:d.handleName?.isNone=true) :
    ∃ g t cs fuel p,P.globalNamed name=some g∧(P.globals[g]?).map (·.type)=some t∧W.var? P name=some cs∧DataW.trod (fun _=>()) P W 0 (fun _=>true) false fuel t cs.toList=some (d,p):=by
  unfold laidMetH at h
  split at h
  · obtain ⟨ps,h1,_⟩:=h;exact Zqk h1 hm
  · obtain ⟨⟨ps,h1,_⟩,_⟩:=h
    exact Zqk h1 (List.mem_filter.2 ⟨hm,by simpa using hd⟩)
theorem Zbr {P:Program} {W:World} {l:List (String × DataW Unit)} (h:laidMetH P l W) {name:String} {k:IntKind} {zs:List Int} {g:Nat} {t e:TypeId} {n:Nat} (hm:(name,Lib.tabData k zs)∈l)
    (hg:P.globalNamed name=some g) (hty:(P.globals[g]?).map (·.type)=some t) (ht:P.underlying t=some (.array n e)) (he:P.underlying e=some (.int k)) (hce:P.cellsOf e=1) (hct:P.cellsOf t=n):Lib.TabIs P W name k zs:=by
  obtain ⟨g',t',cs,fuel,p,hg',ht',hvar,hd⟩:=Zjz h hm rfl
  obtain rfl:=Option.some.inj (hg.symm.trans hg')
  obtain rfl:=Option.some.inj (hty.symm.trans ht')
  unfold Lib.TabIs
  rw [hvar,←Lib.cells_of_tab ht he hce hct hd]
theorem Zu3 {k:IntKind}:∀ {zs:List Int},flats (zs.map fun z=>AV.int k z)=true:=by
  intro zs
  induction zs with
  | nil=>rfl
  | cons z zs ih=>simp only [List.map_cons,flats,ih,J6];rfl
theorem Yb6 {P:Program} {W:World} {name:String} {k:IntKind} {zs:List Int} {g:Nat} (h:Lib.TabIs P W name k zs) (hg:P.globalNamed name=some g) :
    ∃ cs el fr,W.heap[g]? = some (.cells cs el fr)∧cs.size=(zs.map fun z=>AV.int k z).length:=by
  unfold Lib.TabIs World.var? at h
  rw [hg] at h
  simp only [Ydq] at h
  split at h
  · rename_i cs el fr hc
    cases h
    exact ⟨_,el,fr,hc,by simp⟩
  · cases h
theorem Zql {P:Program} {W:World} {La:Lay} {name:String} {k:IntKind} {zs:List Int} {g:Nat} (h:GV (ctx [] La W) g (zs.map fun z=>AV.int k z)) (hg:P.globalNamed name=some g) (hz:zs≠[]):Lib.TabIs P W name k zs:=by
  obtain ⟨h1,h2⟩:=h
  rcases h2 with h2|⟨cs,el,fr,hc,hs⟩
  · exact absurd (List.map_eq_nil_iff.1 h2) hz
  · rw [show (ctx [] La W).w=W from rfl] at hc
    unfold Lib.TabIs World.var?
    rw [hg]
    simp only [Ydq,hc,Option.some.injEq]
    have hv:VR (ctx [] La W) (.fp (zs.map fun z=>AV.int k z) 0) (.pointer (some ⟨g,0,none⟩)):=by
      cases zs with
      | nil=>exact absurd rfl hz
      | cons z zs=>exact h1
    simp only [VR] at hv
    obtain ⟨_,b,o,h3,_,_,hcell⟩:=hv
    simp only [Value.pointer.injEq,Option.some.injEq,Addr.mk.injEq] at h3
    obtain ⟨rfl,h3,_⟩:=h3
    have ho:o=0:=by omega
    subst ho
    apply Array.ext
    · rw [hs];simp
    · intro i hi1 hi2
      have hi:i<zs.length:=by simpa using hi2
      obtain ⟨v,k1,k2⟩:=Zbm hcell (i:=i) (x:=.int k zs[i]) (by simp [hi])
      simp only [VR] at k2
      rw [show (ctx [] La W).w=W from rfl,Yen] at k1
      simp only [World.cell?,hc] at k1
      rw [Array.getElem?_eq_getElem hi1] at k1
      cases k1
      rw [k2];simp
theorem Zfi {P:Program} {W:World} {name:String} {k:IntKind} {zs:List Int} {g:Nat} (h:Lib.TabIs P W name k zs) (hg:P.globalNamed name=some g) (hz:zs≠[]) :
    GV (ctx [] La0 W) g (zs.map fun z=>AV.int k z):=by
  refine ⟨?_,.inr (Yb6 h hg)⟩
  cases zs with
  | nil=>exact absurd rfl hz
  | cons z zs =>
    show VR _ (.fp ((z::zs).map fun z=>AV.int k z) 0) _
    have hcell:=fun i hi=>Lib.TabIs.cell h hg i hi
    simp only [VR]
    refine ⟨Zu3,g,0,rfl,?_,own0 _,?_⟩
    · have h0:=hcell 0 (by simp)
      simp only [World.cell?] at h0
      rcases Ydx g W.heap.size with hlt|hge
      · exact hlt
      · rw [Array.getElem?_eq_none hge] at h0;cases h0
    · refine S5 fun i x hx=>?_
      have hi:=(List.getElem?_eq_some_iff.1 hx).1
      rw [Yfh] at hi
      rw [List.getElem?_map] at hx
      obtain ⟨y,hy,rfl⟩:=Option.map_eq_some_iff.1 hx
      refine ⟨.int k y,?_,by simp [VR]⟩
      rw [Yen]
      have:=hcell i hi
      rw [show (z::zs).getD i 0=y by simp [List.getD,hy]] at this
      exact this
theorem Z09 {w:World} {n:Nat}:GV (ctx [] La0 w) n []:=⟨by simp [Zd9,VR],.inl rfl⟩
def isAgg (P:Program) (t:TypeId):Bool:=match P.underlying t with|some (.struct _)|some (.array _ _)=>true|_=>false
theorem Zfj {P:Program} {w:World} {r:Reach} {b:Nat} {t:TypeId} {a:Addr} {n m:Nat} (h:Cell.okWide P w r b t (.slice (some a) n m)):a.spot=none∧a.block<w.heap.size:=by
  have h2:Cell.ok P w r b t (.slice (some a) n m):=by
    unfold Cell.okWide at h
    split at h<;>simp_all
  have h3:∃ e,w.has P r b a e m:=by
    unfold Cell.ok at h2
    split at h2<;>simp_all
    rename_i h4
    obtain ⟨rfl,rfl,rfl⟩:=h4
    exact ⟨_,h2.2.2⟩
  obtain ⟨e,_,hsp,row,cells,hs,_⟩:=h3
  refine ⟨hsp,?_⟩
  simp only [World.shape?] at hs
  rcases Ydx a.block w.heap.size with hlt|hge
  · exact hlt
  · rw [Array.getElem?_eq_none hge] at hs;cases hs
theorem Z66 {H:Type} {enc:TypeId × Value→H} {P:Program} {base b2:Nat} {held:Bool} {w:World} {d:Nat} {t:TypeId} {T:Ty} {v:Value} {x:DataW H} {ps:List MemPlace} (hT:Znc P d t=some T) (hg:isAgg P t=false)
    (hok:Value.okWide P w .any b2 t v) (h:DataW.Trod enc P w base (fun _=>true) held t v x ps):∃ a,VR (ctx [] La0 w) a v∧Wf T [a]∧Zdg a≤M1 x:=by
  obtain ⟨fuel,h⟩:=h
  have hcell:Cell.okWide P w .any b2 t v:=by
    unfold Value.okWide at hok
    unfold isAgg at hg
    split at hok
    · rename_i hu;rw [hu] at hg;cases hg
    · rename_i hu;rw [hu] at hg;cases hg
    · exact hok
  have hone:v.cells = #[v]:=by
    cases v<;>first|rfl|(exfalso;unfold Cell.okWide at hcell;split at hcell<;>simp_all [Cell.ok])
  rw [hone] at h
  obtain ⟨ys0,h1,h2,h3,h4,h5⟩:=Zw4 (c:=ctx [] La0 w) (fun b=>own0 b) d t T fuel _ _ hT (.inr (by
    intro a n m hm
    simp only [List.mem_singleton] at hm
    subst hm
    exact Zfj hcell)) h
  match ys0,h1 with
  | [],h1=>simp [VRL] at h1
  | [a],h1 =>
    simp only [VRL] at h1
    obtain ⟨v',r,e,k1,rfl⟩:=h1
    simp at e
    subst e
    exact ⟨a,k1,h2,by simpa [abulks] using h4⟩
  | a::b::ys0,h1 =>
    simp only [VRL] at h1
    obtain ⟨v',r,e,k1,v2,r2,e2,_⟩:=h1
    simp at e
    obtain ⟨_,rfl⟩:=e
    simp at e2
theorem Yb7 {H:Type} {enc:TypeId × Value→H} {P:Program} {base b2:Nat} {held:Bool} {w:World} {d:Nat} {t:TypeId} {T:Ty} {v:Value} {x:DataW H} {ps:List MemPlace} (hT:Znc P d t=some T) (hg:isAgg P t=true)
    (hok:Value.okWide P w .any b2 t v) (h:DataW.Trod enc P w base (fun _=>true) held t v x ps):∃ ys0,VR (ctx [] La0 w) (.agg ys0) v∧Wf T ys0∧abulks ys0≤M1 x:=by
  obtain ⟨fuel,h⟩:=h
  have hrow:∃ cs,v=.agg cs∧cs.size=P.cellsOf t∧Row.okWide P w .any b2 t cs:=by
    unfold Value.okWide at hok
    unfold isAgg at hg
    split at hok
    · exact hok
    · exact hok
    · rename_i h1 h2
      split at hg
      · rename_i hu;exact absurd hu (h1 _)
      · rename_i hu;exact absurd hu (h2 _ _)
      · cases hg
  obtain ⟨cs,rfl,_,ts,_,_,hc⟩:=hrow
  obtain ⟨ys0,h1,h2,h3,h4,h5⟩:=Zw4 (c:=ctx [] La0 w) (fun b=>own0 b) d t T fuel _ _ hT (.inr (by
    intro a n m hm
    obtain ⟨i,hi⟩:=List.mem_iff_getElem?.1 hm
    obtain ⟨u,_,hu⟩:=hc i _ (by simpa [Value.cells] using hi)
    exact Zfj hu)) h
  refine ⟨ys0,?_,h2,h4⟩
  simp only [VR]
  exact ⟨cs,rfl,by simpa [Value.cells] using h1⟩
end Cod
namespace Cod
open Go Go.RowKit Go.ChangeShapes Go.WideShapes Go.ChangeAt
def ArgOK (p:Bool × Ty) (a:AV):Prop:=match p.1 with
  | true=>∃ ys0,a=.agg ys0∧Wf p.2 ys0
  | false=>Wf p.2 [a]
def Zik:List (Bool × Ty)→List AV→Prop
  | [],ys0=>ys0=[]
  | p::r,ys0=>∃ a b,ys0=a::b∧ArgOK p a∧Zik r b
def Zil (P:Program) (d:Nat):List TypeId→Option (List (Bool × Ty))
  | []=>some []
  | t::ts=>match Znc P d t,Zil P d ts with
    | some T,some r=>some ((isAgg P t,T)::r)
    | _,_=>none
section
variable {H:Type} {enc:TypeId × Value→H} {P:Program} {W:World} {b2 d:Nat}
theorem Yb8:∀ {ts:List TypeId} {Ts:List (Bool × Ty)} {vs:List Value} {ds:List (DataW H)} {ps:List MemPlace},Zil P d ts=some Ts →
    (∀ (j:Nat) t v,ts[j]? = some t→vs[j]? = some v→Value.okWide P W .any b2 t v)→DataW.TrodAll enc P W 0 (fun _=>true) true ts vs ds ps →
    ∃ ys0,VRL (ctx [] La0 W) ys0 vs∧Zik Ts ys0∧abulks ys0≤dbulkAll ds:=by
  intro ts
  induction ts with
  | nil =>
    intro Ts vs ds ps h _ hA
    simp only [Zil,Option.some.injEq] at h;subst h
    cases vs<;>cases ds<;>simp [DataW.TrodAll] at hA
    exact ⟨[],by simp [VRL],by simp [Zik],by simp [abulks]⟩
  | cons t ts ih =>
    intro Ts vs ds ps h hok hA
    simp only [Zil] at h
    split at h
    · rename_i T r hT hr
      cases h
      cases vs with
      | nil=>cases ds<;>simp [DataW.TrodAll] at hA
      | cons v vs =>
        cases ds with
        | nil=>simp [DataW.TrodAll] at hA
        | cons x ds =>
          obtain ⟨p,q,h1,h2,rfl⟩:=hA
          obtain ⟨ys0,k1,k2,k3⟩:=ih hr (fun j t' v' ht hv=>hok (j+1) t' v' (by simpa using ht) (by simpa using hv)) h2
          have h0:=hok 0 t v (by simp) (by simp)
          cases hg:isAgg P t with
          | true =>
            obtain ⟨bs,l1,l2,l3⟩:=Yb7 hT hg h0 h1
            exact ⟨.agg bs::ys0,by simp only [VRL];exact ⟨v,vs,rfl,l1,k1⟩,⟨_,_,rfl,⟨bs,rfl,l2⟩,k2⟩,by simp only [abulks,Zdg,dbulkAll];omega⟩
          | false =>
            obtain ⟨a,l1,l2,l3⟩:=Z66 hT hg h0 h1
            exact ⟨a::ys0,by simp only [VRL];exact ⟨v,vs,rfl,l1,k1⟩,⟨_,_,rfl,l2,k2⟩,by simp only [abulks,dbulkAll];omega⟩
    · cases h
theorem Znf (hl:laidOutB P=true) {W':World} (hb:Below W.heap.size W W'):∀ {ts:List TypeId} {vs:List Value} {ds:List (DataW H)} {ps:List MemPlace},(∀ t∈ts,P.readableRec t=true∧t<P.types.size) →
    (∀ x∈ps,x.block<W.heap.size)→DataW.TrodAll enc P W 0 (fun _=>true) true ts vs ds ps→DataW.TrodAll enc P W' 0 (fun b=>decide (b<W.heap.size)) true ts vs ds ps:=by
  intro ts
  induction ts with
  | nil=>intro vs ds ps _ _ h;cases vs<;>cases ds<;>simp_all [DataW.TrodAll]
  | cons t ts ih =>
    intro vs ds ps hr hlt h
    cases vs with
    | nil=>cases ds<;>simp [DataW.TrodAll] at h
    | cons v vs =>
      cases ds with
      | nil=>simp [DataW.TrodAll] at h
      | cons x ds =>
        obtain ⟨p,q,h1,h2,rfl⟩:=h
        exact ⟨p,q,Below.trod hl (hr t (by simp)).1 (hr t (by simp)).2 h1 hb (fun x hx=>hlt x (by simp [hx])),ih (fun t ht=>hr t (by simp [ht])) (fun x hx=>hlt x (by simp [hx])) h2,rfl⟩
def Yb9 (s:ChangeSpec) (n:Nat):Prop:=s.vars=[]∧∀ (H:Type) (ds:List (DataW H)),ds.length=n→s.fn H ds = { results:=[.lit (.bool true)],args:=ds }
theorem Zng:∀ {ts:List TypeId} {vs:List Value} {ds:List (DataW H)} {ps:List MemPlace} {b:Nat} {sp:Nat→Bool} {hd:Bool},DataW.TrodAll enc P W b sp hd ts vs ds ps→ds.length=ts.length:=by
  intro ts
  induction ts with
  | nil=>intro vs ds ps b sp hd h;cases vs<;>cases ds<;>simp_all [DataW.TrodAll]
  | cons t ts ih =>
    intro vs ds ps b sp hd h
    cases vs with
    | nil=>cases ds<;>simp [DataW.TrodAll] at h
    | cons v vs =>
      cases ds with
      | nil=>simp [DataW.TrodAll] at h
      | cons x ds=>obtain ⟨p,q,h1,h2,_⟩:=h;simp [ih h2]
theorem contract {E:Env} {f:Nat} {fn:Func} {c:Code} {s:ChangeSpec} {n rt:Nat} {Ts:List (Bool × Ty)} (hk:Zce P E) (hfn:Zgy P E) (hl:laidOutB P=true)
    (hf:P.funcs[f]? = some fn) (hb:fn.body=some c) (hn:(fn.name == "runtime.NumGoroutine")=false) (hT:Zil P d fn.params.toList=some Ts)
    (hr:∀ t∈fn.params.toList,P.readableRec t=true∧t<P.types.size) (hrt:fn.resultTypes.toList=[rt]) (hrn:fn.resultTypes.size=1) (hrb:P.underlying rt=some .bool) (hs:Yb9 s n) (hpn:fn.params.toList.length=n)
    {args:Array Value} {ds gs:List (DataW H)} {before:List MemPlace}
    (hg:Zij E W) (run:∀ ys0,Zik Ts ys0→abulks ys0≤dbulkAll ds→∃ σr,S E f ys0 []=some (.bool true,σr))
    (hval:∀ (j:Nat) t v,fn.params[j]? = some t→args[j]? = some v→Value.okWide P W .any b2 t v)
    (hW:DataW.Whole enc P fn.params.toList s.vars false W args.toList ds gs before) :
    Calls P f args W fun e W'=>∃ v,e=.returned v∧s.post enc P fn false true false false W args v W':=by
  have hW':=hW
  obtain ⟨p,q,hA,hV,rfl,hfz,hnd⟩:=hW
  obtain ⟨ys0,h1,h2,h3⟩:=Yb8 hT (fun j t v ht hv=>hval j t v (by simpa using ht) (by simpa using hv)) hA
  obtain ⟨σr,hrun⟩:=run ys0 h2 h3
  have hc:=Z08 hk hfn hf hb hn hrun hg h1
  rw [Array.toArray_toList] at hc
  have hgs:gs=[]∧q=[]:=by rw [hs.1] at hV;cases gs<;>simp_all [DataW.TrodVars]
  obtain ⟨rfl,rfl⟩:=hgs
  have hlt:∀ x∈p,x.block<W.heap.size:=fun x hx=>hW'.lt x (by simp [hx])
  have hlen:=Zng hA
  refine hc.mono fun e W' ⟨he,bel⟩=>?_
  subst he
  have hspec:=hs.2 H (ds++[]) (by simp;omega)
  refine ⟨_,rfl,ds,[],_,[],p,[],hW',?_,?_,?_,bel.frame _,fun h=>by cases h⟩
  · rw [hspec,hrt,hrn]
    exact trodAll_mk1 (shut_bool hrb _)
  · rw [hspec]
    simp only [List.append_nil]
    exact Znf hl bel hr hlt hA
  · rw [hspec,hs.1];rfl
end
end Cod
namespace Cod
open Go Go.RowKit
theorem Zqm {w:World} {g:Nat} {k:Option IntKind} {v:Value} {cs:Array Value} {el:TypeId} {fr:Nat × Nat} (hc:w.heap[g]? = some (.cells cs el fr)) (hs:cs.size=1) (h0:cs[0]? = some v) (hk:Z2j k v):GV (ctx [] La0 w) g [.any k]:=by
  refine ⟨?_,.inr ⟨cs,el,fr,hc,hs⟩⟩
  simp only [Zd9,VR,VRC,flats,J6,Bool.and_true,true_and,and_true]
  refine ⟨g,0,rfl,?_,own0 _,v,?_,hk⟩
  · rcases Ydx g w.heap.size with hlt|hge
    · exact hlt
    · rw [Array.getElem?_eq_none hge] at hc;cases hc
  · show w.cell? _=_
    simp only [World.cell?,hc]
    exact h0
def Zw5 (P:Program) (t:TypeId):Bool:=match P.underlying t with|some (.interface _)=>true|_=>false
theorem Zqn {P:Program} {W:World} {l:List (String × DataW Unit)} (h:laidMetH P l W) {name nm:String} {d:DataW Unit} {g t:Nat} (hm:(name,.iface nm d)∈l) (hh:(DataW.iface nm d).handleName?.isNone=true)
    (hg:P.globalNamed name=some g) (hty:(P.globals[g]?).map (·.type)=some t) (ht:Zw5 P t=true):GV (ctx [] La0 W) g [.any none]:=by
  obtain ⟨g',t',cs,fuel,p,hg',ht',hvar,hd⟩:=Zjz h hm hh
  obtain rfl:=Option.some.inj (hg.symm.trans hg')
  obtain rfl:=Option.some.inj (hty.symm.trans ht')
  obtain ⟨ms,ht⟩:∃ ms,P.underlying t=some (.interface ms):=by
    unfold Zw5 at ht
    split at ht
    · exact ⟨_,by assumption⟩
    · cases ht
  have hi:∃ u v,cs.toList=[.iface u v]:=by
    cases fuel with
    | zero=>simp [DataW.trod] at hd
    | succ fuel =>
      unfold DataW.trod at hd
      rw [ht] at hd
      generalize cs.toList=xs at hd
      split at hd<;>first|(rename_i he;cases he;done)|(cases hd;done)|exact ⟨_,_,rfl⟩
  obtain ⟨u,v,hcs⟩:=hi
  unfold World.var? at hvar
  rw [hg] at hvar
  simp only [Ydq] at hvar
  split at hvar
  · rename_i cs' el fr hc
    cases hvar
    have hsz:cs = #[.iface u v]:=by cases cs;simp at hcs;rw [hcs]
    subst hsz
    exact Zqm hc rfl rfl (.inr ⟨u,v,rfl⟩)
  · cases hvar
theorem Zu4 {P:Program} {W:World} {g:Nat} (h:W.ShapedOpen P) (hg:g<P.globals.size) (hz:(((Go.begin P (fun _ _=>0) default).world.heap[g]?).bind Obj.row?).map (fun r=>r.1.size)=some 1) (hc:∃ m,W.cell? ⟨g,0,none⟩=some (.int .i64 m)):GV (ctx [] La0 W) g [.any (some .i64)]:=by
  obtain ⟨m,hc⟩:=hc
  obtain ⟨⟨z,t⟩,h1,h2⟩:=Option.map_eq_some_iff.1 hz
  obtain ⟨cs,h3,h4,_⟩:=h.1 g z t hg h1
  simp only [World.cell?,h3] at hc
  exact Zqm h3 (h4.trans h2) (by simpa using hc) ⟨m,rfl⟩
end Cod
namespace Cod
open Go
theorem H7 {E:Env} {fn:List LRes} {k:List It} {st:St} {x y:LCode} (h:x=y):X E fn (.c x::k) st=X E fn (.c y::k) st:=by rw [h]
theorem Yca {live:List Nat} {sl:List (Nat × AV)} {σ:A3}:Zou live ⟨sl,σ⟩ =
    LetA (J5 σ 64 (ups σ++live.flatMap fun t=>U7 (Q5 sl t)) []) (fun acc=>⟨live.map fun t=>(t,ren (K8 (Site.s 1000000) 0 acc) (Q5 sl t)),R1 σ (K8 (Site.s 1000000) 0 acc) acc⟩) ⟨⟩:=rfl
def resC (σ:A3) (n:Option Nat):AV→Option AV
  | .ref s g off=>((O4 s g).run σ).bind fun e=>(match n with|none=>e.cells[off]? | some n=>if off+n≤e.cells.length then some (.agg (sub e.cells off n)) else none)
  | _=>none
theorem Zu5 {sl:List (Nat × AV)} {σ:A3} {t:Nat} {n:Option Nat}:Zgq ⟨sl,σ⟩ (.cell t n)=resC σ n (Q5 sl t):=by
  cases n<;>(unfold Zgq resC;rfl)
theorem resC_0 {σ:A3} {s:Site} {g off:Nat}:resC σ none (.ref s g off)=Zp0 ((O4 s g).run σ) (fun e=>e.cells[off]?) ⟨⟩:=rfl
theorem resC_N {σ:A3} {s:Site} {g off n:Nat}:resC σ (some n) (.ref s g off)=Zp0 ((O4 s g).run σ) (fun e=>if off+n≤e.cells.length then some (.agg (sub e.cells off n)) else none) ⟨⟩:=rfl
theorem ifp {α:Type} {c:Prop} [Decidable c] {x y:Acc α} (h:c):(if c then x else y)=x:=if_pos h
theorem ifO {α:Type} {c:Prop} [Decidable c] {x y:Option α} (h:c):(if c then x else y)=x:=if_pos h
theorem ifnO {α:Type} {c:Prop} [Decidable c] {x y:Option α} (h:¬ c):(if c then x else y)=y:=if_neg h
theorem Z67 {a b:Int} (h:0≤a):a.tmod b=a%b:=Int.tmod_eq_emod_of_nonneg h
theorem Z68 {a b:Int} (h:0≤a):a.tdiv b=a/b:=Int.tdiv_eq_ediv_of_nonneg h
theorem wrap_i64 {x:Int} (h1 : -9223372036854775808≤x) (h2:x≤9223372036854775807):IntKind.i64.wrap x=x:=by
  simp only [IntKind.wrap,IntKind.signed,IntKind.bits]
  simp
  omega
theorem wrap_u64 {x:Int} (h1:0≤x) (h2:x≤18446744073709551615):IntKind.u64.wrap x=x:=by
  simp only [IntKind.wrap,IntKind.signed,IntKind.bits]
  simp
  omega
theorem Z69 {x:Int} (h1:0≤x) (h2:x≤4294967295):IntKind.u32.wrap x=x:=by
  simp only [IntKind.wrap,IntKind.signed,IntKind.bits]
  simp
  omega
theorem Zd1 {x:Int}:IntKind.u8.wrap x=x%256:=by
  simp only [IntKind.wrap,IntKind.signed,IntKind.bits]
  simp
theorem T5 {n:Nat}:((n:Int)).toNat=n:=Int.toNat_natCast n
theorem Zj0 {a b:Int} (h:a=b):(a==b)=true:=by simp [h]
theorem Zfk {a b:Int} (h:a≠b):(a==b)=false:=by simp [h]
theorem bne_t {a b:Int} (h:a≠b):(a != b)=true:=by simp [h]
theorem bne_f {a b:Int} (h:a=b):(a != b)=false:=by simp [h]
theorem K9 {p:Prop} [Decidable p] (h:p):decide p=true:=by simp [h]
theorem Z0 {p:Prop} [Decidable p] (h:¬ p):decide p=false:=by simp [h]
theorem Zqo (a b:Site):(a==b)=decide (a=b):=by by_cases h:a=b<;>simp [h]
theorem Z7a (a c:Site) (b d:Nat):(((a,b):Site × Nat)==(c,d))=(decide (a=c)&&(b==d)):=by
  show ((a==c)&&(b==d))=_
  rw [Zqo]
theorem Ycb (a b:List AV):Zeo a b=a++b:=rfl
theorem Z1a (n:Nat):zer (.int .u8 0) n=A1 (List.replicate n 0):=by simp [zer,A1]
theorem Z1b {cs:List AV}:over cs 0 []=cs:=by simp [over]
theorem Zu6 {c x:AV} {cs xs:List AV}:over (c::cs) 0 (x::xs)=x::over cs 0 xs:=by simp [over]
theorem Zim {c:AV} {cs xs:List AV} {n:Nat}:over (c::cs) (n+1) xs=c::over cs n xs:=by simp [over];rw [show n+1+xs.length=n+xs.length+1 by omega,Yfi]
def Z8 (l:List (List UInt8)):List AV:=l.map .str
theorem W8 (l:List (List UInt8)):(Z8 l).length=l.length:=by simp [Z8]
theorem Zqp (l m:List UInt8):A1 l++A1 m=A1 (l++m):=by simp [A1]
theorem Zan:A1 []=[]:=rfl
theorem R4 (b:UInt8) (l:List UInt8):A1 (b::l)=.int .u8 b.toNat::A1 l:=rfl
theorem Zck (l:List UInt8):flats (A1 l)=true:=by
  induction l with
  | nil=>rfl
  | cons b l ih=>simp [R4,flats,J6,ih]
theorem Zcl (l:List UInt8):N3 (A1 l)=true:=by
  induction l with
  | nil=>rfl
  | cons b l ih=>simp [R4,N3,P9,ih]
theorem Zcm (l:List UInt8):leadss (A1 l)=false:=by
  induction l with
  | nil=>rfl
  | cons b l ih=>simp [R4,leadss,O1,ih]
theorem Zcn (l:List UInt8):refsOfs (A1 l)=[]:=by
  induction l with
  | nil=>rfl
  | cons b l ih=>simp [R4,refsOfs,U7,ih]
theorem Znh (f:Site→Nat→Option (Site × Nat)) (l:List UInt8):rens f (A1 l)=A1 l:=by
  induction l with
  | nil=>rfl
  | cons b l ih=>simp [R4,rens,ren,ih]
theorem Zfl (l:List UInt8):bytesOf (A1 l)=some l:=by
  induction l with
  | nil=>rfl
  | cons b l ih=>simp [R4,bytesOf,ih]
theorem Zqq (l:List UInt8) (i n:Nat):sub (A1 l) i n=A1 (sub l i n):=by simp [sub,A1,Yfj,Yfk]
theorem B5 {α:Type} {l:List α} {a n:Nat} (h:l.length≤a+n):sub l a n=l.drop a:=by
  unfold sub;exact Yej (by rw [Yd1];omega)
theorem Zni (l:List UInt8) (n:Nat):(A1 l).take n=A1 (l.take n):=by simp [A1,Yfk]
theorem Znj (l:List UInt8) (n:Nat):(A1 l).drop n=A1 (l.drop n):=by simp [A1,Yfj]
theorem B7 {α:Type} {l:List α} {n:Nat} (h:l.length≤n):l.take n=l:=Yej h
theorem Zqr {α:Type} {l:List α} {n:Nat} (h:l.length≤n):sub l 0 n=l:=Yej h
theorem B8 {α:Type} {l:List α} {n:Nat}:sub l 0 n=l.take n:=rfl
theorem Zfm {l:List UInt8} {i:Nat} {x:Int} (h:i<l.length) (h0:0≤x) (h1:x<256):over (A1 l) i [.int .u8 x]=A1 (l.set i (UInt8.ofNat x.toNat)):=by
  have hx:x=(((UInt8.ofNat x.toNat).toNat:Nat):Int):=by
    have:(UInt8.ofNat x.toNat).toNat=x.toNat:=by simp;omega
    rw [this];omega
  unfold over A1
  rw [List.length_singleton,List.map_set,List.set_eq_take_append_cons_drop,if_pos (by simpa using h)]
  simp only [Yfk,Yfj,Ydw,Yfl,List.append_assoc]
  rw [←hx]
theorem Znk {α:Type} {l m:List α} (h:m.length=l.length):l.take 0++m++l.drop (0+m.length)=m:=by simp [h]
theorem Zco {l m:List UInt8} (h:m.length=l.length):over (A1 l) 0 (A1 m)=A1 m:=by
  unfold over;exact Znk (by rw [L4,L4,h])
def bat (l:List UInt8) (i:Nat):Int:=((l.getD i 0).toNat:Int)
theorem Zqs {l:List UInt8} {i:Nat} (h:i<l.length):(A1 l)[i]? = some (.int .u8 (bat l i)):=by
  simp [A1,bat,h]
theorem Z9 (l:List UInt8) (i:Nat):0≤bat l i∧bat l i<256:=by
  unfold bat
  have:=(l.getD i 0).toNat_lt
  omega
def byt (n:Int):UInt8:=UInt8.ofNat n.toNat
theorem Zu7 (x:UInt8) {n:Int} (h0:0≤n) (h1:n<256):(((x.toNat:Nat):Int)==n)=(x==byt n):=by
  have hx:byt n=x↔(x.toNat:Int)=n:=by
    unfold byt
    constructor
    · intro h;rw [←h];simp;omega
    · intro h;rw [←h];simp
  by_cases h:(x.toNat:Int)=n
  · rw [Zj0 h,hx.2 h];simp
  · rw [Zfk h];symm;simp;intro e;exact h (hx.1 e.symm)
theorem Zhk (l:List UInt8) (i:Nat) {n:Int} (h0:0≤n) (h1:n<256):(bat l i==n)=(l.getD i 0==byt n):=Zu7 _ h0 h1
theorem Z1c {t:List UInt8} {i:Nat} (h:i<t.length):Zv7 t[i]? = .ret (.int .u8 (bat t i),[]):=by
  rw [List.getElem?_eq_getElem h,Zih]
  simp [bat,h]
theorem Znl {l:List UInt8} {n:Int} (h0:0≤n) (h1:n<256):A1 l++[.int .u8 n]=A1 (l++[byt n]):=by
  have:(UInt8.ofNat n.toNat).toNat=n.toNat:=by simp;omega
  simp [A1,byt]
  omega
theorem BYs:(∀ n:Nat,zer (.int .u8 0) n=A1 (List.replicate n 0))∧(∀ l m:List UInt8,A1 l++A1 m=A1 (l++m))∧(∀ l:List UInt8,(A1 l).length=l.length)∧(∀ l:List UInt8,flats (A1 l)=true)∧(∀ l:List UInt8,N3 (A1 l)=true)∧(∀ l:List UInt8,leadss (A1 l)=false)∧(∀ l:List UInt8,refsOfs (A1 l)=[])∧(∀ (f:Site→Nat→Option (Site × Nat)) (l:List UInt8),rens f (A1 l)=A1 l)∧(∀ l:List UInt8,bytesOf (A1 l)=some l)∧(∀ (l:List UInt8) (i n:Nat),sub (A1 l) i n=A1 (sub l i n))∧(∀ (l:List UInt8) (n:Nat),(A1 l).take n=A1 (l.take n))∧(∀ (l:List UInt8) (n:Nat),(A1 l).drop n=A1 (l.drop n))∧(∀ (l:List UInt8) (i:Nat),i<l.length→(A1 l)[i]? = some (.int .u8 (bat l i)))∧(∀ l m:List UInt8,m.length=l.length→over (A1 l) 0 (A1 m)=A1 m)∧(∀ (l:List UInt8) (i:Nat) (x:Int),i<l.length→0≤x→x<256→over (A1 l) i [.int .u8 x]=A1 (l.set i (UInt8.ofNat x.toNat)))∧(∀ (l:List UInt8) (n:Int),0≤n→n<256→A1 l++[.int .u8 n]=A1 (l++[byt n])) :=
  ⟨Z1a,Zqp,L4,Zck,Zcl,Zcm,Zcn,Znh,Zfl,Zqq,Zni,Znj,fun _ _ h=>Zqs h,fun _ _ h=>Zco h,fun _ _ _ h h0 h1=>Zfm h h0 h1,fun _ _ h0 h1=>Znl h0 h1⟩
theorem Z7b {a:Int} {n:Nat} (hn:n≤64):ishl .u64 a n=(a*2^n)%18446744073709551616:=by
  unfold ishl
  rw [show ((n:Int)).toNat=n by omega,show Nat.min n (IntKind.u64.bits)=n from Yfm hn]
  simp only [IntKind.wrap,IntKind.signed,IntKind.bits]
  simp
theorem Zqt {k:IntKind} {a:Int} {n:Nat} (hn:n≤k.bits):Zpz k a n=a/2^n:=by
  unfold Zpz
  rw [show ((n:Int)).toNat=n by omega,show Nat.min n k.bits=n from Yfm hn,Int.fdiv_eq_ediv_of_nonneg _ (Int.le_of_lt (Int.pow_pos (by omega)))]
theorem Zw6 {n:Int} (h0:0≤n) (h1:n<256):AV.int .u8 n=.int .u8 ((byt n).toNat:Int):=by
  unfold byt
  have:(UInt8.ofNat n.toNat).toNat=n.toNat:=by simp;omega
  rw [this];congr 1;omega
attribute [go_sem] X_lp Yca Zu5 resC_0 resC_N Bool.cond_true Bool.cond_false Option.isNone_some Option.isNone_none List.take_succ_cons List.take_zero Yfi Z1b Zu6 Zim Z1c L7 Ycb Zqo Z7a ifp ifO ifnO
  Z67 Z68 wrap_i64 wrap_u64 Z69 Zd1 T5 Yfn Nat.one_mul Nat.zero_mul Nat.mul_zero Yfc Zqr Zj0 Zfk bne_t bne_f K9 Z0
end Cod
namespace Cod
open Go
def dg8 (c:UInt8):Nat:=c.toNat-48
def pu8 (acc:Nat):List UInt8→Lib.NumEnd Nat
  | []=>.ok acc
  | c::r=>if 48≤c.toNat∧c.toNat≤55 then if 4294967295<acc*8+dg8 c then .range else pu8 (acc*8+dg8 c) r else Go.Lib.NumEnd.syntax
def Zgb (l:List UInt8):Lib.NumEnd Nat:=if l=[] then Go.Lib.NumEnd.syntax else pu8 0 l
def pr8 (neg:Bool):Lib.NumEnd Nat→Int × Int
  | Go.Lib.NumEnd.syntax=>(0,2)
  | .range=>(if neg then -2147483648 else 2147483647,1)
  | .ok u=>if neg then (if 2147483648<u then (-2147483648,1) else (-(u:Int),0)) else (if 2147483648≤u then (2147483647,1) else ((u:Int),0))
def pi8:List UInt8→Int × Int
  | []=>(0,2)
  | c::r=>if c=43 then pr8 false (Zgb r) else if c=45 then pr8 true (Zgb r) else pr8 false (Zgb (c::r))
end Cod
namespace Cod
open Go
def Zcs (b:UInt8):UInt8:=if 65≤b∧b≤90 then b+32 else b
def Zct:List UInt8→Bool
  | [a,b,c,d]=>a==46&&Zcs b==103&&Zcs c==105&&Zcs d==116
  | _=>false
def K6 (s:List UInt8):Bool:=decide (1≤s.length)&&decide (s.length≤100) && !s.contains 47 && !s.contains 0&&s != [46]&&s != [46,46] && !Zct s
def parts:List UInt8→List (List UInt8)
  | []=>[[]]
  | c::t=>if c=47 then []::parts t else match parts t with|p::r=>(c::p)::r|[]=>[[c]]
def K4 (l:List UInt8) (c:UInt8):Int:=if c∈l then (l.idxOf c:Int) else -1
def Zin (a b:List UInt8):Int:=if a=b then 0 else if Op.bytesLess a b then -1 else 1
def Zaa:List AV→Option AV
  | [.lst cs n,.int .u8 c]=>if n=cs.length then (bytesOf cs).map fun l=>.int .i64 (K4 l (byt c)) else none
  | _=>none
def Zfn:List AV→Option AV
  | [.str l,.int .u8 c]=>some (.int .i64 (K4 l (byt c)))
  | _=>none
def Zqu:List AV→Option AV
  | [.int .i64 n]=>if -9223372036854775808≤n∧n≤9223372036854775807 then some (.str (Lib.itoa n)) else none
  | _=>none
def Zqv (s:List UInt8):AV:=.tup [.int .i64 (pi8 s).1,if (pi8 s).2=0 then .nili else .ifc 176 .junk]
def Zj1:List AV→Option AV
  | [.str s,.int .i64 8,.int .i64 32]=>if s.length≤281474976710656 then some (Zqv s) else none
  | _=>none
def Znm:List (BitVec 32):=[
  1116352408,1899447441,3049323471,3921009573,961987163,1508970993,2453635748,2870763221,3624381080,310598401,607225278,1426881987,1925078388,2162078206,2614888103,3248222580,
  3835390401,4022224774,264347078,604807628,770255983,1249150122,1555081692,1996064986,2554220882,2821834349,2952996808,3210313671,3336571891,3584528711,113926993,338241895,
  666307205,773529912,1294757372,1396182291,1695183700,1986661051,2177026350,2456956037,2730485921,2820302411,3259730800,3345764771,3516065817,3600352804,4094571909,275423344,
  430227734,506948616,659060556,883997877,958139571,1322822218,1537002063,1747873779,1955562222,2024104815,2227730452,2361852424,2428436474,2756734187,3204031479,3329325298]
def Zhl:List Int:=[
  0,1,2,3,4,5,6,7,8,9,10,11,12,13,14,15,
  16,17,18,19,20,21,22,23,24,25,26,27,28,29,30,31,
  32,33,34,35,36,37,38,39,40,41,42,43,44,45,46,47,
  48,49,50,51,52,53,54,55,56,57,58,59,60,61,62,63,
  64,97,98,99,100,101,102,103,104,105,106,107,108,109,110,111,
  112,113,114,115,116,117,118,119,120,121,122,91,92,93,94,95,
  96,65,66,67,68,69,70,71,72,73,74,8490,76,77,78,79,
  80,81,82,383,84,85,86,87,88,89,90,123,124,125,126,127]
def W (x:BitVec 32):AV:=.int .u32 (x.toNat:Int)
def C3 (l:List (BitVec 32)):List AV:=l.map W
def Z1 (g:List AV→Option AV) (args:List AV) (σ:A3):Option (AV × A3):=if σ.isEmpty then (g args).map fun v=>(v,[]) else none
def Zd2:List AV→Bool
  | []=>true
  | .int .u8 n::cs=>decide (0≤n)&&(decide (n<256)&&Zd2 cs)
  | _::_=>false
theorem Zu8:∀ l:List UInt8,Zd2 (A1 l)=true:=by
  intro l
  induction l with
  | nil=>rfl
  | cons b l ih =>
    have:=b.toNat_lt
    rw [R4,Zd2,ih,K9 (by omega),K9 (by omega)];rfl
theorem Znn:∀ {cs:List AV},Zd2 cs=true→∃ l:List UInt8,cs=A1 l:=by
  intro cs
  induction cs with
  | nil=>intro _;exact ⟨[],rfl⟩
  | cons c cs ih =>
    intro h
    unfold Zd2 at h
    split at h
    · rename_i he;cases he
    · rename_i n cs' he
      cases he
      simp only [Yd8,decide_eq_true_eq] at h
      obtain ⟨l,rfl⟩:=ih h.2.2
      refine ⟨byt n::l,?_⟩
      rw [Zw6 h.1 h.2.1];rfl
    · cases h
def Zio (args:List AV) (σ:A3):Option (AV × A3):=match args,σ with
  | [.lst cs n],[]=>if cs.length=n∧n≤140737488355328∧Zd2 cs=true then some (.buf (.r 0) 0 0 n 1,[(.r 0,⟨0,true,true,false,cs⟩)]) else none
  | _,_=>none
theorem Za6 (l:List (BitVec 32)):(C3 l).length=l.length:=by simp [C3]
theorem A8:(∀ l:List (List UInt8),(Z8 l).length=l.length)∧(∀ l:List (BitVec 32),(C3 l).length=l.length)∧(∀ l:List UInt8,(A1 l).length=l.length)∧(∀ (α:Type) (l:List α) (i:Nat) (x : α),(l.set i x).length=l.length)∧(∀ (α:Type) (n:Nat) (x : α),(List.replicate n x).length=n)∧(∀ (α:Type) (l m:List α),(l++m).length=l.length+m.length)∧(∀ (α:Type) (x : α) (l:List α),(x::l).length=l.length+1)∧(∀ α:Type,([]:List α).length=0)∧(∀ (α:Type) (n:Nat) (l:List α),(l.take n).length=min n l.length)∧(∀ (α:Type) (n:Nat) (l:List α),(l.drop n).length=l.length-n) :=
  ⟨W8,Za6,L4,fun _ _ _ _=>List.length_set,fun _ _ _=>List.length_replicate,fun _ _ _=>List.length_append,fun _ _ _=>Yd9,fun _=>Ye6,fun _ _ _=>Yd0,fun _ _ _=>Yd1⟩
def Zno:List (Nat × (List AV→A3→Option (AV × A3))):=(F.strconv_Itoa,Z1 Zqu)::(F.O9,Z1 Zj1)::(F.Y0,Z1 Zaa)::(F.R3,Z1 Zfn)::[]
def Zd3:List (Nat × (List AV→A3→Option (AV × A3))):=(F.I2,Zio)::Zno
def Zb3:List (Nat × (List AV→A3→Option (AV × A3))):=Zd3
def Zqw (f:Nat):Option (List AV→A3→Option (AV × A3)):=Zd3.lookup f
def Znp (f:Nat):Option (List AV→A3→Option (AV × A3)):=Zb3.lookup f
def Znq:List Int:=[
  0,1,56,2,57,49,28,3,61,58,42,50,38,29,17,4,62,47,59,36,45,43,51,22,53,39,33,30,24,18,12,5,
  63,55,48,27,60,41,37,16,46,35,44,21,52,32,23,11,54,26,40,15,34,20,31,10,25,14,19,9,13,8,7,6]
def Zhm:List (Nat × List AV):=(G.Zqg,C3 Znm)::(G.Za4,Zhl.map fun z=>.int .u16 z)::(G.Y2,Lib.pow10Tab.map fun z=>.int .u64 z)::(G.Zch,[.any none])::(G.Zci,[.any none])::(G.U4,[.any (some .i64)])::(G.Za5,Znq.map fun z=>.int .u8 z)::[]
def R9 (n:Nat):List AV:=match Zhm.lookup n with|some l=>l|none=>[]
def E:Env:=⟨H6,Znp,R9⟩
def E0:Env:=⟨H6,Zqw,R9⟩
theorem N6 {f:Nat} {l:LFn} (hf:H6 f=some l) (hk:Znp f=none) {args:List AV} {σ:A3} (hn:args.length=l.np):S E f args σ=X E l.results [.c l.code] ⟨params 0 args,σ⟩:=S_fn hk hf hn
theorem Zhn {f:Nat} {h:List AV→A3→Option (AV × A3)} (hk:Znp f=some h) {args:List AV} {σ:A3}:S E f args σ=h args σ:=by
  rw [S_eq,show E.known f=some h from hk]
theorem S_itoa {n:Int} (h : -9223372036854775808≤n∧n≤9223372036854775807):S E F.strconv_Itoa [.int .i64 n] []=some (.str (Lib.itoa n),[]):=by
  rw [Zhn (h:=Z1 Zqu) rfl];simp only [Z1,Zqu,if_pos h];rfl
theorem Z7c {s:List UInt8} (h:s.length≤281474976710656):S E F.O9 [.str s,.int .i64 8,.int .i64 32] []=some (Zqv s,[]):=by
  rw [Zhn (h:=Z1 Zj1) rfl];simp only [Z1,Zj1,if_pos h];rfl
theorem Zqx {l:List UInt8} {n:Nat} {c:Int} (h:n=l.length):S E F.Y0 [.lst (A1 l) n,.int .u8 c] []=some (.int .i64 (K4 l (byt c)),[]):=by
  rw [Zhn (h:=Z1 Zaa) rfl]
  simp [Z1,Zaa,Zfl,L4,h]
theorem Ycc {l:List UInt8} {n:Nat} (h:n=l.length) (hb:n≤140737488355328):S E F.I2 [.lst (A1 l) n] []=some (.buf (.r 0) 0 0 n 1,[(.r 0,⟨0,true,true,false,A1 l⟩)]):=by
  rw [Zhn (h:=Zio) rfl]
  simp only [Zio,L4,Zu8,and_true]
  rw [if_pos ⟨h.symm,hb⟩]
theorem Zcu {f:Nat} {l:LFn} (hf:H6 f=some l) (hk:Zqw f=none) {args:List AV} {σ:A3} (hn:args.length=l.np):S E0 f args σ=X E0 l.results [.c l.code] ⟨params 0 args,σ⟩:=S_fn hk hf hn
theorem Zqy {l:List UInt8} {c:Int}:S E0 F.R3 [.str l,.int .u8 c] []=some (.int .i64 (K4 l (byt c)),[]):=by
  rw [S_eq,show E0.known F.R3=some (Z1 Zfn) from rfl];rfl
theorem glob_k:Zd9 (E.glob G.Zqg)=.fp (C3 Znm) 0:=rfl
end Cod
namespace Cod
open Go Go.RowKit
variable {P:Program} {E:Env} {w w':World} {La:Lay}
theorem Zb4 (hb:Below w.heap.size w w'):CLe (ctx [] La w) (ctx [] La w') where
  tab s g0 al h:=by simp [ctx,Zoy,A6] at h
  own b _ h:=h
  block b h _:=hb.block b h
  room b k h:=by
    obtain ⟨cs,el,fr,h1,h2⟩:=h
    have hlt:b<w.heap.size:=by
      rcases Ydx b w.heap.size with h3|h3
      · exact h3
      · rw [show (ctx [] La w).w=w from rfl,Array.getElem?_eq_none h3] at h1;cases h1
    exact ⟨cs,el,fr,(hb.block b hlt).trans h1,h2⟩
  size:=hb.size
theorem Zgc (h:Rel E w (G7 [] La) [] La [] La w) (hb:Below w.heap.size w w'):Rel E w (G7 [] La) [] La [] La w' where
  store:=⟨fun s e he=>by simp [A6] at he,fun s s' e e' b o o' he=>by simp [A6] at he⟩
  keep:=⟨hb.os,hb.tape,hb.output,hb.size,fun b hlt _=>hb.block b hlt,(Zb4 (La:=La) hb).room⟩
  own b hb':=.inl hb'
  glob n:=Zoz (Zb4 hb) (h.glob n)
  ups x e he:=by simp [A6] at he
  src b hb':=.inl hb'
  lf:=rfl
  f0:=h.f0
def Zu9 (P:Program) (E:Env) (f:Nat) (g:List AV→Option AV):Prop :=
  ∀ (args:List AV) (v:AV) (vs:List Value) (La:Lay) (w:World),g args=some v→VRL (ctx [] La w) args vs→Rel E w (G7 [] La) [] La [] La w →
    ∃ y,(∀ c,VR c v y)∧Zhc P f vs.toArray w (fun z w'=>z=y∧Below w.heap.size w w')
def Zd7 (P:Program) (E:Env) (f:Nat) (h:List AV→A3→Option (AV × A3)):Prop :=
  ∀ (args:List AV) (σa:A3) (v:AV) (σr:A3),h args σa=some (v,σr)→∀ (La:Lay) (w:World) (vs:List Value),Rel E w (G7 σa La) σa La σa La w→VRL (ctx σa La w) args vs →
    (∀ s e,A6 σa s=some e→∃ x,s=.up x)→Zhc P f vs.toArray w (fun y w'=>∃ La',Rel E w (G7 σa La) σa La σr La' w'∧VR (ctx σr La' w') v y)
theorem Zhc.mono {f:FuncId} {args:Array Value} {R R':Value→World→Prop} (h:Zhc P f args w R) (hR:∀ y w',R y w'→R' y w'):Zhc P f args w R' :=
  fun o a next Q hn=>h o a next Q fun y w' hy=>hn y w' (hR y w' hy)
end Cod
namespace Cod
open Go Go.RowKit Go.Proofs
set_option maxRecDepth 100000
theorem Zqz {P:Program} {E:Env} {f:Nat} {g:List AV→Option AV} (h:Zu9 P E f g):Zd7 P E f (Z1 g):=by
  intro args σa v σr hk La w vs hr hv _
  unfold Z1 at hk
  cases σa with
  | nil =>
    simp only [Yfo,if_true,Ydz,Prod.mk.injEq] at hk
    obtain ⟨v',hg,rfl,rfl⟩:=hk
    obtain ⟨y,hy,hf⟩:=h args v' vs La w hg hv hr
    exact hf.mono fun z w' ⟨hz,hb⟩=>⟨La,Zgc hr hb,hz▸hy _⟩
  | cons=>simp at hk
theorem Zcp {P:Program} {f:FuncId} {fn:Func} {e:Array Value→Sem Value} (hf:P.funcs[f]? = some fn) (hname:(fn.name == "runtime.NumGoroutine")=false)
    (hb:fn.body.isNone=true) (hn:Extern.findNext fn=none) (he:Extern.find fn=some e) {args:Array Value} {w w':World} {v:Value} {R:Value→World→Prop} (hrun:(e args).run P w=.ok v w') (hR:R v w'):Zhc P f args w R:=by
  intro o a next Q h
  rw [run_callFunc_extern hf hname hb hn he,hrun]
  exact h v w' hR
theorem Zq0 (l:List UInt8) (c:UInt8):Lib.indexByte l c=K4 l c:=by
  induction l with
  | nil=>simp [Lib.indexByte,K4]
  | cons x l ih =>
    unfold Lib.indexByte
    by_cases h:x=c
    · subst h;simp [K4]
    · have hb:(x==c)=false:=by simpa using h
      have hc:¬ c=x:=fun e=>h e.symm
      rw [hb,ih]
      unfold K4
      by_cases hm:c∈l
      · simp [hm,List.idxOf_cons,hb]
      · simp [hm,hc]
theorem Znr:∀ {cs:List AV} {l:List UInt8},bytesOf cs=some l→∃ xs:List Int,cs=xs.map (AV.int .u8 ·)∧l=Lib.bytesOf xs:=by
  intro cs
  induction cs with
  | nil=>intro l h;simp [bytesOf] at h;subst h;exact ⟨[],rfl,rfl⟩
  | cons x cs ih =>
    intro l h
    unfold bytesOf at h
    split at h
    · rename_i he;cases he
    · rename_i n cs' he
      cases he
      obtain ⟨l',hl,rfl⟩:=Option.map_eq_some_iff.1 h
      obtain ⟨xs,h1,h2⟩:=ih hl
      exact ⟨n::xs,by rw [h1];rfl,by rw [h2];rfl⟩
    · cases h
theorem Zva {c:Ctx} {b o:Nat} {xs:List Int} (h:VRC c b o (xs.map (AV.int .u8 ·))):∀ i,i<xs.length→c.w.cell? ⟨b,o+i,none⟩=some (.int .u8 (xs.getD i 0)):=by
  intro i hi
  obtain ⟨v,h1,h2⟩:=Zbm h (i:=i) (x:=.int .u8 (xs.getD i 0)) (by simp [hi])
  simp only [VR] at h2
  rw [h1,h2]
theorem Z7d {E:Env}:Zu9 Tryz.prog E F.Y0 Zaa:=by
  intro args v vs La w hg hv hr
  unfold Zaa at hg
  split at hg
  · rename_i cs n c
    split at hg
    · rename_i hn
      obtain ⟨l,hl,rfl⟩:=Option.map_eq_some_iff.1 hg
      simp only [VRL,VR] at hv
      obtain ⟨x,r,rfl,⟨_,hx⟩,y,r2,rfl,rfl,rfl⟩:=hv
      refine ⟨.int .i64 (K4 l (byt c)),fun c=>by simp [VR],?_⟩
      obtain ⟨xs,rfl,rfl⟩:=Znr hl
      rw [Yfh] at hn
      rw [←Zq0]
      rcases hx with ⟨h0,rfl,rfl⟩|⟨b,o,cap,rfl,_,_,_,hc⟩
      · have hxs:xs=[]:=by simpa using h0
        subst hxs
        exact Zcp Tryz.func163 (by kernel_rfl) (by kernel_rfl) (by kernel_rfl) (e:=Extern.BytealgIndexByte.indexByte) (by kernel_rfl) (Lib.run_indexByteNil (P:=Tryz.prog) w 0 0 c) ⟨rfl,Below.refl _ _⟩
      · exact Zcp Tryz.func163 (by kernel_rfl) (by kernel_rfl) (by kernel_rfl) (e:=Extern.BytealgIndexByte.indexByte) (by kernel_rfl)
          (Lib.run_indexByteSlice (P:=Tryz.prog) w b o n cap xs hn.symm (fun i hi=>Zva hc i (by omega)) c) ⟨rfl,Below.refl _ _⟩
    · cases hg
  · cases hg
theorem Z1d {E:Env}:Zu9 Tryz.prog E F.R3 Zfn:=by
  intro args v vs La w hg hv hr
  unfold Zfn at hg
  split at hg
  · rename_i l c
    cases hg
    simp only [VRL,VR] at hv
    obtain ⟨x,r,rfl,rfl,y,r2,rfl,rfl,rfl⟩:=hv
    refine ⟨.int .i64 (K4 l (byt c)),fun c=>by simp [VR],?_⟩
    have h:=Lib.run_indexByteString (P:=Tryz.prog) ⟨l.toArray⟩ c w
    simp only [Zq0] at h
    exact Zcp Tryz.func182 (by kernel_rfl) (by kernel_rfl) (by kernel_rfl) (e:=Extern.BytealgIndexByte.indexByte) (by kernel_rfl) h ⟨rfl,Below.refl _ _⟩
  · cases hg
theorem Z7e {c:Ctx} {b:Nat} {xs:List Int} (h:∀ i,i<xs.length→c.w.cell? ⟨b,i,none⟩=some (.int .u8 (xs.getD i 0))):VRC c b 0 (xs.map (AV.int .u8 ·)):=by
  refine S5 fun i x hx=>?_
  have hi:=(List.getElem?_eq_some_iff.1 hx).1
  rw [Yfh] at hi
  rw [List.getElem?_map] at hx
  obtain ⟨y,hy,rfl⟩:=Option.map_eq_some_iff.1 hx
  refine ⟨.int .u8 y,?_,by simp [VR]⟩
  rw [Yen,h i hi]
  simp [List.getD,hy]
theorem Zgd {E:Env} {w w':World} {La:Lay} (h:Rel E w (G7 [] La) [] La [] La w) (hb:Below w.heap.size w w') {cs:List AV} {pos:Option (Nat × Nat)} (hge:∀ g o,pos=some (g,o)→w.heap.size≤g)
    (hent:S1 (ctx [(.r 0,⟨0,true,true,false,cs⟩)] ⟨fun s=>if s=.r 0 then pos else La.pos s,La.F⟩ w') (.r 0) ⟨0,true,true,false,cs⟩) :
    Rel E w (G7 [] La) [] La [(.r 0,⟨0,true,true,false,cs⟩)] ⟨fun s=>if s=.r 0 then pos else La.pos s,La.F⟩ w':=by
  have hget:∀ s e,A6 [(Site.r 0,(⟨0,true,true,false,cs⟩:Ent))] s=some e→s=.r 0∧e=⟨0,true,true,false,cs⟩:=by
    intro s e he
    simp only [A6] at he
    split at he
    · rename_i hs;exact ⟨hs.symm,(Option.some.inj he).symm⟩
    · cases he
  have hblk:∀ b,inS [(Site.r 0,(⟨0,true,true,false,cs⟩:Ent))] ⟨fun s=>if s=.r 0 then pos else La.pos s,La.F⟩ b→w.heap.size≤b:=by
    rintro b ⟨s,e,o,he,_,hl⟩
    obtain ⟨rfl,rfl⟩:=hget s e he
    exact hge b o (by simpa using hl)
  have hown:∀ b,G7 [(Site.r 0,(⟨0,true,true,false,cs⟩:Ent))] ⟨fun s=>if s=.r 0 then pos else La.pos s,La.F⟩ b→w.heap.size≤b:=fun b ⟨s,e,o,he,ha,_,hl⟩=>hblk b ⟨s,e,o,he,ha,hl⟩
  have hc:CLe (ctx [] La w) (ctx [(Site.r 0,(⟨0,true,true,false,cs⟩:Ent))] ⟨fun s=>if s=.r 0 then pos else La.pos s,La.F⟩ w'):=by
    have h0:=Zb4 (La:=La) hb
    refine ⟨fun s g0 al hh=>by simp [ctx,Zoy,A6] at hh,fun b hlt ho=>?_,h0.block,h0.room,h0.size⟩
    rcases ho with ho|ho
    · have:=hown b ho
      exact absurd hlt (by show ¬ b<w.heap.size;omega)
    · exact .inr ho
  refine ⟨⟨fun s e he _=>?_,fun s s' e e' b o o' he _ he' _ _ _=>?_⟩,⟨hb.os,hb.tape,hb.output,hb.size,fun b hlt _=>hb.block b hlt,(Zb4 (La:=La) hb).room⟩,fun b hb'=>.inr (hown b hb'),fun n=>Zoz hc (h.glob n),fun x e he _=>?_,fun b hb'=>.inr (hblk b hb'),rfl,h.f0⟩
  · obtain ⟨rfl,rfl⟩:=hget s e he
    exact hent
  · rw [(hget s e he).1,(hget s' e' he').1]
  · exact absurd (hget _ e he).1 (by simp)
theorem Zw7 {E:Env} {w w':World} {La:Lay} (h:Rel E w (G7 [] La) [] La [] La w) (hb:Below w.heap.size w w') {v':Value} {n e:Nat} {xs:List Int} (ho:w'.ownsRow w.heap.size e 1 v' n (xs.map (Value.int .u8))) :
    ∃ La',Rel E w (G7 [] La) [] La [(.r 0,⟨0,true,true,false,xs.map (AV.int .u8 ·)⟩)] La' w'∧VR (ctx [(.r 0,⟨0,true,true,false,xs.map (AV.int .u8 ·)⟩)] La' w') (.buf (.r 0) 0 0 n 1) v':=by
  obtain ⟨hlen,ho⟩:=ho
  rw [Yfh,Yfn] at hlen
  rcases ho with ⟨rfl,rfl⟩|⟨g,cap,cur,rfl,hg,hcell,hcap,_,hsz,htake⟩
  · obtain rfl:=Yeh hlen
    refine ⟨_,Zgd h hb (pos:=none) (fun g o hh=>by cases hh) ?_,?_⟩
    · simp [S1,ctx]
    · simp only [VR]
      exact ⟨rfl,0,true,rfl,Ydt _,fun _ _=>by simp [K1,ctx]⟩
  · rw [Yfn] at hsz htake
    have hroom:n≤cur.size:=by omega
    refine ⟨_,Zgd h hb (pos:=some (g,0)) (fun g' o hh=>by cases hh;exact hg) ?_,?_⟩
    · have hl:(xs.map (AV.int .u8 ·)).length=n:=by rw [Yfh,hlen]
      simp only [S1,ctx,if_true]
      refine .inl ⟨⟨cur,e,(0,0),hcell,by simp only [Yfh];omega,.inl rfl⟩,Z7e fun i hi=>?_⟩
      show w'.cell? ⟨g,i,none⟩=_
      have h1:(cur.toList.take n)[i]? = some (Value.int .u8 (xs.getD i 0)):=by rw [htake];simp [List.getD,hi]
      rw [List.getElem?_take_of_lt (by omega)] at h1
      simp only [World.cell?,hcell]
      simpa using h1
    · simp only [VR]
      refine ⟨rfl,0,true,rfl,Ydt _,fun _ _=>?_⟩
      simp only [K1,ctx,if_true]
      exact .inr ⟨cap,rfl,hcap,cur,e,(0,0),hcell,by omega⟩
theorem Zdh {α:Type}:∀ {tab:List (Nat × α)} {f:Nat} {h : α},tab.lookup f=some h→(f,h)∈tab:=by
  intro tab
  induction tab with
  | nil=>intro f h hh;simp at hh
  | cons p tab ih =>
    intro f h hh
    obtain ⟨g,m⟩:=p
    rw [List.lookup_cons] at hh
    cases hb:(f==g) with
    | true =>
      rw [hb] at hh
      simp only [Option.some.injEq] at hh
      simp only [beq_iff_eq] at hb
      subst hb hh
      simp
    | false=>rw [hb] at hh;exact List.mem_cons_of_mem _ (ih hh)
end Cod
namespace Cod
open Go Go.Proofs Go.Shelf Go.RowKit
variable {P:Program} {ρ:Ren}
theorem pu8_le:∀ {l:List UInt8} {acc u:Nat},acc≤4294967295→pu8 acc l=.ok u→u≤4294967295:=by
  intro l
  induction l with
  | nil=>intro acc u ha h;rw [pu8] at h;cases h;exact ha
  | cons c r ih =>
    intro acc u ha h
    rw [pu8] at h
    split at h
    · split at h
      · cases h
      · exact ih (by omega) h
    · cases h
set_option maxHeartbeats 32000000 in
set_option maxRecDepth 100000 in
theorem Zvb (L:Lays.n287 P ρ) (t:ByteArray) (hne:t.size≠0) (hmax:t.size≤9223372036854775806) (w:World) :
    Calls P (ρ.f 287) #[.string t,.int .i64 8,.int .i64 32] w fun e w'=>e=.returned (Lib.uintTupleM (ρ.t 167) 4294967295 (pu8 0 t.data.toList))∧w'=Lib.bytesWorld w (ρ.t 5) t:=by
  have mixed:=L.mixed
  have t9:=L.t9;have a9:=L.a9;have z9:=L.z9;have v9:=L.v9
  have t3:=L.t3;have a3:=L.a3;have z3:=L.z3;have v3:=L.v3
  have t53:=L.t53;have a53:=L.a53;have z53:=L.z53;have v53:=L.v53
  have t75:=L.t75;have a75:=L.a75;have z75:=L.z75;have v75:=L.v75
  have t4:=L.t4;have a4:=L.a4;have z4:=L.z4;have v4:=L.v4
  have t167:=L.t167;have a167:=L.a167;have z167:=L.z167;have v167:=L.v167
  have t5:=L.t5;have a5:=L.a5;have z5:=L.z5;have v5:=L.v5
  have t46:=L.t46;have a46:=L.a46;have z46:=L.z46;have v46:=L.v46
  have t37:=L.t37;have a37:=L.a37;have z37:=L.z37;have v37:=L.v37
  have t0:=L.t0;have a0:=L.a0;have z0:=L.z0;have v0:=L.v0
  have e321:∀ args w,(callFunc (ρ.f 321) args).run P w=.ok (.enter (ρ.f 321) args) w:=enters_of L.f321 (by kernel_rfl) rfl
  have hemp:t.toList.isEmpty=false:=by
    rw [←decide_eq_emptyBytes]
    exact decide_eq_false (fun h=>hne (by rw [h];rfl))
  have hcv:=Lib.run_convert_string_bytes (P:=P) w (ρ.t 9) (ρ.t 37) (ρ.t 5) t (u:=.string) L.t9 L.t37 L.t5
  have hB:∀ j,j<t.size→(Lib.bytesWorld w (ρ.t 5) t).cell? ⟨w.heap.size,j,none⟩=some (.int .u8 (t.data.toList.getD j 0).toNat):=fun j hj=>Lib.bytesWorld_cell w (ρ.t 5) t j hj
  obtain ⟨W1,hW1⟩:∃ W1,W1=Lib.bytesWorld w (ρ.t 5) t:=⟨_,rfl⟩
  rw [←hW1] at hcv hB ⊢
  clear hW1
  obtain ⟨bs,hL⟩:∃ bs,bs=t.data.toList:=⟨_,rfl⟩
  have hLn:bs.length=t.size:=by rw [hL,Lib.size_eq]
  rw [←hL] at hB ⊢
  clear hL
  have hmv:IntKind.u64.wrap (IntKind.u64.wrap 4294967296-1)=4294967295:=by
    rw [IntKind.wrap_u64,IntKind.wrap_u64]
    decide
  go_enter L.f287,Body.n287_ntmps ρ
  go_wp2
  go_loop [12,13,101] (fun vu vn vi=>∃ (k acc:Nat) (a:Int),vu=.bool false∧vn=.int .u64 a∧vi=.int .i64 k∧k≤t.size∧Hid (a=(acc:Int)∧acc≤4294967295∧pu8 0 bs=pu8 acc (bs.drop k)))
    (fun _ _ vi=>t.size-(intOf vi).toNat)
  case atStart=>exact ⟨0,0,0,rfl,rfl,rfl,by omega,rfl,by omega,rfl⟩
  case round =>
    obtain ⟨k,acc,a,rfl,rfl,rfl,hk,hh⟩:=hrel
    obtain ⟨ha,hacc,hdec⟩:=hh.out
    clear hh
    have a0:0≤a:=by omega
    have a1:a≤4294967295:=by omega
    by_cases hkn:k<t.size
    · have hc:=hB k hkn
      have hdrop:bs.drop k=bs[k]'(by omega)::bs.drop (k+1):=List.drop_eq_getElem_cons (by omega)
      have hget:bs.getD k 0=bs[k]'(by omega):=by simp [List.getD,List.getElem?_eq_getElem (show k<bs.length by omega)]
      rw [hdrop] at hdec
      rw [hget] at hc
      generalize bs[k]'(by omega)=c at hc hdec
      have hc256:c.toNat<256:=c.toNat_lt
      clear hB hdrop hget
      by_cases hdig:48≤c.toNat∧c.toNat≤55
      · obtain ⟨hd0,hd1⟩:=hdig
        have hd:dg8 c=c.toNat-48:=rfl
        by_cases hov:4294967295<acc*8+(c.toNat-48)
        · have hF:pu8 acc (c::bs.drop (k+1))=.range:=by simp [pu8,hd0,hd1,hd,hov]
          rw [hF] at hdec
          have iov:4294967295<a*8+((c.toNat:Int)-48):=by omega
          clear hacc hF hov ha hd
          go_wp2
          go_ret2
          exact ⟨rfl,rfl⟩
        · have hF:pu8 acc (c::bs.drop (k+1))=pu8 (acc*8+(c.toNat-48)) (bs.drop (k+1)):=by simp [pu8,hd0,hd1,hd,hov]
          have HN:Hid (a*8+((c.toNat:Int)-48)=((acc*8+(c.toNat-48):Nat):Int)∧acc*8+(c.toNat-48)≤4294967295∧pu8 0 bs=pu8 (acc*8+(c.toNat-48)) (bs.drop (k+1))):=Lib.hid ⟨by omega,by omega,hdec.trans hF⟩
          have iov:a*8+((c.toNat:Int)-48)≤4294967295:=by omega
          clear hacc hF hov hdec ha hd
          go_wp2
          refine ⟨⟨k+1,acc*8+(c.toNat-48),a*8+((c.toNat:Int)-48),rfl,(by first|rfl|(congr 1;omega)),(by first|rfl|(congr 1;omega)),by omega,HN⟩,by simp [intOf];omega⟩
      · have hF:pu8 acc (c::bs.drop (k+1))=Go.Lib.NumEnd.syntax:=by simp [pu8,hdig]
        rw [hF] at hdec
        clear hacc hF ha
        have hv0:=bits_lo_u8 .or (c.toNat:Int) 32
        have hv1:=bits_hi_u8 .or (c.toNat:Int) 32
        have hu0:=bits_lo_u8 .or 95 32
        have hu1:=bits_hi_u8 .or 95 32
        go_wp2_with (go_at_fn (ρ.f 321);refine (Any.internal_strconv_lower { L with } _ _).mono ?_;rintro e w' ⟨rfl,rfl⟩)
        all_goals go_ret2
        all_goals first|exact ⟨rfl,rfl⟩|exact ⟨by rw [hdec];rfl,rfl⟩
    · have hkk:k=t.size:=by omega
      subst hkk
      have hF:pu8 acc (bs.drop t.size)=.ok acc:=by rw [List.drop_eq_nil_of_le (by omega)];rfl
      rw [hF] at hdec
      subst ha
      clear hacc hF a0 a1
      go_wp2
      go_ret2
      exact ⟨rfl,rfl⟩
end Cod
namespace Cod
open Go Go.Proofs Go.Shelf Go.RowKit
variable {P:Program} {ρ:Ren}
def Zvc (T:TypeId) (e:Int):Value:=if e=0 then .nilIface else .iface T (.int .i64 e)
def Zfo (T:TypeId) (x:Int × Int):Value:=.tuple #[.int .i64 x.1,Zvc T x.2]
theorem Zdi (L:Lays.n287 P ρ) (t:ByteArray) (hmax:t.size≤9223372036854775806) (w:World) :
    Calls P (ρ.f 287) #[.string t,.int .i64 8,.int .i64 32] w fun e w'=>e=.returned (Lib.uintTupleM (ρ.t 167) 4294967295 (Zgb t.data.toList))∧(w'=w∨w'=Lib.bytesWorld w (ρ.t 5) t):=by
  by_cases h0:t.size=0
  · have ht:t=⟨#[]⟩:=by
      apply ByteArray.ext
      exact Yfp h0
    subst ht
    exact (Any.internal_strconv_ParseUint_empty { L with } 8 32 w).mono fun e w' ⟨he,hw⟩=>⟨he,Or.inl hw⟩
  · have hne:t.data.toList≠[]:=fun h=>h0 (by rw [Lib.size_eq,h];rfl)
    refine (Zvb { L with } t h0 hmax w).mono fun e w' ⟨he,hw⟩=>⟨?_,Or.inr hw⟩
    rw [he,Zgb,if_neg hne]
theorem Zns {l:List UInt8} {u:Nat} (h:Zgb l=.ok u):u≤4294967295:=by
  unfold Zgb at h
  split at h
  · cases h
  · exact pu8_le (by omega) h
set_option maxHeartbeats 32000000 in
set_option maxRecDepth 100000 in
theorem Z1e (L:LaysC.n247 P ρ) (s:ByteArray) (hne:s.size≠0) (hmax:s.size≤9223372036854775806) (w:World) :
    Calls P (ρ.f 247) #[.string s,.int .i64 8,.int .i64 32] w fun e w'=>e=.returned (Zfo (ρ.t 167) (pi8 s.data.toList))∧(w'=w∨∃ t,w'=Lib.bytesWorld w (ρ.t 5) t):=by
  have mixed:=L.mixed
  have t9:=L.t9;have a9:=L.a9;have z9:=L.z9;have v9:=L.v9
  have t3:=L.t3;have a3:=L.a3;have z3:=L.z3;have v3:=L.v3
  have t2:=L.t2;have a2:=L.a2;have z2:=L.z2;have v2:=L.v2
  have t75:=L.t75;have a75:=L.a75;have z75:=L.z75;have v75:=L.v75
  have t4:=L.t4;have a4:=L.a4;have z4:=L.z4;have v4:=L.v4
  have t167:=L.t167;have a167:=L.a167;have z167:=L.z167;have v167:=L.v167
  have t5:=L.t5;have a5:=L.a5;have z5:=L.z5;have v5:=L.v5
  have t53:=L.t53;have a53:=L.a53;have z53:=L.z53;have v53:=L.v53
  have t175:=L.t175;have a175:=L.a175;have z175:=L.z175;have v175:=L.v175
  have t46:=L.t46;have a46:=L.a46;have z46:=L.z46;have v46:=L.v46
  have e287:∀ args w,(callFunc (ρ.f 287) args).run P w=.ok (.enter (ρ.f 287) args) w:=enters_of L.f287 (by kernel_rfl) rfl
  have hemp:s.toList.isEmpty=false:=by
    rw [←decide_eq_emptyBytes]
    exact decide_eq_false (fun h=>hne (by rw [h];rfl))
  have hpos:0<s.size:=by omega
  obtain ⟨c0,r,hL⟩:∃ c0 r,s.data.toList=c0::r:=by
    cases h:s.data.toList with
    | nil=>exact absurd (by rw [Lib.size_eq,h];rfl) hne
    | cons c0 r=>exact ⟨c0,r,rfl⟩
  have hsz:s.size=r.length+1:=by rw [Lib.size_eq,hL];rfl
  have hs0:s[0]'hpos=c0:=by have:=Lib.getD_at s 0 hpos;rw [hL] at this;exact this
  have hq2:∀ W,(binOp .neq (ρ.t 75) (.iface (ρ.t 167) (.int .i64 2)) (.iface (ρ.t 167) (.int .i64 1))).run P W=.ok (.bool true) W:=fun W=>Lib.run_neq_iface_int W 2 1 L.t75 L.c167 L.t167
  have hq1:∀ W,(binOp .neq (ρ.t 75) (.iface (ρ.t 167) (.int .i64 1)) (.iface (ρ.t 167) (.int .i64 1))).run P W=.ok (.bool false) W:=fun W=>Lib.run_neq_iface_int W 1 1 L.t75 L.c167 L.t167
  have hmin:wrap64 (-wrap64 2147483648) = -2147483648:=by
    unfold wrap64
    omega
  rw [hL]
  have hsl:∀ W,(Instr.slice (ρ.t 9) (.string s) (some (.int .i64 1)) none none).run P W=.ok (.string (s.extract 1 s.size)) W:=fun W=>by
    rw [run_slice_string_from_if W (ρ.t 9) s .i64 _ L.t9,if_pos ⟨by omega,by omega⟩]
    rfl
  have htl:(s.extract 1 s.size).data.toList=r:=by
    rw [Lib.extract_data,hL,Yfi,Yfc,Yej (by omega)]
  have hts:(s.extract 1 s.size).size=s.size-1:=by rw [Lib.size_eq,htl];omega
  by_cases h43:c0=43
  · subst h43
    generalize s.extract 1 s.size=t at hsl htl hts
    have hU:=Zdi { L with } t (by omega) w
    rw [htl] at hU
    have hwd:∀ w1:World,(w1=w∨w1=Lib.bytesWorld w (ρ.t 5) t)→(w1=w∨∃ t,w1=Lib.bytesWorld w (ρ.t 5) t):=fun w1 h=>h.imp id fun h=>⟨t,h⟩
    clear hL
    rw [show pi8 (43::r)=pr8 false (Zgb r) from rfl]
    cases hE:Zgb r with
    | range =>
      rw [hE] at hU
      have hU:Calls P (ρ.f 287) #[.string t,.int .i64 8,.int .i64 32] w fun e w'=>e=.returned (.tuple #[.int .u64 4294967295,.iface (ρ.t 167) (.int .i64 1)])∧(w'=w∨w'=Lib.bytesWorld w (ρ.t 5) t):=hU
      go_enter L.f247,Body.n247_ntmps ρ
      go_wp2_with (go_at_fn (ρ.f 287);refine hU.mono ?_;rintro e w1 ⟨rfl,hw1⟩)
      go_wp2
      go_ret2
      refine ⟨?_,hwd w1 hw1⟩
      first|rfl|(simp only [hmin];rfl)
    | ok u =>
      have hu64:=Zns hE
      rw [hE] at hU
      obtain ⟨a,ha⟩:∃ a:Int,a=(u:Int):=⟨_,rfl⟩
      have hU:Calls P (ρ.f 287) #[.string t,.int .i64 8,.int .i64 32] w fun e w'=>e=.returned (.tuple #[.int .u64 a,.nilIface])∧(w'=w∨w'=Lib.bytesWorld w (ρ.t 5) t):=by rw [ha];exact hU
      have a0:0≤a:=by omega
      have a1:a≤4294967295:=by omega
      by_cases hout:2147483648≤u
      · have hres:Zfo (ρ.t 167) (pr8 false (.ok u))=.tuple #[.int .i64 (2147483647),.iface (ρ.t 167) (.int .i64 1)]:=by simp [pr8,hout,Zfo,Zvc]
        rw [hres]
        have iout:2147483648≤a:=by omega
        clear hres hout hu64 ha hE
        go_enter L.f247,Body.n247_ntmps ρ
        go_wp2_with (go_at_fn (ρ.f 287);refine hU.mono ?_;rintro e w1 ⟨rfl,hw1⟩)
        go_wp2
        go_ret2
        refine ⟨?_,hwd w1 hw1⟩
        first|rfl|(simp only [hmin];rfl)
      · have hres:Zfo (ρ.t 167) (pr8 false (.ok u))=.tuple #[.int .i64 a,.nilIface]:=by simp [pr8,hout,Zfo,Zvc,ha]
        rw [hres]
        have iin:a<2147483648:=by omega
        clear hres hout hu64 ha hE
        go_enter L.f247,Body.n247_ntmps ρ
        go_wp2_with (go_at_fn (ρ.f 287);refine hU.mono ?_;rintro e w1 ⟨rfl,hw1⟩)
        go_wp2
        go_ret2
        exact ⟨rfl,hwd w1 hw1⟩
    | _ =>
      rw [hE] at hU
      have hU:Calls P (ρ.f 287) #[.string t,.int .i64 8,.int .i64 32] w fun e w'=>e=.returned (.tuple #[.int .u64 0,.iface (ρ.t 167) (.int .i64 2)])∧(w'=w∨w'=Lib.bytesWorld w (ρ.t 5) t):=hU
      go_enter L.f247,Body.n247_ntmps ρ
      go_wp2_with (go_at_fn (ρ.f 287);refine hU.mono ?_;rintro e w1 ⟨rfl,hw1⟩)
      go_wp2
      go_ret2
      exact ⟨rfl,hwd w1 hw1⟩
  by_cases h45:c0=45
  · subst h45
    generalize s.extract 1 s.size=t at hsl htl hts
    have hU:=Zdi { L with } t (by omega) w
    rw [htl] at hU
    have hwd:∀ w1:World,(w1=w∨w1=Lib.bytesWorld w (ρ.t 5) t)→(w1=w∨∃ t,w1=Lib.bytesWorld w (ρ.t 5) t):=fun w1 h=>h.imp id fun h=>⟨t,h⟩
    clear hL
    rw [show pi8 (45::r)=pr8 true (Zgb r) from rfl]
    cases hE:Zgb r with
    | range =>
      rw [hE] at hU
      have hU:Calls P (ρ.f 287) #[.string t,.int .i64 8,.int .i64 32] w fun e w'=>e=.returned (.tuple #[.int .u64 4294967295,.iface (ρ.t 167) (.int .i64 1)])∧(w'=w∨w'=Lib.bytesWorld w (ρ.t 5) t):=hU
      go_enter L.f247,Body.n247_ntmps ρ
      go_wp2_with (go_at_fn (ρ.f 287);refine hU.mono ?_;rintro e w1 ⟨rfl,hw1⟩)
      go_wp2
      go_ret2
      refine ⟨?_,hwd w1 hw1⟩
      first|rfl|(simp only [hmin];rfl)
    | ok u =>
      have hu64:=Zns hE
      rw [hE] at hU
      obtain ⟨a,ha⟩:∃ a:Int,a=(u:Int):=⟨_,rfl⟩
      have hU:Calls P (ρ.f 287) #[.string t,.int .i64 8,.int .i64 32] w fun e w'=>e=.returned (.tuple #[.int .u64 a,.nilIface])∧(w'=w∨w'=Lib.bytesWorld w (ρ.t 5) t):=by rw [ha];exact hU
      have a0:0≤a:=by omega
      have a1:a≤4294967295:=by omega
      by_cases hout:2147483648<u
      · have hres:Zfo (ρ.t 167) (pr8 true (.ok u))=.tuple #[.int .i64 (-2147483648),.iface (ρ.t 167) (.int .i64 1)]:=by simp [pr8,hout,Zfo,Zvc]
        rw [hres]
        have iout:2147483648<a:=by omega
        clear hres hout hu64 ha hE
        go_enter L.f247,Body.n247_ntmps ρ
        go_wp2_with (go_at_fn (ρ.f 287);refine hU.mono ?_;rintro e w1 ⟨rfl,hw1⟩)
        go_wp2
        go_ret2
        refine ⟨?_,hwd w1 hw1⟩
        first|rfl|(simp only [hmin];rfl)
      · have hres:Zfo (ρ.t 167) (pr8 true (.ok u))=.tuple #[.int .i64 (-a),.nilIface]:=by simp [pr8,hout,Zfo,Zvc,ha]
        rw [hres]
        have iin:a≤2147483648:=by omega
        have hwn:wrap64 (-wrap64 a) = -a:=by
          unfold wrap64
          omega
        clear hres hout hu64 ha hE
        go_enter L.f247,Body.n247_ntmps ρ
        go_wp2_with (go_at_fn (ρ.f 287);refine hU.mono ?_;rintro e w1 ⟨rfl,hw1⟩)
        go_wp2
        go_ret2
        refine ⟨?_,hwd w1 hw1⟩
        first|rfl|(simp only [hwn];rfl)
    | _ =>
      rw [hE] at hU
      have hU:Calls P (ρ.f 287) #[.string t,.int .i64 8,.int .i64 32] w fun e w'=>e=.returned (.tuple #[.int .u64 0,.iface (ρ.t 167) (.int .i64 2)])∧(w'=w∨w'=Lib.bytesWorld w (ρ.t 5) t):=hU
      go_enter L.f247,Body.n247_ntmps ρ
      go_wp2_with (go_at_fn (ρ.f 287);refine hU.mono ?_;rintro e w1 ⟨rfl,hw1⟩)
      go_wp2
      go_ret2
      exact ⟨rfl,hwd w1 hw1⟩
  · have i43:¬ (c0.toNat:Int)=43:=fun h=>h43 (UInt8.toNat_inj.1 (by show c0.toNat=43;omega))
    have i45:¬ (c0.toNat:Int)=45:=fun h=>h45 (UInt8.toNat_inj.1 (by show c0.toNat=45;omega))
    obtain ⟨t,ht⟩:∃ t,t=s:=⟨_,rfl⟩
    have hU:=Zdi { L with } s hmax w
    rw [hL] at hU
    have hwd:∀ w1:World,(w1=w∨w1=Lib.bytesWorld w (ρ.t 5) s)→(w1=w∨∃ t,w1=Lib.bytesWorld w (ρ.t 5) t):=fun w1 h=>h.imp id fun h=>⟨s,h⟩
    clear hsl htl hts
    subst ht
    clear hL
    rw [show pi8 (c0::r)=pr8 false (Zgb (c0::r)) by rw [pi8,if_neg h43,if_neg h45]]
    cases hE:Zgb (c0::r) with
    | range =>
      rw [hE] at hU
      have hU:Calls P (ρ.f 287) #[.string t,.int .i64 8,.int .i64 32] w fun e w'=>e=.returned (.tuple #[.int .u64 4294967295,.iface (ρ.t 167) (.int .i64 1)])∧(w'=w∨w'=Lib.bytesWorld w (ρ.t 5) t):=hU
      go_enter L.f247,Body.n247_ntmps ρ
      go_wp2_with (go_at_fn (ρ.f 287);refine hU.mono ?_;rintro e w1 ⟨rfl,hw1⟩)
      go_wp2
      go_ret2
      refine ⟨?_,hwd w1 hw1⟩
      first|rfl|(simp only [hmin];rfl)
    | ok u =>
      have hu64:=Zns hE
      rw [hE] at hU
      obtain ⟨a,ha⟩:∃ a:Int,a=(u:Int):=⟨_,rfl⟩
      have hU:Calls P (ρ.f 287) #[.string t,.int .i64 8,.int .i64 32] w fun e w'=>e=.returned (.tuple #[.int .u64 a,.nilIface])∧(w'=w∨w'=Lib.bytesWorld w (ρ.t 5) t):=by rw [ha];exact hU
      have a0:0≤a:=by omega
      have a1:a≤4294967295:=by omega
      by_cases hout:2147483648≤u
      · have hres:Zfo (ρ.t 167) (pr8 false (.ok u))=.tuple #[.int .i64 (2147483647),.iface (ρ.t 167) (.int .i64 1)]:=by simp [pr8,hout,Zfo,Zvc]
        rw [hres]
        have iout:2147483648≤a:=by omega
        clear hres hout hu64 ha hE
        go_enter L.f247,Body.n247_ntmps ρ
        go_wp2_with (go_at_fn (ρ.f 287);refine hU.mono ?_;rintro e w1 ⟨rfl,hw1⟩)
        go_wp2
        go_ret2
        refine ⟨?_,hwd w1 hw1⟩
        first|rfl|(simp only [hmin];rfl)
      · have hres:Zfo (ρ.t 167) (pr8 false (.ok u))=.tuple #[.int .i64 a,.nilIface]:=by simp [pr8,hout,Zfo,Zvc,ha]
        rw [hres]
        have iin:a<2147483648:=by omega
        clear hres hout hu64 ha hE
        go_enter L.f247,Body.n247_ntmps ρ
        go_wp2_with (go_at_fn (ρ.f 287);refine hU.mono ?_;rintro e w1 ⟨rfl,hw1⟩)
        go_wp2
        go_ret2
        exact ⟨rfl,hwd w1 hw1⟩
    | _ =>
      rw [hE] at hU
      have hU:Calls P (ρ.f 287) #[.string t,.int .i64 8,.int .i64 32] w fun e w'=>e=.returned (.tuple #[.int .u64 0,.iface (ρ.t 167) (.int .i64 2)])∧(w'=w∨w'=Lib.bytesWorld w (ρ.t 5) t):=hU
      go_enter L.f247,Body.n247_ntmps ρ
      go_wp2_with (go_at_fn (ρ.f 287);refine hU.mono ?_;rintro e w1 ⟨rfl,hw1⟩)
      go_wp2
      go_ret2
      exact ⟨rfl,hwd w1 hw1⟩
theorem Zvd (L:LaysC.n247 P ρ) (s:ByteArray) (hmax:s.size≤9223372036854775806) (w:World) :
    Calls P (ρ.f 247) #[.string s,.int .i64 8,.int .i64 32] w fun e w'=>e=.returned (Zfo (ρ.t 167) (pi8 s.data.toList))∧(w'=w∨∃ t,w'=Lib.bytesWorld w (ρ.t 5) t):=by
  by_cases h0:s.size=0
  · have hs:s=⟨#[]⟩:=by
      apply ByteArray.ext
      exact Yfp h0
    subst hs
    exact (Any.internal_strconv_ParseInt_empty { L with } 8 32 w).mono fun e w' ⟨he,hw⟩=>⟨he,Or.inl hw⟩
  · exact Z1e L s h0 hmax w
theorem Znt (b:Bool) (x:Lib.NumEnd Nat):(pr8 b x).2=0∨(pr8 b x).2=1∨(pr8 b x).2=2:=by
  cases x<;>simp only [pr8]<;>(try split)<;>(try split)<;>simp
theorem Ycd (l:List UInt8):(pi8 l).2=0∨(pi8 l).2=1∨(pi8 l).2=2:=by
  cases l with
  | nil=>simp [pi8]
  | cons c r =>
    by_cases h:c=43
    · rw [pi8,if_pos h];exact Znt _ _
    · by_cases h':c=45
      · rw [pi8,if_neg h,if_pos h'];exact Znt _ _
      · rw [pi8,if_neg h,if_neg h'];exact Znt _ _
set_option maxHeartbeats 4000000 in
set_option maxRecDepth 100000 in
theorem Zve (L:LaysC.n174 P ρ) (s:ByteArray) (hlim:s.size≤281474976710656) (ev1 ev2:Value) (w:World)
    (h1:w.cell? ⟨(ρ.g 15),0,none⟩=some ev1) (k1:ev1=.nilIface∨∃ te pe,ev1=.iface te pe) (h2:w.cell? ⟨(ρ.g 16),0,none⟩=some ev2) (k2:ev2=.nilIface∨∃ te pe,ev2=.iface te pe) :
    Calls P (ρ.f 174) #[.string s,.int .i64 8,.int .i64 32] w fun e w'=>(∃ ev,e=.returned (.tuple #[.int .i64 (pi8 s.data.toList).1,ev])∧(((pi8 s.data.toList).2=0∧ev=.nilIface)∨((pi8 s.data.toList).2≠0∧∃ v,ev=.iface (ρ.t 168) v)))∧Below w.heap.size w w':=by
  have mixed:=L.mixed
  have t9:=L.t9;have a9:=L.a9;have z9:=L.z9;have v9:=L.v9
  have t3:=L.t3;have a3:=L.a3;have z3:=L.z3;have v3:=L.v3
  have t2:=L.t2;have a2:=L.a2;have z2:=L.z2;have v2:=L.v2
  have t75:=L.t75;have a75:=L.a75;have z75:=L.z75;have v75:=L.v75
  have t85:=L.t85;have a85:=L.a85;have z85:=L.z85;have v85:=L.v85
  have t4:=L.t4;have a4:=L.a4;have z4:=L.z4;have v4:=L.v4
  have e247:∀ args w,(callFunc (ρ.f 247) args).run P w=.ok (.enter (ρ.f 247) args) w:=enters_of L.f247 (by kernel_rfl) rfl
  have e245:∀ args w,(callFunc (ρ.f 245) args).run P w=.ok (.enter (ρ.f 245) args) w:=enters_of L.f245 (by kernel_rfl) rfl
  have hG1:(ρ.g 15)<w.heap.size:=Lib.lt_of_cell h1
  have hG2:(ρ.g 16)<w.heap.size:=Lib.lt_of_cell h2
  have hI:=Zvd { L with } s (by omega) w
  have hE:=Ycd s.data.toList
  generalize pi8 s.data.toList=x at *
  obtain ⟨v,ec⟩:=x
  have below:∀ {W1:World},(W1=w∨∃ t,W1=Lib.bytesWorld w (ρ.t 5) t)→Below w.heap.size w W1:=by
    rintro W1 (rfl|⟨t,rfl⟩)
    · exact Below.refl _ _
    · exact Lib.bytesWorld_below _ _ _
  rcases hE with hE|hE|hE
  · simp only at hE
    subst hE
    have hI:Calls P (ρ.f 247) #[.string s,.int .i64 8,.int .i64 32] w fun e w'=>e=.returned (.tuple #[.int .i64 v,.nilIface])∧(w'=w∨∃ t,w'=Lib.bytesWorld w (ρ.t 5) t):=hI
    go_enter L.f174,Body.n174_ntmps ρ
    go_wp2_with (go_at_fn (ρ.f 247);refine hI.mono ?_;rintro e W1 ⟨rfl,hW⟩)
    go_wp2
    go_ret2
    exact ⟨⟨_,rfl,.inl ⟨by simp,rfl⟩⟩,below hW⟩
  · simp only at hE
    subst hE
    have hI:Calls P (ρ.f 247) #[.string s,.int .i64 8,.int .i64 32] w fun e w'=>e=.returned (.tuple #[.int .i64 v,.iface (ρ.t 167) (.int .i64 1)])∧(w'=w∨∃ t,w'=Lib.bytesWorld w (ρ.t 5) t):=hI
    go_enter L.f174,Body.n174_ntmps ρ
    go_wp2_with (go_at_fn (ρ.f 247);refine hI.mono ?_)
    rintro e W1 ⟨rfl,hW⟩
    have hb1:=below hW
    have hv1:W1.cell? ⟨(ρ.g 16),0,none⟩=some ev2:=(hb1.cell (show (⟨(ρ.g 16),0,none⟩:Addr).block<w.heap.size from hG2)).trans h2
    clear hW
    go_wp2_with (go_at_fn (ρ.f 245);refine (Any.strconv_toError_range { L with } ⟨#[80,97,114,115,101,73,110,116]⟩ s 8 32 ev2 _ hlim ?_ k2).mono ?_)
    · exact hv1
    rintro e W2 ⟨N,rfl,h1,h2,h3⟩
    go_wp2
    go_ret2
    exact ⟨⟨_,rfl,.inr ⟨by simp,_,rfl⟩⟩,hb1.trans (h3.mono hb1.size)⟩
  · simp only at hE
    subst hE
    have hI:Calls P (ρ.f 247) #[.string s,.int .i64 8,.int .i64 32] w fun e w'=>e=.returned (.tuple #[.int .i64 v,.iface (ρ.t 167) (.int .i64 2)])∧(w'=w∨∃ t,w'=Lib.bytesWorld w (ρ.t 5) t):=hI
    go_enter L.f174,Body.n174_ntmps ρ
    go_wp2_with (go_at_fn (ρ.f 247);refine hI.mono ?_)
    rintro e W1 ⟨rfl,hW⟩
    have hb1:=below hW
    have hv1:W1.cell? ⟨(ρ.g 15),0,none⟩=some ev1:=(hb1.cell (show (⟨(ρ.g 15),0,none⟩:Addr).block<w.heap.size from hG1)).trans h1
    clear hW
    go_wp2_with (go_at_fn (ρ.f 245);refine (Any.strconv_toError_syntax { L with } ⟨#[80,97,114,115,101,73,110,116]⟩ s 8 32 ev1 _ hlim ?_ k1).mono ?_)
    · exact hv1
    rintro e W2 ⟨N,rfl,h1,h2,h3⟩
    go_wp2
    go_ret2
    exact ⟨⟨_,rfl,.inr ⟨by simp,_,rfl⟩⟩,hb1.trans (h3.mono hb1.size)⟩
end Cod
namespace Cod
open Go Go.RowKit Go.Proofs
set_option maxRecDepth 100000
def Znu (P:Program) (E:Env) (f:Nat) (g:List AV→Option AV):Prop :=
  ∀ (args:List AV) (v:AV) (vs:List Value) (La:Lay) (w:World),g args=some v→VRL (ctx [] La w) args vs→Rel E w (G7 [] La) [] La [] La w →
    Zhc P f vs.toArray w (fun z w'=>(∀ c,VR c v z)∧Below w.heap.size w w')
theorem Zj2 {P:Program} {E:Env} {f:Nat} {g:List AV→Option AV} (h:Znu P E f g):Zd7 P E f (Z1 g):=by
  intro args σa v σr hk La w vs hr hv _
  unfold Z1 at hk
  cases σa with
  | nil =>
    simp only [Yfo,if_true,Ydz,Prod.mk.injEq] at hk
    obtain ⟨v',hg,rfl,rfl⟩:=hk
    exact (h args v' vs La w hg hv hr).mono fun z w' ⟨hz,hb⟩=>⟨La,Zgc hr hb,hz _⟩
  | cons=>simp at hk
theorem Yce {E:Env} (hE:E.glob=R9):Znu Tryz.prog E F.strconv_Itoa Zqu:=by
  intro args v vs La w hg hv hr
  unfold Zqu at hg
  split at hg
  · rename_i n
    split at hg
    · rename_i hn
      cases hg
      simp only [VRL,VR] at hv
      obtain ⟨x,r,rfl,rfl,rfl⟩:=hv
      have ht:Lib.TabIs Tryz.prog w "internal/strconv.uint64pow10" .u64 Lib.pow10Tab := by
        have:=hr.glob G.Y2
        rw [hE] at this
        exact Zql this (by kernel_rfl) (by simp [Lib.pow10Tab])
      refine W7 Tryz.func77 (by rfl) (by kernel_rfl) ((Tryz.strconv_Itoa n hn.1 hn.2 w ht).mono fun e w' ⟨he,k,os,hw⟩=>?_)
      subst hw
      exact ⟨_,he,fun c=>by simp [VR],Lib.below_grow _ _ (Ydt _) _ _⟩
    · cases hg
  · cases hg
theorem Zq1 {E:Env} (hE:E.glob=R9) {w:World} {La:Lay} (hr:Rel E w (G7 [] La) [] La [] La w) {g:Nat} {k:Option IntKind} (hg:R9 g=[.any k]):∃ ev,w.cell? ⟨g,0,none⟩=some ev∧Z2j k ev:=by
  have:=(hr.glob g).1
  rw [hE,hg] at this
  simp only [Zd9,VR,VRC] at this
  obtain ⟨_,b,o,h1,_,_,⟨v,h2,h3⟩,_⟩:=this
  simp only [Value.pointer.injEq,Option.some.injEq,Addr.mk.injEq] at h1
  obtain ⟨rfl,h1,_⟩:=h1
  have ho:o=0:=by omega
  subst ho
  exact ⟨v,h2,h3⟩
theorem Ycf {E:Env} (hE:E.glob=R9):Znu Tryz.prog E F.O9 Zj1:=by
  intro args v vs La w hg hv hr
  unfold Zj1 at hg
  split at hg
  · rename_i s
    split at hg
    · rename_i hn
      cases hg
      simp only [VRL,VR] at hv
      obtain ⟨x,r,rfl,rfl,y,r2,rfl,rfl,z,r3,rfl,rfl,rfl⟩:=hv
      have hsz:(⟨s.toArray⟩:ByteArray).size=s.length:=by simp [ByteArray.size]
      obtain ⟨ev1,h1,k1⟩:=Zq1 hE hr (g:=G.Zch) (k:=none) rfl
      obtain ⟨ev2,h2,k2⟩:=Zq1 hE hr (g:=G.Zci) (k:=none) rfl
      refine W7 Tryz.func50 (by rfl) (by kernel_rfl) ((Zve Tryz.laysC174 ⟨s.toArray⟩ (by rw [hsz];omega) ev1 ev2 w h1 k1 h2 k2).mono fun e w' ⟨⟨ev,he,hev⟩,hb⟩=>?_)
      refine ⟨_,he,fun c=>?_,hb⟩
      simp only [Zqv,VR,VRL]
      refine ⟨_,rfl,_,_,rfl,rfl,_,_,rfl,?_,rfl⟩
      rcases hev with ⟨h3,rfl⟩|⟨h3,v,rfl⟩
      · rw [if_pos h3];simp [VR]
      · rw [if_neg h3];exact ⟨_,rfl,trivial⟩
    · cases hg
  · cases hg
end Cod
namespace Cod
open Go Go.RowKit Go.Proofs
set_option maxRecDepth 100000
set_option maxHeartbeats 2000000
theorem Zw8 {E:Env} (hE:E.glob=R9):∀ p∈Zno,Zd7 Tryz.prog E p.1 p.2:=by
  unfold Zno
  refine List.forall_mem_cons.2 ⟨Zj2 (Yce hE),?_⟩
  refine List.forall_mem_cons.2 ⟨show Zd7 Tryz.prog E F.O9 (Z1 Zj1) from Zj2 (Ycf hE),?_⟩
  refine List.forall_mem_cons.2 ⟨show Zd7 Tryz.prog E F.Y0 (Z1 Zaa) from Zqz Z7d,?_⟩
  refine List.forall_mem_cons.2 ⟨show Zd7 Tryz.prog E F.R3 (Z1 Zfn) from Zqz Z1d,?_⟩
  exact fun p h=>nomatch h
end Cod
namespace Cod
open Go
def Zj3:List (Nat × (List AV→A3→Option (AV × A3))):=Zno
def E1:Env:=⟨H6,fun f=>Zj3.lookup f,R9⟩
theorem Z7f {cs:List AV} {n:Nat}:Zcw 1 (.lst cs (n+1))=.ret false:=rfl
theorem Z1f {l:List UInt8} {n:Nat} (hn:n=l.length) (h1:1≤n) (h2:n≤140737488355328):S E1 F.I2 [.lst (A1 l) n] []=some (.buf (.r 0) 0 0 n 1,[(.r 0,⟨0,true,true,false,A1 l⟩)]):=by
  obtain ⟨m,rfl⟩:∃ m,n=m+1:=⟨n-1,by omega⟩
  rw [show S E1 F.I2 [.lst (A1 l) (m+1)] []=X E1 L.I2.results [.c L.I2.code] ⟨params 0 [.lst (A1 l) (m+1)],[]⟩ from S_fn rfl Zmi rfl]
  simp -dsimp (disch:=first|omega|(simp only [A8]<;>omega)|fail) only [L.I2,go_sem,reduceIte,reduceCtorEq,D1,D2,D3,D4,D5,D6,D7,D8,D9,E2,E3,E4,E5,E6,E7,E8,E9,F0,F1,A5,BYs,Z7f]
end Cod
namespace Cod
open Go Go.RowKit Go.Proofs
set_option maxRecDepth 100000
theorem Z1g (w:World):Calls Tryz.prog 80 #[.slice none 0 0] w (fun e w'=>e=.returned (.slice none 0 0)∧w'=w):=by
  refine calls_of_wp Tryz.func80 rfl ?_
  simp only [Tryz.ntmps80,Yd2,Yd9,Ye6,Nat.reduceAdd,Nat.reduceSub,Yfq,Yfr,Yfs,Yft,Yfl,Ydw]
  have e1:∀ W:World,(binOp .eql 23 (.slice none 0 0) (.slice none 0 0)).run Tryz.prog W=.ok (.bool true) W:=fun W=>by kernel_rfl
  go_wp2
  refine bodyPost_ret (results_tmp rfl _ _ _) rfl ?_
  exact ⟨rfl,rfl⟩
theorem Zvf (w:World) (b o cap:Nat):Calls Tryz.prog 80 #[.slice (some ⟨b,o,none⟩) 0 cap] w (fun e w'=>∃ g,e=.returned (.slice (some ⟨g,0,none⟩) 0 0)∧w.heap.size≤g∧Below w.heap.size w w'∧∃ cs el,w'.heap[g]? = some (.cells cs el (0,0))):=by
  refine calls_of_wp Tryz.func80 rfl ?_
  simp only [Tryz.ntmps80,Yd2,Yd9,Ye6,Nat.reduceAdd,Nat.reduceSub,Yfq,Yfr,Yfs,Yft,Yfl,Ydw]
  have e1:∀ W:World,(binOp .eql 23 (.slice (some ⟨b,o,none⟩) 0 cap) (.slice none 0 0)).run Tryz.prog W=.ok (.bool false) W:=fun W=>by kernel_rfl
  go_wp2
  refine bodyPost_ret (results_tmp rfl _ _ _) rfl ?_
  exact ⟨_,rfl,Ydt _,(Below.refl _ w).alloc (Ydt _) _,_,_,heap_alloc_new w _⟩
theorem Z1h:Zce Tryz.prog E1:=fun f h hf=>Zw8 (E:=E1) rfl (f,h) (Zdh (show Zj3.lookup f=some h from hf))
theorem Ycg:Zgy Tryz.prog E1:=Zid (by kernel_rfl) Zuz (fun _=>rfl)
theorem Zq2 {E E':Env} (hE:E'.glob=E.glob) {w0:World} {O0:Nat→Prop} {σ0:A3} {L0:Lay} {σ:A3} {L:Lay} {w:World} (h:Rel E w0 O0 σ0 L0 σ L w):Rel E' w0 O0 σ0 L0 σ L w :=
  ⟨h.store,h.keep,h.own,fun n=>by rw [hE];exact h.glob n,h.ups,h.src,h.lf,h.f0⟩
theorem Z7g {E:Env} (hE:E.glob=R9):Zd7 Tryz.prog E F.I2 Zio:=by
  intro args σa v σr hk La w vs hr hv hup
  unfold Zio at hk
  split at hk
  · rename_i cs n
    split at hk
    · rename_i hc
      cases hk
      obtain ⟨hl,hbig,hs⟩:=hc
      obtain ⟨l,rfl⟩:=Znn hs
      rw [L4] at hl
      by_cases h1:1≤n
      · have:=Zeg Z1h Ycg (Z1f (l:=l) (n:=n) hl.symm h1 hbig) La (Zq2 (E:=E) (E':=E1) hE.symm hr) hv
        refine this.mono fun y w' ⟨La',k1,k2⟩=>⟨La',?_,k2⟩
        exact Zq2 hE k1
      · obtain rfl:n=0:=by omega
        have hxs:l=[]:=Yeh hl
        subst hxs
        simp only [VRL,VR] at hv
        obtain ⟨x,r,rfl,⟨_,hx⟩,rfl⟩:=hv
        rcases hx with ⟨_,_,rfl⟩|⟨b,o,cap,rfl,_,_,_,_⟩
        · refine W7 Tryz.func80 (by rfl) (by kernel_rfl) ((Z1g w).mono fun e w' ⟨he,hw⟩=>?_)
          subst hw
          exact ⟨_,he,Zw7 (xs:=[]) hr (Below.refl _ _) (e:=5) ⟨by simp,.inl ⟨rfl,rfl⟩⟩⟩
        · refine W7 Tryz.func80 (by rfl) (by kernel_rfl) ((Zvf w b o cap).mono fun e w' ⟨g,he,hg,hbel,cs,el,hcell⟩=>?_)
          refine ⟨_,he,_,Zgd hr hbel (pos:=some (g,0)) (fun g' o hh=>by cases hh;exact hg) ?_,?_⟩
          · simp only [S1,ctx,if_true]
            exact .inl ⟨⟨cs,el,(0,0),hcell,Nat.zero_le _,.inl rfl⟩,by simp [A1,VRC]⟩
          · simp only [VR]
            refine ⟨rfl,0,true,rfl,Ydt _,fun _ _=>?_⟩
            simp only [K1,ctx,if_true]
            exact .inl ⟨trivial,⟨cs,el,(0,0),hcell,Nat.zero_le _⟩,0,rfl⟩
    · cases hk
  · cases hk
end Cod
namespace Cod
open Go Go.RowKit Go.Proofs Go.Shelf
set_option maxRecDepth 100000
theorem Ych {E:Env} (hE:E.glob=R9):∀ p∈Zd3,Zd7 Tryz.prog E p.1 p.2:=by
  unfold Zd3
  refine List.forall_mem_cons.2 ⟨Z7g hE,?_⟩
  exact Zw8 hE
def LaE:Lay:=⟨fun _=>none,fun _=>False⟩
def Zcv (W:World):Prop:=∀ n,GV (ctx [] LaE W) n (R9 n)
theorem Z7h {E:Env} (hE:E.glob=R9) {w:World} {La:Lay} (hr:Rel E w (G7 [] La) [] La [] La w):Zcv w:=by
  intro n
  have:=hr.glob n
  rw [hE] at this
  refine Zoz ?_ this
  refine ⟨fun s g0 al h=>by simp [ctx,Zoy,A6] at h,fun b _ h=>?_,fun b _ _=>rfl,fun _ _ h=>h,Ydt _⟩
  rcases h with ⟨s,e,o,he,_⟩|h
  · simp [A6] at he
  · exact h.elim
theorem Zcv.below {w W:World} (h:Zcv w) (hb:Below w.heap.size w W):Zcv W:=fun n=>Zoz (Zb4 hb) (h n)
theorem Zcv.rel {W:World} (h:Zcv W):Rel E0 W (G7 [] LaE) [] LaE [] LaE W :=
  ⟨⟨fun s e he=>by simp [A6] at he,fun s s' e e' b o o' he=>by simp [A6] at he⟩,Keep.refl _ _,fun b hb=>.inl hb,h,fun x e he=>by simp [A6] at he,fun b hb=>.inl hb,rfl,fun b hb=>hb.elim⟩
theorem Zvg {W W':World} (h:Keep (G7 [] LaE) W W'):Below W.heap.size W W' :=
  ⟨h.os,h.tape,h.output,h.size,fun b hb=>h.block b hb (fun ⟨s,e,o,he,_⟩=>by simp [A6] at he)⟩
end Cod
namespace Cod
open Go Go.RowKit Go.Proofs Go.Shelf
set_option maxRecDepth 100000
theorem fns_ok:Zgy Tryz.prog E:=Zid (by kernel_rfl) Zuz (fun _=>rfl)
theorem Zw9 {E:Env} (hE:E.glob=R9):∀ p∈Zb3,Zd7 Tryz.prog E p.1 p.2:=by
  unfold Zb3
  exact Ych hE
theorem Z7i:Zce Tryz.prog E:=fun f h hf=>Zw9 (E:=E) rfl (f,h) (Zdh (show Zb3.lookup f=some h from hf))
theorem Zxa {f:Nat} {fn:Func} {c:Code} (hf:Tryz.prog.funcs[f]? = some fn) (hb:fn.body=some c) (hn:(fn.name == "runtime.NumGoroutine")=false) {args:List AV} {v:AV} (h:S E f args []=some (v,[]))
    {W:World} (hW:Zcv W) {vs:List Value} (hv:VRL (ctx [] LaE W) args vs) {y:Value} (hy:∀ c z,VR c v z→z=y):Calls Tryz.prog f vs.toArray W (fun e W'=>e=.returned y∧Below W.heap.size W W'):=by
  have hrel:Rel E W (G7 [] LaE) [] LaE [] LaE W:=⟨⟨fun s e he=>by simp [A6] at he,fun s s' e e' b o o' he=>by simp [A6] at he⟩,Keep.refl _ _,fun b hb=>.inl hb,hW,fun x e he=>by simp [A6] at he,fun b hb=>.inl hb,rfl,fun b hb=>hb.elim⟩
  refine (Zfh hf hb hn (Zeg Z7i fns_ok h LaE hrel hv)).mono ?_
  rintro e W' ⟨z,rfl,La',h1,h2⟩
  rw [hy _ _ h2]
  exact ⟨rfl,Zvg h1.keep⟩
end Cod

/- Arguments of plain data, read as the rows read them: their abstract values. -/
import Derived.OpenShut
import Derived.Deep.Slices
import Derived.DataReads
import Derived.Carry
import Derived.Below
import Derived.Lib.LaidTab
import Derived.ChangeMaps
import Derived.WalkKit
import Derived.ProofKit
import Derived.Deep.DeepHandedRow
import Derived.Lib.BytesEntry
import Derived.Laws.AppendOwn
import Derived.Test.YtmijmageicjfnaaDoorChecked
import Derived.Laws.Externs
import Derived.Lib.AppendIntMem
import Derived.RangeFuncKeeps
import Derived.RangeFuncLeaves
import Derived.RangeFuncCalls
import Derived.Shelf.Abstract
import Derived.OwnWalkIn
import Derived.TacticsInMore
import Derived.LoopNIn
import Derived.LoopIn
import Derived.RangeFuncNested
import Derived.Test.YtmijmageicjfnaaDoorRows
import Derived.Test.YtmijmageicjfnaaDoorXCod5
import Derived.Test.YtmijmageicjfnaaDoorXTxt1
import Derived.Test.YtmijmageicjfnaaDoorXShelf1
import Derived.Test.YtmijmageicjfnaaDoorXLit3
import Derived.Test.YtmijmageicjfnaaDoorXTxt4
set_option linter.unusedSimpArgs false
set_option linter.unusedVariables false
namespace Cod
open Go

inductive Ty where
  | int (k : IntKind)
  | bool
  | str
  | nil
  | cat (a b : Ty)
  | rep (n : Nat) (a : Ty)
  | sl (e : Ty)

def Ty.noSl : Ty → Bool
  | .sl _ => false
  | .cat a b => a.noSl && b.noSl
  | .rep _ a => a.noSl
  | _ => true

/-- What cells of such a type hold. -/
def Wf : Ty → List AV → Prop
  | .int k, ys0 => ∃ n, ys0 = [.int k n] ∧ (Lit.int k n).wf = true
  | .bool, ys0 => ∃ b, ys0 = [.bool b]
  | .str, ys0 => ∃ s, ys0 = [.str s] ∧ s.length ≤ maxLen
  | .nil, ys0 => ys0 = []
  | .cat a b, ys0 => ∃ x y, ys0 = x ++ y ∧ Wf a x ∧ Wf b y
  | .rep n a, ys0 => ∃ r : List (List AV), ys0 = r.flatten ∧ r.length = n ∧ ∀ x ∈ r, Wf a x
  | .sl e, ys0 => ∃ r : List (List AV), ys0 = [.lst r.flatten r.length] ∧ r.length ≤ maxLen ∧ ∀ x ∈ r, Wf e x

def fieldsTy (P : Program) (rec : TypeId → Option Ty) (total : Nat) : Nat → List Field → Option Ty
  | off, [] => if off = total then some .nil else none
  | off, f :: fs => if f.offset = off then match rec f.type, fieldsTy P rec total (off + P.cellsOf f.type) fs with
    | some a, some b => some (.cat a b)
    | _, _ => none
    else none

def leafTy (P : Program) (t : TypeId) (T : Ty) : Option Ty := if P.cellsOf t = 1 then some T else none

def tyOf (P : Program) : Nat → TypeId → Option Ty
  | 0, _ => none
  | d + 1, t => match P.underlying t with
    | some .bool => leafTy P t .bool
    | some (.int k) => leafTy P t (.int k)
    | some .string => leafTy P t .str
    | some (.slice e) => if P.cellsOf e = 0 then none else match tyOf P d e with
      | some T => if T.noSl then leafTy P t (.sl T) else none
      | none => none
    | some (.struct fs) => fieldsTy P (tyOf P d) (P.cellsOf t) 0 fs.toList
    | some (.array n e) => if P.cellsOf t = n * P.cellsOf e then (tyOf P d e).map (.rep n ·) else none
    | _ => none

/- The bulk that a reading has, and an abstract value's. -/
mutual
def dbulk {H : Type} : DataW H → Nat
  | .lit (.string bytes) => bytes.length + 1
  | .lit _ => 1
  | .nil => 1
  | .ptr d => dbulk d + 1
  | .slice elems spare => dbulkAll elems + dbulkAll spare + 1
  | .agg parts => dbulkAll parts + 1
  | .iface _ d => dbulk d + 1
  | .map entries => dbulkEntries entries + 1
  | .held _ => 1
def dbulkAll {H : Type} : List (DataW H) → Nat
  | [] => 0
  | d :: r => dbulk d + dbulkAll r
def dbulkEntries {H : Type} : List (Lit × DataW H) → Nat
  | [] => 0
  | x :: r => dbulkEntry x + dbulkEntries r
def dbulkEntry {H : Type} : Lit × DataW H → Nat
  | (.string bytes, d) => bytes.length + dbulk d + 1
  | (_, d) => dbulk d + 1
end
mutual
def abulk : AV → Nat
  | .str s => s.length + 1
  | .lst cs n => max (abulks cs) n + 1
  | .agg cs => abulks cs
  | _ => 1
def abulks : List AV → Nat
  | [] => 0
  | a :: r => abulk a + abulks r
end
theorem abulks_append (a b : List AV) : abulks (a ++ b) = abulks a + abulks b := by
  induction a with
  | nil => simp [abulks]
  | cons x a ih => simp only [List.cons_append, abulks, ih]; omega
theorem abulks_flatten_le {H : Type} : ∀ (r : List (List AV)) (ds : List (DataW H)), r.length = ds.length → (∀ (i : Nat) (x : List AV) (d : DataW H), r[i]? = some x → ds[i]? = some d → abulks x ≤ dbulk d) → abulks r.flatten ≤ dbulkAll ds := by
  intro r
  induction r with
  | nil => intro ds h _; cases ds with | nil => simp [abulks, dbulkAll] | cons => simp at h
  | cons x r ih =>
    intro ds h hx
    cases ds with
    | nil => simp at h
    | cons d ds =>
      simp only [List.flatten_cons, abulks_append, dbulkAll]
      have h1 := hx 0 x d (by simp) (by simp)
      have h2 := ih ds (by simpa using h) (fun i y e hy he => hx (i + 1) y e (by simpa using hy) (by simpa using he))
      omega
theorem one_le_dbulk {H : Type} (d : DataW H) : 1 ≤ dbulk d := by
  cases d with
  | lit l => cases l <;> simp [dbulk]
  | _ => simp [dbulk]
theorem length_le_dbulkAll {H : Type} : ∀ (l : List (DataW H)), l.length ≤ dbulkAll l := by
  intro l
  induction l with
  | nil => simp
  | cons d l ih => have := one_le_dbulk d; simp only [dbulkAll, List.length_cons]; omega

theorem flats_flatten : ∀ {r : List (List AV)}, (∀ x ∈ r, flats x = true) → flats r.flatten = true := by
  intro r
  induction r with
  | nil => intro _; simp [flats]
  | cons x r ih => intro h; rw [List.flatten_cons, flats_append, h x (by simp), ih (fun y hy => h y (by simp [hy]))]; rfl

/-- n readings, one behind the other. -/
theorem rows_of {p : Nat → List AV → Prop} : ∀ (n : Nat), (∀ i, i < n → ∃ ys0, p i ys0) → ∃ r : List (List AV), r.length = n ∧ ∀ i x, r[i]? = some x → p i x := by
  intro n
  induction n with
  | zero => intro _; exact ⟨[], rfl, fun i x h => by simp at h⟩
  | succ n ih =>
    intro h
    obtain ⟨r, h1, h2⟩ := ih (fun i hi => h i (by omega))
    obtain ⟨a, ha⟩ := h n (by omega)
    refine ⟨r ++ [a], by simp [h1], fun i x hx => ?_⟩
    rcases Nat.lt_or_ge i r.length with hi | hi
    · rw [List.getElem?_append_left hi] at hx; exact h2 i x hx
    · rw [List.getElem?_append_right hi] at hx
      have : i = r.length := by
        rcases Nat.lt_or_ge (i - r.length) 1 with h3 | h3
        · omega
        · rw [List.getElem?_eq_none (by simpa using h3)] at hx; cases hx
      subst this
      simp at hx
      subst hx
      rw [h1]; exact ha

theorem VRL_flatten {c : Ctx} {z : Nat} : ∀ (r : List (List AV)) (cs : List Value), cs.length = r.length * z → (∀ i x, r[i]? = some x → VRL c x ((cs.drop (i * z)).take z)) → VRL c r.flatten cs := by
  intro r
  induction r with
  | nil => intro cs h _; simp at h; subst h; simp [VRL]
  | cons x r ih =>
    intro cs h hx
    have h0 := hx 0 x (by simp)
    simp only [Nat.zero_mul, List.drop_zero] at h0
    have h1 := ih (cs.drop z) (by rw [List.length_drop, h, List.length_cons, Nat.succ_mul]; omega) (fun i y hy => by
      have := hx (i + 1) y (by simpa using hy)
      rw [List.drop_drop, show z + i * z = (i + 1) * z by rw [Nat.succ_mul]; omega]
      exact this)
    rw [List.flatten_cons, ← List.take_append_drop z cs]
    exact VRL_append h0 h1

theorem VRC_of_VRL {c : Ctx} {b o : Nat} : ∀ {xs : List AV} {vs : List Value}, VRL c xs vs → (∀ i v, vs[i]? = some v → c.w.cell? ⟨b, o + i, none⟩ = some v) → VRC c b o xs := by
  intro xs vs h hc
  refine VRC_of_get fun i x hx => ?_
  obtain ⟨v, h1, h2⟩ := VRL_get h hx
  exact ⟨v, hc i v h1, h2⟩

theorem VRC_append {c : Ctx} {b : Nat} : ∀ {o : Nat} {xs ys : List AV}, VRC c b o xs → VRC c b (o + xs.length) ys → VRC c b o (xs ++ ys) := by
  intro o xs
  induction xs generalizing o with
  | nil => intro ys _ h; simpa using h
  | cons x xs ih =>
    intro ys h k
    simp only [VRC] at h
    simp only [List.cons_append, VRC]
    refine ⟨h.1, ih h.2 ?_⟩
    rw [show o + 1 + xs.length = o + (x :: xs).length by simp; omega]
    exact k

theorem VRC_flatten {c : Ctx} {b z : Nat} : ∀ {o : Nat} (r : List (List AV)), (∀ x ∈ r, x.length = z) → (∀ i x, r[i]? = some x → VRC c b (o + i * z) x) → VRC c b o r.flatten := by
  intro o r
  induction r generalizing o with
  | nil => intro _ _; simp [VRC]
  | cons x r ih =>
    intro hl hx
    rw [List.flatten_cons]
    refine VRC_append (by simpa using hx 0 x (by simp)) (ih (fun y hy => hl y (by simp [hy])) fun i y hy => ?_)
    rw [hl x (by simp), show o + z + i * z = o + (i + 1) * z by rw [Nat.succ_mul]; omega]
    exact hx (i + 1) y (by simpa using hy)

/-- Slices among these cells point to a place that is there. -/
def Placed (w : World) (cs : List Value) : Prop := ∀ a n m, Value.slice (some a) n m ∈ cs → a.spot = none ∧ a.block < w.heap.size

section
variable {H : Type} {enc : TypeId × Value → H} {P : Program} {base : Nat} {held : Bool} {c : Ctx}

theorem leafTy_some {t : TypeId} {T U : Ty} (h : leafTy P t T = some U) : P.cellsOf t = 1 ∧ U = T := by
  unfold leafTy at h
  split at h
  · exact ⟨by assumption, (Option.some.inj h).symm⟩
  · cases h

/-- What a reading of such a type gives. -/
def Got (c : Ctx) (P : Program) (t : TypeId) (T : Ty) (cs : List Value) (d : DataW H) : Prop :=
  ∃ ys0, VRL c ys0 cs ∧ Wf T ys0 ∧ flats ys0 = true ∧ abulks ys0 ≤ dbulk d ∧ cs.length = P.cellsOf t

theorem fields_got {rec : TypeId → Option Ty} {tr : TypeId → List Value → Option (DataW H × List MemPlace)} {total : Nat} {cs : List Value} (hcs : cs.length = total) : ∀ (fs : List Field) (off : Nat) (T : Ty) (xs : List (DataW H × List MemPlace)),
    fieldsTy P rec total off fs = some T → xs.length = fs.length → (∀ (i : Nat) (f : Field), fs[i]? = some f → tr f.type ((cs.drop f.offset).take (P.cellsOf f.type)) = xs[i]?) →
    (∀ (t : TypeId) (U : Ty) (us : List Value) (x : DataW H × List MemPlace), (∀ v ∈ us, v ∈ cs) → (T.noSl = true → U.noSl = true) → rec t = some U → tr t us = some x → Got c P t U us x.1) → off ≤ total →
    ∃ ys0, VRL c ys0 (cs.drop off) ∧ Wf T ys0 ∧ flats ys0 = true ∧ abulks ys0 ≤ dbulkAll (xs.map (·.1)) := by
  intro fs
  induction fs with
  | nil =>
    intro off T xs h hl _ _ ho
    simp only [fieldsTy] at h
    split at h
    · cases h
      have : cs.drop off = [] := by rw [List.drop_eq_nil_iff]; omega
      rw [this]
      exact ⟨[], by simp [VRL], by simp [Wf], by simp [flats], by simp [abulks]⟩
    · cases h
  | cons f fs ih =>
    intro off T xs h hl hx hrec ho
    simp only [fieldsTy] at h
    split at h
    · rename_i hoff
      split at h
      · rename_i A B hA hB
        cases h
        cases xs with
        | nil => simp at hl
        | cons x xs =>
          have h0 := hx 0 f (by simp)
          simp only [List.getElem?_cons_zero] at h0
          obtain ⟨ys0, k1, k2, k3, k4, k5⟩ := hrec f.type A _ x (fun v hv => List.mem_of_mem_drop (List.mem_of_mem_take hv)) (fun hn => by simp only [Ty.noSl, Bool.and_eq_true] at hn; exact hn.1) hA h0
          rw [hoff] at k1 k5
          simp only [List.length_take, List.length_drop] at k5
          have hle : off + P.cellsOf f.type ≤ total := by omega
          obtain ⟨bs, l1, l2, l3, l4⟩ := ih (off + P.cellsOf f.type) B xs hB (by simpa using hl) (fun i g hg => by have := hx (i + 1) g (by simpa using hg); simpa using this)
            (fun t U us y hus hn => hrec t U us y hus (fun hn' => hn (by simp only [Ty.noSl, Bool.and_eq_true] at hn'; exact hn'.2))) hle
          refine ⟨ys0 ++ bs, ?_, ⟨ys0, bs, rfl, k2, l2⟩, by rw [flats_append, k3, l3]; rfl, ?_⟩
          · rw [← List.take_append_drop (P.cellsOf f.type) (cs.drop off), List.drop_drop]
            exact VRL_append k1 l1
          · simp only [abulks_append, List.map_cons, dbulkAll]; omega
      · cases h
    · cases h

theorem trod_VR (hO : ∀ b, ¬ c.O b) : ∀ (d : Nat) (t : TypeId) (T : Ty) (fuel : Nat) (cs : List Value) (x : DataW H × List MemPlace), tyOf P d t = some T → (T.noSl = true ∨ Placed c.w cs) →
    DataW.trod enc P c.w base (fun _ => true) held fuel t cs = some x → Got c P t T cs x.1 := by
  intro d
  induction d with
  | zero => intro t T fuel cs x h; simp [tyOf] at h
  | succ d ih =>
    intro t T fuel cs x hT hp h
    unfold tyOf at hT
    cases hu : P.underlying t with
    | none => rw [hu] at hT; simp at hT
    | some u =>
      rw [hu] at hT
      cases u with
      | bool =>
        obtain ⟨hc, rfl⟩ := leafTy_some hT
        obtain ⟨b, rfl, rfl⟩ := DataW.trod_bool hu h
        exact ⟨[.bool b], VRL_one (by simp [VR]), ⟨b, rfl⟩, by simp [flats, flat], by simp [abulks, abulk, dbulk], by simp [hc]⟩
      | int k =>
        obtain ⟨hc, rfl⟩ := leafTy_some hT
        obtain ⟨n, rfl, rfl, hw⟩ := DataW.trod_int hu h
        exact ⟨[.int k n], VRL_one (by simp [VR]), ⟨n, rfl, hw⟩, by simp [flats, flat], by simp [abulks, abulk, dbulk], by simp [hc]⟩
      | string =>
        obtain ⟨hc, rfl⟩ := leafTy_some hT
        obtain ⟨s, rfl, rfl, hs⟩ := DataW.trod_string hu h
        exact ⟨[.str s.data.toList], VRL_one (by simp [VR]), ⟨_, rfl, by simpa using hs⟩, by simp [flats, flat], by simp [abulks, abulk, dbulk], by simp [hc]⟩
      | slice e =>
        simp only at hT
        split at hT
        · cases hT
        · rename_i hz
          split at hT
          · rename_i U hU
            split at hT
            · rename_i hns
              obtain ⟨hc, rfl⟩ := leafTy_some hT
              rcases Go.Deep.open_slice hu h with ⟨rfl, rfl⟩ | ⟨a, len, cap, m, n, D, Pl, rfl, _, hl, hm, hmm, rfl, hx⟩
              · exact ⟨[.lst [] 0], VRL_one (by simp [VR, flats]), ⟨[], by simp, by simp, by simp⟩, by simp [flats, flat], by simp [abulks, abulk, dbulk], by simp [hc]⟩
              · simp only [if_true] at hmm
                subst hmm
                obtain ⟨hsp, hblk⟩ := (hp.resolve_left (by simp [Ty.noSl])) a len m (by simp)
                obtain ⟨r, hr1, hr2⟩ := rows_of (p := fun i ys0 => ∃ cs', c.w.cells? base (a.add (i * P.cellsOf e)) (P.cellsOf e) = some cs' ∧ VRL c ys0 cs' ∧ Wf U ys0 ∧ flats ys0 = true ∧ abulks ys0 ≤ dbulk (D i) ∧ cs'.length = P.cellsOf e) len (fun i hi => by
                  obtain ⟨cs', h1, h2⟩ := hx i (by omega)
                  obtain ⟨ys0, g⟩ := ih e U n cs' _ hU (.inl hns) h2
                  exact ⟨ys0, cs', h1, g⟩)
                have hlen : ∀ x ∈ r, x.length = P.cellsOf e := by
                  intro x hx
                  obtain ⟨i, hi⟩ := List.mem_iff_getElem?.1 hx
                  obtain ⟨cs', _, k1, _, _, _, k2⟩ := hr2 i x hi
                  rw [← VRL_length k1]; exact k2
                refine ⟨[.lst r.flatten r.length], VRL_one ?_, ⟨r, rfl, by omega, fun x hx => ?_⟩, ?_, ?_, by simp [hc]⟩
                · simp only [VR]
                  refine ⟨flats_flatten fun x hx => ?_, .inr ⟨a.block, a.off, m, ?_, by omega, hblk, hO _, ?_⟩⟩
                  · obtain ⟨i, hi⟩ := List.mem_iff_getElem?.1 hx
                    obtain ⟨_, _, _, _, k, _⟩ := hr2 i x hi
                    exact k
                  · rw [hr1]
                    obtain ⟨b, o, s⟩ := a
                    simp only at hsp
                    subst hsp
                    rfl
                  · refine VRC_flatten r hlen fun i x hx => ?_
                    obtain ⟨cs', k0, k1, _, _, _, k2⟩ := hr2 i x hx
                    refine VRC_of_VRL k1 fun j v hj => ?_
                    obtain ⟨_, _, hcell⟩ := World.cells?_some k0
                    have hjl := (List.getElem?_eq_some_iff.1 hj).1
                    have := hcell j (by omega)
                    rw [hj] at this
                    rw [← this]
                    have ha : (a.add (i * P.cellsOf e)).add j = a.add (i * P.cellsOf e + j) := Go.Deep.add_add _ _ _
                    rw [ha]
                    congr 1
                    unfold Addr.add
                    obtain ⟨b, o, s⟩ := a
                    simp only at hsp
                    subst hsp
                    split
                    · rename_i h0; simp only [Nat.add_assoc, h0, Nat.add_zero]
                    · simp only [Nat.add_assoc]
                · obtain ⟨i, hi⟩ := List.mem_iff_getElem?.1 hx
                  obtain ⟨_, _, _, k, _, _⟩ := hr2 i x hi
                  exact k
                · simp [flats, flat]
                · simp only [abulks, abulk, dbulk, Nat.add_zero]
                  have h1 : abulks r.flatten ≤ dbulkAll ((List.range len).map D) := abulks_flatten_le r _ (by simp [hr1]) (fun i x d hi hd => by
                    obtain ⟨_, _, _, _, _, k, _⟩ := hr2 i x hi
                    have : d = D i := by
                      rw [List.getElem?_map] at hd
                      obtain ⟨j, hj, rfl⟩ := Option.map_eq_some_iff.1 hd
                      rw [List.getElem?_range (by have := (List.getElem?_eq_some_iff.1 hi).1; omega)] at hj
                      cases hj; rfl
                    subst this; exact k)
                  have h2 := length_le_dbulkAll ((List.range len).map D)
                  simp only [List.length_map, List.length_range] at h2
                  omega
            · cases hT
          · cases hT
      | struct fs =>
        simp only at hT
        obtain ⟨xs, n, rfl, rfl, hl, hxl, hx⟩ := DataW.trod_struct hu h
        obtain ⟨ys0, k1, k2, k3, k4⟩ := fields_got (c := c) (tr := fun t cs => DataW.trod enc P c.w base (fun _ => true) held n t cs) hl fs.toList 0 T xs hT (by simpa using hxl) (fun i f hf => hx i f (by simpa using hf))
          (fun t' U us y hus hn hr ht => ih t' U n us y hr (by
            rcases hp with hp | hp
            · exact .inl (hn hp)
            · exact .inr fun a p q hv => hp a p q (hus _ hv)) ht) (by omega)
        rw [List.drop_zero] at k1
        exact ⟨ys0, k1, k2, k3, by simp only [dbulk]; omega, hl⟩
      | array n e =>
        simp only at hT
        split at hT
        · rename_i hsz
          obtain ⟨U, hU, rfl⟩ := Option.map_eq_some_iff.1 hT
          obtain ⟨xs, m, rfl, rfl, hl, hxl, hx⟩ := DataW.trod_array hu h
          obtain ⟨r, hr1, hr2⟩ := rows_of (p := fun i ys0 => ∃ y, xs[i]? = some y ∧ VRL c ys0 ((cs.drop (i * P.cellsOf e)).take (P.cellsOf e)) ∧ Wf U ys0 ∧ flats ys0 = true ∧ abulks ys0 ≤ dbulk y.1) n (fun i hi => by
            have h1 := hx i hi
            rw [List.getElem?_eq_getElem (by omega)] at h1
            obtain ⟨ys0, g1, g2, g3, g4, _⟩ := ih e U m _ _ hU (by
              rcases hp with hp | hp
              · exact .inl hp
              · exact .inr fun a p q hv => hp a p q (List.mem_of_mem_drop (List.mem_of_mem_take hv))) h1
            exact ⟨ys0, _, List.getElem?_eq_getElem (by omega), g1, g2, g3, g4⟩)
          refine ⟨r.flatten, VRL_flatten r cs (by rw [hl, hsz, hr1]) (fun i x hx => ?_), ⟨r, rfl, hr1, fun x hx => ?_⟩, flats_flatten fun x hx => ?_, ?_, hl⟩
          · obtain ⟨_, _, k, _⟩ := hr2 i x hx; exact k
          · obtain ⟨i, hi⟩ := List.mem_iff_getElem?.1 hx
            obtain ⟨_, _, _, k, _⟩ := hr2 i x hi; exact k
          · obtain ⟨i, hi⟩ := List.mem_iff_getElem?.1 hx
            obtain ⟨_, _, _, _, k, _⟩ := hr2 i x hi; exact k
          · simp only [dbulk]
            have : abulks r.flatten ≤ dbulkAll (xs.map (·.1)) := abulks_flatten_le r _ (by simp [hr1, hxl]) (fun i x d hi hd => by
              obtain ⟨y, hy, _, _, _, k⟩ := hr2 i x hi
              simp only [List.getElem?_map, hy, Option.map_some, Option.some.injEq] at hd
              subst hd; exact k)
            omega
        · cases hT
      | _ => simp at hT

end
end Cod

/- A law's call: out of its abstract run. -/
namespace Cod
open Go Go.RowKit

theorem calls_of_FnOK {P : Program} {f : Nat} {fn : Func} {c : Code} {w : World} (hf : P.funcs[f]? = some fn) (hb : fn.body = some c) (hn : (fn.name == "runtime.NumGoroutine") = false) {args : Array Value} {R : Value → World → Prop}
    (h : FnOK P f args w R) : Calls P f args w (fun e w' => ∃ y, e = .returned y ∧ R y w') := by
  have h1 := h { dst := some 0, op := .move (.const undef), type := 0, pos := "", after := #[], guard := none } ⟨#[undef], []⟩ (fun a w' => ∃ y, a.tmps[0]? = some y ∧ R y w') (fun _ _ _ => False) (fun y w' hy => ⟨y, by simp [Act.put], hy⟩)
  have hrun : (callFunc f args).run P w = .ok (.enter f args) w := by
    have hn2 : ¬ (fn.name = "runtime.NumGoroutine") := by simpa using hn
    simp [callFunc, run_program, hf, hn2, hb]
  rw [hrun, Oper.upon_enter] at h1
  refine Calls.mono h1 fun e w' he => ?_
  cases e with
  | returned v =>
    obtain ⟨y, h2, h3⟩ := he
    simp only [Act.put] at h2
    have : v = y := by simpa using h2
    subst this
    exact ⟨v, rfl, h3⟩
  | panicked ch => exact he.elim
  | outgrown => obtain ⟨_, _, h4⟩ := he; exact h4.elim

def La0 : Lay := ⟨fun _ => none, fun _ => False⟩
/-- The variables hold what the run takes them to hold. -/
def GlobOK (E : Env) (w : World) : Prop := ∀ n, GV (ctx [] La0 w) n (E.glob n)

theorem own0 {w : World} (b : Nat) : ¬ (ctx [] La0 w).O b := by
  rintro (⟨s, e, o, he, _⟩ | h)
  · simp [getS] at he
  · exact h

theorem rel0 {E : Env} {w : World} (hg : GlobOK E w) : Rel E w (ownS [] La0) [] La0 [] La0 w where
  store := ⟨fun s e he => by simp [getS] at he, fun s s' e e' b o o' he => by simp [getS] at he⟩
  keep := Keep.refl _ _
  own b hb := .inl hb
  glob := hg
  ups x e he := by simp [getS] at he
  src b hb := .inl hb
  lf := rfl
  f0 b hb := hb.elim

/-- A law that its abstract run answers 'b'. -/
theorem law_calls {P : Program} {E : Env} (hk : KnownOK P E) (hfn : FnsOK P E) {f : Nat} {fn : Func} {c : Code} (hf : P.funcs[f]? = some fn) (hb : fn.body = some c) (hn : (fn.name == "runtime.NumGoroutine") = false)
    {args : List AV} {b : Bool} {σr : Store} (h : S E f args [] = some (.bool b, σr)) {w : World} {vs : List Value} (hg : GlobOK E w) (hv : VRL (ctx [] La0 w) args vs) :
    Calls P f vs.toArray w fun e w' => e = .returned (.bool b) ∧ Below w.heap.size w w' := by
  refine (calls_of_FnOK hf hb hn (calls_of_S hk hfn h La0 (rel0 hg) hv)).mono fun e w' ⟨y, he, La', hr, hy⟩ => ?_
  simp only [VR] at hy
  subst hy
  refine ⟨he, hr.keep.os, hr.keep.tape, hr.keep.output, hr.keep.size, fun k hk => hr.keep.block k hk ?_⟩
  rintro ⟨s, e, o, he, _⟩
  simp [getS] at he

/-! ### variables that a row lists -/
theorem laid_mem {P : Program} {W : World} {name : String} {d : DataW Unit} : ∀ {l : List (String × DataW Unit)} {ps : List MemPlace}, DataW.LaidVars P W l ps → (name, d) ∈ l →
    ∃ g t cs fuel p, P.globalNamed name = some g ∧ (P.globals[g]?).map (·.type) = some t ∧ W.var? P name = some cs ∧ DataW.trod (fun _ => ()) P W 0 (fun _ => true) false fuel t cs.toList = some (d, p) := by
  intro l
  induction l with
  | nil => intro ps _ h; simp at h
  | cons x l ih =>
    intro ps h hm
    obtain ⟨n, e⟩ := x
    obtain ⟨g, t, cs, fuel, p, q, h1, h2, h3, h4, h5, _⟩ := h
    rcases List.mem_cons.1 hm with hm | hm
    · cases hm; exact ⟨g, t, cs, fuel, p, h1, h2, h3, h4⟩
    · exact ih h5 hm

theorem laidH_mem {P : Program} {W : World} {l : List (String × DataW Unit)} (h : laidMetH P l W) {name : String} {d : DataW Unit} (hm : (name, d) ∈ l) (hd : d.handleName?.isNone = true) :
    ∃ g t cs fuel p, P.globalNamed name = some g ∧ (P.globals[g]?).map (·.type) = some t ∧ W.var? P name = some cs ∧ DataW.trod (fun _ => ()) P W 0 (fun _ => true) false fuel t cs.toList = some (d, p) := by
  unfold laidMetH at h
  split at h
  · obtain ⟨ps, h1, _⟩ := h; exact laid_mem h1 hm
  · obtain ⟨⟨ps, h1, _⟩, _⟩ := h
    exact laid_mem h1 (List.mem_filter.2 ⟨hm, by simpa using hd⟩)

/-- A table of whole numbers, ys0 the row lists it. -/
theorem tab_of_laid {P : Program} {W : World} {l : List (String × DataW Unit)} (h : laidMetH P l W) {name : String} {k : IntKind} {zs : List Int} {g : Nat} {t e : TypeId} {n : Nat} (hm : (name, Lib.tabData k zs) ∈ l)
    (hg : P.globalNamed name = some g) (hty : (P.globals[g]?).map (·.type) = some t) (ht : P.underlying t = some (.array n e)) (he : P.underlying e = some (.int k)) (hce : P.cellsOf e = 1) (hct : P.cellsOf t = n) : Lib.TabIs P W name k zs := by
  obtain ⟨g', t', cs, fuel, p, hg', ht', hvar, hd⟩ := laidH_mem h hm rfl
  obtain rfl := Option.some.inj (hg.symm.trans hg')
  obtain rfl := Option.some.inj (hty.symm.trans ht')
  unfold Lib.TabIs
  rw [hvar, ← Lib.cells_of_tab ht he hce hct hd]

theorem flats_ints {k : IntKind} : ∀ {zs : List Int}, flats (zs.map fun z => AV.int k z) = true := by
  intro zs
  induction zs with
  | nil => rfl
  | cons z zs ih => simp only [List.map_cons, flats, ih, flat]; rfl

theorem tab_row {P : Program} {W : World} {name : String} {k : IntKind} {zs : List Int} {g : Nat} (h : Lib.TabIs P W name k zs) (hg : P.globalNamed name = some g) :
    ∃ cs el fr, W.heap[g]? = some (.cells cs el fr) ∧ cs.size = (zs.map fun z => AV.int k z).length := by
  unfold Lib.TabIs World.var? at h
  rw [hg] at h
  simp only [Option.bind_some] at h
  split at h
  · rename_i cs el fr hc
    cases h
    exact ⟨_, el, fr, hc, by simp⟩
  · cases h
/-- A table of the world, out of what the run keeps of it. -/
theorem tab_of_glob {P : Program} {W : World} {La : Lay} {name : String} {k : IntKind} {zs : List Int} {g : Nat} (h : GV (ctx [] La W) g (zs.map fun z => AV.int k z)) (hg : P.globalNamed name = some g) (hz : zs ≠ []) : Lib.TabIs P W name k zs := by
  obtain ⟨h1, h2⟩ := h
  rcases h2 with h2 | ⟨cs, el, fr, hc, hs⟩
  · exact absurd (List.map_eq_nil_iff.1 h2) hz
  · rw [show (ctx [] La W).w = W from rfl] at hc
    unfold Lib.TabIs World.var?
    rw [hg]
    simp only [Option.bind_some, hc, Option.some.injEq]
    have hv : VR (ctx [] La W) (.fp (zs.map fun z => AV.int k z) 0) (.pointer (some ⟨g, 0, none⟩)) := by
      cases zs with
      | nil => exact absurd rfl hz
      | cons z zs => exact h1
    simp only [VR] at hv
    obtain ⟨_, b, o, h3, _, _, hcell⟩ := hv
    simp only [Value.pointer.injEq, Option.some.injEq, Addr.mk.injEq] at h3
    obtain ⟨rfl, h3, _⟩ := h3
    have ho : o = 0 := by omega
    subst ho
    apply Array.ext
    · rw [hs]; simp
    · intro i hi1 hi2
      have hi : i < zs.length := by simpa using hi2
      obtain ⟨v, k1, k2⟩ := VRC_get hcell (i := i) (x := .int k zs[i]) (by simp [hi])
      simp only [VR] at k2
      rw [show (ctx [] La W).w = W from rfl, Nat.zero_add] at k1
      simp only [World.cell?, hc] at k1
      rw [Array.getElem?_eq_getElem hi1] at k1
      cases k1
      rw [k2]; simp

theorem glob_tab {P : Program} {W : World} {name : String} {k : IntKind} {zs : List Int} {g : Nat} (h : Lib.TabIs P W name k zs) (hg : P.globalNamed name = some g) (hz : zs ≠ []) :
    GV (ctx [] La0 W) g (zs.map fun z => AV.int k z) := by
  refine ⟨?_, .inr (tab_row h hg)⟩
  cases zs with
  | nil => exact absurd rfl hz
  | cons z zs =>
    show VR _ (.fp ((z :: zs).map fun z => AV.int k z) 0) _
    have hcell := fun i hi => Lib.TabIs.cell h hg i hi
    simp only [VR]
    refine ⟨flats_ints, g, 0, rfl, ?_, own0 _, ?_⟩
    · have h0 := hcell 0 (by simp)
      simp only [World.cell?] at h0
      rcases Nat.lt_or_ge g W.heap.size with hlt | hge
      · exact hlt
      · rw [Array.getElem?_eq_none hge] at h0; cases h0
    · refine VRC_of_get fun i x hx => ?_
      have hi := (List.getElem?_eq_some_iff.1 hx).1
      rw [List.length_map] at hi
      rw [List.getElem?_map] at hx
      obtain ⟨y, hy, rfl⟩ := Option.map_eq_some_iff.1 hx
      refine ⟨.int k y, ?_, by simp [VR]⟩
      rw [Nat.zero_add]
      have := hcell i hi
      rw [show (z :: zs).getD i 0 = y by simp [List.getD, hy]] at this
      exact this

theorem glob_none {w : World} {n : Nat} : GV (ctx [] La0 w) n [] := ⟨by simp [gvar, VR], .inl rfl⟩

/-! ### arguments -/
def isAgg (P : Program) (t : TypeId) : Bool := match P.underlying t with | some (.struct _) | some (.array _ _) => true | _ => false

theorem placed_okWide {P : Program} {w : World} {r : Reach} {b : Nat} {t : TypeId} {a : Addr} {n m : Nat} (h : Cell.okWide P w r b t (.slice (some a) n m)) : a.spot = none ∧ a.block < w.heap.size := by
  have h2 : Cell.ok P w r b t (.slice (some a) n m) := by
    unfold Cell.okWide at h
    split at h <;> simp_all
  have h3 : ∃ e, w.has P r b a e m := by
    unfold Cell.ok at h2
    split at h2 <;> simp_all
    rename_i h4
    obtain ⟨rfl, rfl, rfl⟩ := h4
    exact ⟨_, h2.2.2⟩
  obtain ⟨e, _, hsp, row, cells, hs, _⟩ := h3
  refine ⟨hsp, ?_⟩
  simp only [World.shape?] at hs
  rcases Nat.lt_or_ge a.block w.heap.size with hlt | hge
  · exact hlt
  · rw [Array.getElem?_eq_none hge] at hs; cases hs

theorem arg_cell {H : Type} {enc : TypeId × Value → H} {P : Program} {base b2 : Nat} {held : Bool} {w : World} {d : Nat} {t : TypeId} {T : Ty} {v : Value} {x : DataW H} {ps : List MemPlace} (hT : tyOf P d t = some T) (hg : isAgg P t = false)
    (hok : Value.okWide P w .any b2 t v) (h : DataW.Trod enc P w base (fun _ => true) held t v x ps) : ∃ a, VR (ctx [] La0 w) a v ∧ Wf T [a] ∧ abulk a ≤ dbulk x := by
  obtain ⟨fuel, h⟩ := h
  have hcell : Cell.okWide P w .any b2 t v := by
    unfold Value.okWide at hok
    unfold isAgg at hg
    split at hok
    · rename_i hu; rw [hu] at hg; cases hg
    · rename_i hu; rw [hu] at hg; cases hg
    · exact hok
  have hone : v.cells = #[v] := by
    cases v <;> first | rfl | (exfalso; unfold Cell.okWide at hcell; split at hcell <;> simp_all [Cell.ok])
  rw [hone] at h
  obtain ⟨ys0, h1, h2, h3, h4, h5⟩ := trod_VR (c := ctx [] La0 w) (fun b => own0 b) d t T fuel _ _ hT (.inr (by
    intro a n m hm
    simp only [List.mem_singleton] at hm
    subst hm
    exact placed_okWide hcell)) h
  match ys0, h1 with
  | [], h1 => simp [VRL] at h1
  | [a], h1 =>
    simp only [VRL] at h1
    obtain ⟨v', r, e, k1, rfl⟩ := h1
    simp at e
    subst e
    exact ⟨a, k1, h2, by simpa [abulks] using h4⟩
  | a :: b :: ys0, h1 =>
    simp only [VRL] at h1
    obtain ⟨v', r, e, k1, v2, r2, e2, _⟩ := h1
    simp at e
    obtain ⟨_, rfl⟩ := e
    simp at e2

theorem arg_agg {H : Type} {enc : TypeId × Value → H} {P : Program} {base b2 : Nat} {held : Bool} {w : World} {d : Nat} {t : TypeId} {T : Ty} {v : Value} {x : DataW H} {ps : List MemPlace} (hT : tyOf P d t = some T) (hg : isAgg P t = true)
    (hok : Value.okWide P w .any b2 t v) (h : DataW.Trod enc P w base (fun _ => true) held t v x ps) : ∃ ys0, VR (ctx [] La0 w) (.agg ys0) v ∧ Wf T ys0 ∧ abulks ys0 ≤ dbulk x := by
  obtain ⟨fuel, h⟩ := h
  have hrow : ∃ cs, v = .agg cs ∧ cs.size = P.cellsOf t ∧ Row.okWide P w .any b2 t cs := by
    unfold Value.okWide at hok
    unfold isAgg at hg
    split at hok
    · exact hok
    · exact hok
    · rename_i h1 h2
      split at hg
      · rename_i hu; exact absurd hu (h1 _)
      · rename_i hu; exact absurd hu (h2 _ _)
      · cases hg
  obtain ⟨cs, rfl, _, ts, _, _, hc⟩ := hrow
  obtain ⟨ys0, h1, h2, h3, h4, h5⟩ := trod_VR (c := ctx [] La0 w) (fun b => own0 b) d t T fuel _ _ hT (.inr (by
    intro a n m hm
    obtain ⟨i, hi⟩ := List.mem_iff_getElem?.1 hm
    obtain ⟨u, _, hu⟩ := hc i _ (by simpa [Value.cells] using hi)
    exact placed_okWide hu)) h
  refine ⟨ys0, ?_, h2, h4⟩
  simp only [VR]
  exact ⟨cs, rfl, by simpa [Value.cells] using h1⟩

end Cod

/- From an abstract run to a row's contract. -/
namespace Cod
open Go Go.RowKit Go.ChangeShapes Go.WideShapes Go.ChangeAt

/-- An argument's kind: whether it is a struct or an array, and of what type. -/
def ArgOK (p : Bool × Ty) (a : AV) : Prop := match p.1 with
  | true => ∃ ys0, a = .agg ys0 ∧ Wf p.2 ys0
  | false => Wf p.2 [a]
def ArgsOK : List (Bool × Ty) → List AV → Prop
  | [], ys0 => ys0 = []
  | p :: r, ys0 => ∃ a b, ys0 = a :: b ∧ ArgOK p a ∧ ArgsOK r b
def argTys (P : Program) (d : Nat) : List TypeId → Option (List (Bool × Ty))
  | [] => some []
  | t :: ts => match tyOf P d t, argTys P d ts with
    | some T, some r => some ((isAgg P t, T) :: r)
    | _, _ => none

section
variable {H : Type} {enc : TypeId × Value → H} {P : Program} {W : World} {b2 d : Nat}

theorem args_of : ∀ {ts : List TypeId} {Ts : List (Bool × Ty)} {vs : List Value} {ds : List (DataW H)} {ps : List MemPlace}, argTys P d ts = some Ts →
    (∀ (j : Nat) t v, ts[j]? = some t → vs[j]? = some v → Value.okWide P W .any b2 t v) → DataW.TrodAll enc P W 0 (fun _ => true) true ts vs ds ps →
    ∃ ys0, VRL (ctx [] La0 W) ys0 vs ∧ ArgsOK Ts ys0 ∧ abulks ys0 ≤ dbulkAll ds := by
  intro ts
  induction ts with
  | nil =>
    intro Ts vs ds ps h _ hA
    simp only [argTys, Option.some.injEq] at h; subst h
    cases vs <;> cases ds <;> simp [DataW.TrodAll] at hA
    exact ⟨[], by simp [VRL], by simp [ArgsOK], by simp [abulks]⟩
  | cons t ts ih =>
    intro Ts vs ds ps h hok hA
    simp only [argTys] at h
    split at h
    · rename_i T r hT hr
      cases h
      cases vs with
      | nil => cases ds <;> simp [DataW.TrodAll] at hA
      | cons v vs =>
        cases ds with
        | nil => simp [DataW.TrodAll] at hA
        | cons x ds =>
          obtain ⟨p, q, h1, h2, rfl⟩ := hA
          obtain ⟨ys0, k1, k2, k3⟩ := ih hr (fun j t' v' ht hv => hok (j + 1) t' v' (by simpa using ht) (by simpa using hv)) h2
          have h0 := hok 0 t v (by simp) (by simp)
          cases hg : isAgg P t with
          | true =>
            obtain ⟨bs, l1, l2, l3⟩ := arg_agg hT hg h0 h1
            exact ⟨.agg bs :: ys0, by simp only [VRL]; exact ⟨v, vs, rfl, l1, k1⟩, ⟨_, _, rfl, ⟨bs, rfl, l2⟩, k2⟩, by simp only [abulks, abulk, dbulkAll]; omega⟩
          | false =>
            obtain ⟨a, l1, l2, l3⟩ := arg_cell hT hg h0 h1
            exact ⟨a :: ys0, by simp only [VRL]; exact ⟨v, vs, rfl, l1, k1⟩, ⟨_, _, rfl, l2, k2⟩, by simp only [abulks, dbulkAll]; omega⟩
    · cases h

theorem trodAll_below (hl : laidOutB P = true) {W' : World} (hb : Below W.heap.size W W') : ∀ {ts : List TypeId} {vs : List Value} {ds : List (DataW H)} {ps : List MemPlace}, (∀ t ∈ ts, P.readableRec t = true ∧ t < P.types.size) →
    (∀ x ∈ ps, x.block < W.heap.size) → DataW.TrodAll enc P W 0 (fun _ => true) true ts vs ds ps → DataW.TrodAll enc P W' 0 (fun b => decide (b < W.heap.size)) true ts vs ds ps := by
  intro ts
  induction ts with
  | nil => intro vs ds ps _ _ h; cases vs <;> cases ds <;> simp_all [DataW.TrodAll]
  | cons t ts ih =>
    intro vs ds ps hr hlt h
    cases vs with
    | nil => cases ds <;> simp [DataW.TrodAll] at h
    | cons v vs =>
      cases ds with
      | nil => simp [DataW.TrodAll] at h
      | cons x ds =>
        obtain ⟨p, q, h1, h2, rfl⟩ := h
        exact ⟨p, q, Below.trod hl (hr t (by simp)).1 (hr t (by simp)).2 h1 hb (fun x hx => hlt x (by simp [hx])), ih (fun t ht => hr t (by simp [ht])) (fun x hx => hlt x (by simp [hx])) h2, rfl⟩

/-- What a law's specification says. -/
def LawSpec (s : ChangeSpec) (n : Nat) : Prop := s.vars = [] ∧ ∀ (H : Type) (ds : List (DataW H)), ds.length = n → s.fn H ds = { results := [.lit (.bool true)], args := ds }

theorem trodAll_length : ∀ {ts : List TypeId} {vs : List Value} {ds : List (DataW H)} {ps : List MemPlace} {b : Nat} {sp : Nat → Bool} {hd : Bool}, DataW.TrodAll enc P W b sp hd ts vs ds ps → ds.length = ts.length := by
  intro ts
  induction ts with
  | nil => intro vs ds ps b sp hd h; cases vs <;> cases ds <;> simp_all [DataW.TrodAll]
  | cons t ts ih =>
    intro vs ds ps b sp hd h
    cases vs with
    | nil => cases ds <;> simp [DataW.TrodAll] at h
    | cons v vs =>
      cases ds with
      | nil => simp [DataW.TrodAll] at h
      | cons x ds => obtain ⟨p, q, h1, h2, _⟩ := h; simp [ih h2]

/-- THE CONTRACT. -/
theorem contract {E : Env} {f : Nat} {fn : Func} {c : Code} {s : ChangeSpec} {n rt : Nat} {Ts : List (Bool × Ty)} (hk : KnownOK P E) (hfn : FnsOK P E) (hl : laidOutB P = true)
    (hf : P.funcs[f]? = some fn) (hb : fn.body = some c) (hn : (fn.name == "runtime.NumGoroutine") = false) (hT : argTys P d fn.params.toList = some Ts)
    (hr : ∀ t ∈ fn.params.toList, P.readableRec t = true ∧ t < P.types.size) (hrt : fn.resultTypes.toList = [rt]) (hrn : fn.resultTypes.size = 1) (hrb : P.underlying rt = some .bool) (hs : LawSpec s n) (hpn : fn.params.toList.length = n)
    {args : Array Value} {ds gs : List (DataW H)} {before : List MemPlace}
    (hg : GlobOK E W) (run : ∀ ys0, ArgsOK Ts ys0 → abulks ys0 ≤ dbulkAll ds → ∃ σr, S E f ys0 [] = some (.bool true, σr))
    (hval : ∀ (j : Nat) t v, fn.params[j]? = some t → args[j]? = some v → Value.okWide P W .any b2 t v)
    (hW : DataW.Whole enc P fn.params.toList s.vars false W args.toList ds gs before) :
    Calls P f args W fun e W' => ∃ v, e = .returned v ∧ s.post enc P fn false true false false W args v W' := by
  have hW' := hW
  obtain ⟨p, q, hA, hV, rfl, hfz, hnd⟩ := hW
  obtain ⟨ys0, h1, h2, h3⟩ := args_of hT (fun j t v ht hv => hval j t v (by simpa using ht) (by simpa using hv)) hA
  obtain ⟨σr, hrun⟩ := run ys0 h2 h3
  have hc := law_calls hk hfn hf hb hn hrun hg h1
  rw [Array.toArray_toList] at hc
  have hgs : gs = [] ∧ q = [] := by rw [hs.1] at hV; cases gs <;> simp_all [DataW.TrodVars]
  obtain ⟨rfl, rfl⟩ := hgs
  have hlt : ∀ x ∈ p, x.block < W.heap.size := fun x hx => hW'.lt x (by simp [hx])
  have hlen := trodAll_length hA
  refine hc.mono fun e W' ⟨he, bel⟩ => ?_
  subst he
  have hspec := hs.2 H (ds ++ []) (by simp; omega)
  refine ⟨_, rfl, ds, [], _, [], p, [], hW', ?_, ?_, ?_, bel.frame _, fun h => by cases h⟩
  · rw [hspec, hrt, hrn]
    exact trodAll_mk1 (shut_bool hrb _)
  · rw [hspec]
    simp only [List.append_nil]
    exact trodAll_below hl bel hr hlt hA
  · rw [hspec, hs.1]; rfl
end
end Cod

/- Variables of which the kind is known. -/
namespace Cod
open Go Go.RowKit

theorem any_glob {w : World} {g : Nat} {k : Option IntKind} {v : Value} {cs : Array Value} {el : TypeId} {fr : Nat × Nat} (hc : w.heap[g]? = some (.cells cs el fr)) (hs : cs.size = 1) (h0 : cs[0]? = some v) (hk : AnyOK k v) : GV (ctx [] La0 w) g [.any k] := by
  refine ⟨?_, .inr ⟨cs, el, fr, hc, hs⟩⟩
  simp only [gvar, VR, VRC, flats, flat, Bool.and_true, true_and, and_true]
  refine ⟨g, 0, rfl, ?_, own0 _, v, ?_, hk⟩
  · rcases Nat.lt_or_ge g w.heap.size with hlt | hge
    · exact hlt
    · rw [Array.getElem?_eq_none hge] at hc; cases hc
  · show w.cell? _ = _
    simp only [World.cell?, hc]
    exact h0
def isIface (P : Program) (t : TypeId) : Bool := match P.underlying t with | some (.interface _) => true | _ => false
/-- A listed error. -/
theorem err_laid {P : Program} {W : World} {l : List (String × DataW Unit)} (h : laidMetH P l W) {name nm : String} {d : DataW Unit} {g t : Nat} (hm : (name, .iface nm d) ∈ l) (hh : (DataW.iface nm d).handleName?.isNone = true)
    (hg : P.globalNamed name = some g) (hty : (P.globals[g]?).map (·.type) = some t) (ht : isIface P t = true) : GV (ctx [] La0 W) g [.any none] := by
  obtain ⟨g', t', cs, fuel, p, hg', ht', hvar, hd⟩ := laidH_mem h hm hh
  obtain rfl := Option.some.inj (hg.symm.trans hg')
  obtain rfl := Option.some.inj (hty.symm.trans ht')
  obtain ⟨ms, ht⟩ : ∃ ms, P.underlying t = some (.interface ms) := by
    unfold isIface at ht
    split at ht
    · exact ⟨_, by assumption⟩
    · cases ht
  have hi : ∃ u v, cs.toList = [.iface u v] := by
    cases fuel with
    | zero => simp [DataW.trod] at hd
    | succ fuel =>
      unfold DataW.trod at hd
      rw [ht] at hd
      generalize cs.toList = xs at hd
      split at hd <;> first | (rename_i he; cases he; done) | (cases hd; done) | exact ⟨_, _, rfl⟩
  obtain ⟨u, v, hcs⟩ := hi
  unfold World.var? at hvar
  rw [hg] at hvar
  simp only [Option.bind_some] at hvar
  split at hvar
  · rename_i cs' el fr hc
    cases hvar
    have hsz : cs = #[.iface u v] := by cases cs; simp at hcs; rw [hcs]
    subst hsz
    exact any_glob hc rfl rfl (.inr ⟨u, v, rfl⟩)
  · cases hvar
/-- A number of the library, by its type alone. -/
theorem int_shaped {P : Program} {W : World} {g : Nat} (h : W.ShapedOpen P) (hg : g < P.globals.size) (hz : (((Go.begin P (fun _ _ => 0) default).world.heap[g]?).bind Obj.row?).map (fun r => r.1.size) = some 1) (hc : ∃ m, W.cell? ⟨g, 0, none⟩ = some (.int .i64 m)) : GV (ctx [] La0 W) g [.any (some .i64)] := by
  obtain ⟨m, hc⟩ := hc
  obtain ⟨⟨z, t⟩, h1, h2⟩ := Option.map_eq_some_iff.1 hz
  obtain ⟨cs, h3, h4, _⟩ := h.1 g z t hg h1
  simp only [World.cell?, h3] at hc
  exact any_glob h3 (h4.trans h2) (by simpa using hc) ⟨m, rfl⟩
end Cod

/- What is asked of the known functions. -/
namespace Cod
open Go Go.RowKit

variable {P : Program} {E : Env} {w w' : World} {La : Lay}

theorem cle_below (hb : Below w.heap.size w w') : CLe (ctx [] La w) (ctx [] La w') where
  tab s g0 al h := by simp [ctx, tabS, getS] at h
  own b _ h := h
  block b h _ := hb.block b h
  room b k h := by
    obtain ⟨cs, el, fr, h1, h2⟩ := h
    have hlt : b < w.heap.size := by
      rcases Nat.lt_or_ge b w.heap.size with h3 | h3
      · exact h3
      · rw [show (ctx [] La w).w = w from rfl, Array.getElem?_eq_none h3] at h1; cases h1
    exact ⟨cs, el, fr, (hb.block b hlt).trans h1, h2⟩
  size := hb.size

theorem rel_below (h : Rel E w (ownS [] La) [] La [] La w) (hb : Below w.heap.size w w') : Rel E w (ownS [] La) [] La [] La w' where
  store := ⟨fun s e he => by simp [getS] at he, fun s s' e e' b o o' he => by simp [getS] at he⟩
  keep := ⟨hb.os, hb.tape, hb.output, hb.size, fun b hlt _ => hb.block b hlt, (cle_below (La := La) hb).room⟩
  own b hb' := .inl hb'
  glob n := GV_le (cle_below hb) (h.glob n)
  ups x e he := by simp [getS] at he
  src b hb' := .inl hb'
  lf := rfl
  f0 := h.f0

/-- One row of what is known: a function that answers what it is told to, and makes no memory that matters. -/
def PureOK (P : Program) (E : Env) (f : Nat) (g : List AV → Option AV) : Prop :=
  ∀ (args : List AV) (v : AV) (vs : List Value) (La : Lay) (w : World), g args = some v → VRL (ctx [] La w) args vs → Rel E w (ownS [] La) [] La [] La w →
    ∃ y, (∀ c, VR c v y) ∧ FnOK P f vs.toArray w (fun z w' => z = y ∧ Below w.heap.size w w')
def RowOK (P : Program) (E : Env) (f : Nat) (h : List AV → Store → Option (AV × Store)) : Prop :=
  ∀ (args : List AV) (σa : Store) (v : AV) (σr : Store), h args σa = some (v, σr) → ∀ (La : Lay) (w : World) (vs : List Value), Rel E w (ownS σa La) σa La σa La w → VRL (ctx σa La w) args vs →
    (∀ s e, getS σa s = some e → ∃ x, s = .up x) → FnOK P f vs.toArray w (fun y w' => ∃ La', Rel E w (ownS σa La) σa La σr La' w' ∧ VR (ctx σr La' w') v y)
theorem FnOK.mono {f : FuncId} {args : Array Value} {R R' : Value → World → Prop} (h : FnOK P f args w R) (hR : ∀ y w', R y w' → R' y w') : FnOK P f args w R' :=
  fun o a next Q hn => h o a next Q fun y w' hy => hn y w' (hR y w' hy)
end Cod

/- The known functions without text, and what the proofs of all share. -/
namespace Cod
open Go Go.RowKit Go.Proofs
set_option maxRecDepth 100000

theorem row_pure {P : Program} {E : Env} {f : Nat} {g : List AV → Option AV} (h : PureOK P E f g) : RowOK P E f (pureK g) := by
  intro args σa v σr hk La w vs hr hv _
  unfold pureK at hk
  cases σa with
  | nil =>
    simp only [List.isEmpty_nil, if_true, Option.map_eq_some_iff, Prod.mk.injEq] at hk
    obtain ⟨v', hg, rfl, rfl⟩ := hk
    obtain ⟨y, hy, hf⟩ := h args v' vs La w hg hv hr
    exact hf.mono fun z w' ⟨hz, hb⟩ => ⟨La, rel_below hr hb, hz ▸ hy _⟩
  | cons => simp at hk

theorem fn_of_extern {P : Program} {f : FuncId} {fn : Func} {e : Array Value → Sem Value} (hf : P.funcs[f]? = some fn) (hname : (fn.name == "runtime.NumGoroutine") = false)
    (hb : fn.body.isNone = true) (hn : Extern.findNext fn = none) (he : Extern.find fn = some e) {args : Array Value} {w w' : World} {v : Value} {R : Value → World → Prop} (hrun : (e args).run P w = .ok v w') (hR : R v w') : FnOK P f args w R := by
  intro o a next Q h
  rw [run_callFunc_extern hf hname hb hn he, hrun]
  exact h v w' hR

theorem index_eq (l : List UInt8) (c : UInt8) : Lib.indexByte l c = indexB l c := by
  induction l with
  | nil => simp [Lib.indexByte, indexB]
  | cons x l ih =>
    unfold Lib.indexByte
    by_cases h : x = c
    · subst h; simp [indexB]
    · have hb : (x == c) = false := by simpa using h
      have hc : ¬ c = x := fun e => h e.symm
      rw [hb, ih]
      unfold indexB
      by_cases hm : c ∈ l
      · simp [hm, List.idxOf_cons, hb]
      · simp [hm, hc]


theorem ok_indexS {E : Env} : PureOK Tryd.prog E F.bytealg_IndexByteString kIndexS := by
  intro args v vs La w hg hv hr
  unfold kIndexS at hg
  split at hg
  · rename_i l c
    cases hg
    simp only [VRL, VR] at hv
    obtain ⟨x, r, rfl, rfl, y, r2, rfl, rfl, rfl⟩ := hv
    refine ⟨.int .i64 (indexB l (byt c)), fun c => by simp [VR], ?_⟩
    have h := Lib.run_indexByteString (P := Tryd.prog) ⟨l.toArray⟩ c w
    simp only [index_eq] at h
    exact fn_of_extern Tryd.func79 (by kernel_rfl) (by kernel_rfl) (by kernel_rfl) (e := Extern.BytealgIndexByte.indexByte) (by kernel_rfl) h ⟨rfl, Below.refl _ _⟩
  · cases hg

theorem rel_entry {E : Env} {w w' : World} {La : Lay} (h : Rel E w (ownS [] La) [] La [] La w) (hb : Below w.heap.size w w') {cs : List AV} {pos : Option (Nat × Nat)} (hge : ∀ g o, pos = some (g, o) → w.heap.size ≤ g)
    (hent : EntOK (ctx [(.r 0, ⟨0, true, true, false, cs⟩)] ⟨fun s => if s = .r 0 then pos else La.pos s, La.F⟩ w') (.r 0) ⟨0, true, true, false, cs⟩) :
    Rel E w (ownS [] La) [] La [(.r 0, ⟨0, true, true, false, cs⟩)] ⟨fun s => if s = .r 0 then pos else La.pos s, La.F⟩ w' := by
  have hget : ∀ s e, getS [(Site.r 0, (⟨0, true, true, false, cs⟩ : Ent))] s = some e → s = .r 0 ∧ e = ⟨0, true, true, false, cs⟩ := by
    intro s e he
    simp only [getS] at he
    split at he
    · rename_i hs; exact ⟨hs.symm, (Option.some.inj he).symm⟩
    · cases he
  have hblk : ∀ b, inS [(Site.r 0, (⟨0, true, true, false, cs⟩ : Ent))] ⟨fun s => if s = .r 0 then pos else La.pos s, La.F⟩ b → w.heap.size ≤ b := by
    rintro b ⟨s, e, o, he, _, hl⟩
    obtain ⟨rfl, rfl⟩ := hget s e he
    exact hge b o (by simpa using hl)
  have hown : ∀ b, ownS [(Site.r 0, (⟨0, true, true, false, cs⟩ : Ent))] ⟨fun s => if s = .r 0 then pos else La.pos s, La.F⟩ b → w.heap.size ≤ b := fun b ⟨s, e, o, he, ha, _, hl⟩ => hblk b ⟨s, e, o, he, ha, hl⟩
  have hc : CLe (ctx [] La w) (ctx [(Site.r 0, (⟨0, true, true, false, cs⟩ : Ent))] ⟨fun s => if s = .r 0 then pos else La.pos s, La.F⟩ w') := by
    have h0 := cle_below (La := La) hb
    refine ⟨fun s g0 al hh => by simp [ctx, tabS, getS] at hh, fun b hlt ho => ?_, h0.block, h0.room, h0.size⟩
    rcases ho with ho | ho
    · have := hown b ho
      exact absurd hlt (by show ¬ b < w.heap.size; omega)
    · exact .inr ho
  refine ⟨⟨fun s e he _ => ?_, fun s s' e e' b o o' he _ he' _ _ _ => ?_⟩, ⟨hb.os, hb.tape, hb.output, hb.size, fun b hlt _ => hb.block b hlt, (cle_below (La := La) hb).room⟩, fun b hb' => .inr (hown b hb'), fun n => GV_le hc (h.glob n), fun x e he _ => ?_, fun b hb' => .inr (hblk b hb'), rfl, h.f0⟩
  · obtain ⟨rfl, rfl⟩ := hget s e he
    exact hent
  · rw [(hget s e he).1, (hget s' e' he').1]
  · exact absurd (hget _ e he).1 (by simp)

theorem lookup_memK {α : Type} : ∀ {tab : List (Nat × α)} {f : Nat} {h : α}, tab.lookup f = some h → (f, h) ∈ tab := by
  intro tab
  induction tab with
  | nil => intro f h hh; simp at hh
  | cons p tab ih =>
    intro f h hh
    obtain ⟨g, m⟩ := p
    rw [List.lookup_cons] at hh
    cases hb : (f == g) with
    | true =>
      rw [hb] at hh
      simp only [Option.some.injEq] at hh
      simp only [beq_iff_eq] at hb
      subst hb hh
      simp
    | false => rw [hb] at hh; exact List.mem_cons_of_mem _ (ih hh)
end Cod

/- strconv.Itoa and strconv.Atoi do what is known of them: by the library's contracts. -/
namespace Cod
open Go Go.RowKit Go.Proofs
set_option maxRecDepth 100000

/-- As PureOK, but what is answered may lie in new memory of which nothing is said. -/
def PureOK2 (P : Program) (E : Env) (f : Nat) (g : List AV → Option AV) : Prop :=
  ∀ (args : List AV) (v : AV) (vs : List Value) (La : Lay) (w : World), g args = some v → VRL (ctx [] La w) args vs → Rel E w (ownS [] La) [] La [] La w →
    FnOK P f vs.toArray w (fun z w' => (∀ c, VR c v z) ∧ Below w.heap.size w w')
theorem row_pure2 {P : Program} {E : Env} {f : Nat} {g : List AV → Option AV} (h : PureOK2 P E f g) : RowOK P E f (pureK g) := by
  intro args σa v σr hk La w vs hr hv _
  unfold pureK at hk
  cases σa with
  | nil =>
    simp only [List.isEmpty_nil, if_true, Option.map_eq_some_iff, Prod.mk.injEq] at hk
    obtain ⟨v', hg, rfl, rfl⟩ := hk
    exact (h args v' vs La w hg hv hr).mono fun z w' ⟨hz, hb⟩ => ⟨La, rel_below hr hb, hz _⟩
  | cons => simp at hk
theorem ok_itoa {E : Env} (hE : E.glob = globOf) : PureOK2 Tryd.prog E F.strconv_Itoa kItoa := by
  intro args v vs La w hg hv hr
  unfold kItoa at hg
  split at hg
  · rename_i n
    split at hg
    · rename_i hn
      cases hg
      simp only [VRL, VR] at hv
      obtain ⟨x, r, rfl, rfl, rfl⟩ := hv
      have ht : Lib.TabIs Tryd.prog w "internal/strconv.uint64pow10" .u64 Lib.pow10Tab := by
        have := hr.glob G.strconv_uint64pow10
        rw [hE] at this
        exact tab_of_glob this (by kernel_rfl) (by simp [Lib.pow10Tab])
      refine fn_of_calls Tryd.func28 (by rfl) (by kernel_rfl) ((Tryd.strconv_Itoa n hn.1 hn.2 w ht).mono fun e w' ⟨he, k, os, hw⟩ => ?_)
      subst hw
      exact ⟨_, he, fun c => by simp [VR], Lib.below_grow _ _ (Nat.le_refl _) _ _⟩
    · cases hg
  · cases hg
theorem any_cell {E : Env} (hE : E.glob = globOf) {w : World} {La : Lay} (hr : Rel E w (ownS [] La) [] La [] La w) {g : Nat} {k : Option IntKind} (hg : globOf g = [.any k]) : ∃ ev, w.cell? ⟨g, 0, none⟩ = some ev ∧ AnyOK k ev := by
  have := (hr.glob g).1
  rw [hE, hg] at this
  simp only [gvar, VR, VRC] at this
  obtain ⟨_, b, o, h1, _, _, ⟨v, h2, h3⟩, _⟩ := this
  simp only [Value.pointer.injEq, Option.some.injEq, Addr.mk.injEq] at h1
  obtain ⟨rfl, h1, _⟩ := h1
  have ho : o = 0 := by omega
  subst ho
  exact ⟨v, h2, h3⟩
theorem ok_atoi {E : Env} (hE : E.glob = globOf) : PureOK2 Tryd.prog E F.strconv_Atoi kAtoi := by
  intro args v vs La w hg hv hr
  unfold kAtoi at hg
  split at hg
  · rename_i s
    split at hg
    · rename_i hn
      cases hg
      simp only [VRL, VR] at hv
      obtain ⟨x, r, rfl, rfl, rfl⟩ := hv
      have hsz : (⟨s.toArray⟩ : ByteArray).size = s.length := by simp [ByteArray.size]
      unfold atoiV
      split
      · rename_i v hx
        refine fn_of_calls Tryd.func31 (by rfl) (by kernel_rfl) ((Any.strconv_Atoi_ok Tryd.laysC172 ⟨s.toArray⟩ (by rw [hsz]; omega) v hx w).mono fun e w' ⟨he, hw⟩ => ?_)
        refine ⟨_, he, fun c => by simp [VR, VRL], ?_⟩
        rcases hw with rfl | ⟨t, rfl⟩
        · exact Below.refl _ _
        · exact Lib.bytesWorld_below _ _ _
      · rename_i hx
        obtain ⟨ev, h1, h2⟩ := any_cell hE hr (g := G.strconv_ErrRange) (k := none) rfl
        refine fn_of_calls Tryd.func31 (by rfl) (by kernel_rfl) ((Any.strconv_Atoi_range Tryd.laysC172 ⟨s.toArray⟩ (by rw [hsz]; omega) hx ev w h1 h2).mono fun e w' ⟨N, he, _, _, hb⟩ => ?_)
        refine ⟨_, he, fun c => ?_, hb⟩
        simp only [VR, VRL]
        exact ⟨_, rfl, _, _, rfl, rfl, _, _, rfl, ⟨_, rfl, trivial⟩, rfl⟩
      · rename_i hx1 hx2
        obtain ⟨ev, h1, h2⟩ := any_cell hE hr (g := G.strconv_ErrSyntax) (k := none) rfl
        refine fn_of_calls Tryd.func31 (by rfl) (by kernel_rfl) ((Any.strconv_Atoi_syntax Tryd.laysC172 ⟨s.toArray⟩ (by rw [hsz]; omega) (by
          cases hc : Lib.atoiAll s with
          | ok v => exact absurd hc (hx1 v)
          | range => exact absurd hc hx2
          | _ => rfl) ev w h1 h2).mono fun e w' ⟨N, he, _, _, hb⟩ => ?_)
        refine ⟨_, he, fun c => ?_, hb⟩
        simp only [VR, VRL]
        exact ⟨_, rfl, _, _, rfl, rfl, _, _, rfl, ⟨_, rfl, trivial⟩, rfl⟩
    · cases hg
  · cases hg
theorem ok_last {E : Env} : PureOK2 Tryd.prog E F.strings_LastIndex kLast := by
  intro args v vs La w hg hv hr
  unfold kLast at hg
  split at hg
  · rename_i s t
    split at hg
    · rename_i hn
      cases hg
      simp only [VRL, VR] at hv
      obtain ⟨x, r, rfl, rfl, y, r2, rfl, rfl, rfl⟩ := hv
      have hsz : (⟨s.toArray⟩ : ByteArray).size = s.length := by simp [ByteArray.size]
      refine fn_of_calls Tryd.func48 (by rfl) (by kernel_rfl) ((Tryd.strings_LastIndex ⟨s.toArray⟩ ⟨t.toArray⟩ (by rw [hsz]; exact hn) w).mono fun e w' ⟨he, hw⟩ => ?_)
      subst hw
      exact ⟨_, he, fun c => by simp [VR], Below.refl _ _⟩
    · cases hg
  · cases hg
theorem ok_contains {E : Env} (hE : E.glob = globOf) : PureOK2 Tryd.prog E F.strings_Contains kContains := by
  intro args v vs La w hg hv hr
  unfold kContains at hg
  split at hg
  · rename_i s t
    split at hg
    · rename_i hn
      cases hg
      simp only [VRL, VR] at hv
      obtain ⟨x, r, rfl, rfl, y, r2, rfl, rfl, rfl⟩ := hv
      have hsz : (⟨s.toArray⟩ : ByteArray).size = s.length := by simp [ByteArray.size]
      obtain ⟨ev, h1, m, rfl⟩ := any_cell hE hr (g := G.bytealg_MaxLen) (k := some .i64) rfl
      refine fn_of_calls Tryd.func39 (by rfl) (by kernel_rfl) ((Tryd.strings_Contains ⟨s.toArray⟩ ⟨t.toArray⟩ m w (by rw [hsz]; exact hn) h1).mono fun e w' ⟨he, hw⟩ => ?_)
      subst hw
      exact ⟨_, he, fun c => by simp [VR], Below.refl _ _⟩
    · cases hg
  · cases hg
theorem indexB_one (s : ByteArray) : (Lib.indexB s ⟨#[47]⟩ = -1 ∧ parts s.data.toList = [s.data.toList]) ∨ ∃ i : Nat, Lib.indexB s ⟨#[47]⟩ = i ∧ i < s.size ∧ parts s.data.toList = s.data.toList.take i :: parts (s.data.toList.drop (i + 1)) := by
  have hp : ∀ l : List UInt8, (Lib.index l [47] = -1 ∧ parts l = [l]) ∨ ∃ i : Nat, Lib.index l [47] = i ∧ i < l.length ∧ parts l = l.take i :: parts (l.drop (i + 1)) := by
    intro l
    induction l with
    | nil => left; exact ⟨rfl, rfl⟩
    | cons c t ih =>
      unfold Lib.index
      by_cases hc : c = 47
      · subst hc
        right
        refine ⟨0, by simp [List.isPrefixOf], by simp, ?_⟩
        rw [parts, if_pos rfl]; rfl
      · have hno : ([47] : List UInt8).isPrefixOf (c :: t) = false := by simp [List.isPrefixOf, Ne.symm hc]
        rcases ih with ⟨h1, h2⟩ | ⟨i, h1, h2, h3⟩
        · left
          refine ⟨by rw [hno, h1]; simp, ?_⟩
          rw [parts, if_neg hc, h2]
        · right
          refine ⟨i + 1, by rw [hno, h1]; simp, by rw [List.length_cons]; omega, ?_⟩
          rw [parts, if_neg hc, h3]; rfl
  have := hp s.data.toList
  have hsz : s.data.toList.length = s.size := Array.length_toList
  rw [hsz] at this
  exact this
theorem split_parts : ∀ (k : Nat) (s : ByteArray), Lib.countB s ⟨#[47]⟩ = k → (Lib.splitB ⟨#[47]⟩ 0 k s).map (·.data.toList) = parts s.data.toList := by
  intro k
  induction k with
  | zero =>
    intro s hk
    rcases indexB_one s with ⟨h1, h2⟩ | ⟨i, h1, h2, h3⟩
    · rw [Lib.splitB_zero, h2]; rfl
    · rw [Lib.countB_hit s _ i (by decide) h1] at hk; omega
  | succ k ih =>
    intro s hk
    rcases indexB_one s with ⟨h1, h2⟩ | ⟨i, h1, h2, h3⟩
    · rw [Lib.countB_miss s _ h1] at hk; omega
    · rw [Lib.countB_hit s _ i (by decide) h1] at hk
      rw [Lib.splitB_hit _ _ _ _ i h1, h3, List.map_cons, ih _ (by omega)]
      have hsz : s.data.toList.length = s.size := Array.length_toList
      have e1 : (s.extract 0 (i + 0)).data.toList = s.data.toList.take i := by rw [ByteArray.data_extract, Array.toList_extract, List.extract_eq_take_drop, List.drop_zero, Nat.add_zero, Nat.sub_zero]
      have e2 : (s.extract (i + (⟨#[47]⟩ : ByteArray).size) s.size).data.toList = s.data.toList.drop (i + 1) := by
        rw [show (⟨#[47]⟩ : ByteArray).size = 1 from rfl, ByteArray.data_extract]
        simp only [Array.toList_extract, List.extract_eq_take_drop]
        rw [List.take_of_length_le]
        rw [List.length_drop, hsz]
        exact Nat.le_refl _
      rw [e1, e2]
theorem ok_split {E : Env} (hE : E.glob = globOf) : RowOK Tryd.prog E F.strings_Split kSplit := by
  intro args σa v σr hk La w vs hr hv hup
  unfold kSplit at hk
  split at hk
  · rename_i s
    split at hk
    · rename_i hn
      cases hk
      simp only [VRL, VR] at hv
      obtain ⟨x, r, rfl, rfl, y, r2, rfl, rfl, rfl⟩ := hv
      have hsz : (⟨s.toArray⟩ : ByteArray).size = s.length := by simp [ByteArray.size]
      obtain ⟨ev, h1, m, rfl⟩ := any_cell hE hr (g := G.bytealg_MaxLen) (k := some .i64) rfl
      have hsp := split_parts _ (⟨s.toArray⟩ : ByteArray) rfl
      refine fn_of_calls Tryd.func41 (by rfl) (by kernel_rfl) ((Tryd.strings_Split ⟨s.toArray⟩ ⟨#[47]⟩ m w (by rw [hsz]; exact hn) h1 (by decide)).mono fun e w' ⟨he, hw⟩ => ?_)
      have hlen : Lib.countB ⟨s.toArray⟩ ⟨#[47]⟩ + 1 = (parts s).length := by
        rw [← Lib.splitB_all ⟨#[47]⟩ (by decide) 0 _ _ rfl, ← List.length_map (f := fun b : ByteArray => b.data.toList), hsp]
      rw [hlen] at he
      subst hw
      refine ⟨_, he, _, rel_entry hr ((Below.refl _ w).alloc (Nat.le_refl _) _) (pos := some (w.heap.size, 0)) (fun g' o hh => by cases hh; exact Nat.le_refl _) ?_, ?_⟩
      · simp only [EntOK, ctx, if_true]
        refine .inl ⟨⟨_, 9, (0, 0), heap_alloc_new w _, ?_, .inl rfl⟩, VRC_of_get fun i x hx => ?_⟩
        · have := congrArg List.length hsp
          simp only [List.length_map] at this
          simp [strs, this]
        · unfold strs at hx
          rw [← hsp, List.map_map, List.getElem?_map] at hx
          obtain ⟨b, hb, rfl⟩ := Option.map_eq_some_iff.1 hx
          refine ⟨.string b, ?_, by simp [VR]⟩
          show (w.alloc _).cell? _ = _
          simp only [World.cell?, heap_alloc_new w _]
          simp [hb]
      · simp only [VR]
        refine ⟨rfl, 0, true, rfl, Nat.le_refl _, fun _ _ => ?_⟩
        simp only [BufAt, ctx, if_true]
        refine .inr ⟨_, rfl, Nat.le_refl _, _, 9, (0, 0), heap_alloc_new w _, ?_⟩
        have := congrArg List.length hsp
        simp only [List.length_map] at this
        simp [this]
    · cases hk
  · cases hk
end Cod

/- The known functions do what is known of them. -/
namespace Cod
open Go Go.RowKit Go.Proofs
set_option maxRecDepth 100000
theorem base_ok {E : Env} (hE : E.glob = globOf) : ∀ p ∈ knownB, RowOK Tryd.prog E p.1 p.2 := by
  unfold knownB
  refine List.forall_mem_cons.2 ⟨row_pure2 (ok_contains hE), ?_⟩
  refine List.forall_mem_cons.2 ⟨ok_split hE, ?_⟩
  refine List.forall_mem_cons.2 ⟨row_pure2 (ok_itoa hE), ?_⟩
  refine List.forall_mem_cons.2 ⟨row_pure2 (ok_atoi hE), ?_⟩
  refine List.forall_mem_cons.2 ⟨row_pure2 ok_last, ?_⟩
  refine List.forall_mem_cons.2 ⟨row_pure ok_indexS, ?_⟩
  exact fun p h => nomatch h
end Cod

/- names.Path does what is known of it. -/
namespace Cod
open Go Go.RowKit Go.Proofs Go.Shelf
set_option maxRecDepth 100000
attribute [local go_sem] Oper.semAt_some

theorem tab0_ok {E : Env} (hE : E.glob = globOf) : ∀ p ∈ knownTab0, RowOK Tryd.prog E p.1 p.2 := by
  unfold knownTab0
  exact base_ok hE
theorem known0_ok : KnownOK Tryd.prog E0 := fun f h hf => tab0_ok (E := E0) rfl (f, h) (lookup_memK (show knownTab0.lookup f = some h from hf))
theorem fns0_ok : FnsOK Tryd.prog E0 := fnsOK_of (by kernel_rfl) all_ok (fun _ => rfl)

def LaE : Lay := ⟨fun _ => none, fun _ => False⟩
def Start (W : World) : Prop := ∀ n, GV (ctx [] LaE W) n (globOf n)
theorem start_of {E : Env} (hE : E.glob = globOf) {w : World} {La : Lay} (hr : Rel E w (ownS [] La) [] La [] La w) : Start w := by
  intro n
  have := hr.glob n
  rw [hE] at this
  refine GV_le ?_ this
  refine ⟨fun s g0 al h => by simp [ctx, tabS, getS] at h, fun b _ h => ?_, fun b _ _ => rfl, fun _ _ h => h, Nat.le_refl _⟩
  rcases h with ⟨s, e, o, he, _⟩ | h
  · simp [getS] at he
  · exact h.elim
theorem Start.below {w W : World} (h : Start w) (hb : Below w.heap.size w W) : Start W := fun n => GV_le (cle_below hb) (h n)
theorem Start.rel {W : World} (h : Start W) : Rel E0 W (ownS [] LaE) [] LaE [] LaE W :=
  ⟨⟨fun s e he => by simp [getS] at he, fun s s' e e' b o o' he => by simp [getS] at he⟩, Keep.refl _ _, fun b hb => .inl hb, h, fun x e he => by simp [getS] at he, fun b hb => .inl hb, rfl, fun b hb => hb.elim⟩
theorem keep_below {W W' : World} (h : Keep (ownS [] LaE) W W') : Below W.heap.size W W' :=
  ⟨h.os, h.tape, h.output, h.size, fun b hb => h.block b hb (fun ⟨s, e, o, he, _⟩ => by simp [getS] at he)⟩
/-- A call that makes no memory that matters. -/
theorem pure_calls {f : Nat} {fn : Func} {c : Code} (hf : Tryd.prog.funcs[f]? = some fn) (hb : fn.body = some c) (hn : (fn.name == "runtime.NumGoroutine") = false) {args : List AV} {v : AV} (h : S E0 f args [] = some (v, []))
    {W : World} (hW : Start W) {vs : List Value} (hv : ∀ c, VRL c args vs) {y : Value} (hy : ∀ c z, VR c v z → z = y) : Calls Tryd.prog f vs.toArray W (fun e W' => e = .returned y ∧ Below W.heap.size W W') := by
  refine (calls_of_FnOK hf hb hn (calls_of_S known0_ok fns0_ok h LaE hW.rel (hv _))).mono ?_
  rintro e W' ⟨z, rfl, La', h1, h2⟩
  rw [hy _ _ h2]
  exact ⟨rfl, keep_below h1.keep⟩
theorem idx_calls {s : List UInt8} {W : World} (hW : Start W) : Calls Tryd.prog 56 #[.string ⟨s.toArray⟩, .string ⟨#[47]⟩] W (fun e W' => e = .returned (.int .i64 (indexB s 47)) ∧ Below W.heap.size W W') :=
  pure_calls Tryd.func56 (by rfl) (by kernel_rfl) (go_index (s := s)) hW (vs := [.string ⟨s.toArray⟩, .string ⟨#[47]⟩]) (fun c => by simp [VRL, VR]) (fun c z hz => by simpa [VR] using hz)
theorem name_calls {s : List UInt8} (hs : s.length ≤ 1000000) {W : World} (hW : Start W) : Calls Tryd.prog 20 #[.string ⟨s.toArray⟩] W (fun e W' => e = .returned (.bool (nameOK s)) ∧ Below W.heap.size W W') :=
  pure_calls Tryd.func20 (by rfl) (by kernel_rfl) (go_name hs) hW (vs := [.string ⟨s.toArray⟩]) (fun c => by simp [VRL, VR]) (fun c z hz => by simpa [VR] using hz)
theorem ent_of {σ : Store} {La : Lay} {W w : World} {E : Env} {O : Nat → Prop} {L0 : Lay} {σ0 : Store} (h : Rel E w O σ0 L0 σ La W) (h0 : ∀ b, ¬ inS σ0 L0 b) {k : Nat} {x : AV} {y : Value} (he : getS σ (.r k) = some ⟨0, true, true, true, [x]⟩) (hv : VR (ctx σ La W) (.ref (.r k) 0 0) y) (hx : hard x = true) :
    ∃ b o v, La (.r k) = some (b, o) ∧ y = .pointer (some ⟨b, o, none⟩) ∧ w.heap.size ≤ b ∧ W.cell? ⟨b, o, none⟩ = some v ∧ VR (ctx σ La W) x v ∧ W.frozen? ⟨b, o, none⟩ = false := by
  obtain ⟨b, o, h1, h2, h3, h4⟩ := ref_at h.store hv he rfl rfl
  simp only [VRC] at h4
  obtain ⟨⟨v, h5, h6⟩, _⟩ := h4
  refine ⟨b, o, v, h1, h2, ?_, h5, h6, ?_⟩
  · exact (h.src b ⟨_, _, _, he, rfl, h1⟩).resolve_left (h0 b)
  · obtain ⟨cs, el, fr, f1, f2, f3⟩ := h3
    simp only [World.frozen?, f1]
    have : o < cs.size := by
      simp only [List.length_cons, List.length_nil] at f2; omega
    rcases f3 with f3 | f3
    · simp; omega
    · simp; omega
def SplitAt (n0 : Nat) (s : List UInt8) (W' : World) (p0 p1 p2 : Addr) : Prop :=
  n0 ≤ p0.block ∧ n0 ≤ p1.block ∧ n0 ≤ p2.block ∧ p0.block ≠ p1.block ∧ p2.block ≠ p1.block ∧ W'.cell? p0 = some (.string ⟨#[47]⟩) ∧ W'.cell? p1 = some (.string ⟨s.toArray⟩) ∧ W'.cell? p2 = some (.int .i64 0) ∧ W'.frozen? p1 = false
theorem split_calls {s : List UInt8} {W : World} (hW : Start W) : Calls Tryd.prog 37 #[.string ⟨s.toArray⟩, .string ⟨#[47]⟩] W (fun e W' => ∃ b0 b1 b2 o0 o1 o2, e = .returned (.func (.func 74) #[] #[.pointer (some ⟨b0, o0, none⟩), .pointer (some ⟨b1, o1, none⟩), .pointer (some ⟨b2, o2, none⟩)]) ∧
    Below W.heap.size W W' ∧ SplitAt W.heap.size s W' ⟨b0, o0, none⟩ ⟨b1, o1, none⟩ ⟨b2, o2, none⟩) := by
  refine (calls_of_FnOK Tryd.func37 (by rfl) (by kernel_rfl) (calls_of_S known0_ok fns0_ok (go_split (s := s)) LaE hW.rel (vs := [.string ⟨s.toArray⟩, .string ⟨#[47]⟩]) (by simp [VRL, VR]))).mono ?_
  rintro e W' ⟨z, rfl, La', h1, h2⟩
  rw [VR] at h2
  obtain ⟨vs, rfl, h2⟩ := h2
  simp only [VRL] at h2
  obtain ⟨y0, r0, hr0, v0, y1, r1, hr1, v1, y2, r2, hr2, v2, hr3⟩ := h2
  have h0 : ∀ b, ¬ inS [] LaE b := fun b ⟨s, e, o, he, _⟩ => by simp [getS] at he
  obtain ⟨b0, o0, x0, a1, rfl, a2, a3, a4, _⟩ := ent_of h1 h0 (k := 0) rfl v0 rfl
  obtain ⟨b1, o1, x1, c1, rfl, c2, c3, c4, c5⟩ := ent_of h1 h0 (k := 1) rfl v1 rfl
  obtain ⟨b2, o2, x2, d1, rfl, d2, d3, d4, _⟩ := ent_of h1 h0 (k := 2) rfl v2 rfl
  simp only [VR] at a4 c4 d4
  subst a4 c4 d4
  refine ⟨b0, b1, b2, o0, o1, o2, ?_, keep_below h1.keep, a2, c2, d2, ?_, ?_, a3, c3, d3, c5⟩
  · have : vs = #[.pointer (some ⟨b0, o0, none⟩), .pointer (some ⟨b1, o1, none⟩), .pointer (some ⟨b2, o2, none⟩)] := by
      apply Array.ext'
      rw [hr0, hr1, hr2, hr3]
    rw [this]; rfl
  · intro hb
    simp only at hb
    subst hb
    have := h1.store.apart (.r 0) (.r 1) _ _ b0 o0 o1 rfl rfl rfl rfl a1 c1
    cases this
  · intro hb
    simp only at hb
    subst hb
    have := h1.store.apart (.r 2) (.r 1) _ _ b2 o2 o1 rfl rfl rfl rfl d1 c1
    cases this
end Cod

/- The iterator of strings.SplitSeq, for what names.Path's loop keeps. -/
namespace Cod
open Go Go.RowKit Go.Proofs Go.Shelf
set_option maxRecDepth 100000
attribute [local go_sem] Oper.semAt_some

/-- What the loop keeps, as the iterator sees it. -/
structure PathJ (J : List (List UInt8) → World → Prop) (p0 p1 p2 : Addr) : Prop where
  start : ∀ pre W, J pre W → Start W
  c0 : ∀ pre W, J pre W → W.cell? p0 = some (.string ⟨#[47]⟩)
  c2 : ∀ pre W, J pre W → W.cell? p2 = some (.int .i64 0)
  f1 : ∀ pre W, J pre W → W.frozen? p1 = false
  below : ∀ pre W W', J pre W → Below W.heap.size W W' → J pre W'
  set : ∀ pre W v, J pre W → (W.cell? p1).isSome = true → J pre (W.setCell p1 v)

theorem parts_none : ∀ {s : List UInt8}, (47 : UInt8) ∉ s → parts s = [s] := by
  intro s
  induction s with
  | nil => intro _; rfl
  | cons c s ih =>
    intro h
    simp only [List.mem_cons, not_or] at h
    have hc : ¬ c = 47 := fun e => h.1 e.symm
    rw [parts, if_neg hc, ih h.2]
theorem parts_at : ∀ {s : List UInt8}, (47 : UInt8) ∈ s → parts s = s.take (s.idxOf 47) :: parts (s.drop (s.idxOf 47 + 1)) := by
  intro s
  induction s with
  | nil => intro h; simp at h
  | cons c s ih =>
    intro h
    by_cases hc : c = 47
    · subst hc; rw [parts, if_pos rfl]; simp
    · have hm : (47 : UInt8) ∈ s := by
        rcases List.mem_cons.1 h with h | h
        · exact absurd h.symm hc
        · exact h
      have hi : (c :: s).idxOf 47 = s.idxOf 47 + 1 := by
        rw [List.idxOf_cons, beq_eq_false_iff_ne.2 hc]; rfl
      rw [parts, if_neg hc, ih hm, hi]
      simp
theorem extract_take (l : List UInt8) (k : Nat) : (⟨l.toArray⟩ : ByteArray).extract 0 k = ⟨(l.take k).toArray⟩ := by rw [extract_mk]; rfl
theorem extract_drop (l : List UInt8) (k : Nat) : (⟨l.toArray⟩ : ByteArray).extract k l.length = ⟨(l.drop k).toArray⟩ := by rw [extract_mk, sub_drop (by omega)]
def sizeAt (W : World) (p : Addr) : Nat := match W.cell? p with | some (.string b) => b.size | _ => 0

set_option maxHeartbeats 2000000 in
theorem iter_in (l b0 o0 b1 o1 b2 o2 : Nat) (J Jx : List (List UInt8) → World → Prop) (hJ : PathJ J ⟨b0, o0, none⟩ ⟨b1, o1, none⟩ ⟨b2, o2, none⟩)
    (hY : ∀ pre x W s, J pre W → W.cell? ⟨b1, o1, none⟩ = some (.string ⟨List.toArray s⟩) → x.length ≤ 1000000 → YieldAt Fence.wide 2 Tryd.prog l #[.string ⟨List.toArray x⟩] W fun e W' =>
      (e = .returned (.bool true) ∧ J (pre ++ [x]) W' ∧ W'.cell? ⟨b1, o1, none⟩ = some (.string ⟨List.toArray s⟩)) ∨ (e = .returned (.bool false) ∧ Jx (pre ++ [x]) W'))
    (W : World) (s : List UInt8) (hs : s.length ≤ 1000000) (hc : W.cell? ⟨b1, o1, none⟩ = some (.string ⟨s.toArray⟩)) (h0 : J [] W) :
    CallsIn Fence.wide 3 Tryd.prog 74 #[.func (.yield l) #[] #[], .pointer (some ⟨b0, o0, none⟩), .pointer (some ⟨b1, o1, none⟩), .pointer (some ⟨b2, o2, none⟩)] W fun e W' => (∃ v, e = .returned v) ∧
      (J (parts s) W' ∨ (∃ pre, pre <+: parts s ∧ Jx pre W')) := by
  refine callsIn_of_wp Tryd.func74 rfl trivial ?_ rfl
  simp only [Tryd.ntmps74, List.size_toArray, List.length_cons, List.length_nil, Nat.reduceAdd, Nat.reduceSub, Array.replicate_succ, Array.replicate_zero, List.push_toArray, List.append_toArray, List.nil_append, List.cons_append]
  have hc0 := hJ.c0 _ _ h0
  gi_wp2
  gi_loopw [7] (fun p wr => ∃ (pre : List (List UInt8)) (r : List UInt8), parts s = pre ++ parts r ∧ r.length ≤ 1000000 ∧ wr.cell? ⟨b1, o1, none⟩ = some (.string ⟨r.toArray⟩) ∧ J pre wr)
    (fun p wr => sizeAt wr ⟨b1, o1, none⟩)
  case atStart => exact ⟨[], s, rfl, hs, hc, h0⟩
  case round =>
    obtain ⟨pre, r, hp, hr, hcr, hJr⟩ := hrel
    have hk0 := hJ.c0 _ _ hJr
    have hk2 := hJ.c2 _ _ hJr
    have hf1 := hJ.f1 _ _ hJr
    have hlt1 : b1 < wr.heap.size := by
      rcases Nat.lt_or_ge b1 wr.heap.size with h | h
      · exact h
      · simp [World.cell?, Array.getElem?_eq_none h] at hcr
    have hlt0 : b0 < wr.heap.size := by
      rcases Nat.lt_or_ge b0 wr.heap.size with h | h
      · exact h
      · simp [World.cell?, Array.getElem?_eq_none h] at hk0
    have hlt2 : b2 < wr.heap.size := by
      rcases Nat.lt_or_ge b2 wr.heap.size with h | h
      · exact h
      · simp [World.cell?, Array.getElem?_eq_none h] at hk2
    by_cases hm : (47 : UInt8) ∈ r
    · obtain ⟨k, hk⟩ : ∃ k, r.idxOf 47 = k := ⟨_, rfl⟩
      have hkl : k < r.length := by rw [← hk]; exact List.idxOf_lt_length_iff.2 hm
      have hidx : indexB r 47 = (k : Int) := by unfold indexB; rw [if_pos hm, hk]
      have hpa := parts_at hm
      rw [hk] at hpa
      gi_wp2_with (refine ⟨trivial, ?_⟩; gi_at_call 56; refine (callsIn_wide.2 (idx_calls (s := r) (hJ.start _ _ hJr))).mono ?_; rw [hidx]; rintro e W1 ⟨rfl, hb1⟩; have hc1 := (hb1.cell (p := ⟨b1, o1, none⟩) hlt1).trans hcr; have hc0' := (hb1.cell (p := ⟨b0, o0, none⟩) hlt0).trans hk0; have hc2' := (hb1.cell (p := ⟨b2, o2, none⟩) hlt2).trans hk2; have hJ1 := hJ.below _ _ _ hJr hb1; have hf1' := hJ.f1 _ _ hJ1; obtain ⟨fn, tmps, assign, body, hy, hR⟩ := hY pre (r.take k) W1 r hJ1 hc1 (by simp; omega); rw [← extract_take r k] at hy)
      refine hR.mono ?_
      rintro e W3 (⟨rfl, hJ3, hc3⟩ | ⟨rfl, hJx3⟩)
      · have h30 := hJ.c0 _ _ hJ3
        have h3f := hJ.f1 _ _ hJ3
        gi_wp2
        go_roundw
        case rel => exact ⟨pre ++ [r.take k], r.drop (k + 1), by rw [hp, hpa]; simp, by rw [List.length_drop]; omega, by rw [World.cell?_setCell_same' _ _ _ (by rw [hc3]; rfl), extract_drop], hJ.set _ _ _ hJ3 (by rw [hc3]; rfl)⟩
        case measure =>
          unfold sizeAt
          rw [World.cell?_setCell_same' _ _ _ (by rw [hc3]; rfl), hcr, extract_drop]
          simp only [ByteArray.size, List.size_toArray, List.length_drop]
          omega
      · gi_wp2
        refine bodyPost_ret (results_none rfl _ _ _) rfl ?_
        exact ⟨⟨_, rfl⟩, .inr ⟨_, by rw [hp, hpa]; exact ⟨parts (r.drop (k + 1)), by simp⟩, hJx3⟩⟩
    · have hidx : indexB r 47 = -1 := by unfold indexB; rw [if_neg hm]
      gi_wp2_with (refine ⟨trivial, ?_⟩; gi_at_call 56; refine (callsIn_wide.2 (idx_calls (s := r) (hJ.start _ _ hJr))).mono ?_; rw [hidx]; rintro e W1 ⟨rfl, hb1⟩; have hc1 := (hb1.cell (p := ⟨b1, o1, none⟩) hlt1).trans hcr; have hJ1 := hJ.below _ _ _ hJr hb1; obtain ⟨fn, tmps, assign, body, hy, hR⟩ := hY pre r W1 r hJ1 hc1 hr)
      refine hR.mono ?_
      rintro e W3 (⟨rfl, hJ3, hc3⟩ | ⟨rfl, hJx3⟩)
      · gi_wp2
        go_end0
        exact ⟨⟨_, rfl⟩, .inl (by rw [hp, parts_none hm]; exact hJ3)⟩
      · gi_wp2
        go_end0
        exact ⟨⟨_, rfl⟩, .inr ⟨_, by rw [hp, parts_none hm]; exact ⟨[], by simp⟩, hJx3⟩⟩
end Cod

/- names.Path does what is known of it. -/
namespace Cod
open Go Go.RowKit Go.Proofs Go.Shelf
set_option maxRecDepth 100000
attribute [local go_sem] Oper.semAt_some

/-- What a round leaves as it was. -/
structure PI (w : World) (p0 p1 p2 : Addr) (pre : List (List UInt8)) (W : World) : Prop where
  all : pre.all nameOK = true
  bel : Below w.heap.size w W
  cB : W.cell? ⟨w.heap.size, 0, none⟩ = some (.bool false)
  fB : W.frozen? ⟨w.heap.size, 0, none⟩ = false
  c0 : W.cell? p0 = some (.string ⟨#[47]⟩)
  c1 : (W.cell? p1).isSome = true
  c2 : W.cell? p2 = some (.int .i64 0)
  f1 : W.frozen? p1 = false
theorem cell_lt {W : World} {p : Addr} {v : Value} (h : W.cell? p = some v) : p.block < W.heap.size := by
  obtain ⟨o, ho, _⟩ := cells_of_cell h
  exact (Array.getElem?_eq_some_iff.1 ho).1
section
variable {w W W' : World} {p0 p1 p2 : Addr} {pre : List (List UInt8)}
theorem PI.below (h : PI w p0 p1 p2 pre W) (hb : Below W.heap.size W W') : PI w p0 p1 p2 pre W' := by
  obtain ⟨v, hv⟩ := Option.isSome_iff_exists.1 h.c1
  exact ⟨h.all, h.bel.trans ⟨hb.os, hb.tape, hb.output, hb.size, fun k hk => hb.block k (Nat.lt_of_lt_of_le hk h.bel.size)⟩, (hb.cell (cell_lt h.cB)).trans h.cB, (hb.frozen (cell_lt h.cB)).trans h.fB,
    (hb.cell (cell_lt h.c0)).trans h.c0, by rw [hb.cell (cell_lt hv)]; exact h.c1, (hb.cell (cell_lt h.c2)).trans h.c2, (hb.frozen (cell_lt hv)).trans h.f1⟩
theorem PI.put (h : PI w p0 p1 p2 pre W) {l : Nat} {o o' : Obj} (hl : W.heap[l]? = some o) (ho : o.isCells = false) (hn : w.heap.size ≤ l) : PI w p0 p1 p2 pre (W.putObj l o') := by
  obtain ⟨v, hv⟩ := Option.isSome_iff_exists.1 h.c1
  have hg := grownBy_putObj' W l o'
  have hr : ∀ r, some l = some r → ∃ o : Obj, W.heap[r]? = some o ∧ o.isCells = false := fun r e => by cases e; exact ⟨o, hl, ho⟩
  exact ⟨h.all, h.bel.grown hg h.bel.size (fun k e => by cases e; exact hn), cell_kept h.cB hg hr, (frozen_kept h.cB hg hr).trans h.fB, cell_kept h.c0 hg hr, by rw [cell_kept hv hg hr]; rfl, cell_kept h.c2 hg hr, (frozen_kept hv hg hr).trans h.f1⟩
theorem PI.set (h : PI w p0 p1 p2 pre W) (v : Value) (n0 : w.heap.size < p1.block) (h0 : p0.block ≠ p1.block) (h2 : p2.block ≠ p1.block) : PI w p0 p1 p2 pre (W.setCell p1 v) := by
  refine ⟨h.all, h.bel.setCell (Nat.le_of_lt n0) v, ?_, ?_, ?_, ?_, ?_, ?_⟩
  · rw [World.cell?_setCell_other _ _ _ _ (fun e => by have := congrArg Addr.block e; simp at this; omega)]; exact h.cB
  · rw [World.frozen?_setCell]; exact h.fB
  · rw [World.cell?_setCell_other _ _ _ _ (fun e => h0 (by rw [e]))]; exact h.c0
  · rw [World.cell?_setCell_same' _ _ _ h.c1]; rfl
  · rw [World.cell?_setCell_other _ _ _ _ (fun e => h2 (by rw [e]))]; exact h.c2
  · rw [World.frozen?_setCell]; exact h.f1
theorem PI.start (h : PI w p0 p1 p2 pre W) (hw : Start w) : Start W := hw.below h.bel
end

/-- A range over a known function: its record, and the call. -/
theorem range_call {F : Fence} {n : Nat} {P : Program} {g : Operand} {ps : Array Tmp} {assign body : Code} {Q : Exit → Act → World → Prop} {a : Act} {w : World} (hro : F.round = none) (h1 : 1 ≤ n) {gf : Nat} {lb : Array Value}
    (hg : a.eval g = .func (.func gf) #[] lb) (hFg : F.fn gf) (eg : ∀ args w, (callFunc gf args).run P w = .ok (.enter gf args) w)
    (h : ∀ fn, F.fn fn → ∀ rec : LoopState → Option Code → Loop, (rec = fun st pe => { state := st, pending := pe, fn, tmps := a.tmps, params := ps, assign, body, defers := w.heap.size }) → ∀ W1, W1 = (w.alloc (.deferred (some []))).alloc (.loop (rec .ready none)) →
      CallsIn F (n - 1) P gf (#[.func (.yield (w.heap.size + 1)) #[] #[]] ++ lb) W1 (rangePost F n P (w.heap.size + 1) Q { a with defers := [{ target := .collected w.heap.size, args := #[] }] ++ a.defers })) :
    (Code.rangeFunc g ps assign body).wpIn F n P Q a w := by
  refine wpIn_rangeFunc ?_
  intro fn hfn
  rw [hro]
  obtain ⟨rec, hrec⟩ : ∃ rec : LoopState → Option Code → Loop, rec = fun st pe => { state := st, pending := pe, fn, tmps := a.tmps, params := ps, assign, body, defers := w.heap.size } := ⟨_, rfl⟩
  obtain ⟨W1, hW1⟩ : ∃ W1, W1 = (w.alloc (.deferred (some []))).alloc (.loop (rec .ready none)) := ⟨_, rfl⟩
  have hcall := h fn hfn rec hrec W1 hW1
  have hent : (Instr.enterLoop fn a.tmps ps assign body none).run P w = .ok (w.heap.size + 1, [{ target := .collected w.heap.size, args := #[] }]) W1 := by rw [hW1, hrec]; exact run_enterLoop_outer _ _ _ _ _
  clear hW1 h
  refine ⟨w.heap.size + 1, [{ target := .collected w.heap.size, args := #[] }], W1, { target := .fn (.func gf) lb, args := #[.func (.yield (w.heap.size + 1)) #[] #[]] }, W1, gf,
    #[.func (.yield (w.heap.size + 1)) #[] #[]] ++ lb, W1, ?_, ?_, ?_, ?_, fun _ => h1, ?_⟩
  · exact hent
  · simp only [resolve, hg]
    simp [go_sem]
  · intro f' hf'; simp [Target.leads] at hf'; subst hf'; exact hFg
  · simp [invoke, go_sem, eg]
  · exact hcall

set_option maxHeartbeats 4000000 in
theorem path_in {s : List UInt8} {w : World} (hW : Start w) : CallsIn Fence.wide 4 Tryd.prog 18 #[.string ⟨s.toArray⟩] w (fun e W' => e = .returned (.bool (pathOK s)) ∧ Below w.heap.size w W') := by
  refine callsIn_of_wp_marks Tryd.func18 rfl trivial ?_ rfl
  simp only [Tryd.ntmps18, List.size_toArray, List.length_cons, List.length_nil, Nat.reduceAdd, Nat.reduceSub, Array.replicate_succ, Array.replicate_zero, List.push_toArray, List.append_toArray, List.nil_append, List.cons_append]
  have hB : (w.alloc (.cells #[.bool false] 4)).cell? ⟨w.heap.size, 0, none⟩ = some (.bool false) ∧ (w.alloc (.cells #[.bool false] 4)).frozen? ⟨w.heap.size, 0, none⟩ = false := by
    have := heap_alloc_new w (.cells #[.bool false] 4)
    constructor
    · simp only [World.cell?, this]; rfl
    · simp only [World.frozen?, this]; simp
  have hA : Below w.heap.size w (w.alloc (.cells #[.bool false] 4)) := (Below.refl _ w).alloc (Nat.le_refl _) _
  by_cases hl : s.length ≤ 200
  · have hW1 : Start (w.alloc (.cells #[.bool false] 4)) := hW.below hA
    gi_wp2_with (refine ⟨trivial, ?_⟩; gi_at_call 37; refine (callsIn_wide.2 (split_calls (s := s) hW1)).mono ?_; rintro e W1 ⟨b0, b1, b2, o0, o1, o2, rfl, hb1, hsp⟩)
    obtain ⟨n0, n1, n2, d0, d2, c0, c1, c2, f1⟩ := hsp
    simp only [World.size_alloc] at hb1 n0 n1 n2 d0 d2
    have hI1 : PI w ⟨b0, o0, none⟩ ⟨b1, o1, none⟩ ⟨b2, o2, none⟩ [] W1 :=
      ⟨rfl, hA.trans ⟨hb1.os, hb1.tape, hb1.output, hb1.size, fun k hk => hb1.block k (by omega)⟩, (hb1.cell (p := ⟨w.heap.size, 0, none⟩) (by simp)).trans hB.1, (hb1.frozen (p := ⟨w.heap.size, 0, none⟩) (by simp)).trans hB.2, c0, by rw [c1]; rfl, c2, f1⟩
    refine range_call rfl (by omega) (gf := 74) rfl trivial (enters_of Tryd.func74 (by kernel_rfl) rfl) ?_
    intro fn hfn rec hrec W3 hW3
    obtain ⟨D, hD⟩ : ∃ D, W1.heap.size = D := ⟨_, rfl⟩
    have hnD : w.heap.size ≤ D := by rw [← hD]; exact hI1.bel.size
    have hD3 : W3.heap[D]? = some (.deferred (some [])) := by
      rw [hW3, ← hD]
      exact (Below.heap_alloc _ _ _ (by simp)).trans (World.alloc_heap_new _ _)
    have hL3 : W3.heap[D + 1]? = some (.loop (rec .ready none)) := by
      rw [hW3, ← hD]
      have := World.alloc_heap_new (W1.alloc (.deferred (some []))) (.loop (rec .ready none))
      rwa [World.size_alloc] at this
    have hb13 : Below W1.heap.size W1 W3 := by rw [hW3]; exact ((Below.refl _ W1).alloc (Nat.le_refl _) _).alloc (by simp) _
    have hI3 := hI1.below hb13
    have hc3 : W3.cell? ⟨b1, o1, none⟩ = some (.string ⟨s.toArray⟩) := (hb13.cell (cell_lt c1)).trans c1
    rw [hD]
    refine (iter_in (D + 1) b0 o0 b1 o1 b2 o2
      (fun pre W => PI w ⟨b0, o0, none⟩ ⟨b1, o1, none⟩ ⟨b2, o2, none⟩ pre W ∧ W.heap[D + 1]? = some (.loop (rec .ready none)) ∧ W.heap[D]? = some (.deferred (some [])))
      (fun pre W => pre.all nameOK = false ∧ Below w.heap.size w W ∧ W.cell? ⟨w.heap.size, 0, none⟩ = some (.bool false) ∧ W.heap[D + 1]? = some (.loop (rec .done (some .ret))) ∧ W.heap[D]? = some (.deferred (some [])))
      ⟨fun pre W h => h.1.start hW, fun pre W h => h.1.c0, fun pre W h => h.1.c2, fun pre W h => h.1.f1,
        fun pre W W' h hb => ⟨h.1.below hb, (hb.block _ (Array.getElem?_eq_some_iff.1 h.2.1).1).trans h.2.1, (hb.block _ (Array.getElem?_eq_some_iff.1 h.2.2).1).trans h.2.2⟩,
        fun pre W v h hs => ⟨h.1.set v n1 d0 d2, ?_, ?_⟩⟩ ?_ W3 s (by omega) hc3 ⟨hI3, hL3, hD3⟩).mono ?_
    · exact (KeepsOthers.setCell W _ v).same _ _ h.2.1 rfl
    · exact (KeepsOthers.setCell W _ v).same _ _ h.2.2 rfl
    · rintro pre x W s' ⟨hI, hL, hK⟩ hc hx
      have hy := run_yield (P := Tryd.prog) (args := #[.string ⟨x.toArray⟩]) hL (by rw [hrec]; rfl)
      rw [hrec] at hy
      refine ⟨fn, _, _, _, hy, roundIn_of_wpIn trivial ?_⟩
      gi_wp2
      refine ⟨_, run_beginRound hL (by rw [hrec]), ?_⟩
      obtain ⟨Wb, hWb⟩ : ∃ Wb, W.putObj (D + 1) (.loop { rec .ready none with state := .busy }) = Wb := ⟨_, rfl⟩
      have hIb : PI w ⟨b0, o0, none⟩ ⟨b1, o1, none⟩ ⟨b2, o2, none⟩ pre Wb := by rw [← hWb]; exact hI.put hL rfl (by omega)
      have hLb : Wb.heap[D + 1]? = some (.loop { rec .ready none with state := .busy }) := by rw [← hWb]; exact World.putObj_heap_same (Array.getElem?_eq_some_iff.1 hL).1
      have hKb : Wb.heap[D]? = some (.deferred (some [])) := by rw [← hWb]; exact (World.putObj_heap_other (by omega)).trans hK
      have hcb : Wb.cell? ⟨b1, o1, none⟩ = some (.string ⟨s'.toArray⟩) := by rw [← hWb]; exact cell_kept hc (grownBy_putObj' W _ _) (fun r e => by cases e; exact ⟨_, hL, rfl⟩)
      rw [hWb]
      clear hWb
      have hfin : ∀ (jump : Option Code) (W3 : World), W3.heap[D + 1]? = some (.loop { rec .ready none with state := .busy }) →
          (Instr.endRound (D + 1) jump).run Tryd.prog W3 = .ok (.bool jump.isNone) (W3.putObj (D + 1) (.loop (rec (if jump.isNone then .ready else .done) jump))) := fun jump W3 h3 => by
        have := run_endRound (P := Tryd.prog) jump h3
        rw [hrec] at this ⊢
        exact this
      cases hn : nameOK x with
      | true =>
        gi_wp2_with (refine ⟨trivial, ?_⟩; gi_at_call 20; refine (CallsIn.inRound (D + 1) (callsIn_wide.2 (name_calls hx (hIb.start hW)))).mono ?_; rw [hn]; rintro e W' ⟨rfl, hb'⟩; have hI' := hIb.below hb'; have hcB' := hI'.cB; have hfB' := hI'.fB)
        have hL' := (hb'.block _ (Array.getElem?_eq_some_iff.1 hLb).1).trans hLb
        have hK' := (hb'.block _ (Array.getElem?_eq_some_iff.1 hKb).1).trans hKb
        have hc' := (hb'.cell (cell_lt hcb)).trans hcb
        refine ⟨_, _, hfin none _ hL', .inl ⟨rfl, ⟨?_, World.putObj_heap_same (Array.getElem?_eq_some_iff.1 hL').1, (World.putObj_heap_other (by omega)).trans hK'⟩, cell_kept hc' (grownBy_putObj' W' _ _) (fun r e => by cases e; exact ⟨_, hL', rfl⟩)⟩⟩
        have h2 := hI'.put hL' rfl (by omega) (o' := .loop (rec .ready none))
        exact ⟨by rw [List.all_append, h2.all]; simp [hn], h2.bel, h2.cB, h2.fB, h2.c0, h2.c1, h2.c2, h2.f1⟩
      | false =>
        gi_wp2_with (refine ⟨trivial, ?_⟩; gi_at_call 20; refine (CallsIn.inRound (D + 1) (callsIn_wide.2 (name_calls hx (hIb.start hW)))).mono ?_; rw [hn]; rintro e W' ⟨rfl, hb'⟩; have hI' := hIb.below hb'; have hcB' := hI'.cB; have hfB' := hI'.fB)
        have hL' := (hb'.block _ (Array.getElem?_eq_some_iff.1 hLb).1).trans hLb
        have hK' := (hb'.block _ (Array.getElem?_eq_some_iff.1 hKb).1).trans hKb
        have hL2 := (KeepsOthers.setCell W' ⟨w.heap.size, 0, none⟩ (.bool false)).same _ _ hL' rfl
        have hK2 := (KeepsOthers.setCell W' ⟨w.heap.size, 0, none⟩ (.bool false)).same _ _ hK' rfl
        have hc2' : (W'.setCell ⟨w.heap.size, 0, none⟩ (.bool false)).cell? ⟨w.heap.size, 0, none⟩ = some (.bool false) := World.cell?_setCell_same' _ _ _ (by rw [hcB']; rfl)
        have hbel2 := hI'.bel.setCell (p := ⟨w.heap.size, 0, none⟩) (Nat.le_refl _) (.bool false)
        refine ⟨_, _, hfin (some .ret) _ hL2, .inr ⟨rfl, by rw [List.all_append]; simp [hn], ?_, cell_kept hc2' (grownBy_putObj' _ _ _) (fun r e => by cases e; exact ⟨_, hL2, rfl⟩), World.putObj_heap_same (Array.getElem?_eq_some_iff.1 hL2).1, (World.putObj_heap_other (by omega)).trans hK2⟩⟩
        exact hbel2.grown (grownBy_putObj' _ _ _) hbel2.size (fun k e => by cases e; omega)
    · rintro e W' ⟨⟨v, rfl⟩, (⟨hI, hL, hK⟩ | ⟨pre, hpre, hbad, hbel, hcB, hL, hK⟩)⟩
      · obtain ⟨W4, hrun, hI4, hK4⟩ : ∃ W4, (Instr.endLoop (D + 1)).run Tryd.prog W' = .ok none W4 ∧ PI w ⟨b0, o0, none⟩ ⟨b1, o1, none⟩ ⟨b2, o2, none⟩ (parts s) W4 ∧ W4.heap[D]? = some (.deferred (some [])) := by
          have := run_endLoop (P := Tryd.prog) hL (by rw [hrec]; simp)
          exact ⟨_, by rw [hrec] at this; exact this, hI.put hL rfl (by omega), (World.putObj_heap_other (by omega)).trans hK⟩
        refine ⟨none, W4, hrun, ?_⟩
        have hcB := hI4.cB
        have hfB := hI4.fB
        have hpo : pathOK s = true := by unfold pathOK; rw [dec_t hl, hI.all]; rfl
        gi_wp2
        have hK5 := (KeepsOthers.setCell W4 ⟨w.heap.size, 0, none⟩ (.bool true)).same D _ hK4 rfl
        have hc5 := cell_kept (World.cell?_setCell_same' W4 ⟨w.heap.size, 0, none⟩ (.bool true) (by rw [hcB]; rfl)) (grownBy_putObj' _ D (.deferred none)) (fun r e => by cases e; exact ⟨_, hK5, rfl⟩)
        have hb5 := (hI4.bel.setCell (p := ⟨w.heap.size, 0, none⟩) (Nat.le_refl _) (.bool true))
        refine ⟨by simp, .inl ⟨_, _, rfl, run_takeDeferred hK5, .bool true, ?_, by rw [hpo], hb5.grown (grownBy_putObj' _ _ _) hb5.size (fun k e => by cases e; omega)⟩⟩
        simp [results, Tryd.f18, go_sem, hc5]
      · obtain ⟨W4, hrun, hc4, hb4, hK4⟩ : ∃ W4, (Instr.endLoop (D + 1)).run Tryd.prog W' = .ok (some .ret) W4 ∧ W4.cell? ⟨w.heap.size, 0, none⟩ = some (.bool false) ∧ Below w.heap.size w W4 ∧ W4.heap[D]? = some (.deferred (some [])) := by
          have := run_endLoop (P := Tryd.prog) hL (by rw [hrec]; simp)
          exact ⟨_, by rw [hrec] at this; exact this, cell_kept hcB (grownBy_putObj' W' _ _) (fun r e => by cases e; exact ⟨_, hL, rfl⟩), hbel.grown (grownBy_putObj' W' _ _) hbel.size (fun k e => by cases e; omega), (World.putObj_heap_other (by omega)).trans hK⟩
        refine ⟨some .ret, W4, hrun, ?_⟩
        have hpo : pathOK s = false := by
          unfold pathOK
          have : (parts s).all nameOK = false := by
            obtain ⟨r, hr⟩ := hpre
            rw [← hr, List.all_append, hbad]; rfl
          rw [this, Bool.and_false]
        gi_wp2
        have hc5 := cell_kept hc4 (grownBy_putObj' _ D (.deferred none)) (fun r e => by cases e; exact ⟨_, hK4, rfl⟩)
        refine ⟨by simp, .inl ⟨_, _, rfl, run_takeDeferred hK4, .bool false, ?_, by rw [hpo], hb4.grown (grownBy_putObj' _ _ _) hb4.size (fun k e => by cases e; omega)⟩⟩
        simp [results, Tryd.f18, go_sem, hc5]
  · gi_wp2
    have hpo : pathOK s = false := by unfold pathOK; rw [dec_f hl]; rfl
    refine ⟨.bool false, ?_, by rw [hpo], hA⟩
    simp [results, Tryd.f18, go_sem, hB.1]
theorem ok_path {E : Env} (hE : E.glob = globOf) : PureOK Tryd.prog E F.names_Path kPath := by
  intro args v vs La w hg hv hr
  unfold kPath at hg
  split at hg
  · rename_i s
    cases hg
    simp only [VRL, VR] at hv
    obtain ⟨x, r, rfl, rfl, rfl⟩ := hv
    refine ⟨.bool (pathOK s), fun c => by simp [VR], ?_⟩
    refine fn_of_calls Tryd.func18 (by rfl) (by kernel_rfl) (Calls.mono (callsIn_wide.1 (path_in (s := s) (start_of hE hr))) ?_)
    rintro e w' ⟨rfl, hb⟩
    exact ⟨_, rfl, rfl, hb⟩
  · cases hg
end Cod

/- What the rows of this seat share. -/
namespace Cod
open Go Go.Proofs Go.Proofs.YtmijmageicjfnaaDoor
set_option maxRecDepth 100000

theorem lookup_mem2 {α β : Type} [BEq α] [LawfulBEq α] {a : α} {b : β} : ∀ {l : List (α × β)}, l.lookup a = some b → (a, b) ∈ l := by
  intro l
  induction l with
  | nil => intro h; simp at h
  | cons x l ih =>
    intro h
    rw [List.lookup_cons] at h
    split at h
    · rename_i he
      rw [beq_iff_eq] at he
      cases h
      rw [he]; exact List.mem_cons_self
    · exact List.mem_cons_of_mem _ (ih h)
theorem own : ownKnob Tryd.prog.godebug = none := by kernel_rfl
theorem laidOut : laidOutB Tryd.prog = true := by kernel_rfl
theorem bool_type : Tryd.prog.underlying 4 = some .bool := Tryd.underlying4

/-! ### the bulk -/
mutual
theorem bulk_eq {H : Type} : ∀ d : DataW H, Rows.uptoBulk d = dbulk d
  | .lit (.string _) => by simp [Rows.uptoBulk, dbulk]
  | .lit (.bool _) => by simp [Rows.uptoBulk, dbulk]
  | .lit (.int _ _) => by simp [Rows.uptoBulk, dbulk]
  | .lit (.float _ _) => by simp [Rows.uptoBulk, dbulk]
  | .lit .nil => by simp [Rows.uptoBulk, dbulk]
  | .nil => by simp [Rows.uptoBulk, dbulk]
  | .ptr d => by simp [Rows.uptoBulk, dbulk, bulk_eq d]
  | .slice a b => by simp [Rows.uptoBulk, dbulk, bulkAll_eq a, bulkAll_eq b]
  | .agg a => by simp [Rows.uptoBulk, dbulk, bulkAll_eq a]
  | .iface _ d => by simp [Rows.uptoBulk, dbulk, bulk_eq d]
  | .map l => by simp [Rows.uptoBulk, dbulk, bulkEntries_eq l]
  | .held _ => by simp [Rows.uptoBulk, dbulk]
theorem bulkAll_eq {H : Type} : ∀ l : List (DataW H), Rows.uptoBulkAll l = dbulkAll l
  | [] => by simp [Rows.uptoBulkAll, dbulkAll]
  | d :: r => by simp [Rows.uptoBulkAll, dbulkAll, bulk_eq d, bulkAll_eq r]
theorem bulkEntries_eq {H : Type} : ∀ l : List (Lit × DataW H), Rows.uptoBulkEntries l = dbulkEntries l
  | [] => by simp [Rows.uptoBulkEntries, dbulkEntries]
  | d :: r => by simp [Rows.uptoBulkEntries, dbulkEntries, bulkEntry_eq d, bulkEntries_eq r]
theorem bulkEntry_eq {H : Type} : ∀ x : Lit × DataW H, Rows.uptoBulkEntry x = dbulkEntry x
  | (.string _, d) => by simp [Rows.uptoBulkEntry, dbulkEntry, bulk_eq d]
  | (.bool _, d) => by simp [Rows.uptoBulkEntry, dbulkEntry, bulk_eq d]
  | (.int _ _, d) => by simp [Rows.uptoBulkEntry, dbulkEntry, bulk_eq d]
  | (.float _ _, d) => by simp [Rows.uptoBulkEntry, dbulkEntry, bulk_eq d]
  | (.nil, d) => by simp [Rows.uptoBulkEntry, dbulkEntry, bulk_eq d]
end
/-! ### the tables -/
theorem foldLaid : (Rows.laid_unicode_asciiFold : DataW Unit) = Lib.tabData .u16 foldTab := by kernel_rfl
theorem gF : Tryd.prog.globalNamed "unicode.asciiFold" = some G.unicode_asciiFold := by kernel_rfl
theorem fold_tab {W : World} {l : List (String × DataW Unit)} (h : laidMetH Tryd.prog l W) (hm : ("unicode.asciiFold", Rows.laid_unicode_asciiFold) ∈ l) : GV (ctx [] La0 W) G.unicode_asciiFold (foldTab.map fun z => .int .u16 z) :=
  glob_tab (tab_of_laid (n := 128) h (foldLaid ▸ hm) gF (by kernel_rfl) (t := 85) (e := 84) (by kernel_rfl) (by kernel_rfl) (by kernel_rfl) (by kernel_rfl)) gF (by simp [foldTab])
theorem powLaid : (Rows.laid_internal_strconv_uint64pow10 : DataW Unit) = Lib.tabData .u64 Lib.pow10Tab := by kernel_rfl
theorem gP : Tryd.prog.globalNamed "internal/strconv.uint64pow10" = some G.strconv_uint64pow10 := by kernel_rfl
theorem pow_tab {W : World} {l : List (String × DataW Unit)} (h : laidMetH Tryd.prog l W) (hm : ("internal/strconv.uint64pow10", Rows.laid_internal_strconv_uint64pow10) ∈ l) : GV (ctx [] La0 W) G.strconv_uint64pow10 (Lib.pow10Tab.map fun z => .int .u64 z) :=
  glob_tab (tab_of_laid (n := 20) h (powLaid ▸ hm) gP (by kernel_rfl) (t := 122) (e := 96) (by kernel_rfl) (by kernel_rfl) (by kernel_rfl) (by kernel_rfl)) gP (by simp [Lib.pow10Tab])
theorem form_tab {W : World} {l : List (String × DataW Unit)} (h : laidMetH Tryd.prog l W) (hm : ("strconv.ErrSyntax", Rows.laid_strconv_ErrSyntax) ∈ l) : GV (ctx [] La0 W) G.strconv_ErrSyntax [.any none] :=
  err_laid h hm (by rfl) (by kernel_rfl) (t := 52) (by kernel_rfl) (by kernel_rfl)
theorem range_tab {W : World} {l : List (String × DataW Unit)} (h : laidMetH Tryd.prog l W) (hm : ("strconv.ErrRange", Rows.laid_strconv_ErrRange) ∈ l) : GV (ctx [] La0 W) G.strconv_ErrRange [.any none] :=
  err_laid h hm (by rfl) (by kernel_rfl) (t := 52) (by kernel_rfl) (by kernel_rfl)
theorem max_tab {W : World} (h : W.ShapedOpen Tryd.prog) : GV (ctx [] La0 W) G.bytealg_MaxLen [.any (some .i64)] :=
  int_shaped h (of_decide_eq_true (by kernel_rfl)) (by kernel_rfl) (Go.Proofs.cell_of_shapedOpen_int (zero := #[.int .i64 0]) (t := 3) h (of_decide_eq_true (by kernel_rfl)) (by kernel_rfl) rfl (by kernel_rfl) (by kernel_rfl) Tryd.underlying3)
theorem glob_of {W : World} (h : ∀ p ∈ globTab, GV (ctx [] La0 W) p.1 p.2) : GlobOK E W := by
  intro n
  show GV _ n (globOf n)
  unfold globOf
  cases hl : globTab.lookup n with
  | none => exact glob_none
  | some l => exact h _ (lookup_mem2 hl)
theorem glob_ok {W : World} {l : List (String × DataW Unit)} (h : laidMetH Tryd.prog l W) (hs : W.ShapedOpen Tryd.prog) (hf : ("unicode.asciiFold", Rows.laid_unicode_asciiFold) ∈ l) (hp : ("internal/strconv.uint64pow10", Rows.laid_internal_strconv_uint64pow10) ∈ l) (h1 : ("strconv.ErrSyntax", Rows.laid_strconv_ErrSyntax) ∈ l) (h2 : ("strconv.ErrRange", Rows.laid_strconv_ErrRange) ∈ l) : GlobOK E W := by
  refine glob_of ?_
  unfold globTab
  refine List.forall_mem_cons.2 ⟨fold_tab h hf, ?_⟩
  refine List.forall_mem_cons.2 ⟨pow_tab h hp, ?_⟩
  refine List.forall_mem_cons.2 ⟨form_tab h h1, ?_⟩
  refine List.forall_mem_cons.2 ⟨range_tab h h2, ?_⟩
  refine List.forall_mem_cons.2 ⟨max_tab hs, ?_⟩
  exact fun p h => nomatch h

theorem fns_ok : FnsOK Tryd.prog E := fnsOK_of (by kernel_rfl) all_ok (fun _ => rfl)
theorem tab_ok : ∀ p ∈ knownTab, RowOK Tryd.prog E p.1 p.2 := by
  unfold knownTab
  exact List.forall_mem_cons.2 ⟨row_pure (ok_path rfl), tab0_ok rfl⟩
theorem known_ok : KnownOK Tryd.prog E := fun f h hf => tab_ok (f, h) (lookup_memK (show knownTab.lookup f = some h from hf))
end Cod

/- The law NamesFixed has no arguments. -/
namespace Cod
open Go
theorem run_NamesFixed {xs : List AV} (h : ArgsOK [] xs) : ∃ σr, S E 8 xs [] = some (.bool true, σr) := by
  simp only [ArgsOK] at h
  subst h
  exact ⟨[], go_namesFixed⟩
end Cod


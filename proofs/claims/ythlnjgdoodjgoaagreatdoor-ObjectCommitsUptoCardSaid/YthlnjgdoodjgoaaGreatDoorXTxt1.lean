/- Arguments of plain data, read as the rows read them: their abstract values. -/
import Derived.OpenShut
import Derived.Deep.Slices
import Derived.DataReads
import Derived.Carry
import Derived.Below
import Derived.Lib.LaidTab
import Derived.ChangeMaps
import Derived.WalkKit
import Derived.ProofKit
import Derived.Deep.DeepHandedRow
import Derived.Lib.ItoaNum
import Derived.Lib.AtoiAll
import Derived.Lib.LastIndexLaws
import Derived.Lib.IndexMore
import Derived.Lib.BytesEntry
import Derived.Laws.AppendOwn
import Derived.Test.YthlnjgdoodjgoaaGreatDoorChecked
import Derived.Laws.Externs
import Derived.Lib.AppendIntMem
import Derived.Test.YthlnjgdoodjgoaaGreatDoorRows
import Derived.Test.YthlnjgdoodjgoaaGreatDoorXCod5
import Derived.Test.YthlnjgdoodjgoaaGreatDoorXLit3
import Derived.Test.YthlnjgdoodjgoaaGreatDoorXCod6
import Derived.Test.YthlnjgdoodjgoaaGreatDoorXShelf1
set_option linter.unusedSimpArgs false
set_option linter.unusedVariables false
open Nat renaming reduceEqDiff → qn0, reduceAdd → qn1, reduceSub → qn2, reduceMul → qn3, reduceDiv → qn4, reduceMod → qn5, reduceBEq → qn6, reduceLeDiff → qn7, reduceLT → qn8
open Int renaming reduceEq → qi0, reduceNe → qi1, reduceLT → qi2, reduceLE → qi3, reduceBEq → qi4, reduceBNe → qi5, reduceToNat → qi6, reduceAdd → qi7, reduceSub → qi8, reduceMul → qi9, reduceNeg → qi10
namespace Cod
open Go
inductive Ty where
  | int (k : IntKind)
  | bool
  | str
  | nil
  | cat (a b : Ty)
  | rep (n : Nat) (a : Ty)
  | sl (e : Ty)
def Ty.noSl : Ty → Bool
  | .sl _ => false
  | .cat a b => a.noSl && b.noSl
  | .rep _ a => a.noSl
  | _ => true
def Wf : Ty → List AV → Prop
  | .int k, ys0 => ∃ n, ys0 = [.int k n] ∧ (Lit.int k n).wf = true
  | .bool, ys0 => ∃ b, ys0 = [.bool b]
  | .str, ys0 => ∃ s, ys0 = [.str s] ∧ s.length ≤ maxLen
  | .nil, ys0 => ys0 = []
  | .cat a b, ys0 => ∃ x y, ys0 = x ++ y ∧ Wf a x ∧ Wf b y
  | .rep n a, ys0 => ∃ r : List (List AV), ys0 = r.flatten ∧ r.length = n ∧ ∀ x ∈ r, Wf a x
  | .sl e, ys0 => ∃ r : List (List AV), ys0 = [.lst r.flatten r.length] ∧ r.length ≤ maxLen ∧ ∀ x ∈ r, Wf e x
def fieldsTy (P : Program) (rec : TypeId → Option Ty) (total : Nat) : Nat → List Field → Option Ty
  | off, [] => if off = total then some .nil else none
  | off, f :: fs => if f.offset = off then match rec f.type, fieldsTy P rec total (off + P.cellsOf f.type) fs with
    | some a, some b => some (.cat a b)
    | _, _ => none
    else none
def leafTy (P : Program) (t : TypeId) (T : Ty) : Option Ty := if P.cellsOf t = 1 then some T else none
def tyOf (P : Program) : Nat → TypeId → Option Ty
  | 0, _ => none
  | d + 1, t => match P.underlying t with
    | some .bool => leafTy P t .bool
    | some (.int k) => leafTy P t (.int k)
    | some .string => leafTy P t .str
    | some (.slice e) => if P.cellsOf e = 0 then none else match tyOf P d e with
      | some T => if T.noSl then leafTy P t (.sl T) else none
      | none => none
    | some (.struct fs) => fieldsTy P (tyOf P d) (P.cellsOf t) 0 fs.toList
    | some (.array n e) => if P.cellsOf t = n * P.cellsOf e then (tyOf P d e).map (.rep n ·) else none
    | _ => none
/- The bulk that a reading has, and an abstract value's. -/
mutual
def dbulk {H : Type} : DataW H → Nat
  | .lit (.string bytes) => bytes.length + 1
  | .lit _ => 1
  | .nil => 1
  | .ptr d => dbulk d + 1
  | .slice elems spare => dbulkAll elems + dbulkAll spare + 1
  | .agg parts => dbulkAll parts + 1
  | .iface _ d => dbulk d + 1
  | .map entries => dbulkEntries entries + 1
  | .held _ => 1
def dbulkAll {H : Type} : List (DataW H) → Nat
  | [] => 0
  | d :: r => dbulk d + dbulkAll r
def dbulkEntries {H : Type} : List (Lit × DataW H) → Nat
  | [] => 0
  | x :: r => dbulkEntry x + dbulkEntries r
def dbulkEntry {H : Type} : Lit × DataW H → Nat
  | (.string bytes, d) => bytes.length + dbulk d + 1
  | (_, d) => dbulk d + 1
end
mutual
def abulk : AV → Nat
  | .str s => s.length + 1
  | .lst cs n => max (abulks cs) n + 1
  | .agg cs => abulks cs
  | _ => 1
def abulks : List AV → Nat
  | [] => 0
  | a :: r => abulk a + abulks r
end
theorem abulks_append (a b : List AV) : abulks (a ++ b) = abulks a + abulks b := by
  induction a with
  | nil => simp [abulks]
  | cons x a ih => simp only [List.cons_append, abulks, ih]; omega
theorem abulks_flatten_le {H : Type} : ∀ (r : List (List AV)) (ds : List (DataW H)), r.length = ds.length → (∀ (i : Nat) (x : List AV) (d : DataW H), r[i]? = some x → ds[i]? = some d → abulks x ≤ dbulk d) → abulks r.flatten ≤ dbulkAll ds := by
  intro r
  induction r with
  | nil => intro ds h _; cases ds with | nil => simp [abulks, dbulkAll] | cons => simp at h
  | cons x r ih =>
    intro ds h hx
    cases ds with
    | nil => simp at h
    | cons d ds =>
      simp only [List.flatten_cons, abulks_append, dbulkAll]
      have h1 := hx 0 x d (by simp) (by simp)
      have h2 := ih ds (by simpa using h) (fun i y e hy he => hx (i + 1) y e (by simpa using hy) (by simpa using he))
      omega
theorem one_le_dbulk {H : Type} (d : DataW H) : 1 ≤ dbulk d := by
  cases d with
  | lit l => cases l <;> simp [dbulk]
  | _ => simp [dbulk]
theorem length_le_dbulkAll {H : Type} : ∀ (l : List (DataW H)), l.length ≤ dbulkAll l := by
  intro l
  induction l with
  | nil => simp
  | cons d l ih => have := one_le_dbulk d; simp only [dbulkAll, List.length_cons]; omega
theorem flats_flatten : ∀ {r : List (List AV)}, (∀ x ∈ r, flats x = true) → flats r.flatten = true := by
  intro r
  induction r with
  | nil => intro _; simp [flats]
  | cons x r ih => intro h; rw [List.flatten_cons, flats_append, h x (by simp), ih (fun y hy => h y (by simp [hy]))]; rfl
theorem rows_of {p : Nat → List AV → Prop} : ∀ (n : Nat), (∀ i, i < n → ∃ ys0, p i ys0) → ∃ r : List (List AV), r.length = n ∧ ∀ i x, r[i]? = some x → p i x := by
  intro n
  induction n with
  | zero => intro _; exact ⟨[], rfl, fun i x h => by simp at h⟩
  | succ n ih =>
    intro h
    obtain ⟨r, h1, h2⟩ := ih (fun i hi => h i (by omega))
    obtain ⟨a, ha⟩ := h n (by omega)
    refine ⟨r ++ [a], by simp [h1], fun i x hx => ?_⟩
    rcases Nat.lt_or_ge i r.length with hi | hi
    · rw [List.getElem?_append_left hi] at hx; exact h2 i x hx
    · rw [List.getElem?_append_right hi] at hx
      have : i = r.length := by
        rcases Nat.lt_or_ge (i - r.length) 1 with h3 | h3
        · omega
        · rw [List.getElem?_eq_none (by simpa using h3)] at hx; cases hx
      subst this
      simp at hx
      subst hx
      rw [h1]; exact ha
theorem VRL_flatten {c : Ctx} {z : Nat} : ∀ (r : List (List AV)) (cs : List Value), cs.length = r.length * z → (∀ i x, r[i]? = some x → VRL c x ((cs.drop (i * z)).take z)) → VRL c r.flatten cs := by
  intro r
  induction r with
  | nil => intro cs h _; simp at h; subst h; simp [VRL]
  | cons x r ih =>
    intro cs h hx
    have h0 := hx 0 x (by simp)
    simp only [Nat.zero_mul, List.drop_zero] at h0
    have h1 := ih (cs.drop z) (by rw [List.length_drop, h, List.length_cons, Nat.succ_mul]; omega) (fun i y hy => by
      have := hx (i + 1) y (by simpa using hy)
      rw [List.drop_drop, show z + i * z = (i + 1) * z by rw [Nat.succ_mul]; omega]
      exact this)
    rw [List.flatten_cons, ← List.take_append_drop z cs]
    exact VRL_append h0 h1
theorem VRC_of_VRL {c : Ctx} {b o : Nat} : ∀ {xs : List AV} {vs : List Value}, VRL c xs vs → (∀ i v, vs[i]? = some v → c.w.cell? ⟨b, o + i, none⟩ = some v) → VRC c b o xs := by
  intro xs vs h hc
  refine VRC_of_get fun i x hx => ?_
  obtain ⟨v, h1, h2⟩ := VRL_get h hx
  exact ⟨v, hc i v h1, h2⟩
theorem VRC_append {c : Ctx} {b : Nat} : ∀ {o : Nat} {xs ys : List AV}, VRC c b o xs → VRC c b (o + xs.length) ys → VRC c b o (xs ++ ys) := by
  intro o xs
  induction xs generalizing o with
  | nil => intro ys _ h; simpa using h
  | cons x xs ih =>
    intro ys h k
    simp only [VRC] at h
    simp only [List.cons_append, VRC]
    refine ⟨h.1, ih h.2 ?_⟩
    rw [show o + 1 + xs.length = o + (x :: xs).length by simp; omega]
    exact k
theorem VRC_flatten {c : Ctx} {b z : Nat} : ∀ {o : Nat} (r : List (List AV)), (∀ x ∈ r, x.length = z) → (∀ i x, r[i]? = some x → VRC c b (o + i * z) x) → VRC c b o r.flatten := by
  intro o r
  induction r generalizing o with
  | nil => intro _ _; simp [VRC]
  | cons x r ih =>
    intro hl hx
    rw [List.flatten_cons]
    refine VRC_append (by simpa using hx 0 x (by simp)) (ih (fun y hy => hl y (by simp [hy])) fun i y hy => ?_)
    rw [hl x (by simp), show o + z + i * z = o + (i + 1) * z by rw [Nat.succ_mul]; omega]
    exact hx (i + 1) y (by simpa using hy)
def Placed (w : World) (cs : List Value) : Prop := ∀ a n m, Value.slice (some a) n m ∈ cs → a.spot = none ∧ a.block < w.heap.size
section
variable {H : Type} {enc : TypeId × Value → H} {P : Program} {base : Nat} {held : Bool} {c : Ctx}
theorem leafTy_some {t : TypeId} {T U : Ty} (h : leafTy P t T = some U) : P.cellsOf t = 1 ∧ U = T := by
  unfold leafTy at h
  split at h
  · exact ⟨by assumption, (Option.some.inj h).symm⟩
  · cases h
def Got (c : Ctx) (P : Program) (t : TypeId) (T : Ty) (cs : List Value) (d : DataW H) : Prop :=
  ∃ ys0, VRL c ys0 cs ∧ Wf T ys0 ∧ flats ys0 = true ∧ abulks ys0 ≤ dbulk d ∧ cs.length = P.cellsOf t
theorem fields_got {rec : TypeId → Option Ty} {tr : TypeId → List Value → Option (DataW H × List MemPlace)} {total : Nat} {cs : List Value} (hcs : cs.length = total) : ∀ (fs : List Field) (off : Nat) (T : Ty) (xs : List (DataW H × List MemPlace)),
    fieldsTy P rec total off fs = some T → xs.length = fs.length → (∀ (i : Nat) (f : Field), fs[i]? = some f → tr f.type ((cs.drop f.offset).take (P.cellsOf f.type)) = xs[i]?) →
    (∀ (t : TypeId) (U : Ty) (us : List Value) (x : DataW H × List MemPlace), (∀ v ∈ us, v ∈ cs) → (T.noSl = true → U.noSl = true) → rec t = some U → tr t us = some x → Got c P t U us x.1) → off ≤ total →
    ∃ ys0, VRL c ys0 (cs.drop off) ∧ Wf T ys0 ∧ flats ys0 = true ∧ abulks ys0 ≤ dbulkAll (xs.map (·.1)) := by
  intro fs
  induction fs with
  | nil =>
    intro off T xs h hl _ _ ho
    simp only [fieldsTy] at h
    split at h
    · cases h
      have : cs.drop off = [] := by rw [List.drop_eq_nil_iff]; omega
      rw [this]
      exact ⟨[], by simp [VRL], by simp [Wf], by simp [flats], by simp [abulks]⟩
    · cases h
  | cons f fs ih =>
    intro off T xs h hl hx hrec ho
    simp only [fieldsTy] at h
    split at h
    · rename_i hoff
      split at h
      · rename_i A B hA hB
        cases h
        cases xs with
        | nil => simp at hl
        | cons x xs =>
          have h0 := hx 0 f (by simp)
          simp only [List.getElem?_cons_zero] at h0
          obtain ⟨ys0, k1, k2, k3, k4, k5⟩ := hrec f.type A _ x (fun v hv => List.mem_of_mem_drop (List.mem_of_mem_take hv)) (fun hn => by simp only [Ty.noSl, Bool.and_eq_true] at hn; exact hn.1) hA h0
          rw [hoff] at k1 k5
          simp only [List.length_take, List.length_drop] at k5
          have hle : off + P.cellsOf f.type ≤ total := by omega
          obtain ⟨bs, l1, l2, l3, l4⟩ := ih (off + P.cellsOf f.type) B xs hB (by simpa using hl) (fun i g hg => by have := hx (i + 1) g (by simpa using hg); simpa using this)
            (fun t U us y hus hn => hrec t U us y hus (fun hn' => hn (by simp only [Ty.noSl, Bool.and_eq_true] at hn'; exact hn'.2))) hle
          refine ⟨ys0 ++ bs, ?_, ⟨ys0, bs, rfl, k2, l2⟩, by rw [flats_append, k3, l3]; rfl, ?_⟩
          · rw [← List.take_append_drop (P.cellsOf f.type) (cs.drop off), List.drop_drop]
            exact VRL_append k1 l1
          · simp only [abulks_append, List.map_cons, dbulkAll]; omega
      · cases h
    · cases h
theorem trod_VR (hO : ∀ b, ¬ c.O b) : ∀ (d : Nat) (t : TypeId) (T : Ty) (fuel : Nat) (cs : List Value) (x : DataW H × List MemPlace), tyOf P d t = some T → (T.noSl = true ∨ Placed c.w cs) →
    DataW.trod enc P c.w base (fun _ => true) held fuel t cs = some x → Got c P t T cs x.1 := by
  intro d
  induction d with
  | zero => intro t T fuel cs x h; simp [tyOf] at h
  | succ d ih =>
    intro t T fuel cs x hT hp h
    unfold tyOf at hT
    cases hu : P.underlying t with
    | none => rw [hu] at hT; simp at hT
    | some u =>
      rw [hu] at hT
      cases u with
      | bool =>
        obtain ⟨hc, rfl⟩ := leafTy_some hT
        obtain ⟨b, rfl, rfl⟩ := DataW.trod_bool hu h
        exact ⟨[.bool b], VRL_one (by simp [VR]), ⟨b, rfl⟩, by simp [flats, flat], by simp [abulks, abulk, dbulk], by simp [hc]⟩
      | int k =>
        obtain ⟨hc, rfl⟩ := leafTy_some hT
        obtain ⟨n, rfl, rfl, hw⟩ := DataW.trod_int hu h
        exact ⟨[.int k n], VRL_one (by simp [VR]), ⟨n, rfl, hw⟩, by simp [flats, flat], by simp [abulks, abulk, dbulk], by simp [hc]⟩
      | string =>
        obtain ⟨hc, rfl⟩ := leafTy_some hT
        obtain ⟨s, rfl, rfl, hs⟩ := DataW.trod_string hu h
        exact ⟨[.str s.data.toList], VRL_one (by simp [VR]), ⟨_, rfl, by simpa using hs⟩, by simp [flats, flat], by simp [abulks, abulk, dbulk], by simp [hc]⟩
      | slice e =>
        simp only at hT
        split at hT
        · cases hT
        · rename_i hz
          split at hT
          · rename_i U hU
            split at hT
            · rename_i hns
              obtain ⟨hc, rfl⟩ := leafTy_some hT
              rcases Go.Deep.open_slice hu h with ⟨rfl, rfl⟩ | ⟨a, len, cap, m, n, D, Pl, rfl, _, hl, hm, hmm, rfl, hx⟩
              · exact ⟨[.lst [] 0], VRL_one (by simp [VR, flats]), ⟨[], by simp, by simp, by simp⟩, by simp [flats, flat], by simp [abulks, abulk, dbulk], by simp [hc]⟩
              · simp only [if_true] at hmm
                subst hmm
                obtain ⟨hsp, hblk⟩ := (hp.resolve_left (by simp [Ty.noSl])) a len m (by simp)
                obtain ⟨r, hr1, hr2⟩ := rows_of (p := fun i ys0 => ∃ cs', c.w.cells? base (a.add (i * P.cellsOf e)) (P.cellsOf e) = some cs' ∧ VRL c ys0 cs' ∧ Wf U ys0 ∧ flats ys0 = true ∧ abulks ys0 ≤ dbulk (D i) ∧ cs'.length = P.cellsOf e) len (fun i hi => by
                  obtain ⟨cs', h1, h2⟩ := hx i (by omega)
                  obtain ⟨ys0, g⟩ := ih e U n cs' _ hU (.inl hns) h2
                  exact ⟨ys0, cs', h1, g⟩)
                have hlen : ∀ x ∈ r, x.length = P.cellsOf e := by
                  intro x hx
                  obtain ⟨i, hi⟩ := List.mem_iff_getElem?.1 hx
                  obtain ⟨cs', _, k1, _, _, _, k2⟩ := hr2 i x hi
                  rw [← VRL_length k1]; exact k2
                refine ⟨[.lst r.flatten r.length], VRL_one ?_, ⟨r, rfl, by omega, fun x hx => ?_⟩, ?_, ?_, by simp [hc]⟩
                · simp only [VR]
                  refine ⟨flats_flatten fun x hx => ?_, .inr ⟨a.block, a.off, m, ?_, by omega, hblk, hO _, ?_⟩⟩
                  · obtain ⟨i, hi⟩ := List.mem_iff_getElem?.1 hx
                    obtain ⟨_, _, _, _, k, _⟩ := hr2 i x hi
                    exact k
                  · rw [hr1]
                    obtain ⟨b, o, s⟩ := a
                    simp only at hsp
                    subst hsp
                    rfl
                  · refine VRC_flatten r hlen fun i x hx => ?_
                    obtain ⟨cs', k0, k1, _, _, _, k2⟩ := hr2 i x hx
                    refine VRC_of_VRL k1 fun j v hj => ?_
                    obtain ⟨_, _, hcell⟩ := World.cells?_some k0
                    have hjl := (List.getElem?_eq_some_iff.1 hj).1
                    have := hcell j (by omega)
                    rw [hj] at this
                    rw [← this]
                    have ha : (a.add (i * P.cellsOf e)).add j = a.add (i * P.cellsOf e + j) := Go.Deep.add_add _ _ _
                    rw [ha]
                    congr 1
                    unfold Addr.add
                    obtain ⟨b, o, s⟩ := a
                    simp only at hsp
                    subst hsp
                    split
                    · rename_i h0; simp only [Nat.add_assoc, h0, Nat.add_zero]
                    · simp only [Nat.add_assoc]
                · obtain ⟨i, hi⟩ := List.mem_iff_getElem?.1 hx
                  obtain ⟨_, _, _, k, _, _⟩ := hr2 i x hi
                  exact k
                · simp [flats, flat]
                · simp only [abulks, abulk, dbulk, Nat.add_zero]
                  have h1 : abulks r.flatten ≤ dbulkAll ((List.range len).map D) := abulks_flatten_le r _ (by simp [hr1]) (fun i x d hi hd => by
                    obtain ⟨_, _, _, _, _, k, _⟩ := hr2 i x hi
                    have : d = D i := by
                      rw [List.getElem?_map] at hd
                      obtain ⟨j, hj, rfl⟩ := Option.map_eq_some_iff.1 hd
                      rw [List.getElem?_range (by have := (List.getElem?_eq_some_iff.1 hi).1; omega)] at hj
                      cases hj; rfl
                    subst this; exact k)
                  have h2 := length_le_dbulkAll ((List.range len).map D)
                  simp only [List.length_map, List.length_range] at h2
                  omega
            · cases hT
          · cases hT
      | struct fs =>
        simp only at hT
        obtain ⟨xs, n, rfl, rfl, hl, hxl, hx⟩ := DataW.trod_struct hu h
        obtain ⟨ys0, k1, k2, k3, k4⟩ := fields_got (c := c) (tr := fun t cs => DataW.trod enc P c.w base (fun _ => true) held n t cs) hl fs.toList 0 T xs hT (by simpa using hxl) (fun i f hf => hx i f (by simpa using hf))
          (fun t' U us y hus hn hr ht => ih t' U n us y hr (by
            rcases hp with hp | hp
            · exact .inl (hn hp)
            · exact .inr fun a p q hv => hp a p q (hus _ hv)) ht) (by omega)
        rw [List.drop_zero] at k1
        exact ⟨ys0, k1, k2, k3, by simp only [dbulk]; omega, hl⟩
      | array n e =>
        simp only at hT
        split at hT
        · rename_i hsz
          obtain ⟨U, hU, rfl⟩ := Option.map_eq_some_iff.1 hT
          obtain ⟨xs, m, rfl, rfl, hl, hxl, hx⟩ := DataW.trod_array hu h
          obtain ⟨r, hr1, hr2⟩ := rows_of (p := fun i ys0 => ∃ y, xs[i]? = some y ∧ VRL c ys0 ((cs.drop (i * P.cellsOf e)).take (P.cellsOf e)) ∧ Wf U ys0 ∧ flats ys0 = true ∧ abulks ys0 ≤ dbulk y.1) n (fun i hi => by
            have h1 := hx i hi
            rw [List.getElem?_eq_getElem (by omega)] at h1
            obtain ⟨ys0, g1, g2, g3, g4, _⟩ := ih e U m _ _ hU (by
              rcases hp with hp | hp
              · exact .inl hp
              · exact .inr fun a p q hv => hp a p q (List.mem_of_mem_drop (List.mem_of_mem_take hv))) h1
            exact ⟨ys0, _, List.getElem?_eq_getElem (by omega), g1, g2, g3, g4⟩)
          refine ⟨r.flatten, VRL_flatten r cs (by rw [hl, hsz, hr1]) (fun i x hx => ?_), ⟨r, rfl, hr1, fun x hx => ?_⟩, flats_flatten fun x hx => ?_, ?_, hl⟩
          · obtain ⟨_, _, k, _⟩ := hr2 i x hx; exact k
          · obtain ⟨i, hi⟩ := List.mem_iff_getElem?.1 hx
            obtain ⟨_, _, _, k, _⟩ := hr2 i x hi; exact k
          · obtain ⟨i, hi⟩ := List.mem_iff_getElem?.1 hx
            obtain ⟨_, _, _, _, k, _⟩ := hr2 i x hi; exact k
          · simp only [dbulk]
            have : abulks r.flatten ≤ dbulkAll (xs.map (·.1)) := abulks_flatten_le r _ (by simp [hr1, hxl]) (fun i x d hi hd => by
              obtain ⟨y, hy, _, _, _, k⟩ := hr2 i x hi
              simp only [List.getElem?_map, hy, Option.map_some, Option.some.injEq] at hd
              subst hd; exact k)
            omega
        · cases hT
      | _ => simp at hT
end
end Cod
namespace Cod
open Go Go.RowKit
theorem calls_of_FnOK {P : Program} {f : Nat} {fn : Func} {c : Code} {w : World} (hf : P.funcs[f]? = some fn) (hb : fn.body = some c) (hn : (fn.name == "runtime.NumGoroutine") = false) {args : Array Value} {R : Value → World → Prop}
    (h : FnOK P f args w R) : Calls P f args w (fun e w' => ∃ y, e = .returned y ∧ R y w') := by
  have h1 := h { dst := some 0, op := .move (.const undef), type := 0, pos := "", after := #[], guard := none } ⟨#[undef], []⟩ (fun a w' => ∃ y, a.tmps[0]? = some y ∧ R y w') (fun _ _ _ => False) (fun y w' hy => ⟨y, by simp [Act.put], hy⟩)
  have hrun : (callFunc f args).run P w = .ok (.enter f args) w := by
    have hn2 : ¬ (fn.name = "runtime.NumGoroutine") := by simpa using hn
    simp [callFunc, run_program, hf, hn2, hb]
  rw [hrun, Oper.upon_enter] at h1
  refine Calls.mono h1 fun e w' he => ?_
  cases e with
  | returned v =>
    obtain ⟨y, h2, h3⟩ := he
    simp only [Act.put] at h2
    have : v = y := by simpa using h2
    subst this
    exact ⟨v, rfl, h3⟩
  | panicked ch => exact he.elim
  | outgrown => obtain ⟨_, _, h4⟩ := he; exact h4.elim
def La0 : Lay := ⟨fun _ => none, fun _ => False⟩
def GlobOK (E : Env) (w : World) : Prop := ∀ n, GV (ctx [] La0 w) n (E.glob n)
theorem own0 {w : World} (b : Nat) : ¬ (ctx [] La0 w).O b := by
  rintro (⟨s, e, o, he, _⟩ | h)
  · simp [getS] at he
  · exact h
theorem rel0 {E : Env} {w : World} (hg : GlobOK E w) : Rel E w (ownS [] La0) [] La0 [] La0 w where
  store := ⟨fun s e he => by simp [getS] at he, fun s s' e e' b o o' he => by simp [getS] at he⟩
  keep := Keep.refl _ _
  own b hb := .inl hb
  glob := hg
  ups x e he := by simp [getS] at he
  src b hb := .inl hb
  lf := rfl
  f0 b hb := hb.elim
theorem law_calls {P : Program} {E : Env} (hk : KnownOK P E) (hfn : FnsOK P E) {f : Nat} {fn : Func} {c : Code} (hf : P.funcs[f]? = some fn) (hb : fn.body = some c) (hn : (fn.name == "runtime.NumGoroutine") = false)
    {args : List AV} {b : Bool} {σr : Store} (h : S E f args [] = some (.bool b, σr)) {w : World} {vs : List Value} (hg : GlobOK E w) (hv : VRL (ctx [] La0 w) args vs) :
    Calls P f vs.toArray w fun e w' => e = .returned (.bool b) ∧ Below w.heap.size w w' := by
  refine (calls_of_FnOK hf hb hn (calls_of_S hk hfn h La0 (rel0 hg) hv)).mono fun e w' ⟨y, he, La', hr, hy⟩ => ?_
  simp only [VR] at hy
  subst hy
  refine ⟨he, hr.keep.os, hr.keep.tape, hr.keep.output, hr.keep.size, fun k hk => hr.keep.block k hk ?_⟩
  rintro ⟨s, e, o, he, _⟩
  simp [getS] at he
theorem laid_mem {P : Program} {W : World} {name : String} {d : DataW Unit} : ∀ {l : List (String × DataW Unit)} {ps : List MemPlace}, DataW.LaidVars P W l ps → (name, d) ∈ l →
    ∃ g t cs fuel p, P.globalNamed name = some g ∧ (P.globals[g]?).map (·.type) = some t ∧ W.var? P name = some cs ∧ DataW.trod (fun _ => ()) P W 0 (fun _ => true) false fuel t cs.toList = some (d, p) := by
  intro l
  induction l with
  | nil => intro ps _ h; simp at h
  | cons x l ih =>
    intro ps h hm
    obtain ⟨n, e⟩ := x
    obtain ⟨g, t, cs, fuel, p, q, h1, h2, h3, h4, h5, _⟩ := h
    rcases List.mem_cons.1 hm with hm | hm
    · cases hm; exact ⟨g, t, cs, fuel, p, h1, h2, h3, h4⟩
    · exact ih h5 hm
theorem laidH_mem {P : Program} {W : World} {l : List (String × DataW Unit)} (h : laidMetH P l W) {name : String} {d : DataW Unit} (hm : (name, d) ∈ l) (hd : d.handleName?.isNone = true) :
    ∃ g t cs fuel p, P.globalNamed name = some g ∧ (P.globals[g]?).map (·.type) = some t ∧ W.var? P name = some cs ∧ DataW.trod (fun _ => ()) P W 0 (fun _ => true) false fuel t cs.toList = some (d, p) := by
  unfold laidMetH at h
  split at h
  · obtain ⟨ps, h1, _⟩ := h; exact laid_mem h1 hm
  · obtain ⟨⟨ps, h1, _⟩, _⟩ := h
    exact laid_mem h1 (List.mem_filter.2 ⟨hm, by simpa using hd⟩)
theorem tab_of_laid {P : Program} {W : World} {l : List (String × DataW Unit)} (h : laidMetH P l W) {name : String} {k : IntKind} {zs : List Int} {g : Nat} {t e : TypeId} {n : Nat} (hm : (name, Lib.tabData k zs) ∈ l)
    (hg : P.globalNamed name = some g) (hty : (P.globals[g]?).map (·.type) = some t) (ht : P.underlying t = some (.array n e)) (he : P.underlying e = some (.int k)) (hce : P.cellsOf e = 1) (hct : P.cellsOf t = n) : Lib.TabIs P W name k zs := by
  obtain ⟨g', t', cs, fuel, p, hg', ht', hvar, hd⟩ := laidH_mem h hm rfl
  obtain rfl := Option.some.inj (hg.symm.trans hg')
  obtain rfl := Option.some.inj (hty.symm.trans ht')
  unfold Lib.TabIs
  rw [hvar, ← Lib.cells_of_tab ht he hce hct hd]
theorem flats_ints {k : IntKind} : ∀ {zs : List Int}, flats (zs.map fun z => AV.int k z) = true := by
  intro zs
  induction zs with
  | nil => rfl
  | cons z zs ih => simp only [List.map_cons, flats, ih, flat]; rfl
theorem tab_row {P : Program} {W : World} {name : String} {k : IntKind} {zs : List Int} {g : Nat} (h : Lib.TabIs P W name k zs) (hg : P.globalNamed name = some g) :
    ∃ cs el fr, W.heap[g]? = some (.cells cs el fr) ∧ cs.size = (zs.map fun z => AV.int k z).length := by
  unfold Lib.TabIs World.var? at h
  rw [hg] at h
  simp only [Option.bind_some] at h
  split at h
  · rename_i cs el fr hc
    cases h
    exact ⟨_, el, fr, hc, by simp⟩
  · cases h
theorem tab_of_glob {P : Program} {W : World} {La : Lay} {name : String} {k : IntKind} {zs : List Int} {g : Nat} (h : GV (ctx [] La W) g (zs.map fun z => AV.int k z)) (hg : P.globalNamed name = some g) (hz : zs ≠ []) : Lib.TabIs P W name k zs := by
  obtain ⟨h1, h2⟩ := h
  rcases h2 with h2 | ⟨cs, el, fr, hc, hs⟩
  · exact absurd (List.map_eq_nil_iff.1 h2) hz
  · rw [show (ctx [] La W).w = W from rfl] at hc
    unfold Lib.TabIs World.var?
    rw [hg]
    simp only [Option.bind_some, hc, Option.some.injEq]
    have hv : VR (ctx [] La W) (.fp (zs.map fun z => AV.int k z) 0) (.pointer (some ⟨g, 0, none⟩)) := by
      cases zs with
      | nil => exact absurd rfl hz
      | cons z zs => exact h1
    simp only [VR] at hv
    obtain ⟨_, b, o, h3, _, _, hcell⟩ := hv
    simp only [Value.pointer.injEq, Option.some.injEq, Addr.mk.injEq] at h3
    obtain ⟨rfl, h3, _⟩ := h3
    have ho : o = 0 := by omega
    subst ho
    apply Array.ext
    · rw [hs]; simp
    · intro i hi1 hi2
      have hi : i < zs.length := by simpa using hi2
      obtain ⟨v, k1, k2⟩ := VRC_get hcell (i := i) (x := .int k zs[i]) (by simp [hi])
      simp only [VR] at k2
      rw [show (ctx [] La W).w = W from rfl, Nat.zero_add] at k1
      simp only [World.cell?, hc] at k1
      rw [Array.getElem?_eq_getElem hi1] at k1
      cases k1
      rw [k2]; simp
theorem glob_tab {P : Program} {W : World} {name : String} {k : IntKind} {zs : List Int} {g : Nat} (h : Lib.TabIs P W name k zs) (hg : P.globalNamed name = some g) (hz : zs ≠ []) :
    GV (ctx [] La0 W) g (zs.map fun z => AV.int k z) := by
  refine ⟨?_, .inr (tab_row h hg)⟩
  cases zs with
  | nil => exact absurd rfl hz
  | cons z zs =>
    show VR _ (.fp ((z :: zs).map fun z => AV.int k z) 0) _
    have hcell := fun i hi => Lib.TabIs.cell h hg i hi
    simp only [VR]
    refine ⟨flats_ints, g, 0, rfl, ?_, own0 _, ?_⟩
    · have h0 := hcell 0 (by simp)
      simp only [World.cell?] at h0
      rcases Nat.lt_or_ge g W.heap.size with hlt | hge
      · exact hlt
      · rw [Array.getElem?_eq_none hge] at h0; cases h0
    · refine VRC_of_get fun i x hx => ?_
      have hi := (List.getElem?_eq_some_iff.1 hx).1
      rw [List.length_map] at hi
      rw [List.getElem?_map] at hx
      obtain ⟨y, hy, rfl⟩ := Option.map_eq_some_iff.1 hx
      refine ⟨.int k y, ?_, by simp [VR]⟩
      rw [Nat.zero_add]
      have := hcell i hi
      rw [show (z :: zs).getD i 0 = y by simp [List.getD, hy]] at this
      exact this
theorem glob_none {w : World} {n : Nat} : GV (ctx [] La0 w) n [] := ⟨by simp [gvar, VR], .inl rfl⟩
def isAgg (P : Program) (t : TypeId) : Bool := match P.underlying t with | some (.struct _) | some (.array _ _) => true | _ => false
theorem placed_okWide {P : Program} {w : World} {r : Reach} {b : Nat} {t : TypeId} {a : Addr} {n m : Nat} (h : Cell.okWide P w r b t (.slice (some a) n m)) : a.spot = none ∧ a.block < w.heap.size := by
  have h2 : Cell.ok P w r b t (.slice (some a) n m) := by
    unfold Cell.okWide at h
    split at h <;> simp_all
  have h3 : ∃ e, w.has P r b a e m := by
    unfold Cell.ok at h2
    split at h2 <;> simp_all
    rename_i h4
    obtain ⟨rfl, rfl, rfl⟩ := h4
    exact ⟨_, h2.2.2⟩
  obtain ⟨e, _, hsp, row, cells, hs, _⟩ := h3
  refine ⟨hsp, ?_⟩
  simp only [World.shape?] at hs
  rcases Nat.lt_or_ge a.block w.heap.size with hlt | hge
  · exact hlt
  · rw [Array.getElem?_eq_none hge] at hs; cases hs
theorem arg_cell {H : Type} {enc : TypeId × Value → H} {P : Program} {base b2 : Nat} {held : Bool} {w : World} {d : Nat} {t : TypeId} {T : Ty} {v : Value} {x : DataW H} {ps : List MemPlace} (hT : tyOf P d t = some T) (hg : isAgg P t = false)
    (hok : Value.okWide P w .any b2 t v) (h : DataW.Trod enc P w base (fun _ => true) held t v x ps) : ∃ a, VR (ctx [] La0 w) a v ∧ Wf T [a] ∧ abulk a ≤ dbulk x := by
  obtain ⟨fuel, h⟩ := h
  have hcell : Cell.okWide P w .any b2 t v := by
    unfold Value.okWide at hok
    unfold isAgg at hg
    split at hok
    · rename_i hu; rw [hu] at hg; cases hg
    · rename_i hu; rw [hu] at hg; cases hg
    · exact hok
  have hone : v.cells = #[v] := by
    cases v <;> first | rfl | (exfalso; unfold Cell.okWide at hcell; split at hcell <;> simp_all [Cell.ok])
  rw [hone] at h
  obtain ⟨ys0, h1, h2, h3, h4, h5⟩ := trod_VR (c := ctx [] La0 w) (fun b => own0 b) d t T fuel _ _ hT (.inr (by
    intro a n m hm
    simp only [List.mem_singleton] at hm
    subst hm
    exact placed_okWide hcell)) h
  match ys0, h1 with
  | [], h1 => simp [VRL] at h1
  | [a], h1 =>
    simp only [VRL] at h1
    obtain ⟨v', r, e, k1, rfl⟩ := h1
    simp at e
    subst e
    exact ⟨a, k1, h2, by simpa [abulks] using h4⟩
  | a :: b :: ys0, h1 =>
    simp only [VRL] at h1
    obtain ⟨v', r, e, k1, v2, r2, e2, _⟩ := h1
    simp at e
    obtain ⟨_, rfl⟩ := e
    simp at e2
theorem arg_agg {H : Type} {enc : TypeId × Value → H} {P : Program} {base b2 : Nat} {held : Bool} {w : World} {d : Nat} {t : TypeId} {T : Ty} {v : Value} {x : DataW H} {ps : List MemPlace} (hT : tyOf P d t = some T) (hg : isAgg P t = true)
    (hok : Value.okWide P w .any b2 t v) (h : DataW.Trod enc P w base (fun _ => true) held t v x ps) : ∃ ys0, VR (ctx [] La0 w) (.agg ys0) v ∧ Wf T ys0 ∧ abulks ys0 ≤ dbulk x := by
  obtain ⟨fuel, h⟩ := h
  have hrow : ∃ cs, v = .agg cs ∧ cs.size = P.cellsOf t ∧ Row.okWide P w .any b2 t cs := by
    unfold Value.okWide at hok
    unfold isAgg at hg
    split at hok
    · exact hok
    · exact hok
    · rename_i h1 h2
      split at hg
      · rename_i hu; exact absurd hu (h1 _)
      · rename_i hu; exact absurd hu (h2 _ _)
      · cases hg
  obtain ⟨cs, rfl, _, ts, _, _, hc⟩ := hrow
  obtain ⟨ys0, h1, h2, h3, h4, h5⟩ := trod_VR (c := ctx [] La0 w) (fun b => own0 b) d t T fuel _ _ hT (.inr (by
    intro a n m hm
    obtain ⟨i, hi⟩ := List.mem_iff_getElem?.1 hm
    obtain ⟨u, _, hu⟩ := hc i _ (by simpa [Value.cells] using hi)
    exact placed_okWide hu)) h
  refine ⟨ys0, ?_, h2, h4⟩
  simp only [VR]
  exact ⟨cs, rfl, by simpa [Value.cells] using h1⟩
end Cod
namespace Cod
open Go Go.RowKit Go.ChangeShapes Go.WideShapes Go.ChangeAt
def ArgOK (p : Bool × Ty) (a : AV) : Prop := match p.1 with
  | true => ∃ ys0, a = .agg ys0 ∧ Wf p.2 ys0
  | false => Wf p.2 [a]
def ArgsOK : List (Bool × Ty) → List AV → Prop
  | [], ys0 => ys0 = []
  | p :: r, ys0 => ∃ a b, ys0 = a :: b ∧ ArgOK p a ∧ ArgsOK r b
def argTys (P : Program) (d : Nat) : List TypeId → Option (List (Bool × Ty))
  | [] => some []
  | t :: ts => match tyOf P d t, argTys P d ts with
    | some T, some r => some ((isAgg P t, T) :: r)
    | _, _ => none
section
variable {H : Type} {enc : TypeId × Value → H} {P : Program} {W : World} {b2 d : Nat}
theorem args_of : ∀ {ts : List TypeId} {Ts : List (Bool × Ty)} {vs : List Value} {ds : List (DataW H)} {ps : List MemPlace}, argTys P d ts = some Ts →
    (∀ (j : Nat) t v, ts[j]? = some t → vs[j]? = some v → Value.okWide P W .any b2 t v) → DataW.TrodAll enc P W 0 (fun _ => true) true ts vs ds ps →
    ∃ ys0, VRL (ctx [] La0 W) ys0 vs ∧ ArgsOK Ts ys0 ∧ abulks ys0 ≤ dbulkAll ds := by
  intro ts
  induction ts with
  | nil =>
    intro Ts vs ds ps h _ hA
    simp only [argTys, Option.some.injEq] at h; subst h
    cases vs <;> cases ds <;> simp [DataW.TrodAll] at hA
    exact ⟨[], by simp [VRL], by simp [ArgsOK], by simp [abulks]⟩
  | cons t ts ih =>
    intro Ts vs ds ps h hok hA
    simp only [argTys] at h
    split at h
    · rename_i T r hT hr
      cases h
      cases vs with
      | nil => cases ds <;> simp [DataW.TrodAll] at hA
      | cons v vs =>
        cases ds with
        | nil => simp [DataW.TrodAll] at hA
        | cons x ds =>
          obtain ⟨p, q, h1, h2, rfl⟩ := hA
          obtain ⟨ys0, k1, k2, k3⟩ := ih hr (fun j t' v' ht hv => hok (j + 1) t' v' (by simpa using ht) (by simpa using hv)) h2
          have h0 := hok 0 t v (by simp) (by simp)
          cases hg : isAgg P t with
          | true =>
            obtain ⟨bs, l1, l2, l3⟩ := arg_agg hT hg h0 h1
            exact ⟨.agg bs :: ys0, by simp only [VRL]; exact ⟨v, vs, rfl, l1, k1⟩, ⟨_, _, rfl, ⟨bs, rfl, l2⟩, k2⟩, by simp only [abulks, abulk, dbulkAll]; omega⟩
          | false =>
            obtain ⟨a, l1, l2, l3⟩ := arg_cell hT hg h0 h1
            exact ⟨a :: ys0, by simp only [VRL]; exact ⟨v, vs, rfl, l1, k1⟩, ⟨_, _, rfl, l2, k2⟩, by simp only [abulks, dbulkAll]; omega⟩
    · cases h
theorem trodAll_below (hl : laidOutB P = true) {W' : World} (hb : Below W.heap.size W W') : ∀ {ts : List TypeId} {vs : List Value} {ds : List (DataW H)} {ps : List MemPlace}, (∀ t ∈ ts, P.readableRec t = true ∧ t < P.types.size) →
    (∀ x ∈ ps, x.block < W.heap.size) → DataW.TrodAll enc P W 0 (fun _ => true) true ts vs ds ps → DataW.TrodAll enc P W' 0 (fun b => decide (b < W.heap.size)) true ts vs ds ps := by
  intro ts
  induction ts with
  | nil => intro vs ds ps _ _ h; cases vs <;> cases ds <;> simp_all [DataW.TrodAll]
  | cons t ts ih =>
    intro vs ds ps hr hlt h
    cases vs with
    | nil => cases ds <;> simp [DataW.TrodAll] at h
    | cons v vs =>
      cases ds with
      | nil => simp [DataW.TrodAll] at h
      | cons x ds =>
        obtain ⟨p, q, h1, h2, rfl⟩ := h
        exact ⟨p, q, Below.trod hl (hr t (by simp)).1 (hr t (by simp)).2 h1 hb (fun x hx => hlt x (by simp [hx])), ih (fun t ht => hr t (by simp [ht])) (fun x hx => hlt x (by simp [hx])) h2, rfl⟩
def LawSpec (s : ChangeSpec) (n : Nat) : Prop := s.vars = [] ∧ ∀ (H : Type) (ds : List (DataW H)), ds.length = n → s.fn H ds = { results := [.lit (.bool true)], args := ds }
theorem trodAll_length : ∀ {ts : List TypeId} {vs : List Value} {ds : List (DataW H)} {ps : List MemPlace} {b : Nat} {sp : Nat → Bool} {hd : Bool}, DataW.TrodAll enc P W b sp hd ts vs ds ps → ds.length = ts.length := by
  intro ts
  induction ts with
  | nil => intro vs ds ps b sp hd h; cases vs <;> cases ds <;> simp_all [DataW.TrodAll]
  | cons t ts ih =>
    intro vs ds ps b sp hd h
    cases vs with
    | nil => cases ds <;> simp [DataW.TrodAll] at h
    | cons v vs =>
      cases ds with
      | nil => simp [DataW.TrodAll] at h
      | cons x ds => obtain ⟨p, q, h1, h2, _⟩ := h; simp [ih h2]
theorem contract {E : Env} {f : Nat} {fn : Func} {c : Code} {s : ChangeSpec} {n rt : Nat} {Ts : List (Bool × Ty)} (hk : KnownOK P E) (hfn : FnsOK P E) (hl : laidOutB P = true)
    (hf : P.funcs[f]? = some fn) (hb : fn.body = some c) (hn : (fn.name == "runtime.NumGoroutine") = false) (hT : argTys P d fn.params.toList = some Ts)
    (hr : ∀ t ∈ fn.params.toList, P.readableRec t = true ∧ t < P.types.size) (hrt : fn.resultTypes.toList = [rt]) (hrn : fn.resultTypes.size = 1) (hrb : P.underlying rt = some .bool) (hs : LawSpec s n) (hpn : fn.params.toList.length = n)
    {args : Array Value} {ds gs : List (DataW H)} {before : List MemPlace}
    (hg : GlobOK E W) (run : ∀ ys0, ArgsOK Ts ys0 → abulks ys0 ≤ dbulkAll ds → ∃ σr, S E f ys0 [] = some (.bool true, σr))
    (hval : ∀ (j : Nat) t v, fn.params[j]? = some t → args[j]? = some v → Value.okWide P W .any b2 t v)
    (hW : DataW.Whole enc P fn.params.toList s.vars false W args.toList ds gs before) :
    Calls P f args W fun e W' => ∃ v, e = .returned v ∧ s.post enc P fn false true false false W args v W' := by
  have hW' := hW
  obtain ⟨p, q, hA, hV, rfl, hfz, hnd⟩ := hW
  obtain ⟨ys0, h1, h2, h3⟩ := args_of hT (fun j t v ht hv => hval j t v (by simpa using ht) (by simpa using hv)) hA
  obtain ⟨σr, hrun⟩ := run ys0 h2 h3
  have hc := law_calls hk hfn hf hb hn hrun hg h1
  rw [Array.toArray_toList] at hc
  have hgs : gs = [] ∧ q = [] := by rw [hs.1] at hV; cases gs <;> simp_all [DataW.TrodVars]
  obtain ⟨rfl, rfl⟩ := hgs
  have hlt : ∀ x ∈ p, x.block < W.heap.size := fun x hx => hW'.lt x (by simp [hx])
  have hlen := trodAll_length hA
  refine hc.mono fun e W' ⟨he, bel⟩ => ?_
  subst he
  have hspec := hs.2 H (ds ++ []) (by simp; omega)
  refine ⟨_, rfl, ds, [], _, [], p, [], hW', ?_, ?_, ?_, bel.frame _, fun h => by cases h⟩
  · rw [hspec, hrt, hrn]
    exact trodAll_mk1 (shut_bool hrb _)
  · rw [hspec]
    simp only [List.append_nil]
    exact trodAll_below hl bel hr hlt hA
  · rw [hspec, hs.1]; rfl
end
end Cod
namespace Cod
open Go Go.RowKit
theorem any_glob {w : World} {g : Nat} {k : Option IntKind} {v : Value} {cs : Array Value} {el : TypeId} {fr : Nat × Nat} (hc : w.heap[g]? = some (.cells cs el fr)) (hs : cs.size = 1) (h0 : cs[0]? = some v) (hk : AnyOK k v) : GV (ctx [] La0 w) g [.any k] := by
  refine ⟨?_, .inr ⟨cs, el, fr, hc, hs⟩⟩
  simp only [gvar, VR, VRC, flats, flat, Bool.and_true, true_and, and_true]
  refine ⟨g, 0, rfl, ?_, own0 _, v, ?_, hk⟩
  · rcases Nat.lt_or_ge g w.heap.size with hlt | hge
    · exact hlt
    · rw [Array.getElem?_eq_none hge] at hc; cases hc
  · show w.cell? _ = _
    simp only [World.cell?, hc]
    exact h0
def isIface (P : Program) (t : TypeId) : Bool := match P.underlying t with | some (.interface _) => true | _ => false
theorem err_laid {P : Program} {W : World} {l : List (String × DataW Unit)} (h : laidMetH P l W) {name nm : String} {d : DataW Unit} {g t : Nat} (hm : (name, .iface nm d) ∈ l) (hh : (DataW.iface nm d).handleName?.isNone = true)
    (hg : P.globalNamed name = some g) (hty : (P.globals[g]?).map (·.type) = some t) (ht : isIface P t = true) : GV (ctx [] La0 W) g [.any none] := by
  obtain ⟨g', t', cs, fuel, p, hg', ht', hvar, hd⟩ := laidH_mem h hm hh
  obtain rfl := Option.some.inj (hg.symm.trans hg')
  obtain rfl := Option.some.inj (hty.symm.trans ht')
  obtain ⟨ms, ht⟩ : ∃ ms, P.underlying t = some (.interface ms) := by
    unfold isIface at ht
    split at ht
    · exact ⟨_, by assumption⟩
    · cases ht
  have hi : ∃ u v, cs.toList = [.iface u v] := by
    cases fuel with
    | zero => simp [DataW.trod] at hd
    | succ fuel =>
      unfold DataW.trod at hd
      rw [ht] at hd
      generalize cs.toList = xs at hd
      split at hd <;> first | (rename_i he; cases he; done) | (cases hd; done) | exact ⟨_, _, rfl⟩
  obtain ⟨u, v, hcs⟩ := hi
  unfold World.var? at hvar
  rw [hg] at hvar
  simp only [Option.bind_some] at hvar
  split at hvar
  · rename_i cs' el fr hc
    cases hvar
    have hsz : cs = #[.iface u v] := by cases cs; simp at hcs; rw [hcs]
    subst hsz
    exact any_glob hc rfl rfl (.inr ⟨u, v, rfl⟩)
  · cases hvar
theorem int_shaped {P : Program} {W : World} {g : Nat} (h : W.ShapedOpen P) (hg : g < P.globals.size) (hz : (((Go.begin P (fun _ _ => 0) default).world.heap[g]?).bind Obj.row?).map (fun r => r.1.size) = some 1) (hc : ∃ m, W.cell? ⟨g, 0, none⟩ = some (.int .i64 m)) : GV (ctx [] La0 W) g [.any (some .i64)] := by
  obtain ⟨m, hc⟩ := hc
  obtain ⟨⟨z, t⟩, h1, h2⟩ := Option.map_eq_some_iff.1 hz
  obtain ⟨cs, h3, h4, _⟩ := h.1 g z t hg h1
  simp only [World.cell?, h3] at hc
  exact any_glob h3 (h4.trans h2) (by simpa using hc) ⟨m, rfl⟩
end Cod
namespace Cod
open Go
theorem X_in {E : Env} {fn : List LRes} {k : List It} {st : St} {x y : LCode} (h : x = y) : X E fn (.c x :: k) st = X E fn (.c y :: k) st := by rw [h]
theorem norm_eq {live : List Nat} {sl : List (Nat × AV)} {σ : Store} : norm live ⟨sl, σ⟩ =
    LetA (collect σ 64 (ups σ ++ live.flatMap fun t => refsOf (getL sl t)) []) (fun acc => ⟨live.map fun t => (t, ren (newName (Site.s 1000000) 0 acc) (getL sl t)), renEnts σ (newName (Site.s 1000000) 0 acc) acc⟩) ⟨⟩ := rfl
def resC (σ : Store) (n : Option Nat) : AV → Option AV
  | .ref s g off => ((look s g).run σ).bind fun e => (match n with | none => e.cells[off]? | some n => if off + n ≤ e.cells.length then some (.agg (sub e.cells off n)) else none)
  | _ => none
theorem resOf_cell {sl : List (Nat × AV)} {σ : Store} {t : Nat} {n : Option Nat} : resOf ⟨sl, σ⟩ (.cell t n) = resC σ n (getL sl t) := by
  cases n <;> (unfold resOf resC; rfl)
theorem resC_0 {σ : Store} {s : Site} {g off : Nat} : resC σ none (.ref s g off) = someL ((look s g).run σ) (fun e => e.cells[off]?) ⟨⟩ := rfl
theorem resC_N {σ : Store} {s : Site} {g off n : Nat} : resC σ (some n) (.ref s g off) = someL ((look s g).run σ) (fun e => if off + n ≤ e.cells.length then some (.agg (sub e.cells off n)) else none) ⟨⟩ := rfl
theorem ifp {α : Type} {c : Prop} [Decidable c] {x y : Acc α} (h : c) : (if c then x else y) = x := if_pos h
theorem ifO {α : Type} {c : Prop} [Decidable c] {x y : Option α} (h : c) : (if c then x else y) = x := if_pos h
theorem ifnO {α : Type} {c : Prop} [Decidable c] {x y : Option α} (h : ¬ c) : (if c then x else y) = y := if_neg h
theorem tmod_pos {a b : Int} (h : 0 ≤ a) : a.tmod b = a % b := Int.tmod_eq_emod_of_nonneg h
theorem tdiv_pos {a b : Int} (h : 0 ≤ a) : a.tdiv b = a / b := Int.tdiv_eq_ediv_of_nonneg h
theorem wrap_i64 {x : Int} (h1 : -9223372036854775808 ≤ x) (h2 : x ≤ 9223372036854775807) : IntKind.i64.wrap x = x := by
  simp only [IntKind.wrap, IntKind.signed, IntKind.bits]
  simp
  omega
theorem wrap_u64 {x : Int} (h1 : 0 ≤ x) (h2 : x ≤ 18446744073709551615) : IntKind.u64.wrap x = x := by
  simp only [IntKind.wrap, IntKind.signed, IntKind.bits]
  simp
  omega
theorem wrap_u32 {x : Int} (h1 : 0 ≤ x) (h2 : x ≤ 4294967295) : IntKind.u32.wrap x = x := by
  simp only [IntKind.wrap, IntKind.signed, IntKind.bits]
  simp
  omega
theorem wrap_u8 {x : Int} : IntKind.u8.wrap x = x % 256 := by
  simp only [IntKind.wrap, IntKind.signed, IntKind.bits]
  simp
theorem toNat_cast {n : Nat} : ((n : Int)).toNat = n := Int.toNat_natCast n
theorem beq_t {a b : Int} (h : a = b) : (a == b) = true := by simp [h]
theorem beq_f {a b : Int} (h : a ≠ b) : (a == b) = false := by simp [h]
theorem bne_t {a b : Int} (h : a ≠ b) : (a != b) = true := by simp [h]
theorem bne_f {a b : Int} (h : a = b) : (a != b) = false := by simp [h]
theorem dec_t {p : Prop} [Decidable p] (h : p) : decide p = true := by simp [h]
theorem dec_f {p : Prop} [Decidable p] (h : ¬ p) : decide p = false := by simp [h]
theorem site_beq (a b : Site) : (a == b) = decide (a = b) := by by_cases h : a = b <;> simp [h]
theorem pair_beq (a c : Site) (b d : Nat) : (((a, b) : Site × Nat) == (c, d)) = (decide (a = c) && (b == d)) := by
  show ((a == c) && (b == d)) = _
  rw [site_beq]
theorem lcat_eq (a b : List AV) : lcat a b = a ++ b := rfl
theorem zer_bytes (n : Nat) : zer (.int .u8 0) n = ofBytes (List.replicate n 0) := by simp [zer, ofBytes]
theorem over_0nil {cs : List AV} : over cs 0 [] = cs := by simp [over]
theorem over_0cons {c x : AV} {cs xs : List AV} : over (c :: cs) 0 (x :: xs) = x :: over cs 0 xs := by simp [over]
theorem over_S {c : AV} {cs xs : List AV} {n : Nat} : over (c :: cs) (n + 1) xs = c :: over cs n xs := by simp [over]; rw [show n + 1 + xs.length = n + xs.length + 1 by omega, List.drop_succ_cons]
def strs (l : List (List UInt8)) : List AV := l.map .str
theorem strs_length (l : List (List UInt8)) : (strs l).length = l.length := by simp [strs]
theorem app_ofBytes (l m : List UInt8) : ofBytes l ++ ofBytes m = ofBytes (l ++ m) := by simp [ofBytes]
theorem ofBytes_cons (b : UInt8) (l : List UInt8) : ofBytes (b :: l) = .int .u8 b.toNat :: ofBytes l := rfl
theorem flats_ofBytes (l : List UInt8) : flats (ofBytes l) = true := by
  induction l with
  | nil => rfl
  | cons b l ih => simp [ofBytes_cons, flats, flat, ih]
theorem hards_ofBytes (l : List UInt8) : hards (ofBytes l) = true := by
  induction l with
  | nil => rfl
  | cons b l ih => simp [ofBytes_cons, hards, hard, ih]
theorem leadss_ofBytes (l : List UInt8) : leadss (ofBytes l) = false := by
  induction l with
  | nil => rfl
  | cons b l ih => simp [ofBytes_cons, leadss, leads, ih]
theorem refsOfs_ofBytes (l : List UInt8) : refsOfs (ofBytes l) = [] := by
  induction l with
  | nil => rfl
  | cons b l ih => simp [ofBytes_cons, refsOfs, refsOf, ih]
theorem rens_ofBytes (f : Site → Nat → Option (Site × Nat)) (l : List UInt8) : rens f (ofBytes l) = ofBytes l := by
  induction l with
  | nil => rfl
  | cons b l ih => simp [ofBytes_cons, rens, ren, ih]
theorem bytesOf_ofBytes (l : List UInt8) : bytesOf (ofBytes l) = some l := by
  induction l with
  | nil => rfl
  | cons b l ih => simp [ofBytes_cons, bytesOf, ih]
theorem sub_ofBytes (l : List UInt8) (i n : Nat) : sub (ofBytes l) i n = ofBytes (sub l i n) := by simp [sub, ofBytes, List.map_drop, List.map_take]
theorem sub_drop {α : Type} {l : List α} {a n : Nat} (h : l.length ≤ a + n) : sub l a n = l.drop a := by
  unfold sub; exact List.take_of_length_le (by rw [List.length_drop]; omega)
theorem take_ofBytes (l : List UInt8) (n : Nat) : (ofBytes l).take n = ofBytes (l.take n) := by simp [ofBytes, List.map_take]
theorem drop_ofBytes (l : List UInt8) (n : Nat) : (ofBytes l).drop n = ofBytes (l.drop n) := by simp [ofBytes, List.map_drop]
theorem take_len {α : Type} {l : List α} {n : Nat} (h : l.length ≤ n) : l.take n = l := List.take_of_length_le h
theorem sub_full {α : Type} {l : List α} {n : Nat} (h : l.length ≤ n) : sub l 0 n = l := List.take_of_length_le h
theorem sub_take {α : Type} {l : List α} {n : Nat} : sub l 0 n = l.take n := rfl
theorem over_ofBytes {l : List UInt8} {i : Nat} {x : Int} (h : i < l.length) (h0 : 0 ≤ x) (h1 : x < 256) : over (ofBytes l) i [.int .u8 x] = ofBytes (l.set i (UInt8.ofNat x.toNat)) := by
  have hx : x = (((UInt8.ofNat x.toNat).toNat : Nat) : Int) := by
    have : (UInt8.ofNat x.toNat).toNat = x.toNat := by simp; omega
    rw [this]; omega
  unfold over ofBytes
  rw [List.length_singleton, List.map_set, List.set_eq_take_append_cons_drop, if_pos (by simpa using h)]
  simp only [List.map_take, List.map_drop, List.cons_append, List.nil_append, List.append_assoc]
  rw [← hx]
theorem overall {α : Type} {l m : List α} (h : m.length = l.length) : l.take 0 ++ m ++ l.drop (0 + m.length) = m := by simp [h]
theorem over_ofBytes_all {l m : List UInt8} (h : m.length = l.length) : over (ofBytes l) 0 (ofBytes m) = ofBytes m := by
  unfold over; exact overall (by rw [ofBytes_length, ofBytes_length, h])
def bat (l : List UInt8) (i : Nat) : Int := ((l.getD i 0).toNat : Int)
theorem get_ofBytes {l : List UInt8} {i : Nat} (h : i < l.length) : (ofBytes l)[i]? = some (.int .u8 (bat l i)) := by
  simp [ofBytes, bat, h]
theorem bat_range (l : List UInt8) (i : Nat) : 0 ≤ bat l i ∧ bat l i < 256 := by
  unfold bat
  have := (l.getD i 0).toNat_lt
  omega
def byt (n : Int) : UInt8 := UInt8.ofNat n.toNat
theorem u8_beq (x : UInt8) {n : Int} (h0 : 0 ≤ n) (h1 : n < 256) : (((x.toNat : Nat) : Int) == n) = (x == byt n) := by
  have hx : byt n = x ↔ (x.toNat : Int) = n := by
    unfold byt
    constructor
    · intro h; rw [← h]; simp; omega
    · intro h; rw [← h]; simp
  by_cases h : (x.toNat : Int) = n
  · rw [beq_t h, hx.2 h]; simp
  · rw [beq_f h]; symm; simp; intro e; exact h (hx.1 e.symm)
theorem bat_beq (l : List UInt8) (i : Nat) {n : Int} (h0 : 0 ≤ n) (h1 : n < 256) : (bat l i == n) = (l.getD i 0 == byt n) := u8_beq _ h0 h1
theorem byteV_get {t : List UInt8} {i : Nat} (h : i < t.length) : byteV t[i]? = .ret (.int .u8 (bat t i), []) := by
  rw [List.getElem?_eq_getElem h, byteV_some]
  simp [bat, h]
theorem ofBytes_snoc {l : List UInt8} {n : Int} (h0 : 0 ≤ n) (h1 : n < 256) : ofBytes l ++ [.int .u8 n] = ofBytes (l ++ [byt n]) := by
  have : (UInt8.ofNat n.toNat).toNat = n.toNat := by simp; omega
  simp [ofBytes, byt]
  omega
theorem BYs : (∀ n : Nat, zer (.int .u8 0) n = ofBytes (List.replicate n 0)) ∧ (∀ l m : List UInt8, ofBytes l ++ ofBytes m = ofBytes (l ++ m)) ∧ (∀ l : List UInt8, (ofBytes l).length = l.length) ∧ (∀ l : List UInt8, flats (ofBytes l) = true) ∧ (∀ l : List UInt8, hards (ofBytes l) = true) ∧ (∀ l : List UInt8, leadss (ofBytes l) = false) ∧ (∀ l : List UInt8, refsOfs (ofBytes l) = []) ∧ (∀ (f : Site → Nat → Option (Site × Nat)) (l : List UInt8), rens f (ofBytes l) = ofBytes l) ∧ (∀ l : List UInt8, bytesOf (ofBytes l) = some l) ∧ (∀ (l : List UInt8) (i n : Nat), sub (ofBytes l) i n = ofBytes (sub l i n)) ∧ (∀ (l : List UInt8) (n : Nat), (ofBytes l).take n = ofBytes (l.take n)) ∧ (∀ (l : List UInt8) (n : Nat), (ofBytes l).drop n = ofBytes (l.drop n)) ∧ (∀ (l : List UInt8) (i : Nat), i < l.length → (ofBytes l)[i]? = some (.int .u8 (bat l i))) ∧ (∀ l m : List UInt8, m.length = l.length → over (ofBytes l) 0 (ofBytes m) = ofBytes m) ∧ (∀ (l : List UInt8) (i : Nat) (x : Int), i < l.length → 0 ≤ x → x < 256 → over (ofBytes l) i [.int .u8 x] = ofBytes (l.set i (UInt8.ofNat x.toNat))) ∧ (∀ (l : List UInt8) (n : Int), 0 ≤ n → n < 256 → ofBytes l ++ [.int .u8 n] = ofBytes (l ++ [byt n])) :=
  ⟨zer_bytes, app_ofBytes, ofBytes_length, flats_ofBytes, hards_ofBytes, leadss_ofBytes, refsOfs_ofBytes, rens_ofBytes, bytesOf_ofBytes, sub_ofBytes, take_ofBytes, drop_ofBytes, fun _ _ h => get_ofBytes h, fun _ _ h => over_ofBytes_all h, fun _ _ _ h h0 h1 => over_ofBytes h h0 h1, fun _ _ h0 h1 => ofBytes_snoc h0 h1⟩
theorem ishl_u64 {a : Int} {n : Nat} (hn : n ≤ 64) : ishl .u64 a n = (a * 2 ^ n) % 18446744073709551616 := by
  unfold ishl
  rw [show ((n : Int)).toNat = n by omega, show Nat.min n (IntKind.u64.bits) = n from Nat.min_eq_left hn]
  simp only [IntKind.wrap, IntKind.signed, IntKind.bits]
  simp
theorem ishr_any {k : IntKind} {a : Int} {n : Nat} (hn : n ≤ k.bits) : ishr k a n = a / 2 ^ n := by
  unfold ishr
  rw [show ((n : Int)).toNat = n by omega, show Nat.min n k.bits = n from Nat.min_eq_left hn, Int.fdiv_eq_ediv_of_nonneg _ (Int.le_of_lt (Int.pow_pos (by omega)))]
theorem int_byt {n : Int} (h0 : 0 ≤ n) (h1 : n < 256) : AV.int .u8 n = .int .u8 ((byt n).toNat : Int) := by
  unfold byt
  have : (UInt8.ofNat n.toNat).toNat = n.toNat := by simp; omega
  rw [this]; congr 1; omega
attribute [go_sem] X_lp norm_eq resOf_cell resC_0 resC_N Bool.cond_true Bool.cond_false Option.isNone_some Option.isNone_none List.take_succ_cons List.take_zero List.drop_succ_cons over_0nil over_0cons over_S byteV_get maxCells lcat_eq site_beq pair_beq ifp ifO ifnO
  tmod_pos tdiv_pos wrap_i64 wrap_u64 wrap_u32 wrap_u8 toNat_cast Nat.mul_one Nat.one_mul Nat.zero_mul Nat.mul_zero List.drop_zero sub_full beq_t beq_f bne_t bne_f dec_t dec_f
end Cod
namespace Cod
open Go
def lower (b : UInt8) : UInt8 := if 65 ≤ b ∧ b ≤ 90 then b + 32 else b
def isGit : List UInt8 → Bool
  | [a, b, c, d] => a == 46 && lower b == 103 && lower c == 105 && lower d == 116
  | _ => false
def nameOK (s : List UInt8) : Bool := decide (1 ≤ s.length) && decide (s.length ≤ 100) && !s.contains 47 && !s.contains 0 && s != [46] && s != [46, 46] && !isGit s
def parts : List UInt8 → List (List UInt8)
  | [] => [[]]
  | c :: t => if c = 47 then [] :: parts t else match parts t with | p :: r => (c :: p) :: r | [] => [[c]]
def indexB (l : List UInt8) (c : UInt8) : Int := if c ∈ l then (l.idxOf c : Int) else -1
def cmpB (a b : List UInt8) : Int := if a = b then 0 else if Op.bytesLess a b then -1 else 1
def kIndexS : List AV → Option AV
  | [.str l, .int .u8 c] => some (.int .i64 (indexB l (byt c)))
  | _ => none
def kItoa : List AV → Option AV
  | [.int .i64 n] => if -9223372036854775808 ≤ n ∧ n ≤ 9223372036854775807 then some (.str (Lib.itoa n)) else none
  | _ => none
def atoiV (s : List UInt8) : AV := match Lib.atoiAll s with
  | .ok v => .tup [.int .i64 v, .nili]
  | .range => .tup [.int .i64 (Lib.atoiSat s), .ifc 176 .junk]
  | _ => .tup [.int .i64 0, .ifc 176 .junk]
def kAtoi : List AV → Option AV
  | [.str s] => if s.length ≤ 281474976710656 then some (atoiV s) else none
  | _ => none
def kLast : List AV → Option AV
  | [.str s, .str t] => if s.length < 4611686018427387904 then some (.int .i64 (Lib.lastIndex s t)) else none
  | _ => none
def kTab : List (BitVec 32) := [
  1116352408, 1899447441, 3049323471, 3921009573, 961987163, 1508970993, 2453635748, 2870763221, 3624381080, 310598401, 607225278, 1426881987, 1925078388, 2162078206, 2614888103, 3248222580,
  3835390401, 4022224774, 264347078, 604807628, 770255983, 1249150122, 1555081692, 1996064986, 2554220882, 2821834349, 2952996808, 3210313671, 3336571891, 3584528711, 113926993, 338241895,
  666307205, 773529912, 1294757372, 1396182291, 1695183700, 1986661051, 2177026350, 2456956037, 2730485921, 2820302411, 3259730800, 3345764771, 3516065817, 3600352804, 4094571909, 275423344,
  430227734, 506948616, 659060556, 883997877, 958139571, 1322822218, 1537002063, 1747873779, 1955562222, 2024104815, 2227730452, 2361852424, 2428436474, 2756734187, 3204031479, 3329325298]
def foldTab : List Int := [
  0, 1, 2, 3, 4, 5, 6, 7, 8, 9, 10, 11, 12, 13, 14, 15,
  16, 17, 18, 19, 20, 21, 22, 23, 24, 25, 26, 27, 28, 29, 30, 31,
  32, 33, 34, 35, 36, 37, 38, 39, 40, 41, 42, 43, 44, 45, 46, 47,
  48, 49, 50, 51, 52, 53, 54, 55, 56, 57, 58, 59, 60, 61, 62, 63,
  64, 97, 98, 99, 100, 101, 102, 103, 104, 105, 106, 107, 108, 109, 110, 111,
  112, 113, 114, 115, 116, 117, 118, 119, 120, 121, 122, 91, 92, 93, 94, 95,
  96, 65, 66, 67, 68, 69, 70, 71, 72, 73, 74, 8490, 76, 77, 78, 79,
  80, 81, 82, 383, 84, 85, 86, 87, 88, 89, 90, 123, 124, 125, 126, 127]
def W (x : BitVec 32) : AV := .int .u32 (x.toNat : Int)
def words (l : List (BitVec 32)) : List AV := l.map W
def pureK (g : List AV → Option AV) (args : List AV) (σ : Store) : Option (AV × Store) := if σ.isEmpty then (g args).map fun v => (v, []) else none
def isBytes : List AV → Bool
  | [] => true
  | .int .u8 n :: cs => decide (0 ≤ n) && (decide (n < 256) && isBytes cs)
  | _ :: _ => false
theorem isBytes_of : ∀ l : List UInt8, isBytes (ofBytes l) = true := by
  intro l
  induction l with
  | nil => rfl
  | cons b l ih =>
    have := b.toNat_lt
    rw [ofBytes_cons, isBytes, ih, dec_t (by omega), dec_t (by omega)]; rfl
theorem isBytes_some : ∀ {cs : List AV}, isBytes cs = true → ∃ l : List UInt8, cs = ofBytes l := by
  intro cs
  induction cs with
  | nil => intro _; exact ⟨[], rfl⟩
  | cons c cs ih =>
    intro h
    unfold isBytes at h
    split at h
    · rename_i he; cases he
    · rename_i n cs' he
      cases he
      simp only [Bool.and_eq_true, decide_eq_true_eq] at h
      obtain ⟨l, rfl⟩ := ih h.2.2
      refine ⟨byt n :: l, ?_⟩
      rw [int_byt h.1 h.2.1]; rfl
    · cases h
def kClone (args : List AV) (σ : Store) : Option (AV × Store) := match args, σ with
  | [.lst cs n], [] => if cs.length = n ∧ n ≤ 140737488355328 ∧ isBytes cs = true then some (.buf (.r 0) 0 0 n 1, [(.r 0, ⟨0, true, true, false, cs⟩)]) else none
  | _, _ => none
def kContains : List AV → Option AV
  | [.str s, .str t] => if s.length < 4294967281 then some (.bool (Lib.contains s t)) else none
  | _ => none
theorem words_length (l : List (BitVec 32)) : (words l).length = l.length := by simp [words]
theorem LENs : (∀ l : List (List UInt8), (strs l).length = l.length) ∧ (∀ l : List (BitVec 32), (words l).length = l.length) ∧ (∀ l : List UInt8, (ofBytes l).length = l.length) ∧ (∀ (α : Type) (l : List α) (i : Nat) (x : α), (l.set i x).length = l.length) ∧ (∀ (α : Type) (n : Nat) (x : α), (List.replicate n x).length = n) ∧ (∀ (α : Type) (l m : List α), (l ++ m).length = l.length + m.length) ∧ (∀ (α : Type) (x : α) (l : List α), (x :: l).length = l.length + 1) ∧ (∀ α : Type, ([] : List α).length = 0) ∧ (∀ (α : Type) (n : Nat) (l : List α), (l.take n).length = min n l.length) ∧ (∀ (α : Type) (n : Nat) (l : List α), (l.drop n).length = l.length - n) :=
  ⟨strs_length, words_length, ofBytes_length, fun _ _ _ _ => List.length_set, fun _ _ _ => List.length_replicate, fun _ _ _ => List.length_append, fun _ _ _ => List.length_cons, fun _ => List.length_nil, fun _ _ _ => List.length_take, fun _ _ _ => List.length_drop⟩
def knownB : List (Nat × (List AV → Store → Option (AV × Store))) := (F.strings_Contains, pureK kContains) :: (F.strconv_Itoa, pureK kItoa) :: (F.strconv_Atoi, pureK kAtoi) :: (F.strings_LastIndex, pureK kLast) :: (F.bytealg_IndexByteString, pureK kIndexS) :: []
def knownTab0 : List (Nat × (List AV → Store → Option (AV × Store))) := (F.bytes_Clone, kClone) :: knownB
def knownTab : List (Nat × (List AV → Store → Option (AV × Store))) := knownTab0
def knownOf0 (f : Nat) : Option (List AV → Store → Option (AV × Store)) := knownTab0.lookup f
def knownOf (f : Nat) : Option (List AV → Store → Option (AV × Store)) := knownTab.lookup f
def bruTab : List Int := [
  0, 1, 56, 2, 57, 49, 28, 3, 61, 58, 42, 50, 38, 29, 17, 4, 62, 47, 59, 36, 45, 43, 51, 22, 53, 39, 33, 30, 24, 18, 12, 5,
  63, 55, 48, 27, 60, 41, 37, 16, 46, 35, 44, 21, 52, 32, 23, 11, 54, 26, 40, 15, 34, 20, 31, 10, 25, 14, 19, 9, 13, 8, 7, 6]
def globTab : List (Nat × List AV) := (G.sha_k, words kTab) :: (G.unicode_asciiFold, foldTab.map fun z => .int .u16 z) :: (G.strconv_uint64pow10, Lib.pow10Tab.map fun z => .int .u64 z) :: (G.strconv_ErrSyntax, [.any none]) :: (G.strconv_ErrRange, [.any none]) :: (G.bytealg_MaxLen, [.any (some .i64)]) :: (G.bits_deBruijn64tab, bruTab.map fun z => .int .u8 z) :: []
def globOf (n : Nat) : List AV := match globTab.lookup n with | some l => l | none => []
def E : Env := ⟨fnOf, knownOf, globOf⟩
def E0 : Env := ⟨fnOf, knownOf0, globOf⟩
theorem S_of {f : Nat} {l : LFn} (hf : fnOf f = some l) (hk : knownOf f = none) {args : List AV} {σ : Store} (hn : args.length = l.np) : S E f args σ = X E l.results [.c l.code] ⟨params 0 args, σ⟩ := S_fn hk hf hn
theorem S_known {f : Nat} {h : List AV → Store → Option (AV × Store)} (hk : knownOf f = some h) {args : List AV} {σ : Store} : S E f args σ = h args σ := by
  rw [S_eq, show E.known f = some h from hk]
theorem S_itoa {n : Int} (h : -9223372036854775808 ≤ n ∧ n ≤ 9223372036854775807) : S E F.strconv_Itoa [.int .i64 n] [] = some (.str (Lib.itoa n), []) := by
  rw [S_known (h := pureK kItoa) rfl]; simp only [pureK, kItoa, if_pos h]; rfl
theorem S_atoi {s : List UInt8} (h : s.length ≤ 281474976710656) : S E F.strconv_Atoi [.str s] [] = some (atoiV s, []) := by
  rw [S_known (h := pureK kAtoi) rfl]; simp only [pureK, kAtoi, if_pos h]; rfl
theorem S_last {s t : List UInt8} (h : s.length < 4611686018427387904) : S E F.strings_LastIndex [.str s, .str t] [] = some (.int .i64 (Lib.lastIndex s t), []) := by
  rw [S_known (h := pureK kLast) rfl]; simp only [pureK, kLast, if_pos h]; rfl
theorem S_contains {s t : List UInt8} (h : s.length < 4294967281) : S E F.strings_Contains [.str s, .str t] [] = some (.bool (Lib.contains s t), []) := by
  rw [S_known (h := pureK kContains) rfl]; simp only [pureK, kContains, if_pos h]; rfl
theorem S_clone {l : List UInt8} {n : Nat} (h : n = l.length) (hb : n ≤ 140737488355328) : S E F.bytes_Clone [.lst (ofBytes l) n] [] = some (.buf (.r 0) 0 0 n 1, [(.r 0, ⟨0, true, true, false, ofBytes l⟩)]) := by
  rw [S_known (h := kClone) rfl]
  simp only [kClone, ofBytes_length, isBytes_of, and_true]
  rw [if_pos ⟨h.symm, hb⟩]
theorem S_of0 {f : Nat} {l : LFn} (hf : fnOf f = some l) (hk : knownOf0 f = none) {args : List AV} {σ : Store} (hn : args.length = l.np) : S E0 f args σ = X E0 l.results [.c l.code] ⟨params 0 args, σ⟩ := S_fn hk hf hn
theorem S_indexS {l : List UInt8} {c : Int} : S E0 F.bytealg_IndexByteString [.str l, .int .u8 c] [] = some (.int .i64 (indexB l (byt c)), []) := by
  rw [S_eq, show E0.known F.bytealg_IndexByteString = some (pureK kIndexS) from rfl]; rfl
theorem glob_k : gvar (E.glob G.sha_k) = .fp (words kTab) 0 := rfl
end Cod
namespace Cod
open Go Go.RowKit
variable {P : Program} {E : Env} {w w' : World} {La : Lay}
theorem cle_below (hb : Below w.heap.size w w') : CLe (ctx [] La w) (ctx [] La w') where
  tab s g0 al h := by simp [ctx, tabS, getS] at h
  own b _ h := h
  block b h _ := hb.block b h
  room b k h := by
    obtain ⟨cs, el, fr, h1, h2⟩ := h
    have hlt : b < w.heap.size := by
      rcases Nat.lt_or_ge b w.heap.size with h3 | h3
      · exact h3
      · rw [show (ctx [] La w).w = w from rfl, Array.getElem?_eq_none h3] at h1; cases h1
    exact ⟨cs, el, fr, (hb.block b hlt).trans h1, h2⟩
  size := hb.size
theorem rel_below (h : Rel E w (ownS [] La) [] La [] La w) (hb : Below w.heap.size w w') : Rel E w (ownS [] La) [] La [] La w' where
  store := ⟨fun s e he => by simp [getS] at he, fun s s' e e' b o o' he => by simp [getS] at he⟩
  keep := ⟨hb.os, hb.tape, hb.output, hb.size, fun b hlt _ => hb.block b hlt, (cle_below (La := La) hb).room⟩
  own b hb' := .inl hb'
  glob n := GV_le (cle_below hb) (h.glob n)
  ups x e he := by simp [getS] at he
  src b hb' := .inl hb'
  lf := rfl
  f0 := h.f0
def PureOK (P : Program) (E : Env) (f : Nat) (g : List AV → Option AV) : Prop :=
  ∀ (args : List AV) (v : AV) (vs : List Value) (La : Lay) (w : World), g args = some v → VRL (ctx [] La w) args vs → Rel E w (ownS [] La) [] La [] La w →
    ∃ y, (∀ c, VR c v y) ∧ FnOK P f vs.toArray w (fun z w' => z = y ∧ Below w.heap.size w w')
def RowOK (P : Program) (E : Env) (f : Nat) (h : List AV → Store → Option (AV × Store)) : Prop :=
  ∀ (args : List AV) (σa : Store) (v : AV) (σr : Store), h args σa = some (v, σr) → ∀ (La : Lay) (w : World) (vs : List Value), Rel E w (ownS σa La) σa La σa La w → VRL (ctx σa La w) args vs →
    (∀ s e, getS σa s = some e → ∃ x, s = .up x) → FnOK P f vs.toArray w (fun y w' => ∃ La', Rel E w (ownS σa La) σa La σr La' w' ∧ VR (ctx σr La' w') v y)
theorem FnOK.mono {f : FuncId} {args : Array Value} {R R' : Value → World → Prop} (h : FnOK P f args w R) (hR : ∀ y w', R y w' → R' y w') : FnOK P f args w R' :=
  fun o a next Q hn => h o a next Q fun y w' hy => hn y w' (hR y w' hy)
end Cod
namespace Cod
open Go Go.RowKit Go.Proofs
set_option maxRecDepth 100000
theorem row_pure {P : Program} {E : Env} {f : Nat} {g : List AV → Option AV} (h : PureOK P E f g) : RowOK P E f (pureK g) := by
  intro args σa v σr hk La w vs hr hv _
  unfold pureK at hk
  cases σa with
  | nil =>
    simp only [List.isEmpty_nil, if_true, Option.map_eq_some_iff, Prod.mk.injEq] at hk
    obtain ⟨v', hg, rfl, rfl⟩ := hk
    obtain ⟨y, hy, hf⟩ := h args v' vs La w hg hv hr
    exact hf.mono fun z w' ⟨hz, hb⟩ => ⟨La, rel_below hr hb, hz ▸ hy _⟩
  | cons => simp at hk
theorem fn_of_extern {P : Program} {f : FuncId} {fn : Func} {e : Array Value → Sem Value} (hf : P.funcs[f]? = some fn) (hname : (fn.name == "runtime.NumGoroutine") = false)
    (hb : fn.body.isNone = true) (hn : Extern.findNext fn = none) (he : Extern.find fn = some e) {args : Array Value} {w w' : World} {v : Value} {R : Value → World → Prop} (hrun : (e args).run P w = .ok v w') (hR : R v w') : FnOK P f args w R := by
  intro o a next Q h
  rw [run_callFunc_extern hf hname hb hn he, hrun]
  exact h v w' hR
theorem index_eq (l : List UInt8) (c : UInt8) : Lib.indexByte l c = indexB l c := by
  induction l with
  | nil => simp [Lib.indexByte, indexB]
  | cons x l ih =>
    unfold Lib.indexByte
    by_cases h : x = c
    · subst h; simp [indexB]
    · have hb : (x == c) = false := by simpa using h
      have hc : ¬ c = x := fun e => h e.symm
      rw [hb, ih]
      unfold indexB
      by_cases hm : c ∈ l
      · simp [hm, List.idxOf_cons, hb]
      · simp [hm, hc]
theorem ok_indexS {E : Env} : PureOK Tryz.prog E F.bytealg_IndexByteString kIndexS := by
  intro args v vs La w hg hv hr
  unfold kIndexS at hg
  split at hg
  · rename_i l c
    cases hg
    simp only [VRL, VR] at hv
    obtain ⟨x, r, rfl, rfl, y, r2, rfl, rfl, rfl⟩ := hv
    refine ⟨.int .i64 (indexB l (byt c)), fun c => by simp [VR], ?_⟩
    have h := Lib.run_indexByteString (P := Tryz.prog) ⟨l.toArray⟩ c w
    simp only [index_eq] at h
    exact fn_of_extern Tryz.func182 (by kernel_rfl) (by kernel_rfl) (by kernel_rfl) (e := Extern.BytealgIndexByte.indexByte) (by kernel_rfl) h ⟨rfl, Below.refl _ _⟩
  · cases hg
theorem vrc_ints {c : Ctx} {b : Nat} {xs : List Int} (h : ∀ i, i < xs.length → c.w.cell? ⟨b, i, none⟩ = some (.int .u8 (xs.getD i 0))) : VRC c b 0 (xs.map (AV.int .u8 ·)) := by
  refine VRC_of_get fun i x hx => ?_
  have hi := (List.getElem?_eq_some_iff.1 hx).1
  rw [List.length_map] at hi
  rw [List.getElem?_map] at hx
  obtain ⟨y, hy, rfl⟩ := Option.map_eq_some_iff.1 hx
  refine ⟨.int .u8 y, ?_, by simp [VR]⟩
  rw [Nat.zero_add, h i hi]
  simp [List.getD, hy]
theorem rel_entry {E : Env} {w w' : World} {La : Lay} (h : Rel E w (ownS [] La) [] La [] La w) (hb : Below w.heap.size w w') {cs : List AV} {pos : Option (Nat × Nat)} (hge : ∀ g o, pos = some (g, o) → w.heap.size ≤ g)
    (hent : EntOK (ctx [(.r 0, ⟨0, true, true, false, cs⟩)] ⟨fun s => if s = .r 0 then pos else La.pos s, La.F⟩ w') (.r 0) ⟨0, true, true, false, cs⟩) :
    Rel E w (ownS [] La) [] La [(.r 0, ⟨0, true, true, false, cs⟩)] ⟨fun s => if s = .r 0 then pos else La.pos s, La.F⟩ w' := by
  have hget : ∀ s e, getS [(Site.r 0, (⟨0, true, true, false, cs⟩ : Ent))] s = some e → s = .r 0 ∧ e = ⟨0, true, true, false, cs⟩ := by
    intro s e he
    simp only [getS] at he
    split at he
    · rename_i hs; exact ⟨hs.symm, (Option.some.inj he).symm⟩
    · cases he
  have hblk : ∀ b, inS [(Site.r 0, (⟨0, true, true, false, cs⟩ : Ent))] ⟨fun s => if s = .r 0 then pos else La.pos s, La.F⟩ b → w.heap.size ≤ b := by
    rintro b ⟨s, e, o, he, _, hl⟩
    obtain ⟨rfl, rfl⟩ := hget s e he
    exact hge b o (by simpa using hl)
  have hown : ∀ b, ownS [(Site.r 0, (⟨0, true, true, false, cs⟩ : Ent))] ⟨fun s => if s = .r 0 then pos else La.pos s, La.F⟩ b → w.heap.size ≤ b := fun b ⟨s, e, o, he, ha, _, hl⟩ => hblk b ⟨s, e, o, he, ha, hl⟩
  have hc : CLe (ctx [] La w) (ctx [(Site.r 0, (⟨0, true, true, false, cs⟩ : Ent))] ⟨fun s => if s = .r 0 then pos else La.pos s, La.F⟩ w') := by
    have h0 := cle_below (La := La) hb
    refine ⟨fun s g0 al hh => by simp [ctx, tabS, getS] at hh, fun b hlt ho => ?_, h0.block, h0.room, h0.size⟩
    rcases ho with ho | ho
    · have := hown b ho
      exact absurd hlt (by show ¬ b < w.heap.size; omega)
    · exact .inr ho
  refine ⟨⟨fun s e he _ => ?_, fun s s' e e' b o o' he _ he' _ _ _ => ?_⟩, ⟨hb.os, hb.tape, hb.output, hb.size, fun b hlt _ => hb.block b hlt, (cle_below (La := La) hb).room⟩, fun b hb' => .inr (hown b hb'), fun n => GV_le hc (h.glob n), fun x e he _ => ?_, fun b hb' => .inr (hblk b hb'), rfl, h.f0⟩
  · obtain ⟨rfl, rfl⟩ := hget s e he
    exact hent
  · rw [(hget s e he).1, (hget s' e' he').1]
  · exact absurd (hget _ e he).1 (by simp)
theorem rel_new {E : Env} {w w' : World} {La : Lay} (h : Rel E w (ownS [] La) [] La [] La w) (hb : Below w.heap.size w w') {v' : Value} {n e : Nat} {xs : List Int} (ho : w'.ownsRow w.heap.size e 1 v' n (xs.map (Value.int .u8))) :
    ∃ La', Rel E w (ownS [] La) [] La [(.r 0, ⟨0, true, true, false, xs.map (AV.int .u8 ·)⟩)] La' w' ∧ VR (ctx [(.r 0, ⟨0, true, true, false, xs.map (AV.int .u8 ·)⟩)] La' w') (.buf (.r 0) 0 0 n 1) v' := by
  obtain ⟨hlen, ho⟩ := ho
  rw [List.length_map, Nat.mul_one] at hlen
  rcases ho with ⟨rfl, rfl⟩ | ⟨g, cap, cur, rfl, hg, hcell, hcap, _, hsz, htake⟩
  · obtain rfl := List.eq_nil_of_length_eq_zero hlen
    refine ⟨_, rel_entry h hb (pos := none) (fun g o hh => by cases hh) ?_, ?_⟩
    · simp [EntOK, ctx]
    · simp only [VR]
      exact ⟨rfl, 0, true, rfl, Nat.le_refl _, fun _ _ => by simp [BufAt, ctx]⟩
  · rw [Nat.mul_one] at hsz htake
    have hroom : n ≤ cur.size := by omega
    refine ⟨_, rel_entry h hb (pos := some (g, 0)) (fun g' o hh => by cases hh; exact hg) ?_, ?_⟩
    · have hl : (xs.map (AV.int .u8 ·)).length = n := by rw [List.length_map, hlen]
      simp only [EntOK, ctx, if_true]
      refine .inl ⟨⟨cur, e, (0, 0), hcell, by simp only [List.length_map]; omega, .inl rfl⟩, vrc_ints fun i hi => ?_⟩
      show w'.cell? ⟨g, i, none⟩ = _
      have h1 : (cur.toList.take n)[i]? = some (Value.int .u8 (xs.getD i 0)) := by rw [htake]; simp [List.getD, hi]
      rw [List.getElem?_take_of_lt (by omega)] at h1
      simp only [World.cell?, hcell]
      simpa using h1
    · simp only [VR]
      refine ⟨rfl, 0, true, rfl, Nat.le_refl _, fun _ _ => ?_⟩
      simp only [BufAt, ctx, if_true]
      exact .inr ⟨cap, rfl, hcap, cur, e, (0, 0), hcell, by omega⟩
theorem lookup_memK {α : Type} : ∀ {tab : List (Nat × α)} {f : Nat} {h : α}, tab.lookup f = some h → (f, h) ∈ tab := by
  intro tab
  induction tab with
  | nil => intro f h hh; simp at hh
  | cons p tab ih =>
    intro f h hh
    obtain ⟨g, m⟩ := p
    rw [List.lookup_cons] at hh
    cases hb : (f == g) with
    | true =>
      rw [hb] at hh
      simp only [Option.some.injEq] at hh
      simp only [beq_iff_eq] at hb
      subst hb hh
      simp
    | false => rw [hb] at hh; exact List.mem_cons_of_mem _ (ih hh)
end Cod
namespace Cod
open Go Go.RowKit Go.Proofs
set_option maxRecDepth 100000
def PureOK2 (P : Program) (E : Env) (f : Nat) (g : List AV → Option AV) : Prop :=
  ∀ (args : List AV) (v : AV) (vs : List Value) (La : Lay) (w : World), g args = some v → VRL (ctx [] La w) args vs → Rel E w (ownS [] La) [] La [] La w →
    FnOK P f vs.toArray w (fun z w' => (∀ c, VR c v z) ∧ Below w.heap.size w w')
theorem row_pure2 {P : Program} {E : Env} {f : Nat} {g : List AV → Option AV} (h : PureOK2 P E f g) : RowOK P E f (pureK g) := by
  intro args σa v σr hk La w vs hr hv _
  unfold pureK at hk
  cases σa with
  | nil =>
    simp only [List.isEmpty_nil, if_true, Option.map_eq_some_iff, Prod.mk.injEq] at hk
    obtain ⟨v', hg, rfl, rfl⟩ := hk
    exact (h args v' vs La w hg hv hr).mono fun z w' ⟨hz, hb⟩ => ⟨La, rel_below hr hb, hz _⟩
  | cons => simp at hk
theorem ok_itoa {E : Env} (hE : E.glob = globOf) : PureOK2 Tryz.prog E F.strconv_Itoa kItoa := by
  intro args v vs La w hg hv hr
  unfold kItoa at hg
  split at hg
  · rename_i n
    split at hg
    · rename_i hn
      cases hg
      simp only [VRL, VR] at hv
      obtain ⟨x, r, rfl, rfl, rfl⟩ := hv
      have ht : Lib.TabIs Tryz.prog w "internal/strconv.uint64pow10" .u64 Lib.pow10Tab := by
        have := hr.glob G.strconv_uint64pow10
        rw [hE] at this
        exact tab_of_glob this (by kernel_rfl) (by simp [Lib.pow10Tab])
      refine fn_of_calls Tryz.func77 (by rfl) (by kernel_rfl) ((Tryz.strconv_Itoa n hn.1 hn.2 w ht).mono fun e w' ⟨he, k, os, hw⟩ => ?_)
      subst hw
      exact ⟨_, he, fun c => by simp [VR], Lib.below_grow _ _ (Nat.le_refl _) _ _⟩
    · cases hg
  · cases hg
theorem any_cell {E : Env} (hE : E.glob = globOf) {w : World} {La : Lay} (hr : Rel E w (ownS [] La) [] La [] La w) {g : Nat} {k : Option IntKind} (hg : globOf g = [.any k]) : ∃ ev, w.cell? ⟨g, 0, none⟩ = some ev ∧ AnyOK k ev := by
  have := (hr.glob g).1
  rw [hE, hg] at this
  simp only [gvar, VR, VRC] at this
  obtain ⟨_, b, o, h1, _, _, ⟨v, h2, h3⟩, _⟩ := this
  simp only [Value.pointer.injEq, Option.some.injEq, Addr.mk.injEq] at h1
  obtain ⟨rfl, h1, _⟩ := h1
  have ho : o = 0 := by omega
  subst ho
  exact ⟨v, h2, h3⟩
theorem ok_atoi {E : Env} (hE : E.glob = globOf) : PureOK2 Tryz.prog E F.strconv_Atoi kAtoi := by
  intro args v vs La w hg hv hr
  unfold kAtoi at hg
  split at hg
  · rename_i s
    split at hg
    · rename_i hn
      cases hg
      simp only [VRL, VR] at hv
      obtain ⟨x, r, rfl, rfl, rfl⟩ := hv
      have hsz : (⟨s.toArray⟩ : ByteArray).size = s.length := by simp [ByteArray.size]
      unfold atoiV
      split
      · rename_i v hx
        refine fn_of_calls Tryz.func151 (by rfl) (by kernel_rfl) ((Any.strconv_Atoi_ok Tryz.laysC172 ⟨s.toArray⟩ (by rw [hsz]; omega) v hx w).mono fun e w' ⟨he, hw⟩ => ?_)
        refine ⟨_, he, fun c => by simp [VR, VRL], ?_⟩
        rcases hw with rfl | ⟨t, rfl⟩
        · exact Below.refl _ _
        · exact Lib.bytesWorld_below _ _ _
      · rename_i hx
        obtain ⟨ev, h1, h2⟩ := any_cell hE hr (g := G.strconv_ErrRange) (k := none) rfl
        refine fn_of_calls Tryz.func151 (by rfl) (by kernel_rfl) ((Any.strconv_Atoi_range Tryz.laysC172 ⟨s.toArray⟩ (by rw [hsz]; omega) hx ev w h1 h2).mono fun e w' ⟨N, he, _, _, hb⟩ => ?_)
        refine ⟨_, he, fun c => ?_, hb⟩
        simp only [VR, VRL]
        exact ⟨_, rfl, _, _, rfl, rfl, _, _, rfl, ⟨_, rfl, trivial⟩, rfl⟩
      · rename_i hx1 hx2
        obtain ⟨ev, h1, h2⟩ := any_cell hE hr (g := G.strconv_ErrSyntax) (k := none) rfl
        refine fn_of_calls Tryz.func151 (by rfl) (by kernel_rfl) ((Any.strconv_Atoi_syntax Tryz.laysC172 ⟨s.toArray⟩ (by rw [hsz]; omega) (by
          cases hc : Lib.atoiAll s with
          | ok v => exact absurd hc (hx1 v)
          | range => exact absurd hc hx2
          | _ => rfl) ev w h1 h2).mono fun e w' ⟨N, he, _, _, hb⟩ => ?_)
        refine ⟨_, he, fun c => ?_, hb⟩
        simp only [VR, VRL]
        exact ⟨_, rfl, _, _, rfl, rfl, _, _, rfl, ⟨_, rfl, trivial⟩, rfl⟩
    · cases hg
  · cases hg
theorem ok_last {E : Env} : PureOK2 Tryz.prog E F.strings_LastIndex kLast := by
  intro args v vs La w hg hv hr
  unfold kLast at hg
  split at hg
  · rename_i s t
    split at hg
    · rename_i hn
      cases hg
      simp only [VRL, VR] at hv
      obtain ⟨x, r, rfl, rfl, y, r2, rfl, rfl, rfl⟩ := hv
      have hsz : (⟨s.toArray⟩ : ByteArray).size = s.length := by simp [ByteArray.size]
      refine fn_of_calls Tryz.func174 (by rfl) (by kernel_rfl) ((Tryz.strings_LastIndex ⟨s.toArray⟩ ⟨t.toArray⟩ (by rw [hsz]; exact hn) w).mono fun e w' ⟨he, hw⟩ => ?_)
      subst hw
      exact ⟨_, he, fun c => by simp [VR], Below.refl _ _⟩
    · cases hg
  · cases hg
theorem ok_contains {E : Env} (hE : E.glob = globOf) : PureOK2 Tryz.prog E F.strings_Contains kContains := by
  intro args v vs La w hg hv hr
  unfold kContains at hg
  split at hg
  · rename_i s t
    split at hg
    · rename_i hn
      cases hg
      simp only [VRL, VR] at hv
      obtain ⟨x, r, rfl, rfl, y, r2, rfl, rfl, rfl⟩ := hv
      have hsz : (⟨s.toArray⟩ : ByteArray).size = s.length := by simp [ByteArray.size]
      obtain ⟨ev, h1, m, rfl⟩ := any_cell hE hr (g := G.bytealg_MaxLen) (k := some .i64) rfl
      refine fn_of_calls Tryz.func101 (by rfl) (by kernel_rfl) ((Tryz.strings_Contains ⟨s.toArray⟩ ⟨t.toArray⟩ m w (by rw [hsz]; exact hn) h1).mono fun e w' ⟨he, hw⟩ => ?_)
      subst hw
      exact ⟨_, he, fun c => by simp [VR], Below.refl _ _⟩
    · cases hg
  · cases hg
end Cod
namespace Cod
open Go Go.RowKit Go.Proofs
set_option maxRecDepth 100000
set_option maxHeartbeats 2000000
theorem base_ok {E : Env} (hE : E.glob = globOf) : ∀ p ∈ knownB, RowOK Tryz.prog E p.1 p.2 := by
  unfold knownB
  refine List.forall_mem_cons.2 ⟨row_pure2 (ok_contains hE), ?_⟩
  refine List.forall_mem_cons.2 ⟨row_pure2 (ok_itoa hE), ?_⟩
  refine List.forall_mem_cons.2 ⟨row_pure2 (ok_atoi hE), ?_⟩
  refine List.forall_mem_cons.2 ⟨row_pure2 ok_last, ?_⟩
  refine List.forall_mem_cons.2 ⟨show RowOK Tryz.prog E F.bytealg_IndexByteString (pureK kIndexS) from row_pure ok_indexS, ?_⟩
  exact fun p h => nomatch h
end Cod
namespace Cod
open Go
def knownTab1 : List (Nat × (List AV → Store → Option (AV × Store))) := knownB
def E1 : Env := ⟨fnOf, fun f => knownTab1.lookup f, globOf⟩
theorem nilV_lst {cs : List AV} {n : Nat} : nilV 1 (.lst cs (n + 1)) = .ret false := rfl
theorem go_clone1 {l : List UInt8} {n : Nat} (hn : n = l.length) (h1 : 1 ≤ n) (h2 : n ≤ 140737488355328) : S E1 F.bytes_Clone [.lst (ofBytes l) n] [] = some (.buf (.r 0) 0 0 n 1, [(.r 0, ⟨0, true, true, false, ofBytes l⟩)]) := by
  obtain ⟨m, rfl⟩ : ∃ m, n = m + 1 := ⟨n - 1, by omega⟩
  rw [show S E1 F.bytes_Clone [.lst (ofBytes l) (m + 1)] [] = X E1 L.bytes_Clone.results [.c L.bytes_Clone.code] ⟨params 0 [.lst (ofBytes l) (m + 1)], []⟩ from S_fn rfl fn_bytes_Clone rfl]
  simp (dsimp := false) (disch := first | omega | (simp only [LENs] <;> omega) | fail) only [L.bytes_Clone, go_sem, reduceIte, reduceCtorEq, qn0, qn1, qn2, qn3, qn4, qn5, qn6, qn7, qn8, qi0, qi1, qi2, qi3, qi4, qi5, qi6, qi7, qi8, qi9, qi10, BYs, nilV_lst]
end Cod
namespace Cod
open Go Go.RowKit Go.Proofs
set_option maxRecDepth 100000
theorem clone_nil (w : World) : Calls Tryz.prog 80 #[.slice none 0 0] w (fun e w' => e = .returned (.slice none 0 0) ∧ w' = w) := by
  refine calls_of_wp Tryz.func80 rfl ?_
  simp only [Tryz.ntmps80, List.size_toArray, List.length_cons, List.length_nil, Nat.reduceAdd, Nat.reduceSub, Array.replicate_succ, Array.replicate_zero, List.push_toArray, List.append_toArray, List.nil_append, List.cons_append]
  have e1 : ∀ W : World, (binOp .eql 23 (.slice none 0 0) (.slice none 0 0)).run Tryz.prog W = .ok (.bool true) W := fun W => by kernel_rfl
  go_wp2
  refine bodyPost_ret (results_tmp rfl _ _ _) rfl ?_
  exact ⟨rfl, rfl⟩
theorem clone_zero (w : World) (b o cap : Nat) : Calls Tryz.prog 80 #[.slice (some ⟨b, o, none⟩) 0 cap] w (fun e w' => ∃ g, e = .returned (.slice (some ⟨g, 0, none⟩) 0 0) ∧ w.heap.size ≤ g ∧ Below w.heap.size w w' ∧ ∃ cs el, w'.heap[g]? = some (.cells cs el (0, 0))) := by
  refine calls_of_wp Tryz.func80 rfl ?_
  simp only [Tryz.ntmps80, List.size_toArray, List.length_cons, List.length_nil, Nat.reduceAdd, Nat.reduceSub, Array.replicate_succ, Array.replicate_zero, List.push_toArray, List.append_toArray, List.nil_append, List.cons_append]
  have e1 : ∀ W : World, (binOp .eql 23 (.slice (some ⟨b, o, none⟩) 0 cap) (.slice none 0 0)).run Tryz.prog W = .ok (.bool false) W := fun W => by kernel_rfl
  go_wp2
  refine bodyPost_ret (results_tmp rfl _ _ _) rfl ?_
  exact ⟨_, rfl, Nat.le_refl _, (Below.refl _ w).alloc (Nat.le_refl _) _, _, _, heap_alloc_new w _⟩
theorem known1_ok : KnownOK Tryz.prog E1 := fun f h hf => base_ok (E := E1) rfl (f, h) (lookup_memK (show knownTab1.lookup f = some h from hf))
theorem fns1_ok : FnsOK Tryz.prog E1 := fnsOK_of (by kernel_rfl) all_ok (fun _ => rfl)
theorem rel_glob {E E' : Env} (hE : E'.glob = E.glob) {w0 : World} {O0 : Nat → Prop} {σ0 : Store} {L0 : Lay} {σ : Store} {L : Lay} {w : World} (h : Rel E w0 O0 σ0 L0 σ L w) : Rel E' w0 O0 σ0 L0 σ L w :=
  ⟨h.store, h.keep, h.own, fun n => by rw [hE]; exact h.glob n, h.ups, h.src, h.lf, h.f0⟩
theorem ok_clone {E : Env} (hE : E.glob = globOf) : RowOK Tryz.prog E F.bytes_Clone kClone := by
  intro args σa v σr hk La w vs hr hv hup
  unfold kClone at hk
  split at hk
  · rename_i cs n
    split at hk
    · rename_i hc
      cases hk
      obtain ⟨hl, hbig, hs⟩ := hc
      obtain ⟨l, rfl⟩ := isBytes_some hs
      rw [ofBytes_length] at hl
      by_cases h1 : 1 ≤ n
      · have := calls_of_S known1_ok fns1_ok (go_clone1 (l := l) (n := n) hl.symm h1 hbig) La (rel_glob (E := E) (E' := E1) hE.symm hr) hv
        refine this.mono fun y w' ⟨La', k1, k2⟩ => ⟨La', ?_, k2⟩
        exact rel_glob hE k1
      · obtain rfl : n = 0 := by omega
        have hxs : l = [] := List.eq_nil_of_length_eq_zero hl
        subst hxs
        simp only [VRL, VR] at hv
        obtain ⟨x, r, rfl, ⟨_, hx⟩, rfl⟩ := hv
        rcases hx with ⟨_, _, rfl⟩ | ⟨b, o, cap, rfl, _, _, _, _⟩
        · refine fn_of_calls Tryz.func80 (by rfl) (by kernel_rfl) ((clone_nil w).mono fun e w' ⟨he, hw⟩ => ?_)
          subst hw
          exact ⟨_, he, rel_new (xs := []) hr (Below.refl _ _) (e := 5) ⟨by simp, .inl ⟨rfl, rfl⟩⟩⟩
        · refine fn_of_calls Tryz.func80 (by rfl) (by kernel_rfl) ((clone_zero w b o cap).mono fun e w' ⟨g, he, hg, hbel, cs, el, hcell⟩ => ?_)
          refine ⟨_, he, _, rel_entry hr hbel (pos := some (g, 0)) (fun g' o hh => by cases hh; exact hg) ?_, ?_⟩
          · simp only [EntOK, ctx, if_true]
            exact .inl ⟨⟨cs, el, (0, 0), hcell, Nat.zero_le _, .inl rfl⟩, by simp [ofBytes, VRC]⟩
          · simp only [VR]
            refine ⟨rfl, 0, true, rfl, Nat.le_refl _, fun _ _ => ?_⟩
            simp only [BufAt, ctx, if_true]
            exact .inl ⟨trivial, ⟨cs, el, (0, 0), hcell, Nat.zero_le _⟩, 0, rfl⟩
    · cases hk
  · cases hk
end Cod
namespace Cod
open Go Go.RowKit Go.Proofs Go.Shelf
set_option maxRecDepth 100000
theorem tab0_ok {E : Env} (hE : E.glob = globOf) : ∀ p ∈ knownTab0, RowOK Tryz.prog E p.1 p.2 := by
  unfold knownTab0
  refine List.forall_mem_cons.2 ⟨ok_clone hE, ?_⟩
  exact base_ok hE
def LaE : Lay := ⟨fun _ => none, fun _ => False⟩
def Start (W : World) : Prop := ∀ n, GV (ctx [] LaE W) n (globOf n)
theorem start_of {E : Env} (hE : E.glob = globOf) {w : World} {La : Lay} (hr : Rel E w (ownS [] La) [] La [] La w) : Start w := by
  intro n
  have := hr.glob n
  rw [hE] at this
  refine GV_le ?_ this
  refine ⟨fun s g0 al h => by simp [ctx, tabS, getS] at h, fun b _ h => ?_, fun b _ _ => rfl, fun _ _ h => h, Nat.le_refl _⟩
  rcases h with ⟨s, e, o, he, _⟩ | h
  · simp [getS] at he
  · exact h.elim
theorem Start.below {w W : World} (h : Start w) (hb : Below w.heap.size w W) : Start W := fun n => GV_le (cle_below hb) (h n)
theorem Start.rel {W : World} (h : Start W) : Rel E0 W (ownS [] LaE) [] LaE [] LaE W :=
  ⟨⟨fun s e he => by simp [getS] at he, fun s s' e e' b o o' he => by simp [getS] at he⟩, Keep.refl _ _, fun b hb => .inl hb, h, fun x e he => by simp [getS] at he, fun b hb => .inl hb, rfl, fun b hb => hb.elim⟩
theorem keep_below {W W' : World} (h : Keep (ownS [] LaE) W W') : Below W.heap.size W W' :=
  ⟨h.os, h.tape, h.output, h.size, fun b hb => h.block b hb (fun ⟨s, e, o, he, _⟩ => by simp [getS] at he)⟩
end Cod
namespace Cod
open Go Go.RowKit Go.Proofs Go.Shelf
set_option maxRecDepth 100000
theorem fns_ok : FnsOK Tryz.prog E := fnsOK_of (by kernel_rfl) all_ok (fun _ => rfl)
theorem tabG_ok {E : Env} (hE : E.glob = globOf) : ∀ p ∈ knownTab, RowOK Tryz.prog E p.1 p.2 := by
  unfold knownTab
  exact tab0_ok hE
theorem known_ok : KnownOK Tryz.prog E := fun f h hf => tabG_ok (E := E) rfl (f, h) (lookup_memK (show knownTab.lookup f = some h from hf))
theorem e_calls {f : Nat} {fn : Func} {c : Code} (hf : Tryz.prog.funcs[f]? = some fn) (hb : fn.body = some c) (hn : (fn.name == "runtime.NumGoroutine") = false) {args : List AV} {v : AV} (h : S E f args [] = some (v, []))
    {W : World} (hW : Start W) {vs : List Value} (hv : VRL (ctx [] LaE W) args vs) {y : Value} (hy : ∀ c z, VR c v z → z = y) : Calls Tryz.prog f vs.toArray W (fun e W' => e = .returned y ∧ Below W.heap.size W W') := by
  have hrel : Rel E W (ownS [] LaE) [] LaE [] LaE W := ⟨⟨fun s e he => by simp [getS] at he, fun s s' e e' b o o' he => by simp [getS] at he⟩, Keep.refl _ _, fun b hb => .inl hb, hW, fun x e he => by simp [getS] at he, fun b hb => .inl hb, rfl, fun b hb => hb.elim⟩
  refine (calls_of_FnOK hf hb hn (calls_of_S known_ok fns_ok h LaE hrel hv)).mono ?_
  rintro e W' ⟨z, rfl, La', h1, h2⟩
  rw [hy _ _ h2]
  exact ⟨rfl, keep_below h1.keep⟩
end Cod
namespace Cod
open Go Go.Proofs Go.Proofs.YthlnjgdoodjgoaaGreatDoor
set_option maxRecDepth 100000
theorem lookup_mem2 {α β : Type} [BEq α] [LawfulBEq α] {a : α} {b : β} : ∀ {l : List (α × β)}, l.lookup a = some b → (a, b) ∈ l := by
  intro l
  induction l with
  | nil => intro h; simp at h
  | cons x l ih =>
    intro h
    rw [List.lookup_cons] at h
    split at h
    · rename_i he
      rw [beq_iff_eq] at he
      cases h
      rw [he]; exact List.mem_cons_self
    · exact List.mem_cons_of_mem _ (ih h)
theorem own : ownKnob Tryz.prog.godebug = none := by kernel_rfl
theorem laidOut : laidOutB Tryz.prog = true := by kernel_rfl
theorem bool_type : Tryz.prog.underlying 4 = some .bool := Tryz.underlying4
mutual
theorem bulk_eq {H : Type} : ∀ d : DataW H, Rows.uptoBulk d = dbulk d
  | .lit (.string _) => by simp [Rows.uptoBulk, dbulk]
  | .lit (.bool _) => by simp [Rows.uptoBulk, dbulk]
  | .lit (.int _ _) => by simp [Rows.uptoBulk, dbulk]
  | .lit (.float _ _) => by simp [Rows.uptoBulk, dbulk]
  | .lit .nil => by simp [Rows.uptoBulk, dbulk]
  | .nil => by simp [Rows.uptoBulk, dbulk]
  | .ptr d => by simp [Rows.uptoBulk, dbulk, bulk_eq d]
  | .slice a b => by simp [Rows.uptoBulk, dbulk, bulkAll_eq a, bulkAll_eq b]
  | .agg a => by simp [Rows.uptoBulk, dbulk, bulkAll_eq a]
  | .iface _ d => by simp [Rows.uptoBulk, dbulk, bulk_eq d]
  | .map l => by simp [Rows.uptoBulk, dbulk, bulkEntries_eq l]
  | .held _ => by simp [Rows.uptoBulk, dbulk]
theorem bulkAll_eq {H : Type} : ∀ l : List (DataW H), Rows.uptoBulkAll l = dbulkAll l
  | [] => by simp [Rows.uptoBulkAll, dbulkAll]
  | d :: r => by simp [Rows.uptoBulkAll, dbulkAll, bulk_eq d, bulkAll_eq r]
theorem bulkEntries_eq {H : Type} : ∀ l : List (Lit × DataW H), Rows.uptoBulkEntries l = dbulkEntries l
  | [] => by simp [Rows.uptoBulkEntries, dbulkEntries]
  | d :: r => by simp [Rows.uptoBulkEntries, dbulkEntries, bulkEntry_eq d, bulkEntries_eq r]
theorem bulkEntry_eq {H : Type} : ∀ x : Lit × DataW H, Rows.uptoBulkEntry x = dbulkEntry x
  | (.string _, d) => by simp [Rows.uptoBulkEntry, dbulkEntry, bulk_eq d]
  | (.bool _, d) => by simp [Rows.uptoBulkEntry, dbulkEntry, bulk_eq d]
  | (.int _ _, d) => by simp [Rows.uptoBulkEntry, dbulkEntry, bulk_eq d]
  | (.float _ _, d) => by simp [Rows.uptoBulkEntry, dbulkEntry, bulk_eq d]
  | (.nil, d) => by simp [Rows.uptoBulkEntry, dbulkEntry, bulk_eq d]
end
theorem dbulkAll_append {H : Type} (a b : List (DataW H)) : dbulkAll (a ++ b) = dbulkAll a + dbulkAll b := by
  induction a with
  | nil => simp [dbulkAll]
  | cons x a ih => simp only [List.cons_append, dbulkAll, ih]; omega
theorem small_of {H : Type} {ds gs : List (DataW H)} (h : Rows.uptoSmall H (ds ++ gs) = true) : dbulkAll ds ≤ 1048576 := by
  simp only [Rows.uptoSmall, decide_eq_true_eq, bulkAll_eq, dbulkAll_append] at h
  omega
def kInts : List Int := kTab.map fun x => (x.toNat : Int)
theorem kWords : words kTab = kInts.map fun z => AV.int .u32 z := by kernel_rfl
theorem kLaid : (Rows.laid_codicil_sha_k : DataW Unit) = Lib.tabData .u32 kInts := by kernel_rfl
theorem gK : Tryz.prog.globalNamed "codicil/sha.k" = some G.sha_k := by kernel_rfl
theorem sha_tab {W : World} {l : List (String × DataW Unit)} (h : laidMetH Tryz.prog l W) (hm : ("codicil/sha.k", Rows.laid_codicil_sha_k) ∈ l) : GV (ctx [] La0 W) G.sha_k (words kTab) := by
  rw [kWords]
  exact glob_tab (tab_of_laid (n := 64) h (kLaid ▸ hm) gK (by kernel_rfl) (t := 162) (e := 131) (by kernel_rfl) (by kernel_rfl) (by kernel_rfl) (by kernel_rfl)) gK (by simp [kInts, kTab])
theorem foldLaid : (Rows.laid_unicode_asciiFold : DataW Unit) = Lib.tabData .u16 foldTab := by kernel_rfl
theorem gF : Tryz.prog.globalNamed "unicode.asciiFold" = some G.unicode_asciiFold := by kernel_rfl
theorem fold_tab {W : World} {l : List (String × DataW Unit)} (h : laidMetH Tryz.prog l W) (hm : ("unicode.asciiFold", Rows.laid_unicode_asciiFold) ∈ l) : GV (ctx [] La0 W) G.unicode_asciiFold (foldTab.map fun z => .int .u16 z) :=
  glob_tab (tab_of_laid (n := 128) h (foldLaid ▸ hm) gF (by kernel_rfl) (t := 209) (e := 208) (by kernel_rfl) (by kernel_rfl) (by kernel_rfl) (by kernel_rfl)) gF (by simp [foldTab])
theorem powLaid : (Rows.laid_internal_strconv_uint64pow10 : DataW Unit) = Lib.tabData .u64 Lib.pow10Tab := by kernel_rfl
theorem gP : Tryz.prog.globalNamed "internal/strconv.uint64pow10" = some G.strconv_uint64pow10 := by kernel_rfl
theorem pow_tab {W : World} {l : List (String × DataW Unit)} (h : laidMetH Tryz.prog l W) (hm : ("internal/strconv.uint64pow10", Rows.laid_internal_strconv_uint64pow10) ∈ l) : GV (ctx [] La0 W) G.strconv_uint64pow10 (Lib.pow10Tab.map fun z => .int .u64 z) :=
  glob_tab (tab_of_laid (n := 20) h (powLaid ▸ hm) gP (by kernel_rfl) (t := 196) (e := 164) (by kernel_rfl) (by kernel_rfl) (by kernel_rfl) (by kernel_rfl)) gP (by simp [Lib.pow10Tab])
theorem form_tab {W : World} {l : List (String × DataW Unit)} (h : laidMetH Tryz.prog l W) (hm : ("strconv.ErrSyntax", Rows.laid_strconv_ErrSyntax) ∈ l) : GV (ctx [] La0 W) G.strconv_ErrSyntax [.any none] :=
  err_laid h hm (by rfl) (by kernel_rfl) (t := 85) (by kernel_rfl) (by kernel_rfl)
theorem range_tab {W : World} {l : List (String × DataW Unit)} (h : laidMetH Tryz.prog l W) (hm : ("strconv.ErrRange", Rows.laid_strconv_ErrRange) ∈ l) : GV (ctx [] La0 W) G.strconv_ErrRange [.any none] :=
  err_laid h hm (by rfl) (by kernel_rfl) (t := 85) (by kernel_rfl) (by kernel_rfl)
theorem max_tab {W : World} (h : W.ShapedOpen Tryz.prog) : GV (ctx [] La0 W) G.bytealg_MaxLen [.any (some .i64)] :=
  int_shaped h (of_decide_eq_true (by kernel_rfl)) (by kernel_rfl) (Go.Proofs.cell_of_shapedOpen_int (zero := #[.int .i64 0]) (t := 3) h (of_decide_eq_true (by kernel_rfl)) (by kernel_rfl) rfl (by kernel_rfl) (by kernel_rfl) Tryz.underlying3)
theorem bruLaid : (Rows.laid_math_bits_deBruijn64tab : DataW Unit) = Lib.tabData .u8 bruTab := by kernel_rfl
theorem gB : Tryz.prog.globalNamed "math/bits.deBruijn64tab" = some G.bits_deBruijn64tab := by kernel_rfl
theorem bru_tab {W : World} {l : List (String × DataW Unit)} (h : laidMetH Tryz.prog l W) (hm : ("math/bits.deBruijn64tab", Rows.laid_math_bits_deBruijn64tab) ∈ l) : GV (ctx [] La0 W) G.bits_deBruijn64tab (bruTab.map fun z => .int .u8 z) :=
  glob_tab (tab_of_laid (n := 64) h (bruLaid ▸ hm) gB (by kernel_rfl) (t := 134) (e := 5) (by kernel_rfl) (by kernel_rfl) (by kernel_rfl) (by kernel_rfl)) gB (by simp [bruTab])
theorem glob_of {W : World} (h : ∀ p ∈ globTab, GV (ctx [] La0 W) p.1 p.2) : GlobOK E W := by
  intro n
  show GV _ n (globOf n)
  unfold globOf
  cases hl : globTab.lookup n with
  | none => exact glob_none
  | some l => exact h _ (lookup_mem2 hl)
theorem glob_ok {W : World} {l : List (String × DataW Unit)} (h : laidMetH Tryz.prog l W) (hs : W.ShapedOpen Tryz.prog) (hk : ("codicil/sha.k", Rows.laid_codicil_sha_k) ∈ l) (hf : ("unicode.asciiFold", Rows.laid_unicode_asciiFold) ∈ l) (hp : ("internal/strconv.uint64pow10", Rows.laid_internal_strconv_uint64pow10) ∈ l) (h1 : ("strconv.ErrSyntax", Rows.laid_strconv_ErrSyntax) ∈ l) (h2 : ("strconv.ErrRange", Rows.laid_strconv_ErrRange) ∈ l) (hb : ("math/bits.deBruijn64tab", Rows.laid_math_bits_deBruijn64tab) ∈ l) : GlobOK E W := by
  refine glob_of ?_
  unfold globTab
  refine List.forall_mem_cons.2 ⟨sha_tab h hk, ?_⟩
  refine List.forall_mem_cons.2 ⟨fold_tab h hf, ?_⟩
  refine List.forall_mem_cons.2 ⟨pow_tab h hp, ?_⟩
  refine List.forall_mem_cons.2 ⟨form_tab h h1, ?_⟩
  refine List.forall_mem_cons.2 ⟨range_tab h h2, ?_⟩
  refine List.forall_mem_cons.2 ⟨max_tab hs, ?_⟩
  refine List.forall_mem_cons.2 ⟨bru_tab h hb, ?_⟩
  exact fun p h => nomatch h
end Cod
namespace Cod
open Go
theorem wf_bytes : ∀ {r : List (List AV)}, (∀ x ∈ r, Wf (.int .u8) x) → ∃ l : List UInt8, r.flatten = ofBytes l ∧ l.length = r.length := by
  intro r
  induction r with
  | nil => intro _; exact ⟨[], rfl, rfl⟩
  | cons x r ih =>
    intro h
    obtain ⟨l, h1, h2⟩ := ih fun y hy => h y (List.mem_cons_of_mem _ hy)
    obtain ⟨n, rfl, hn⟩ := h x (by simp)
    simp [Lit.wf, IntKind.min, IntKind.max, IntKind.signed, IntKind.bits] at hn
    refine ⟨byt n :: l, ?_, by simp [h2]⟩
    rw [List.flatten_cons, h1, int_byt (by omega) (by omega)]
    rfl
end Cod
namespace Cod
open Go
theorem flatsA (a b : List AV) : flats (a ++ b) = (flats a && flats b) := by
  induction a with
  | nil => simp [flats]
  | cons x a ih => simp [flats, ih, Bool.and_assoc]
theorem hardsA (a b : List AV) : hards (a ++ b) = (hards a && hards b) := by
  induction a with
  | nil => simp [hards]
  | cons x a ih => simp [hards, ih, Bool.and_assoc]
theorem leadssA (a b : List AV) : leadss (a ++ b) = (leadss a || leadss b) := by
  induction a with
  | nil => simp [leadss]
  | cons x a ih => simp [leadss, ih, Bool.or_assoc]
theorem refsOfsA (a b : List AV) : refsOfs (a ++ b) = refsOfs a ++ refsOfs b := by
  induction a with
  | nil => simp [refsOfs]
  | cons x a ih => simp [refsOfs, ih]
theorem rensA (f : Site → Nat → Option (Site × Nat)) (a b : List AV) : rens f (a ++ b) = rens f a ++ rens f b := by
  induction a with
  | nil => simp [rens]
  | cons x a ih => simp [rens, ih]
section
variable {α : Type} {f : α → List AV} {n : Nat}
theorem recs_length (hn : ∀ a, (f a).length = n) (l : List α) : (l.flatMap f).length = n * l.length := by
  induction l with
  | nil => simp
  | cons s l ih => rw [List.flatMap_cons, List.length_append, ih, hn, List.length_cons, Nat.mul_add]; omega
theorem recs_flats (h : ∀ a, flats (f a) = true) (l : List α) : flats (l.flatMap f) = true := by
  induction l with
  | nil => rfl
  | cons s l ih => rw [List.flatMap_cons, flatsA, ih, h]; rfl
theorem recs_hards (h : ∀ a, hards (f a) = true) (l : List α) : hards (l.flatMap f) = true := by
  induction l with
  | nil => rfl
  | cons s l ih => rw [List.flatMap_cons, hardsA, ih, h]; rfl
theorem recs_leadss (h : ∀ a, leadss (f a) = false) (l : List α) : leadss (l.flatMap f) = false := by
  induction l with
  | nil => rfl
  | cons s l ih => rw [List.flatMap_cons, leadssA, ih, h]; rfl
theorem recs_refs (h : ∀ a, refsOfs (f a) = []) (l : List α) : refsOfs (l.flatMap f) = [] := by
  induction l with
  | nil => rfl
  | cons s l ih => rw [List.flatMap_cons, refsOfsA, ih, h]; rfl
theorem recs_rens (g : Site → Nat → Option (Site × Nat)) (h : ∀ a, rens g (f a) = f a) (l : List α) : rens g (l.flatMap f) = l.flatMap f := by
  induction l with
  | nil => rfl
  | cons s l ih => rw [List.flatMap_cons, rensA, ih, h]
theorem recs_drop (hn : ∀ a, (f a).length = n) (l : List α) (i : Nat) : (l.flatMap f).drop (i * n) = (l.drop i).flatMap f := by
  induction i generalizing l with
  | zero => simp
  | succ i ih =>
    cases l with
    | nil => simp
    | cons s l =>
      have h1 : (i + 1) * n = (f s).length + i * n := by rw [hn, Nat.add_mul]; omega
      rw [List.flatMap_cons, h1, List.drop_append, List.drop_of_length_le (by omega), List.nil_append, show (f s).length + i * n - (f s).length = i * n by omega, ih]
      rfl
variable [Inhabited α]
theorem drop_getD {l : List α} {i : Nat} (h : i < l.length) : l.drop i = l.getD i default :: l.drop (i + 1) := by
  rw [List.getD_eq_getElem?_getD, List.getElem?_eq_getElem h, Option.getD_some]
  exact List.drop_eq_getElem_cons h
theorem recs_sub (hn : ∀ a, (f a).length = n) {l : List α} {i : Nat} (h : i < l.length) : sub (l.flatMap f) (i * n) n = f (l.getD i default) := by
  rw [sub, recs_drop hn, drop_getD h, List.flatMap_cons, List.take_append_of_le_length (by rw [hn]; exact Nat.le_refl _), List.take_of_length_le (by rw [hn]; exact Nat.le_refl _)]
end
theorem strs_flatMap (l : List (List UInt8)) : strs l = l.flatMap fun s => [.str s] := by
  induction l with
  | nil => rfl
  | cons s l ih => rw [List.flatMap_cons, ← ih]; rfl
theorem flats_strs (l : List (List UInt8)) : flats (strs l) = true := by rw [strs_flatMap]; exact recs_flats (fun _ => rfl) l
theorem hards_strs (l : List (List UInt8)) : hards (strs l) = true := by rw [strs_flatMap]; exact recs_hards (fun _ => rfl) l
theorem leadss_strs (l : List (List UInt8)) : leadss (strs l) = false := by rw [strs_flatMap]; exact recs_leadss (fun _ => rfl) l
theorem refsOfs_strs (l : List (List UInt8)) : refsOfs (strs l) = [] := by rw [strs_flatMap]; exact recs_refs (fun _ => rfl) l
theorem rens_strs (f : Site → Nat → Option (Site × Nat)) (l : List (List UInt8)) : rens f (strs l) = strs l := by rw [strs_flatMap]; exact recs_rens f (fun _ => rfl) l
theorem strs_snoc (l : List (List UInt8)) (s : List UInt8) : strs l ++ [.str s] = strs (l ++ [s]) := by simp [strs]
theorem get_strs {l : List (List UInt8)} {i : Nat} (h : i < l.length) : (strs l)[i]? = some (.str (l.getD i [])) := by simp [strs, h]
end Cod
namespace Cod
open Go
structure Ety where
  mode : Int
  name : List UInt8
  id : List UInt8
  hid : id.length = 32
def Ety.cells (e : Ety) : List AV := .int .i64 e.mode :: .str e.name :: ofBytes e.id
theorem ety_len (e : Ety) : e.cells.length = 34 := by simp [Ety.cells, ofBytes_length, e.hid]
theorem ety_flats (e : Ety) : flats e.cells = true := by simp [Ety.cells, flats, flat, flats_ofBytes]
theorem ety_rens (f : Site → Nat → Option (Site × Nat)) (e : Ety) : rens f e.cells = e.cells := rens_flats _ (ety_flats e)
theorem ety_refs (e : Ety) : refsOfs e.cells = [] := by simp [Ety.cells, refsOfs, refsOf, refsOfs_ofBytes]
theorem ety_hards (e : Ety) : hards e.cells = true := by simp [Ety.cells, hards, hard, hards_ofBytes]
theorem ety_leads (e : Ety) : leadss e.cells = false := by simp [Ety.cells, leadss, leads, leadss_ofBytes]
theorem ety_sub (e : Ety) : sub e.cells 0 34 = e.cells := sub_full (by rw [ety_len]; exact Nat.le_refl _)
theorem ety_0 (e : Ety) : e.cells[0]? = some (.int .i64 e.mode) := rfl
theorem ety_1 (e : Ety) : e.cells[1]? = some (.str e.name) := rfl
attribute [go_sem] ety_len ety_flats ety_rens ety_refs ety_hards ety_leads ety_sub ety_0 ety_1
def keyE (e : Ety) : List UInt8 := if e.mode = 16384 then e.name ++ [47] else e.name
theorem less_self : ∀ a : List UInt8, Op.bytesLess a a = false := by
  intro a
  induction a with
  | nil => rfl
  | cons x a ih => rw [Op.bytesLess, ih]; simp
theorem go_cmpE {a b : List UInt8} : S E F.cmp_Compare_string [.str a, .str b] [] = some (.int .i64 (cmpB a b), []) := by
  have hn (x : List UInt8) : S E F.cmp_isNaN_string [.str x] [] = some (.bool false, []) := by
    have hb : (x == x) = true := by simp
    rw [S_of fn_cmp_isNaN_string rfl rfl]
    simp (dsimp := false) (disch := first | omega | (simp only [LENs] <;> omega) | fail) only [L.cmp_isNaN_string, go_sem, reduceIte, reduceCtorEq, qn0, qn1, qn2, qn3, qn4, qn5, qn6, qn7, qn8, qi0, qi1, qi2, qi3, qi4, qi5, qi6, qi7, qi8, qi9, qi10, hb, Bool.not_true]
  rw [S_of fn_cmp_Compare_string rfl rfl]
  unfold cmpB
  by_cases he : a = b
  · subst he
    have hs : (a == a) = true := by simp
    simp (dsimp := false) (disch := first | omega | (simp only [LENs] <;> omega) | fail) only [L.cmp_Compare_string, go_sem, reduceIte, reduceCtorEq, qn0, qn1, qn2, qn3, qn4, qn5, qn6, qn7, qn8, qi0, qi1, qi2, qi3, qi4, qi5, qi6, qi7, qi8, qi9, qi10, hn, less_self, hs, Bool.not_true]
  · have hs : (a == b) = false := by simp [he]
    rw [if_neg he]
    cases c1 : Op.bytesLess a b <;> simp (dsimp := false) (disch := first | omega | (simp only [LENs] <;> omega) | fail) only [L.cmp_Compare_string, go_sem, reduceIte, reduceCtorEq, qn0, qn1, qn2, qn3, qn4, qn5, qn6, qn7, qn8, qi0, qi1, qi2, qi3, qi4, qi5, qi6, qi7, qi8, qi9, qi10, hn, c1, hs, Bool.not_false]
theorem go_nOrder {a b : Ety} (ha : a.name.length ≤ 1000000000000) (hb : b.name.length ≤ 1000000000000) : S E F.names_Order [.agg a.cells, .agg b.cells] [] = some (.int .i64 (cmpB (keyE a) (keyE b)), []) := by
  rw [S_of fn_names_Order rfl rfl]
  unfold keyE
  by_cases h1 : a.mode = 16384
  · by_cases h2 : b.mode = 16384 <;> simp (dsimp := false) (disch := first | omega | (simp only [LENs] <;> omega) | fail) only [L.names_Order, go_sem, reduceIte, reduceCtorEq, qn0, qn1, qn2, qn3, qn4, qn5, qn6, qn7, qn8, qi0, qi1, qi2, qi3, qi4, qi5, qi6, qi7, qi8, qi9, qi10, h1, h2, go_cmpE]
  · by_cases h2 : b.mode = 16384 <;> simp (dsimp := false) (disch := first | omega | (simp only [LENs] <;> omega) | fail) only [L.names_Order, go_sem, reduceIte, reduceCtorEq, qn0, qn1, qn2, qn3, qn4, qn5, qn6, qn7, qn8, qi0, qi1, qi2, qi3, qi4, qi5, qi6, qi7, qi8, qi9, qi10, h1, h2, go_cmpE]
end Cod
namespace Cod
open Go
instance : Inhabited Ety := ⟨0, [], List.replicate 32 0, by simp⟩
def etys (l : List Ety) : List AV := l.flatMap Ety.cells
def eat (l : List Ety) (i : Nat) : Ety := l.getD i default
theorem etys_length (l : List Ety) : (etys l).length = 34 * l.length := recs_length ety_len l
theorem flats_etys (l : List Ety) : flats (etys l) = true := recs_flats ety_flats l
theorem hards_etys (l : List Ety) : hards (etys l) = true := recs_hards ety_hards l
theorem leadss_etys (l : List Ety) : leadss (etys l) = false := recs_leadss ety_leads l
theorem refsOfs_etys (l : List Ety) : refsOfs (etys l) = [] := recs_refs ety_refs l
theorem rens_etys (f : Site → Nat → Option (Site × Nat)) (l : List Ety) : rens f (etys l) = etys l := recs_rens f (ety_rens f) l
theorem sub_etys {l : List Ety} {i : Nat} (h : i < l.length) : sub (etys l) (i * 34) 34 = (eat l i).cells := recs_sub ety_len h
theorem ety0z : (AV.int .i64 0 :: .str [] :: zer (.int .u8 0) 32) = (default : Ety).cells := rfl
theorem ety0b : (AV.int .i64 0 :: .str [] :: ofBytes (List.replicate 32 0)) = (default : Ety).cells := rfl
theorem over_ety (a b : Ety) : over a.cells 0 b.cells = b.cells := by
  unfold over; exact overall (by rw [ety_len, ety_len])
theorem ety_id (e : Ety) : sub e.cells 2 32 = ofBytes e.id := by
  simp only [sub, Ety.cells, List.drop_succ_cons, List.drop_zero]
  exact List.take_of_length_le (by rw [ofBytes_length, e.hid]; exact Nat.le_refl _)
theorem take_ety (e : Ety) : e.cells.take 34 = e.cells := List.take_of_length_le (by rw [ety_len]; exact Nat.le_refl _)
attribute [go_sem] etys_length flats_etys hards_etys leadss_etys refsOfs_etys rens_etys sub_etys ety0z ety0b over_ety ety_id take_ety
end Cod
namespace Cod
open Go
def ints64 (l : List Int) : List AV := l.map (.int .i64)
theorem ints64_length (l : List Int) : (ints64 l).length = l.length := by simp [ints64]
theorem findK_strs (n : List UInt8) : ∀ (ks : List (List UInt8)) (j : Nat), findK true (.str n) (strs ks) j = some (if n ∈ ks then some (j + ks.idxOf n) else none) := by
  intro ks
  induction ks with
  | nil => intro j; rfl
  | cons k ks ih =>
    intro j
    show findK true (.str n) (.str k :: strs ks) j = _
    unfold findK
    by_cases h : n = k
    · subst h
      simp [keyEq]
    · have e : keyEq true (.str n) (.str k) = some false := by simp [keyEq, h]
      rw [e]
      simp only
      rw [ih (j + 1)]
      by_cases hm : n ∈ ks
      · have e2 : (k :: ks).idxOf n = ks.idxOf n + 1 := by
          rw [List.idxOf_cons]
          have : (k == n) = false := by simp [Ne.symm h]
          rw [this]; rfl
        rw [if_pos hm, if_pos (List.mem_cons_of_mem _ hm), e2]
        congr 2; omega
      · rw [if_neg hm, if_neg (by simp [h, hm])]
structure MapOK (seen : List (List UInt8)) (ks : List (List UInt8)) (vs : List Int) : Prop where
  len : vs.length = ks.length
  mem : ∀ n, n ∈ ks ↔ n ∈ seen
  pos : ∀ v ∈ vs, 1 ≤ v ∧ v ≤ seen.length
theorem MapOK.nil : MapOK [] [] [] := ⟨rfl, fun _ => Iff.rfl, fun v h => by simp at h⟩
theorem MapOK.old {seen ks : List (List UInt8)} {vs : List Int} (h : MapOK seen ks vs) {n : List UInt8} (hn : n ∈ ks) : ∃ v, vs[ks.idxOf n]? = some v ∧ 1 ≤ v ∧ v ≤ seen.length ∧ MapOK (seen ++ [n]) ks (vs.set (ks.idxOf n) (v + 1)) := by
  have hi : ks.idxOf n < vs.length := by rw [h.len]; exact List.idxOf_lt_length_of_mem hn
  obtain ⟨v, hv⟩ : ∃ v, vs[ks.idxOf n]? = some v := ⟨_, List.getElem?_eq_getElem hi⟩
  obtain ⟨p1, p2⟩ := h.pos v (List.mem_of_getElem? hv)
  refine ⟨v, hv, p1, p2, ⟨by rw [List.length_set]; exact h.len, ?_, ?_⟩⟩
  · intro m
    rw [h.mem, List.mem_append, List.mem_singleton]
    constructor
    · exact .inl
    · rintro (h1 | h1)
      · exact h1
      · rw [h1]; exact (h.mem n).1 hn
  · intro x hx
    rw [List.length_append, List.length_singleton]
    rcases List.mem_or_eq_of_mem_set hx with h1 | h1
    · have := h.pos x h1; omega
    · omega
theorem MapOK.new {seen ks : List (List UInt8)} {vs : List Int} (h : MapOK seen ks vs) {n : List UInt8} (hn : n ∉ ks) : MapOK (seen ++ [n]) (ks ++ [n]) (vs ++ [1]) := by
  refine ⟨by simp [h.len], ?_, ?_⟩
  · intro m
    simp only [List.mem_append, List.mem_singleton, h.mem]
  · intro x hx
    rw [List.length_append, List.length_singleton]
    rcases List.mem_append.1 hx with h1 | h1
    · have := h.pos x h1; omega
    · rw [List.mem_singleton.1 h1]; omega
end Cod
namespace Cod
open Go
def octL : Nat → Nat → List UInt8 → List UInt8
  | 0, _, acc => acc
  | f + 1, u, acc => if u < 8 then byt (48 + (u : Int)) :: acc else octL f (u / 8) (byt (48 + (u % 8 : Nat)) :: acc)
def octT (m : Int) : List UInt8 := (if m < 0 then [45] else []) ++ octL 22 m.natAbs []
theorem octL_len : ∀ (f u : Nat) (acc : List UInt8), (octL f u acc).length ≤ f + acc.length := by
  intro f
  induction f with
  | zero => intro u acc; simp [octL]
  | succ f ih =>
    intro u acc
    unfold octL
    split
    · simp; omega
    · have := ih (u / 8) (byt (48 + (u % 8 : Nat)) :: acc)
      simp only [List.length_cons] at this
      omega
theorem octT_len (m : Int) : (octT m).length ≤ 23 := by
  unfold octT
  have := octL_len 22 m.natAbs []
  rw [List.length_append]
  simp only [List.length_nil] at this
  split <;> simp <;> omega
end Cod

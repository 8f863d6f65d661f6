/- object.PutTree, walked in the model. -/
import Derived.Deep.Cut
import Derived.Deep.RegionWith
import Derived.Lib.BufferOld
import Derived.Shelf.Strings.BuilderK
import Derived.WalkKit
import Derived.BigCall
import Derived.BigGuard
import Derived.Deep.MidRow
import Derived.Test.YthlnjgdoodjgoaaGreatDoorXTxt5
import Derived.Test.YthlnjgdoodjgoaaGreatDoorXShelf1
import Derived.Test.YthlnjgdoodjgoaaGreatDoorXTxt1
import Derived.Test.YthlnjgdoodjgoaaGreatDoorXTxt4
import Derived.Test.YthlnjgdoodjgoaaGreatDoorXTxt3
set_option linter.unusedSimpArgs false
set_option linter.unusedVariables false
namespace Cod
open Go Go.RowKit Go.Proofs Go.Shelf
set_option maxRecDepth 1000000
set_option maxHeartbeats 6400000 in
theorem put_tree {l : List Ety} (hl : TreeOK l) {p : Option Addr} {b0 o0 cap : Nat} {w : World} (hW : Start w) (hv : VR (ctx [] LaE w) (.lst (etys l) l.length) (.slice p l.length cap)) (hp : 0 < l.length → p = some ⟨b0, o0, none⟩) (hrow : ∀ k, k < l.length → w.rangeAt b0 (o0 + k * 34) (valsE (eat l k))) (hb0 : 0 < l.length → b0 < w.heap.size) :
    Calls Tryz.prog 11 #[.slice p l.length cap] w fun e w' => Below w.heap.size w w' ∧ ((entE l ≠ 0 ∧ e = .returned (.tuple #[.slice none 0 0, .int .i64 (entE l)])) ∨ (entE l = 0 ∧ ∃ v, e = .returned (.tuple #[v, .int .i64 0]) ∧ w'.ownsRow w.heap.size 5 1 v (treeB l).length ((treeB l).map fun b => Value.int .u8 b.toNat))) := by
  have hi39 : (Tryz.prog.info? 58).map (·.size) = some 34 := by kernel_rfl
  by_cases he : entE l = 0
  · go_enter Tryz.func11, Tryz.ntmps11
    go_wp2_with (go_at_call 41; refine (ent_calls hl hW hv).mono ?_; rw [he]; rintro e W1 ⟨rfl, hb1⟩)
    go_loopw [15] (fun i wr => ∃ k : Nat, i = .int .i64 k ∧ k ≤ l.length ∧ Lib.IsBuffer 83 5 W1.heap.size W1.heap.size (Lib.byteCells (treeB (l.take k))) wr ∧ Below W1.heap.size W1 wr) (fun i _ => l.length - (intOf i).toNat)
    case atStart =>
      exact ⟨0, rfl, Nat.zero_le _, ⟨Nat.le_refl _, .slice none 0 0, 0, heap_alloc_new W1 _, World.ownsRow_nil _ _ _ _, by simp [Value.ownBlock]⟩, (Below.refl _ W1).alloc (Nat.le_refl _) _⟩
    case round =>
      obtain ⟨k, rfl, hk, hI, hbw⟩ := hrel
      have hbel : Below w.heap.size w wr := hb1.trans ⟨hbw.os, hbw.tape, hbw.output, hbw.size, fun j hj => hbw.block j (Nat.lt_of_lt_of_le hj hb1.size)⟩
      by_cases hlt : k < l.length
      · obtain rfl := hp (by omega)
        have hb0 := hb0 (by omega)
        have hrange : wr.rangeAt b0 (o0 + k * 34) (valsE (eat l k)) := fun j v hj => (hbel.cell (p := ⟨b0, o0 + k * 34 + j, none⟩) hb0).trans (hrow k hlt j v hj)
        go_upto_region 8 with (first | (refine wpList_load_mid rfl 58 _ rfl b0 (o0 + k * 34) (by first | rfl | simp [Addr.add_mid]) (valsE (eat l k)) _ hrange Tryz.underlying58 rfl (by rw [valsE_len]; exact hi39) ?_) | (refine wpList_store_mid rfl 58 _ _ rfl wr.heap.size 0 (valsE (eat l k)).toArray (by rfl) (by rfl) ?_ ?_ (vals_one _) ?_))
        · intro j hj
          first | rw [List.size_toArray, valsE_len] at hj | rw [valsE_len] at hj
          refine ⟨?_, ?_⟩
          · simp only [World.cell?, heap_alloc_new]
            rw [if_neg (by simp), Nat.zero_add, Array.getElem?_eq_getElem (by simpa using hj)]; rfl
          · simp only [World.frozen?, heap_alloc_new]
            simp
        · first | (rw [List.size_toArray, valsE_len]; exact hi39) | rw [valsE_len]
        · refine with_var (p := Code.wp _ _ _ _) (T := 58) (vals := valsE (eat l k)) (by rw [valsE_len]; rfl) ?_
          intro W3 hva
          have hn1 : wr.heap.size < W3.heap.size := by rw [hva.size]; omega
          have c0 : W3.cell? ⟨wr.heap.size, 0, none⟩ = some (.int .i64 (eat l k).mode) := hva.cell 0 _ rfl
          have c1 : W3.cell? ⟨wr.heap.size, 1, none⟩ = some (.string ⟨(eat l k).name.toArray⟩) := hva.cell 1 _ rfl
          have hI3 := hI.old hva.below
          have hb3 : Below w.heap.size w W3 := hbel.trans ⟨hva.below.os, hva.below.tape, hva.below.output, hva.below.size, fun j hj => hva.below.block j (Nat.lt_of_lt_of_le hj hbel.size)⟩
          have hS3 : Start W3 := hW.below hb3
          have hm := hl.2.1 k
          have hF : Calls Tryz.prog 43 #[.int .i64 (eat l k).mode, .int .i64 8] W3.drew fun e W4 => e = .returned (.string ⟨(octT (eat l k).mode).toArray⟩) ∧ W4.cell? ⟨wr.heap.size, 1, none⟩ = some (.string ⟨(eat l k).name.toArray⟩) ∧ Below wr.heap.size wr W4 ∧ W3.heap.size ≤ W4.heap.size ∧ (∀ j, j < W3.heap.size → W4.heap[j]? = W3.heap[j]?) := by
            have hSd : Start W3.drew := hS3.below ⟨rfl, rfl, rfl, Nat.le_refl _, fun _ _ => rfl⟩
            refine (fmt_calls hm.1 hm.2 hSd).mono ?_
            rintro e W4 ⟨rfl, hb4x⟩
            have hb4 : Below W3.heap.size W3 W4 := ⟨hb4x.os, hb4x.tape, hb4x.output, hb4x.size, hb4x.block⟩
            exact ⟨rfl, (hb4.cell (p := ⟨wr.heap.size, 1, none⟩) hn1).trans c1, hva.below.trans ⟨hb4.os, hb4.tape, hb4.output, hb4.size, fun j hj => hb4.block j (by omega)⟩, hb4.size, hb4.block⟩
          have hts := treeB_small he
          have htk := treeB_take l k
          have hol := octT_len (eat l k).mode
          have hnl := hl.1 k
          obtain ⟨T1, hT1⟩ : ∃ T1 : ByteArray, T1 = ⟨(octT (eat l k).mode).toArray⟩ := ⟨_, rfl⟩
          obtain ⟨T2, hT2⟩ : ∃ T2 : ByteArray, T2 = ⟨(eat l k).name.toArray⟩ := ⟨_, rfl⟩
          have z1 : T1.size ≤ 23 := by rw [hT1]; simpa [ByteArray.size] using hol
          have z2 : T2.size ≤ 1000000000 := by rw [hT2]; simpa [ByteArray.size] using hnl
          rw [← hT1, ← hT2] at hF
          rw [← hT2] at c1
          have d1 : T1.data.toList = octT (eat l k).mode := by rw [hT1]
          have d2 : T2.data.toList = (eat l k).name := by rw [hT2]
          clear hT1 hT2
          have g1 : ¬ 9223372036854775807 < T1.size + 1 := by omega
          have g2 : ¬ 9223372036854775807 < T1.size + 1 + T2.size := by omega
          have g3 : ¬ 9223372036854775807 < T1.size + 1 + T2.size + 1 := by omega
          have g4 : ¬ 9223372036854775807 ≤ T1.size := by omega
          have g5 : ¬ 9223372036854775807 ≤ T1.size + 1 + T2.size := by omega
          go_region_with (first | (go_at_call 43; refine hF.mono ?_; rintro e W4 ⟨rfl, c1', hb4, hz4, hk4⟩; have hI4 := hI.old hb4) | (go_at_call 42; refine Calls.mono (Tryz.Buffer_WriteString_kept W1.heap.size W1.heap.size _ _ W4 hI4 (by have := hbw.size; have := hb4.size; omega) (one_bytes _) (by rw [Lib.byteCells_length]; simp only [ByteArray.size_append]; have e1 : (⟨#[32]⟩ : ByteArray).size = 1 := rfl; have e2 : (⟨#[0]⟩ : ByteArray).size = 1 := rfl; omega)) ?_; rintro e W5 ⟨rfl, hI5, hb5, hk5⟩))
          all_goals have hsrc := src_id hva (by decide) hI.lt hk4 hk5
          all_goals go_wp2_with (go_at_call 44; refine Calls.mono (Tryz.Buffer_Write_any W1.heap.size W1.heap.size _ (Lib.byteCells (eat l k).id) ⟨wr.heap.size, 2, none⟩ 32 32 W5 hI5 (by have := hbw.size; have := hb4.size; have := hb5.size; omega) (by rw [cells_app]; exact one_bytes _) (by rw [Lib.byteCells_length]; exact (eat l k).hid) (by have := hI.lt; show wr.heap.size ≠ W1.heap.size; omega) hsrc (one_bytes _) (by rw [List.length_append, Lib.byteCells_length, Lib.byteCells_length, cat_data d1 d2]; simp only [List.length_append, List.length_cons, List.length_nil]; omega)) ?_; rintro e W6 ⟨rfl, hI6, hb6, hk6⟩)
          all_goals rw [cat_tree hlt d1 d2] at hI6
          all_goals go_roundw
          all_goals first
            | exact ⟨k + 1, by rw [wrap64_succ (by have := hl.2.2; omega)], by omega, hI6, hbw.trans ((below_weak hb4 hbw.size).trans (hb5.trans hb6))⟩
            | (rw [wrap64_succ (by have := hl.2.2; omega)]; simp only [intOf]; omega)
      · obtain rfl : k = l.length := by omega
        rw [List.take_length] at hI
        go_wp2_with (go_at_call 45; refine (Tryz.Buffer_Bytes W1.heap.size W1.heap.size _ wr hI).mono ?_; rintro e W2 ⟨v, rfl, hown, n, rfl⟩)
        go_ret2
        refine ⟨hbel.trans ⟨rfl, rfl, rfl, Nat.le_refl _, fun _ _ => rfl⟩, .inr ⟨he, v, rfl, ?_⟩⟩
        have e1 : Lib.byteCells (treeB l) = (treeB l).map fun b => Value.int .u8 b.toNat := rfl
        rw [e1, List.length_map] at hown
        exact owns_mono hown hb1.size
  · go_enter Tryz.func11, Tryz.ntmps11
    go_wp2_with (go_at_call 41; refine (ent_calls hl hW hv).mono ?_; rintro e W1 ⟨rfl, hb1⟩)
    go_ret2
    exact ⟨hb1, .inl ⟨he, rfl⟩⟩
end Cod
namespace Cod
open Go Go.RowKit Go.Proofs Go.Shelf
set_option maxRecDepth 1000000
set_option maxHeartbeats 2000000 in
theorem bc_fresh (b : Nat) (w : World) (h0 : w.cell? ⟨b, 0, none⟩ = some (.pointer none)) (hsh : w.shape? b = some (123, 2)) (hfz : w.frozen? ⟨b, 0, none⟩ = false) :
    Calls Tryz.prog 114 #[.pointer (some ⟨b, 0, none⟩)] w fun e w' => e = .returned (.tuple #[]) ∧ w' = w.setCell ⟨b, 0, none⟩ (.pointer (some ⟨b, 0, none⟩)) := by
  obtain ⟨j, hj, hjs⟩ := Option.map_eq_some_iff.1 Tryz.Builder_Extra_169.sizeBuilder
  go_enter Tryz.func114, Tryz.ntmps114
  go_wp2
  rw [Lib.run_to_unsafe w ⟨b, 0, none⟩ Tryz.underlying121 Tryz.underlying190 hj (by rw [hjs]; decide) hsh (Nat.zero_lt_succ 1)]
  simp only [Result.andThen]
  rw [Oper.upon_value]
  go_wp2
  rw [run_callFunc_extern Tryz.func152 (by kernel_rfl) (by kernel_rfl) (by kernel_rfl) (e := Extern.AbiNoEscape.same) (by kernel_rfl)]
  rw [Lib.run_noEscape]
  simp only [Result.andThen]
  rw [Oper.upon_value]
  go_wp2
  rw [Lib.run_from_unsafe w ⟨b, 0, none⟩ Tryz.underlying190 Tryz.underlying121 hj hsh Tryz.Builder_Extra_169.liesBuilder]
  simp only [Result.andThen]
  rw [Oper.upon_value]
  go_wp2
  go_end0
  exact ⟨rfl, rfl⟩
set_option maxHeartbeats 2000000 in
theorem bc_used (b : Nat) (w : World) (h0 : w.cell? ⟨b, 0, none⟩ = some (.pointer (some ⟨b, 0, none⟩))) :
    Calls Tryz.prog 114 #[.pointer (some ⟨b, 0, none⟩)] w fun e w' => e = .returned (.tuple #[]) ∧ w' = w := by
  obtain ⟨j, hj, _⟩ := Option.map_eq_some_iff.1 Tryz.Builder_Extra_169.sizeBuilder
  go_enter Tryz.func114, Tryz.ntmps114
  go_wp2
  rw [Lib.run_neq_ptr_same w _ Tryz.underlying121 hj]
  go_wp2
  go_end0
  exact ⟨rfl, rfl⟩
theorem bc_k (B b : Nat) (bs : List Value) (w : World) (h : Lib.IsBuilderF 123 5 B b bs w) :
    Calls Tryz.prog 114 #[.pointer (some ⟨b, 0, none⟩)] w fun e w' => e = .returned (.tuple #[]) ∧ (Lib.BuilderAtF 123 5 B b (.pointer (some ⟨b, 0, none⟩)) bs w' ∧ Below B w w' ∧ Lib.OthersKept 5 (some b) w w') := by
  rcases h with h | h
  · refine (bc_fresh b w h.cell0 h.shape h.frozen0).mono ?_
    rintro e w' ⟨rfl, rfl⟩
    exact ⟨rfl, h.used _, (Below.refl B w).setCell (p := ⟨b, 0, none⟩) h.1 _, (Lib.OthersKept.refl _ _ w).setCell ⟨b, 0, none⟩ rfl _⟩
  · refine (bc_used b w h.cell0).mono ?_
    rintro e w' ⟨rfl, rfl⟩
    exact ⟨rfl, h, Below.refl B _, Lib.OthersKept.refl _ _ _⟩
set_option maxHeartbeats 2000000 in
theorem bwByte (B b : Nat) (bs : List Value) (c : Int) (w : World) (h : Lib.IsBuilderF 123 5 B b bs w) (hlen : bs.length + 1 ≤ 140737488355328) (hBw : B ≤ w.heap.size) :
    Calls Tryz.prog 102 #[.pointer (some ⟨b, 0, none⟩), .int .u8 c] w fun e w' => e = .returned .nilIface ∧ (Lib.BuilderAtF 123 5 B b (.pointer (some ⟨b, 0, none⟩)) (bs ++ [.int .u8 c]) w' ∧ Below B w w' ∧ Lib.OthersKept 5 (some b) w w') := by
  obtain ⟨i0, hi, hz0, hz1, hz2⟩ := info_parts Tryz.Builder_Extra_169.infoByte
  go_enter Tryz.func102, Tryz.ntmps102
  go_wp2_with (go_at_call 114; refine (bc_k B b bs _ h).mono ?_)
  rintro e w1 ⟨rfl, h1, hb1, hk1⟩
  obtain ⟨hB, v, hbk, hown, hne⟩ := h1
  have c0 : w1.cell? ⟨b, 0, none⟩ = some (.pointer (some ⟨b, 0, none⟩)) := by rw [Lib.cell_of_heap hbk]; rfl
  have c1 : w1.cell? ⟨b, 1, none⟩ = some v := by rw [Lib.cell_of_heap hbk]; rfl
  go_wp2_with (at_builtin; refine wpList_append_ownF _ rfl _ _ 23 rfl B 5 i0 (.int .u8 0) 1 1 Tryz.underlying23 hi hz0 hz1 hz2 rfl (by decide) _ _ _ rfl (hown.alloc _) ⟨w1.heap.size, 0, none⟩ 1 1 [.int .u8 c] rfl rfl ?c1 ?c2 ?c3 ?c4 ?c5 ?_)
  case c1 =>
    intro j u hj
    match j, hj with
    | 0, hj => simp at hj; subst hj; simp [Addr.add]
  case c2 => intro u hu; simp at hu; subst hu; rfl
  case c3 => unfold maxLen; omega
  case c4 => omega
  case c5 => have := hb1.size; simp; omega
  intro v' w2 hown' hgrow _
  have hlt : b < w1.heap.size := by
    rcases Nat.lt_or_ge b w1.heap.size with h' | h'
    · exact h'
    · simp [Array.getElem?_eq_none h'] at hbk
  have hb2 : w2.heap[b]? = some (.cells #[.pointer (some ⟨b, 0, none⟩), v] 123 (0, 0)) := by
    rw [hgrow.block b (by simp; omega) (fun e => hne e.symm), Lib.alloc_old w1 _ b hlt]
    exact hbk
  have d0 : w2.cell? ⟨b, 0, none⟩ = some (.pointer (some ⟨b, 0, none⟩)) := by rw [Lib.cell_of_heap hb2]; rfl
  have d1 : w2.cell? ⟨b, 1, none⟩ = some v := by rw [Lib.cell_of_heap hb2]; rfl
  have f1 : w2.frozen? ⟨b, 1, none⟩ = false := Lib.frozen_of_heap hb2 1
  obtain ⟨g, cap, rfl⟩ : ∃ g cap, v' = .slice (some ⟨g, 0, none⟩) (bs.length + 1) cap := by
    rcases hown'.2 with ⟨_, h0⟩ | ⟨g, cap, cur, fz, hv, _⟩
    · omega
    · exact ⟨g, cap, hv⟩
  go_wp2
  go_ret
  refine ⟨rfl, ?_, ?_, ((hk1.alloc _).grown hgrow (Lib.ownsRowF_kind (hown.alloc _))).setCell ⟨b, 1, none⟩ rfl _⟩
  · exact Lib.BuilderAtF.put (T := 123) (e := 5) hB hb2 (bs' := bs ++ [.int .u8 c]) (by simpa using hown') Tryz.Builder_Extra_169.neB5
  · exact ((hb1.alloc (by have := hb1.size; omega) _).grown hgrow (by have := hb1.size; simp; omega) (fun k hk => (hown.lt k hk).1)).setCell (p := ⟨b, 1, none⟩) hB _
end Cod
namespace Cod
open Go Go.RowKit Go.Proofs Go.Shelf
set_option maxRecDepth 1000000
theorem digit_at (i : Nat) (h : i < 16) : ∀ W, (Instr.index 9 (.string ⟨#[48, 49, 50, 51, 52, 53, 54, 55, 56, 57, 97, 98, 99, 100, 101, 102]⟩) (.int .u8 (i : Int))).run Tryz.prog W = .ok (.int .u8 (hexD i).toNat) W := by
  intro W
  rw [run_index_string W 9 _ .u8 _ Tryz.underlying9, dif_pos ⟨by omega, by show (i : Int) < 16; omega⟩]
  have : ∀ j : Fin 16, ∀ h, ((⟨#[48, 49, 50, 51, 52, 53, 54, 55, 56, 57, 97, 98, 99, 100, 101, 102]⟩ : ByteArray)[((j.val : Nat) : Int).toNat]'h) = hexD j.val := by decide
  rw [this ⟨i, h⟩]
theorem and15 (x : UInt8) : bits .and .u8 (x.toNat : Int) 15 = ((x.toNat % 16 : Nat) : Int) := by
  have key : ∀ n : Nat, n < 256 → bits .and .u8 (n : Int) 15 = ((n % 16 : Nat) : Int) := by decide +kernel
  exact key _ x.toNat_lt
set_option maxHeartbeats 4000000 in
theorem hex_calls {id : List UInt8} (hid : id.length = 32) {w : World} :
    Calls Tryz.prog 59 #[.agg (Lib.byteCells id).toArray] w fun e w' => e = .returned (.string ⟨(hexT id).toArray⟩) ∧ Below w.heap.size w w' := by
  have hi35 : (Tryz.prog.info? 35).map (·.size) = some (Lib.byteCells id).length := by rw [Lib.byteCells_length, hid]; kernel_rfl
  go_enter Tryz.func59, Tryz.ntmps59
  go_upto_region 3 with (refine wpList_load_mid rfl 35 _ rfl w.heap.size 0 (by rfl) (Lib.byteCells id) _ ?_ Tryz.underlying35 rfl hi35 ?_)
  · intro j v hj
    have hh : ((w.alloc (Obj.cells (Lib.byteCells id).toArray 35)).alloc (Obj.cells #[Value.pointer none, Value.slice none 0 0] 123)).heap[w.heap.size]? = some (.cells (Lib.byteCells id).toArray 35) := (Lib.alloc_old _ _ _ (by simp)).trans (heap_alloc_new _ _)
    rw [Lib.cell_of_heap hh]
    simpa using hj
  · have hb0 : Lib.BuilderAtF 123 5 w.heap.size (w.heap.size + 1) (.pointer none) [] ((w.alloc (Obj.cells (Lib.byteCells id).toArray 35)).alloc (Obj.cells #[Value.pointer none, Value.slice none 0 0] 123)) := by
      refine ⟨by omega, .slice none 0 0, ?_, World.ownsRowF_nil _ _ _ _, by simp [Value.ownBlock]⟩
      have := heap_alloc_new (w.alloc (Obj.cells (Lib.byteCells id).toArray 35)) (Obj.cells #[Value.pointer none, Value.slice none 0 0] 123)
      simpa using this
    have hbel : Below w.heap.size w ((w.alloc (Obj.cells (Lib.byteCells id).toArray 35)).alloc (Obj.cells #[Value.pointer none, Value.slice none 0 0] 123)) := ((Below.refl _ w).alloc (Nat.le_refl _) _).alloc (by simp) _
    have hsz : w.heap.size ≤ ((w.alloc (Obj.cells (Lib.byteCells id).toArray 35)).alloc (Obj.cells #[Value.pointer none, Value.slice none 0 0] 123)).heap.size := hbel.size
    generalize ((w.alloc (Obj.cells (Lib.byteCells id).toArray 35)).alloc (Obj.cells #[Value.pointer none, Value.slice none 0 0] 123)) = W1 at *
    go_loopw [7] (fun i wr => ∃ k : Nat, i = .int .i64 k ∧ k ≤ 32 ∧ Lib.IsBuilderF 123 5 w.heap.size (w.heap.size + 1) (Lib.byteCells (hexT (id.take k))) wr ∧ Below w.heap.size w wr) (fun i _ => 32 - (intOf i).toNat)
    case atStart => exact ⟨0, rfl, by omega, .inl hb0, hbel⟩
    case round =>
      obtain ⟨k, rfl, hk, hI, hbw⟩ := hrel
      by_cases hlt : k < 32
      · have hx : (Lib.byteCells id)[k]? = some (.int .u8 (id.getD k 0).toNat) := by
          rw [Lib.byteCells, List.getElem?_map, List.getElem?_eq_getElem (by omega)]
          simp [List.getD, show k < id.length by omega]
        have hT : id.take (k + 1) = id.take k ++ [id.getD k 0] := by
          rw [List.take_succ_eq_append_getElem (by omega)]
          simp [List.getD, show k < id.length by omega]
        generalize id.getD k 0 = x at hx hT
        have hix : ∀ W, (Instr.index 35 (.agg (Lib.byteCells id).toArray) (.int .i64 (k : Int))).run Tryz.prog W = .ok (.int .u8 x.toNat) W := fun W => by
          simp [Instr.index, run_underlying Tryz.underlying35, asIntOf, hlt, hx, go_sem]
        have hd1 := digit_at (x.toNat / 16) (by have := x.toNat_lt; omega)
        have hd2 := digit_at (x.toNat % 16) (by omega)
        rw [← and15] at hd2
        simp only [Int.natCast_ediv, Int.cast_ofNat_Int] at hd1
        have hl : (hexT (id.take k)).length = 2 * k := by
          rw [hexT_len, List.length_take]; omega
        have hl1 : (Lib.byteCells (hexT (id.take k))).length + 1 ≤ 140737488355328 := by rw [Lib.byteCells_length]; omega
        go_wp2_with (go_at_call 102; refine (bwByte _ _ _ _ _ hI hl1 hbw.size).mono ?_)
        rintro e W2 ⟨rfl, hA, hb2, _⟩
        have hl2 : (Lib.byteCells (hexT (id.take k)) ++ [Value.int .u8 (hexD (x.toNat / 16)).toNat]).length + 1 ≤ 140737488355328 := by rw [List.length_append, Lib.byteCells_length, List.length_singleton]; omega
        go_wp2_with (go_at_call 102; refine (bwByte _ _ _ _ _ (.inr hA) hl2 (Nat.le_trans hbw.size hb2.size)).mono ?_)
        rintro e W3 ⟨rfl, hA3, hb3, _⟩
        go_wp2
        refine ⟨⟨k + 1, rfl, by omega, .inr ?_, (hbw.trans hb2).trans hb3⟩, by simp [intOf]; omega⟩
        rw [hT]
        unfold hexT at hA3 ⊢
        rw [List.flatMap_append]
        simpa [hexB, Lib.byteCells] using hA3
      · obtain rfl : k = 32 := by omega
        have hne : hexT (id.take 32) = hexT id := by rw [List.take_of_length_le (by omega)]
        rw [hne] at hI
        go_wp2_with (go_at_call 71; refine (Tryz.Builder_String_any_k _ _ _ _ hI hbw.size).mono ?_)
        rintro e W2 ⟨rfl, _, hb2, _⟩
        go_wp2
        go_ret
        exact ⟨rfl, hbw.trans hb2⟩
end Cod
namespace Cod
open Go Go.RowKit Go.Proofs
set_option maxRecDepth 100000
theorem vrl_ofb {c : Ctx} : ∀ {l : List UInt8} {vs : List Value}, VRL c (ofBytes l) vs → vs = Lib.byteCells l := by
  intro l
  induction l with
  | nil => intro vs h; simpa [ofBytes, VRL, Lib.byteCells] using h
  | cons b l ih =>
    intro vs h
    rw [ofBytes_cons, VRL] at h
    obtain ⟨v, r, rfl, hv, hr⟩ := h
    rw [ih hr]
    simp only [VR] at hv
    rw [hv]; rfl
def kHex : List AV → Option AV
  | [.agg cs] => if isBytes cs = true ∧ cs.length = 32 then (bytesOf cs).map fun l => .str (hexT l) else none
  | _ => none
theorem ok_hex {E : Env} : PureOK2 Tryz.prog E F.sha_Hex kHex := by
  intro args v vs La w hg hv hr
  unfold kHex at hg
  split at hg
  · rename_i cs
    split at hg
    · rename_i hn
      obtain ⟨l, rfl⟩ := isBytes_some hn.1
      rw [bytesOf_ofBytes] at hg
      cases hg
      simp only [VRL] at hv
      obtain ⟨x, r, rfl, hx, rfl⟩ := hv
      simp only [VR] at hx
      obtain ⟨ws, rfl, hw⟩ := hx
      have hl : l.length = 32 := by have := hn.2; rwa [ofBytes_length] at this
      have hws : ws = (Lib.byteCells l).toArray := by
        have := vrl_ofb hw
        rw [← this]
      subst hws
      refine fn_of_calls Tryz.func59 (by rfl) (by kernel_rfl) ((hex_calls hl).mono fun e w' ⟨he, hb⟩ => ?_)
      exact ⟨_, he, fun c => by simp [VR], hb⟩
    · cases hg
  · cases hg
end Cod
namespace Cod
open Go Go.RowKit Go.Proofs Go.Shelf
set_option maxRecDepth 100000
def treeV (l : List Ety) : AV × Store := if entE l = 0 then (.tup [.buf (.r 0) 0 0 (treeB l).length 1, .int .i64 0], [(.r 0, ⟨0, true, true, false, ofBytes (treeB l)⟩)]) else (.tup [.nils, .int .i64 (entE l)], [])
open Classical in
noncomputable def kPutT (args : List AV) (σ : Store) : Option (AV × Store) :=
  if h : ∃ l, args = [.lst (etys l) l.length] ∧ σ = [] ∧ TreeOK l then some (treeV (choose h)) else none
theorem ofBytes_inj : ∀ {a b : List UInt8}, ofBytes a = ofBytes b → a = b := by
  intro a
  induction a with
  | nil => intro b h; cases b with
    | nil => rfl
    | cons => simp [ofBytes] at h
  | cons x a ih =>
    intro b h
    cases b with
    | nil => simp [ofBytes] at h
    | cons y b =>
      simp only [ofBytes, List.map_cons, List.cons.injEq, AV.int.injEq, true_and] at h
      have h1 : x = y := UInt8.toNat_inj.1 (by have := h.1; omega)
      rw [h1, ih (by simpa [ofBytes] using h.2)]
theorem ety_inj {a b : Ety} (h : a.cells = b.cells) : a = b := by
  unfold Ety.cells at h
  simp only [List.cons.injEq, AV.int.injEq, AV.str.injEq, true_and] at h
  obtain ⟨h1, h2, h30⟩ := h
  have h3 := ofBytes_inj h30
  clear h30
  cases a; cases b
  simp only at h1 h2 h3
  subst h1 h2 h3
  rfl
theorem etys_inj : ∀ {a b : List Ety}, etys a = etys b → a = b := by
  intro a
  induction a with
  | nil =>
    intro b h
    have := congrArg List.length h
    rw [etys_length, etys_length] at this
    cases b with
    | nil => rfl
    | cons => simp at this
  | cons x a ih =>
    intro b h
    cases b with
    | nil => have := congrArg List.length h; rw [etys_length, etys_length] at this; simp at this
    | cons y b =>
      have h' : x.cells ++ etys a = y.cells ++ etys b := h
      obtain ⟨h1, h2⟩ := List.append_inj h' (by rw [ety_len, ety_len])
      rw [ety_inj h1, ih h2]
theorem kPutT_eq {l : List Ety} (h : TreeOK l) : kPutT [.lst (etys l) l.length] [] = some (treeV l) := by
  have hx : ∃ l', [AV.lst (etys l) l.length] = [.lst (etys l') l'.length] ∧ ([] : Store) = [] ∧ TreeOK l' := ⟨l, rfl, rfl, h⟩
  unfold kPutT
  rw [dif_pos hx]
  have key : ∀ l', [AV.lst (etys l) l.length] = [.lst (etys l') l'.length] → l' = l := by
    intro l' hc
    injection hc with hc1 _
    injection hc1 with h1 h2
    exact (etys_inj h1).symm
  rw [key _ (Classical.choose_spec hx).1]
theorem lst_start {c' : Lay} {w : World} {cs : List AV} {n : Nat} {v : Value} (h : VR (ctx [] c' w) (.lst cs n) v) : VR (ctx [] LaE w) (.lst cs n) v := by
  refine VR_le ?_ _ _ h
  refine ⟨fun s g0 al h => by simp [ctx, tabS, getS] at h, fun b _ h => ?_, fun b _ _ => rfl, fun _ _ h => h, Nat.le_refl _⟩
  rcases h with ⟨s, e, o, he, _⟩ | h
  · simp [getS] at he
  · exact h.elim
theorem ok_putT {E : Env} (hE : E.glob = globOf) : RowOK Tryz.prog E F.object_PutTree kPutT := by
  intro args σa v σr hk La w vs hr hv hup
  unfold kPutT at hk
  split at hk
  · rename_i hx
    obtain ⟨q1, q2, q3⟩ := Classical.choose_spec hx
    generalize Classical.choose hx = l at *
    subst q1 q2
    simp only [Option.some.injEq] at hk
    simp only [VRL] at hv
    obtain ⟨x, r, rfl, hx, rfl⟩ := hv
    have hS := start_of hE hr
    have hx' := lst_start hx
    have hcase : ∃ p b0 o0 cap, x = .slice p l.length cap ∧ (0 < l.length → p = some ⟨b0, o0, none⟩) ∧ (0 < l.length → b0 < w.heap.size) ∧ ∀ k, k < l.length → w.rangeAt b0 (o0 + k * 34) (valsE (eat l k)) := by
      have h2 := hx'
      simp only [VR] at h2
      obtain ⟨_, h2⟩ := h2
      rcases h2 with ⟨h3, h4, h5⟩ | ⟨b, o, cap, h3, _, h4, _, h5⟩
      · exact ⟨none, 0, 0, 0, by rw [h5, h4], fun h => by omega, fun h => by omega, fun k hk => by omega⟩
      · refine ⟨_, b, o, cap, h3, fun _ => rfl, fun _ => h4, fun k hk => ?_⟩
        have := VRC_sub h5 (k * 34) 34
        rw [sub_etys hk] at this
        exact ety_range this
    obtain ⟨p, b0, o0, cap, rfl, hp, hb0, hrow⟩ := hcase
    refine fn_of_calls Tryz.func11 (by rfl) (by kernel_rfl) ((put_tree q3 hS hx' hp hrow hb0).mono fun e w' ⟨hb, hw⟩ => ?_)
    unfold treeV at hk
    rcases hw with ⟨he, rfl⟩ | ⟨he, v', rfl, hown⟩
    · rw [if_neg he] at hk
      cases hk
      exact ⟨_, rfl, La, rel_below hr hb, by simp [VR, VRL]⟩
    · rw [if_pos he] at hk
      cases hk
      have e1 : ((treeB l).map fun b => Value.int .u8 b.toNat) = ((treeB l).map fun b => ((b.toNat : Nat) : Int)).map (Value.int .u8) := by rw [List.map_map]; rfl
      rw [e1] at hown
      obtain ⟨La', h1, h2⟩ := rel_new hr hb hown
      have e2 : ((treeB l).map fun b => ((b.toNat : Nat) : Int)).map (AV.int .u8 ·) = ofBytes (treeB l) := by unfold ofBytes; rw [List.map_map]; rfl
      rw [e2] at h1 h2
      refine ⟨_, rfl, La', h1, ?_⟩
      simp only [VR, VRL]
      exact ⟨_, rfl, _, _, rfl, h2, _, _, rfl, rfl, rfl⟩
  · cases hk
theorem ext_cons {E : Env} {fn : Nat → Option LFn} {tab : List (Nat × (List AV → Store → Option (AV × Store)))} {glob : Nat → List AV} {f : Nat} {h : List AV → Store → Option (AV × Store)} (hx : Ext E ⟨fn, fun g => tab.lookup g, glob⟩) (h1 : E.known f = none) (h2 : E.fn f = none) : Ext E ⟨fn, fun g => ((f, h) :: tab).lookup g, glob⟩ where
  glob := hx.glob
  fn := hx.fn
  known g h' hk := by
    show ((f, h) :: tab).lookup g = some h'
    rw [List.lookup_cons]
    cases hb : g == f with
    | false => exact hx.known g h' hk
    | true =>
      rw [beq_iff_eq] at hb
      rw [hb, h1] at hk
      cases hk
  none g hk := by
    by_cases hb : g = f
    · right; rw [hb]; exact h2
    · rcases hx.none g hk with hn | hn
      · left
        show ((f, h) :: tab).lookup g = none
        rw [List.lookup_cons, beq_eq_false_iff_ne.2 hb]
        exact hn
      · exact .inr hn
noncomputable def knownTabT : List (Nat × (List AV → Store → Option (AV × Store))) := (F.sha_Hex, pureK kHex) :: (F.object_PutTree, kPutT) :: knownTab
noncomputable def EE : Env := ⟨fnOf, fun f => knownTabT.lookup f, globOf⟩
theorem fnsT_ok : FnsOK Tryz.prog EE := fnsOK_of (by kernel_rfl) all_ok (fun _ => rfl)
theorem knownT_ok : KnownOK Tryz.prog EE := by
  intro f h hf
  have hm := lookup_memK (show knownTabT.lookup f = some h from hf)
  unfold knownTabT at hm
  rcases List.mem_cons.1 hm with hm | hm
  · cases hm; exact row_pure2 ok_hex
  rcases List.mem_cons.1 hm with hm | hm
  · cases hm; exact ok_putT rfl
  · exact tabG_ok (E := EE) rfl (f, h) hm
theorem ext_base : Ext E ⟨fnOf, fun g => knownTab.lookup g, globOf⟩ := ⟨rfl, rfl, fun _ _ hk => hk, fun _ hk => .inl hk⟩
theorem extE : Ext E EE := ext_cons (ext_cons ext_base rfl rfl) rfl rfl
theorem envP : EnvP EE := ⟨extE, fun {id} h => by
  rw [S_eq, show EE.known F.sha_Hex = some (pureK kHex) from rfl]
  show pureK kHex [.agg (ofBytes id)] [] = _
  simp only [pureK, kHex, List.isEmpty_nil, if_true, isBytes_of, ofBytes_length, h, and_self, bytesOf_ofBytes, Option.map_some]⟩
theorem S_ofT {f : Nat} {l : LFn} (hf : fnOf f = some l) (hk : EE.known f = none) {args : List AV} {σ : Store} (hn : args.length = l.np) : S EE f args σ = X EE l.results [.c l.code] ⟨params 0 args, σ⟩ := S_fn hk hf hn
theorem S_putT {l : List Ety} (h : TreeOK l) : S EE F.object_PutTree [.lst (etys l) l.length] [] = some (treeV l) := by
  rw [S_eq, show EE.known F.object_PutTree = some kPutT from rfl]
  exact kPutT_eq h
end Cod
namespace Cod
open Go
theorem eqCells_bytes : ∀ (n : Nat) (x y : List UInt8) (ks : List Nat) (xs ys : List AV), x.length = n → y.length = n → eqCells (List.replicate n 0 ++ ks) (ofBytes x ++ xs) (ofBytes y ++ ys) = (eqCells ks xs ys).map (x == y && ·) := by
  intro n
  induction n with
  | zero =>
    intro x y ks xs ys hx hy
    obtain rfl := List.eq_nil_of_length_eq_zero hx
    obtain rfl := List.eq_nil_of_length_eq_zero hy
    simp [ofBytes]
  | succ n ih =>
    intro x y ks xs ys hx hy
    cases x with
    | nil => simp at hx
    | cons a x =>
      cases y with
      | nil => simp at hy
      | cons b y =>
        have h1 := ih x y ks xs ys (by simpa using hx) (by simpa using hy)
        have e1 : ofBytes (a :: x) = .int .u8 a.toNat :: ofBytes x := rfl
        have e2 : ofBytes (b :: y) = .int .u8 b.toNat :: ofBytes y := rfl
        rw [e1, e2, List.replicate_succ, List.cons_append, List.cons_append, List.cons_append]
        simp only [eqCells, if_true, h1, Option.map_map]
        congr 1
        funext z
        have : ((a.toNat : Int) == b.toNat) = (a == b) := by
          by_cases h : a = b
          · subst h; simp
          · have h2 : ¬ ((a.toNat : Int) = b.toNat) := fun e => h (UInt8.toNat_inj.1 (by omega))
            rw [beq_eq_false_iff_ne.2 h, beq_eq_false_iff_ne.2 h2]
        simp only [Function.comp, this, List.cons_beq_cons, Bool.and_assoc]
theorem eqCells_32 {x y : List UInt8} (hx : x.length = 32) (hy : y.length = 32) : eqCells [0, 0, 0, 0, 0, 0, 0, 0, 0, 0, 0, 0, 0, 0, 0, 0, 0, 0, 0, 0, 0, 0, 0, 0, 0, 0, 0, 0, 0, 0, 0, 0] (ofBytes x) (ofBytes y) = some (x == y) := by
  have h := eqCells_bytes 32 x y [] [] [] hx hy
  rw [List.append_nil, List.append_nil, List.append_nil] at h
  rw [show [0, 0, 0, 0, 0, 0, 0, 0, 0, 0, 0, 0, 0, 0, 0, 0, 0, 0, 0, 0, 0, 0, 0, 0, 0, 0, 0, 0, 0, 0, 0, 0] = List.replicate 32 0 from rfl, h]
  simp [eqCells]
end Cod
namespace Cod
open Go
def wE : Ety := ⟨33188, [97], List.replicate 32 0, by simp⟩
theorem wE_tree : treeB [wE] = [49, 48, 48, 54, 52, 52, 32, 97, 0] ++ List.replicate 32 0 := by decide +kernel
theorem wE_ent : entE [wE] = 0 := by decide +kernel
theorem wE_ok : TreeOK [wE] := by
  refine ⟨fun i => ?_, fun i => ?_, by decide⟩
  · cases i with
    | zero => decide
    | succ i => show (default : Ety).name.length ≤ _; decide
  · cases i with
    | zero => decide
    | succ i => show _ ≤ (default : Ety).mode ∧ (default : Ety).mode ≤ _; decide
theorem go_putW : S EE F.object_PutTree [.lst (.int .i64 33188 :: .str [97] :: ofBytes (List.replicate 32 0)) 1] [] = some (.tup [.buf (.r 0) 0 0 41 1, .int .i64 0], [(.r 0, ⟨0, true, true, false, ofBytes (treeB [wE])⟩)]) := by
  have h := S_putT wE_ok
  have e : treeV [wE] = (.tup [.buf (.r 0) 0 0 41 1, .int .i64 0], [(.r 0, ⟨0, true, true, false, ofBytes (treeB [wE])⟩)]) := by
    unfold treeV; rw [if_pos wE_ent, wE_tree]; rfl
  rw [e] at h
  exact h
theorem hdr_w : hdrT 3 3 = [98, 108, 111, 98, 32, 51, 0] := by
  unfold hdrT
  rw [show (3 : Int) = ((3 : Nat) : Int) from rfl, Lib.itoa_nonneg, Lib.decDigits_one (by omega)]; rfl
theorem obj_w : objE 3 3 = 0 := by decide +kernel
theorem go_idW : S EE F.object_Id [.agg [.int .i64 3, .lst (ofBytes [97, 98, 99]) 3]] [] = some (.tup [.agg (ofBytes (shaF [98, 108, 111, 98, 32, 51, 0, 97, 98, 99])), .int .i64 0], []) := by
  have h := S_ext extE (go_oid (k := 3) (p := [97, 98, 99]) (n := 3) rfl (by simp))
  unfold idV idF at h
  simp only [List.length_cons, List.length_nil, Nat.zero_add, Nat.reduceAdd] at h
  rw [obj_w, if_pos rfl] at h
  rw [show (((3 : Nat)) : Int) = 3 from rfl, hdr_w] at h
  exact h
theorem go_awake : S EE F.law07_awake [] [] = some (.bool true, []) := by
  have h1 : S EE F.object_Id [.agg [.int .i64 3, .lst [.int .u8 97, .int .u8 98, .int .u8 99] 3]] [] = some (.tup [.agg (ofBytes (shaF [98, 108, 111, 98, 32, 51, 0, 97, 98, 99])), .int .i64 0], []) := go_idW
  have h2 := go_putW
  have h3 : S EE F.sha_Sum [.lst [.int .u8 98, .int .u8 108, .int .u8 111, .int .u8 98, .int .u8 32, .int .u8 51, .int .u8 0, .int .u8 97, .int .u8 98, .int .u8 99] 10] [] = some (.agg (ofBytes (shaF [98, 108, 111, 98, 32, 51, 0, 97, 98, 99])), []) := S_ext extE (go_sum (p := [98, 108, 111, 98, 32, 51, 0, 97, 98, 99]) (by simp))
  have hs : (shaF [98, 108, 111, 98, 32, 51, 0, 97, 98, 99]).length = 32 := by unfold shaF; simp [idOf]
  generalize shaF [98, 108, 111, 98, 32, 51, 0, 97, 98, 99] = d at *
  have ht : (treeB [wE]).length = 41 := by rw [wE_tree]; rfl
  have h9 : sub (treeB [wE]) 0 9 = [49, 48, 48, 54, 52, 52, 32, 97, 0] := by rw [wE_tree]; rfl
  have h9' : (treeB [wE]).take 9 = [49, 48, 48, 54, 52, 52, 32, 97, 0] := by rw [wE_tree]; rfl
  generalize treeB [wE] = tr at *
  have s3 : sub [AV.int .u8 97, AV.int .u8 98, AV.int .u8 99] 0 3 = [.int .u8 97, .int .u8 98, .int .u8 99] := rfl
  have s10 : sub [AV.int .u8 98, AV.int .u8 108, AV.int .u8 111, AV.int .u8 98, AV.int .u8 32, AV.int .u8 51, AV.int .u8 0, AV.int .u8 97, AV.int .u8 98, AV.int .u8 99] 0 10 = [.int .u8 98, .int .u8 108, .int .u8 111, .int .u8 98, .int .u8 32, .int .u8 51, .int .u8 0, .int .u8 97, .int .u8 98, .int .u8 99] := rfl
  have s34 : sub (AV.int .i64 33188 :: AV.str [97] :: ofBytes (List.replicate 32 0)) 0 34 = AV.int .i64 33188 :: AV.str [97] :: ofBytes (List.replicate 32 0) := rfl
  have o1 : over (default : Ety).cells 0 [AV.int .i64 33188] = AV.int .i64 33188 :: AV.str [] :: ofBytes (List.replicate 32 0) := rfl
  have o2 : over (AV.int .i64 33188 :: AV.str [] :: ofBytes (List.replicate 32 0)) 1 [AV.str [97]] = AV.int .i64 33188 :: AV.str [97] :: ofBytes (List.replicate 32 0) := rfl
  have l34 : (AV.int .i64 33188 :: AV.str [97] :: ofBytes (List.replicate 32 0)).length = 34 := rfl
  have o3 : over (default : Ety).cells 0 (AV.int .i64 33188 :: AV.str [97] :: ofBytes (List.replicate 32 0)) = AV.int .i64 33188 :: AV.str [97] :: ofBytes (List.replicate 32 0) := rfl
  have o4 : over (ofBytes (List.replicate 32 0)) 0 (ofBytes d) = ofBytes d := over_ofBytes_all (by rw [hs]; rfl)
  have q4 : eqCells [0, 0, 0, 0, 0, 0, 0, 0, 0, 0, 0, 0, 0, 0, 0, 0, 0, 0, 0, 0, 0, 0, 0, 0, 0, 0, 0, 0, 0, 0, 0, 0] (ofBytes d) (ofBytes d) = some true := by rw [eqCells_32 hs hs]; simp
  rw [S_ofT fn_law07_awake rfl rfl]
  simp (dsimp := false) (disch := first | omega | (simp only [LENs, etys_length, ints64_length, treeB_length] <;> omega) | fail) only [L.law07_awake, go_sem, reduceIte, reduceCtorEq, Nat.reduceEqDiff, Nat.reduceAdd, Nat.reduceSub, Nat.reduceMul, Nat.reduceDiv, Nat.reduceMod, Nat.reduceBEq, Nat.reduceLeDiff, Nat.reduceLT, Int.reduceEq, Int.reduceNe, Int.reduceLT, Int.reduceLE, Int.reduceBEq, Int.reduceBNe, Int.reduceToNat, Int.reduceAdd, Int.reduceSub, Int.reduceMul, Int.reduceNeg, BYs, h1, h2, h3, ht, h9, h9', List.isEmpty_cons, List.length_replicate, s3, s10, s34, o1, o2, o3, l34, o4, q4]
end Cod
namespace Cod
open Go
theorem eqCells_lbl (g : Lbl) : eqCells [0, 0, 0, 0, 0, 0, 0, 0, 0, 0, 0, 0, 0, 0, 0, 0, 0, 0, 0, 0, 0, 0, 0, 0, 0, 0, 0, 0, 0, 0, 0, 0, 0, 2, 2, 2, 0, 0, 2] g.cells g.cells = some true := by
  have h := eqCells_bytes 32 g.tgt g.tgt [0, 2, 2, 2, 0, 0, 2] [.int .i64 g.kind, .str g.name, .str g.who.name, .str g.who.email, .int .i64 g.who.time, .int .i64 g.who.zone, .str g.msg] [.int .i64 g.kind, .str g.name, .str g.who.name, .str g.who.email, .int .i64 g.who.time, .int .i64 g.who.zone, .str g.msg] g.htgt g.htgt
  show eqCells (List.replicate 32 0 ++ [0, 2, 2, 2, 0, 0, 2]) _ _ = _
  unfold Lbl.cells
  rw [h]
  simp [eqCells]
theorem isL_iff {g : Lbl} {p : List UInt8} : isL g p = true ↔ IsTag p g := by
  unfold isL IsTag
  rw [Bool.and_eq_true, decide_eq_true_eq, beq_iff_eq]
theorem tags_same {EE : Env} (hE : EnvP EE) (p : List UInt8) (hb : p.length ≤ 1000000000000) : ∃ (g : Lbl) (e : Int), S EE F.object_ParseTag [.lst (ofBytes p) p.length] [] = some (.tup [.agg g.cells, .int .i64 e], []) ∧ S E F.ref07_DocParseTag [.lst (ofBytes p) p.length] [] = some (.tup [.agg g.cells, .int .i64 e], []) := by
  by_cases hp : 1048576 < p.length
  · exact ⟨zeroL, 2, go_parseTag_long hE rfl hp hb, go_docParseTag_long rfl hp hb⟩
  · obtain ⟨g1, b1, _, _, s1, y1⟩ := go_parseTag hE (p := p) rfl (by omega)
    obtain ⟨g2, o2, s2, y2⟩ := go_docParseTag (p := p) rfl (by omega)
    rw [s1, s2]
    by_cases h : ∃ l, IsTag p l
    · obtain ⟨l, hl⟩ := h
      obtain ⟨rfl, rfl⟩ := y1 l hl
      obtain ⟨rfl, rfl⟩ := y2 _ hl
      have hi := isL_iff.2 hl
      unfold lblV
      rw [hi]
      exact ⟨g2, 0, rfl, rfl⟩
    · have no : ∀ g, isL g p = false := fun g => by
        cases hi : isL g p with
        | false => rfl
        | true => exact absurd ⟨g, isL_iff.1 hi⟩ h
      unfold lblV
      rw [no, no, Bool.and_false, Bool.and_false]
      exact ⟨zeroL, 4, rfl, rfl⟩
theorem go_objectTags {l : Lbl} {p : List UInt8} (hn : l.name.length ≤ 1000000000) (hm : l.msg.length ≤ 1000000000) (ha : l.who.name.length ≤ 1000000000) (hb : l.who.email.length ≤ 1000000000) (hp : p.length ≤ 1000000000000) :
    S EE F.law07_ObjectTags [.agg l.cells, .lst (ofBytes p) p.length] [] = some (.bool true, []) := by
  have a1 := go_putTag envP hn hm
  have a2 := S_ext extE (go_docPutTag hn hm ha hb)
  have a3 := S_ext extE (go_twin (a := p) rfl hp)
  obtain ⟨g, e, a4, a5⟩ := tags_same envP p hp
  have a5 := S_ext extE a5
  unfold tagV putA at a1 a2
  generalize tagE l = te at *
  generalize tagO l = to at *
  have a7 := S_ext extE (ge_same (a := to) (b := to) (n := to.length) (m := to.length) rfl rfl)
  have b7 : (to == to) = true := by simp
  rw [b7] at a7
  have q := eqCells_lbl g
  have ho : over zeroL.cells 0 g.cells = g.cells := over_lbl _ _
  rw [S_ofT fn_law07_ObjectTags rfl rfl]
  simp (dsimp := false) (disch := first | omega | (simp only [LENs] <;> omega) | fail) only [L.law07_ObjectTags, go_sem, reduceIte, reduceCtorEq, Nat.reduceEqDiff, Nat.reduceAdd, Nat.reduceSub, Nat.reduceMul, Nat.reduceDiv, Nat.reduceMod, Nat.reduceBEq, Nat.reduceLeDiff, Nat.reduceLT, Int.reduceEq, Int.reduceNe, Int.reduceLT, Int.reduceLE, Int.reduceBEq, Int.reduceBNe, Int.reduceToNat, Int.reduceAdd, Int.reduceSub, Int.reduceMul, Int.reduceNeg, BYs, go_awake, a1, a2, a3, a4, a5, a7, q, ho]
end Cod
namespace Cod
open Go
def idtTy : Ty := .cat .str (.cat .str (.cat (.int .i64) (.cat (.int .i64) .nil)))
def lblTy : Ty := .cat (.rep 32 (.int .u8)) (.cat (.int .i64) (.cat .str (.cat idtTy (.cat .str .nil))))
theorem wf_idt {x : List AV} (h : Wf idtTy x) : ∃ i : Idt, x = i.cells ∧ i.name.length ≤ abulks x ∧ i.email.length ≤ abulks x := by
  obtain ⟨a1, b1, rfl, ⟨p, rfl, hp⟩, a2, b2, rfl, ⟨q, rfl, hq⟩, a3, b3, rfl, ⟨t, rfl, ht⟩, a4, b4, rfl, ⟨z, rfl, hz⟩, rfl⟩ := h
  refine ⟨⟨p, q, t, z⟩, rfl, ?_, ?_⟩ <;> simp only [List.cons_append, List.nil_append, abulks, abulk] <;> omega
theorem wf_lbl {x : List AV} (h : Wf lblTy x) : ∃ l : Lbl, x = l.cells ∧ l.name.length ≤ abulks x ∧ l.msg.length ≤ abulks x ∧ l.who.name.length ≤ abulks x ∧ l.who.email.length ≤ abulks x := by
  obtain ⟨a0, b0, rfl, ⟨r, rfl, hr, hw⟩, a1, b1, rfl, ⟨k, rfl, hk⟩, a2, b2, rfl, ⟨n, rfl, hn⟩, a3, b3, rfl, hi, a4, b4, rfl, ⟨m, rfl, hm⟩, rfl⟩ := h
  obtain ⟨d, h1, h2⟩ := wf_bytes hw
  obtain ⟨i, rfl, i1, i2⟩ := wf_idt hi
  refine ⟨⟨d, k, n, i, m, by rw [h2, hr]⟩, ?_, ?_, ?_, ?_, ?_⟩
  · rw [h1]; simp [Lbl.cells, Idt.cells]
  all_goals
    simp only [abulks_append, abulks, abulk]
    first
      | (show n.length ≤ _; omega)
      | (show m.length ≤ _; omega)
      | (show i.name.length ≤ _; omega)
      | (show i.email.length ≤ _; omega)
theorem run_ObjectTags {xs : List AV} (h : ArgsOK [(true, lblTy), (false, .sl (.int .u8))] xs) (hb : abulks xs ≤ 1048576) : ∃ σr, S EE 4 xs [] = some (.bool true, σr) := by
  obtain ⟨a, b, rfl, ⟨y, rfl, hw⟩, c, d, rfl, ⟨r, hr, _, h2⟩, rfl⟩ := h
  simp only [List.cons.injEq, and_true] at hr
  subst hr
  obtain ⟨p, h3, h4⟩ := wf_bytes h2
  obtain ⟨l, rfl, l1, l2, l3, l4⟩ := wf_lbl hw
  rw [h3, ← h4] at hb ⊢
  simp only [List.cons_append, List.nil_append, abulks, abulk] at hb
  exact ⟨[], go_objectTags (by omega) (by omega) (by omega) (by omega) (by omega)⟩
end Cod

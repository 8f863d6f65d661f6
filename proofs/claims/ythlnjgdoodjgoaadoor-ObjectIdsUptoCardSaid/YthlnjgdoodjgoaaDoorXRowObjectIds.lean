/- The row of the law ObjectIds: for every input that can be read and is of bulk at most 1048576, the call returns true and the arguments read as before. -/
import Derived.Test.YthlnjgdoodjgoaaDoorCards
import Derived.Test.YthlnjgdoodjgoaaDoorTie
import Derived.Lay
import Derived.LaidMore
import Derived.SevenTiedAt
import Derived.Stop.Joined
import Derived.Deep.DeepHandedRow
import Derived.Test.YthlnjgdoodjgoaaDoorXTxt1
import Derived.Test.YthlnjgdoodjgoaaDoorXTxt4
set_option linter.unusedSimpArgs false
set_option linter.unusedVariables false
namespace Go.Proofs.YthlnjgdoodjgoaaDoor.objectIds
open Go Cod Go.ChangeShapes Go.WideShapes Go.ChangeAt Go.RowKit
set_option maxRecDepth 100000

theorem lifted (os : Os) (started : os.Started) (H : Type) (enc : TypeId × Value → H) (F : Stop.Interp) :
    ReturnsInHanded {} Tryd.checked os 3 .any ((Rows.OpenSpec.upto Rows.objectIdsSpec).preRow enc Tryd.prog Tryd.f3 Rows.objectIdsUptoRow.domain false Rows.objectIdsUptoRow.laid) (((Rows.OpenSpec.upto Rows.objectIdsSpec).at F).post enc Tryd.prog Tryd.f3 false true false false) := by
  have hos : (World.laidAll Tryd.prog os Rows.objectIdsUptoRow.laid).os = os := World.laidAll_os _ _ _
  refine returnsInHanded_of_row (C := Tryd.checked) (s := Rows.OpenSpec.upto Rows.objectIdsSpec) own started (by kernel_rfl) Tryd.func3 ?_ ?_
  · have hok : Input.okWideB Tryd.checked.prog ((World.laidAll Tryd.prog os Rows.objectIdsUptoRow.laid).forCall (fun _ _ => 0) ⟨#[], #[.int .i64 0, .int .i64 0, .slice none 0 0], []⟩) 3 ⟨#[], #[.int .i64 0, .int .i64 0, .slice none 0 0], []⟩ = true := by kernel_rfl
    have hx : ∃ x, DataW.whole enc Tryd.prog ((World.laidAll Tryd.prog os Rows.objectIdsUptoRow.laid).forCall (fun _ _ => 0) ⟨#[], #[.int .i64 0, .int .i64 0, .slice none 0 0], []⟩).memory Tryd.f3.params.toList (Rows.OpenSpec.upto Rows.objectIdsSpec).vars false (#[.int .i64 0, .int .i64 0, .slice none 0 0] : Array Value).toList 8 = some x ∧
        ∀ k, (Rows.OpenSpec.upto Rows.objectIdsSpec).cond = some k → k H (x.1 ++ x.2.1) = true := ⟨_, rfl, fun k hk => by cases hk; kernel_rfl⟩
    obtain ⟨x, hx, hc⟩ := hx
    refine ⟨World.laidAll Tryd.prog os Rows.objectIdsUptoRow.laid, fun _ _ => 0, ⟨#[], #[.int .i64 0, .int .i64 0, .slice none 0 0], []⟩, hos, World.shaped_of_ZipB (by kernel_rfl) (by kernel_rfl), (Input.okWide_of_okWideB (base := 0) hok).1, (Input.okWide_of_okWideB hok).2, ?_, ?_⟩
    · exact OpenSpec.preRow_of_cond 8 hx rfl hc (by kernel_rfl) (by rw [MakeChecks.laidMetH_plain _ _ _ (by kernel_rfl)]; exact laidMet_laidAll _ (by kernel_rfl) (by kernel_rfl))
    · simp only [Assume.holds]
      refine ⟨?_, ?_, ?_, ?_, ?_, ?_⟩
      all_goals first | (intro h; cases h; done) | (intro d h; cases h; done)
  · intro W base args ds gs before hval hW _ hcond _ hL hS _
    exact contract (d := 8) (n := 3) (Ts := [(false, .int .i64), (false, .int .i64), (false, .sl (.int .u8))]) knownT_ok fnsT_ok laidOut Tryd.func3 (by rfl) (by kernel_rfl) (by kernel_rfl) (by
        have h : (Tryd.f3.params.toList.all fun t => Tryd.prog.readableRec t && decide (t < Tryd.prog.types.size)) = true := by kernel_rfl
        intro t ht
        have := List.all_eq_true.1 h t ht
        simpa using this) (by kernel_rfl) (by kernel_rfl) bool_type
      ⟨rfl, fun H ds h => by
        match ds, h with
        | [d0, d1, d2], _ => rfl⟩ (by kernel_rfl) (glob_ok hL hS (by simp [Rows.objectIdsUptoRow]) (by simp [Rows.objectIdsUptoRow]) (by simp [Rows.objectIdsUptoRow]) (by simp [Rows.objectIdsUptoRow])) (fun xs ha hb => Cod.run_ObjectIds ha (Nat.le_trans hb (small_of (ds := ds) (gs := gs) (hcond _ rfl)))) hval hW

theorem said : Rows.ObjectIdsUptoSaid :=
  OpenClaim.holds_of_cond 3 Tryd.f3 rfl rfl rfl rfl rfl rfl rfl ⟨rfl, rfl, rfl, rfl, rfl⟩ rfl rfl rfl rfl rfl (by kernel_rfl) Tryd.func3 (by kernel_rfl)
    (of_decide_eq_true (by kernel_rfl)) (by unfold Func.isWrapper; first | (rw [if_pos (by decide +kernel)]; kernel_rfl) | (rw [if_neg (by decide +kernel)]; exact ⟨rfl, rfl⟩))
    (fun os started H enc _ F => by rw [OpenClaim.pre_eq_preRow]; exact lifted os started H enc F)
theorem plain (f : FuncId) (fn : Func) (hf : Tryd.pinned.checked.prog.funcNamed "codicil/codicillaw07.ObjectIds" = some f) (hfn : Tryd.pinned.checked.prog.funcs[f]? = some fn) :
    false = Tryd.pinned.checked.prog.looks [] ∧ ∀ (j : Nat) t, fn.params[j]? = some t → Tryd.pinned.checked.prog.wantsStandIn t = false := by
  obtain rfl : f = 3 := Option.some.inj ((show Tryd.prog.funcNamed "codicil/codicillaw07.ObjectIds" = some 3 by kernel_rfl).symm.trans hf) |>.symm
  obtain rfl : fn = Tryd.f3 := (Option.some.inj (Tryd.func3.symm.trans hfn)).symm
  refine ⟨by kernel_rfl, fun j t ht => ?_⟩
  have h : (Tryd.f3.params.toList.all fun t => !Tryd.prog.wantsStandIn t) = true := by kernel_rfl
  have := List.all_eq_true.1 h t (by simpa using Array.mem_of_getElem? ht)
  exact (show Tryd.prog.wantsStandIn t = false by simpa using this)
theorem card : Rows.ObjectIdsUptoCardSaid :=
  Claim7.holds_tied_plain_at .later [] _ _ _ _ said (fun _ h => by cases h) (by kernel_rfl) (fun _ h => by cases h) objectIdsUpto_row_tie rfl ⟨rfl, rfl⟩ (by kernel_rfl) rfl plain (by kernel_rfl)
#print axioms card
end Go.Proofs.YthlnjgdoodjgoaaDoor.objectIds


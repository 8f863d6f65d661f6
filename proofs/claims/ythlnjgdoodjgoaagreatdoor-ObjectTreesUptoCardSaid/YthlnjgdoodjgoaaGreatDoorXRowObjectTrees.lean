/- The row of the law ObjectTrees: for every input that can be read and is of bulk at most 1048576, the call returns true and the arguments read as before. -/
import Derived.Test.YthlnjgdoodjgoaaGreatDoorCards
import Derived.Test.YthlnjgdoodjgoaaGreatDoorTie
import Derived.Lay
import Derived.LaidMore
import Derived.SevenTiedAt
import Derived.Stop.Joined
import Derived.Deep.DeepHandedRow
import Derived.Test.YthlnjgdoodjgoaaGreatDoorXTxt2
import Derived.Test.YthlnjgdoodjgoaaGreatDoorXTxt4
set_option linter.unusedSimpArgs false
set_option linter.unusedVariables false
namespace Go.Proofs.YthlnjgdoodjgoaaGreatDoor.objectTrees
open Go Cod Go.ChangeShapes Go.WideShapes Go.ChangeAt Go.RowKit
set_option maxRecDepth 100000
theorem lifted (os:Os) (started:os.Started) (H:Type) (enc:TypeId × Value→H) (F:Stop.Interp) :
    ReturnsInHanded {} Tryz.checked os 3 .any ((Rows.OpenSpec.upto Rows.objectTreesSpec).preRow enc Tryz.prog Tryz.f3 Rows.objectTreesUptoRow.domain false Rows.objectTreesUptoRow.laid) (((Rows.OpenSpec.upto Rows.objectTreesSpec).at F).post enc Tryz.prog Tryz.f3 false true false false):=by
  have hos:(World.laidAll Tryz.prog os Rows.objectTreesUptoRow.laid).os=os:=World.laidAll_os _ _ _
  refine returnsInHanded_of_row (C:=Tryz.checked) (s:=Rows.OpenSpec.upto Rows.objectTreesSpec) own started (by kernel_rfl) Tryz.func3 ?_ ?_
  · have hok:Input.okWideB Tryz.checked.prog ((World.laidAll Tryz.prog os Rows.objectTreesUptoRow.laid).forCall (fun _ _=>0) ⟨#[],#[.slice none 0 0,.slice none 0 0],[]⟩) 3 ⟨#[],#[.slice none 0 0,.slice none 0 0],[]⟩=true:=by kernel_rfl
    have hx:∃ x,DataW.whole enc Tryz.prog ((World.laidAll Tryz.prog os Rows.objectTreesUptoRow.laid).forCall (fun _ _=>0) ⟨#[],#[.slice none 0 0,.slice none 0 0],[]⟩).memory Tryz.f3.params.toList (Rows.OpenSpec.upto Rows.objectTreesSpec).vars false (#[.slice none 0 0,.slice none 0 0]:Array Value).toList 8=some x ∧
        ∀ k,(Rows.OpenSpec.upto Rows.objectTreesSpec).cond=some k→k H (x.1++x.2.1)=true:=⟨_,rfl,fun k hk=>by cases hk;kernel_rfl⟩
    obtain ⟨x,hx,hc⟩:=hx
    refine ⟨World.laidAll Tryz.prog os Rows.objectTreesUptoRow.laid,fun _ _=>0,⟨#[],#[.slice none 0 0,.slice none 0 0],[]⟩,hos,World.shaped_of_ZipB (by kernel_rfl) (by kernel_rfl),(Input.okWide_of_okWideB (base:=0) hok).1,(Input.okWide_of_okWideB hok).2,?_,?_⟩
    · exact OpenSpec.preRow_of_cond 8 hx rfl hc (by kernel_rfl) (by rw [MakeChecks.laidMetH_plain _ _ _ (by kernel_rfl)];exact laidMet_laidAll _ (by kernel_rfl) (by kernel_rfl))
    · simp only [Assume.holds]
      refine ⟨?_,?_,?_,?_,?_,?_⟩
      all_goals first|(intro h;cases h;done)|(intro d h;cases h;done)
  · intro W base args ds gs before hval hW _ hcond _ hL hS _
    exact contract (d:=8) (n:=2) (Ts:=[(false,.sl Zr0),(false,.sl (.int .u8))]) Z2a Yde Yci Tryz.func3 (by rfl) (by kernel_rfl) (by kernel_rfl) (by
        have h:(Tryz.f3.params.toList.all fun t=>Tryz.prog.readableRec t&&decide (t<Tryz.prog.types.size))=true:=by kernel_rfl
        intro t ht
        have:=List.all_eq_true.1 h t ht
        simpa using this) (by kernel_rfl) (by kernel_rfl) Z1i
      ⟨rfl,fun H ds h=>by
        match ds,h with
        | [d0,d1],_=>rfl⟩ (by kernel_rfl) (Ycq hL hS (by simp [Rows.objectTreesUptoRow]) (by simp [Rows.objectTreesUptoRow]) (by simp [Rows.objectTreesUptoRow]) (by simp [Rows.objectTreesUptoRow]) (by simp [Rows.objectTreesUptoRow]) (by simp [Rows.objectTreesUptoRow])) (fun xs ha hb=>Cod.Zog ha (Nat.le_trans hb (Z7j (ds:=ds) (gs:=gs) (hcond _ rfl)))) hval hW
theorem said:Rows.ObjectTreesUptoSaid :=
  OpenClaim.holds_of_cond 3 Tryz.f3 rfl rfl rfl rfl rfl rfl rfl ⟨rfl,rfl,rfl,rfl,rfl⟩ rfl rfl rfl rfl rfl (by kernel_rfl) Tryz.func3 (by kernel_rfl)
    (of_decide_eq_true (by kernel_rfl)) (by unfold Func.isWrapper;first|(rw [if_pos (by decide +kernel)];kernel_rfl)|(rw [if_neg (by decide +kernel)];exact ⟨rfl,rfl⟩))
    (fun os started H enc _ F=>by rw [OpenClaim.pre_eq_preRow];exact lifted os started H enc F)
theorem plain (f:FuncId) (fn:Func) (hf:Tryz.pinned.checked.prog.funcNamed "codicil/codicillaw07.ObjectTrees" = some f) (hfn:Tryz.pinned.checked.prog.funcs[f]? = some fn) :
    true=Tryz.pinned.checked.prog.looks []∧∀ (j:Nat) t,fn.params[j]? = some t→Tryz.pinned.checked.prog.wantsStandIn t=false:=by
  obtain rfl:f=3:=Option.some.inj ((show Tryz.prog.funcNamed "codicil/codicillaw07.ObjectTrees" = some 3 by kernel_rfl).symm.trans hf) |>.symm
  obtain rfl:fn=Tryz.f3:=(Option.some.inj (Tryz.func3.symm.trans hfn)).symm
  refine ⟨by kernel_rfl,fun j t ht=>?_⟩
  have h:(Tryz.f3.params.toList.all fun t => !Tryz.prog.wantsStandIn t)=true:=by kernel_rfl
  have:=List.all_eq_true.1 h t (by simpa using Array.mem_of_getElem? ht)
  exact (show Tryz.prog.wantsStandIn t=false by simpa using this)
theorem card:Rows.ObjectTreesUptoCardSaid :=
  Claim7.holds_tied_plain_at .later [] _ _ _ _ said (fun _ h=>by cases h) (by kernel_rfl) (fun _ h=>by cases h) objectTreesUpto_row_tie rfl ⟨rfl,rfl⟩ (by kernel_rfl) rfl plain (by kernel_rfl)
#print axioms card
end Go.Proofs.YthlnjgdoodjgoaaGreatDoor.objectTrees

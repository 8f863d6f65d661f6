/- The row of the law LooseFixed: for every input that can be read, the call returns true and the arguments read as before. -/
import Derived.Test.YtabccggcfcppgaaGreatDoorCards
import Derived.Test.YtabccggcfcppgaaGreatDoorTie
import Derived.Lay
import Derived.LaidMore
import Derived.SevenTiedAt
import Derived.Stop.Joined
import Derived.Deep.DeepHandedRow
import Derived.Test.YtabccggcfcppgaaGreatDoorXTxt2
import Derived.Test.YtabccggcfcppgaaGreatDoorXTxt7
set_option linter.unusedSimpArgs false
set_option linter.unusedVariables false
namespace Go.Proofs.YtabccggcfcppgaaGreatDoor.looseFixed
open Go Cod Go.ChangeShapes Go.WideShapes Go.ChangeAt Go.RowKit
set_option maxRecDepth 100000
theorem lifted (os:Os) (started:os.Started) (H:Type) (enc:TypeId × Value→H) (F:Stop.Interp) :
    ReturnsInHanded {} Tryz.checked os 13 .any ((OpenSpec.ofChange Rows.looseFixedSpec).preRow enc Tryz.prog Tryz.f13 Rows.looseFixedRow.domain false Rows.looseFixedRow.laid) (((OpenSpec.ofChange Rows.looseFixedSpec).at F).post enc Tryz.prog Tryz.f13 false true false false):=by
  have hos:(World.laidAll Tryz.prog os Rows.looseFixedRow.laid).os=os:=World.laidAll_os _ _ _
  refine returnsInHanded_of_row (C:=Tryz.checked) (s:=OpenSpec.ofChange Rows.looseFixedSpec) own started (by kernel_rfl) Tryz.func13 ?_ ?_
  · have hok:Input.okWideB Tryz.checked.prog ((World.laidAll Tryz.prog os Rows.looseFixedRow.laid).forCall (fun _ _=>0) ⟨#[],#[],[]⟩) 13 ⟨#[],#[],[]⟩=true:=by kernel_rfl
    have hx:∃ x,DataW.whole enc Tryz.prog ((World.laidAll Tryz.prog os Rows.looseFixedRow.laid).forCall (fun _ _=>0) ⟨#[],#[],[]⟩).memory Tryz.f13.params.toList (OpenSpec.ofChange Rows.looseFixedSpec).vars false (#[]:Array Value).toList 8=some x ∧
        ∀ k,(OpenSpec.ofChange Rows.looseFixedSpec).cond=some k→k H (x.1++x.2.1)=true:=⟨_,rfl,fun k hk=>by cases hk⟩
    obtain ⟨x,hx,hc⟩:=hx
    refine ⟨World.laidAll Tryz.prog os Rows.looseFixedRow.laid,fun _ _=>0,⟨#[],#[],[]⟩,hos,World.shaped_of_ZipB (by kernel_rfl) (by kernel_rfl),(Input.okWide_of_okWideB (base:=0) hok).1,(Input.okWide_of_okWideB hok).2,?_,?_⟩
    · exact OpenSpec.preRow_of_cond 8 hx rfl hc (by kernel_rfl) (by rw [MakeChecks.laidMetH_plain _ _ _ (by kernel_rfl)];exact laidMet_laidAll _ (by kernel_rfl) (by kernel_rfl))
    · simp only [Assume.holds]
      refine ⟨?_,?_,?_,?_,?_,?_⟩
      all_goals first|(intro h;cases h;done)|(intro d h;cases h;done)
  · intro W base args ds gs before hval hW _ hcond _ hL hS _
    exact contract (d:=8) (n:=0) (Ts:=[]) Z3s Yff Yed Tryz.func13 (by rfl) (by kernel_rfl) (by kernel_rfl) (by
        have h:(Tryz.f13.params.toList.all fun t=>Tryz.prog.readableRec t&&decide (t<Tryz.prog.types.size))=true:=by kernel_rfl
        intro t ht
        have:=List.all_eq_true.1 h t ht
        simpa using this) (by kernel_rfl) (by kernel_rfl) Z22
      ⟨rfl,fun H ds h=>by
        match ds,h with
        | [],_=>rfl⟩ (by kernel_rfl) (Yek hL hS (by simp [Rows.looseFixedRow]) (by simp [Rows.looseFixedRow]) (by simp [Rows.looseFixedRow]) (by simp [Rows.looseFixedRow])) (fun xs ha hb=>Cod.Zpx ha) hval hW
theorem j1:mapsRowed Tryz.pinned.checked.prog=true:=by kernel_rfl
theorem j2:(Rows.looseFixedRow.inPlace==Tryz.pinned.checked.prog.inPlace 13)=true:=by kernel_rfl
theorem j3:(Rows.looseFixedRow.unfollowed==Tryz.pinned.checked.prog.unfollowed 13)=true:=by kernel_rfl
theorem j4:(Rows.looseFixedRow.recurses==Tryz.pinned.checked.prog.recurses 13)=true:=by kernel_rfl
theorem j5:(Rows.looseFixedRow.named==Tryz.pinned.checked.prog.varsNamed 13)=true:=by kernel_rfl
theorem j6:Tryz.pinned.checked.prog.stopsHeard=true:=by kernel_rfl
theorem j7:Tryz.pinned.checked.prog.mayEnter=true:=by kernel_rfl
theorem j8:(Rows.looseFixedRow.lifted==Tryz.pinned.checked.prog.liftsFinal)=true:=by kernel_rfl
theorem j9:(Tryz.pinned.checked.prog.make==some Rows.looseFixedRow.make)=true:=by kernel_rfl
theorem facts:joinedFacts Tryz.pinned.checked.prog 13 Tryz.f13 (OpenSpec.ofChange Rows.looseFixedSpec).bare Rows.looseFixedRow=true:=by
  unfold joinedFacts
  rw [j1,j2,j3,j4,j5,j6,j7,j8,j9]
  kernel_rfl
theorem named_ok:Tryz.pinned.checked.prog.funcNamed Rows.looseFixedRow.func=some 13:=by kernel_rfl
theorem inst_ok:decide (Func.isInstance Tryz.pinned.checked.prog Tryz.f13 Rows.looseFixedRow.origin Rows.looseFixedRow.targs)=true:=by kernel_rfl
theorem said:Rows.LooseFixedSaid :=
  OpenClaim.holds_of_cond 13 Tryz.f13 rfl rfl rfl rfl rfl rfl rfl ⟨rfl,rfl,rfl,rfl,rfl⟩ rfl rfl rfl rfl rfl named_ok Tryz.func13 facts
    (of_decide_eq_true inst_ok) (by unfold Func.isWrapper;first|(rw [if_pos (by decide +kernel)];kernel_rfl)|(rw [if_neg (by decide +kernel)];exact ⟨rfl,rfl⟩))
    (fun os started H enc _ F=>by rw [OpenClaim.pre_eq_preRow];exact lifted os started H enc F)
theorem text_ok:OpenClaim.wfByText (OpenSpec.ofChange Rows.looseFixedSpec) Rows.looseFixedRow=true:=by kernel_rfl
theorem main_ok:Tryz.pinned.checked.prog.mainIs=some ((true, "92cfc6b7291e6e910d6ce7e92a53732bbee9f7cad1d0603269adff0c579a7503").fst,(true, "92cfc6b7291e6e910d6ce7e92a53732bbee9f7cad1d0603269adff0c579a7503").snd.toList):=by kernel_rfl
theorem goes_ok:false=Rows.looseFixedRow.goesBy Tryz.pinned.checked.prog:=by kernel_rfl
theorem plain (f:FuncId) (fn:Func) (hf:Tryz.pinned.checked.prog.funcNamed "codicil/codicillaw13.LooseFixed" = some f) (hfn:Tryz.pinned.checked.prog.funcs[f]? = some fn) :
    false=Tryz.pinned.checked.prog.looks []∧∀ (j:Nat) t,fn.params[j]? = some t→Tryz.pinned.checked.prog.wantsStandIn t=false:=by
  obtain rfl:f=13:=Option.some.inj ((show Tryz.prog.funcNamed "codicil/codicillaw13.LooseFixed" = some 13 by kernel_rfl).symm.trans hf) |>.symm
  obtain rfl:fn=Tryz.f13:=(Option.some.inj (Tryz.func13.symm.trans hfn)).symm
  refine ⟨by kernel_rfl,fun j t ht=>?_⟩
  have h:(Tryz.f13.params.toList.all fun t => !Tryz.prog.wantsStandIn t)=true:=by kernel_rfl
  have:=List.all_eq_true.1 h t (by simpa using Array.mem_of_getElem? ht)
  exact (show Tryz.prog.wantsStandIn t=false by simpa using this)
theorem card:Rows.LooseFixedCardSaid :=
  Claim7.holds_tied_plain_at .later [] _ _ _ _ said (fun _ h=>by cases h) text_ok (fun _ h=>by cases h) looseFixed_row_tie rfl ⟨rfl,rfl⟩ main_ok rfl plain goes_ok
#print axioms card
end Go.Proofs.YtabccggcfcppgaaGreatDoor.looseFixed

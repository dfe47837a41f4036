/- Joined: Fru. -/
import Derived.Test.YtncbjgblcofddaaGreatDoorQol
import Derived.Test.YtncbjgblcofddaaGreatDoorQq
import Derived.Deep.DeepHandedRow
/- The frame of a law's card in its second form (bulk). -/
namespace Go.Proofs.YtncbjgblcofddaaGreatDoor
open Go Go.Eng Go.ChangeShapes Go.WideShapes Go.ChangeAt Go.RowKit
theorem witness_upto {H:Type} {enc:TypeId × Value→H} {os:Os} {f:FuncId} {fn:Func} {s:OpenSpec} (hs:s.cond = some Rows.uptoSmall) (args:Array Value) (fuel:Nat)
 (hok:Input.okWideB Tryz.prog ((World.laidAll Tryz.prog os laid7).forCall (fun _ _=>0) ⟨#[],args,[]⟩) f ⟨#[],args,[]⟩ = true)
 {x:List (DataW H) × List (DataW H) × List MemPlace} (hx:DataW.whole enc Tryz.prog ((World.laidAll Tryz.prog os laid7).forCall (fun _ _=>0) ⟨#[],args,[]⟩).memory fn.params.toList s.vars false args.toList fuel = some x)
 (hkk:Rows.uptoSmall H (x.1 ++ x.2.1) = true)
 (hsz:s.bare.sizedB enc Tryz.prog fn false ((World.laidAll Tryz.prog os laid7).forCall (fun _ _=>0) ⟨#[],args,[]⟩).memory args fuel = true) :
 ∃ (w:World) (tape:Tape) (i:Input),w.os = os∧(w.forCall tape i).Shaped Tryz.prog∧i.vars = []∧Input.okWide Tryz.prog (w.forCall tape i) .any w.heap.size f i ∧
  s.preRow enc Tryz.prog fn [] false laid7 (w.forCall tape i).memory i.args∧({}:Assume).holds Tryz.prog (lone (Frame.enter Tryz.prog f i.args .normal) [] (w.forCall tape i)) :=
 ⟨World.laidAll Tryz.prog os laid7,fun _ _=>0,⟨#[],args,[]⟩,World.laidAll_os _ _ _,laid7_shaped os args,(Input.okWide_of_okWideB (base:=0) hok).1,(Input.okWide_of_okWideB hok).2,
  ⟨⟨(OpenSpec.pre_some hs [] false _ _).2 ⟨x.1,x.2.1,x.2.2,DataW.Whole_of_whole hx,rfl,hkk⟩,laid7_met os args⟩,sizedMet_of_sizedB hsz⟩,by
  simp only [Assume.holds]
  exact ⟨by simp,by simp,fun _=>Modest.zero,by simp,by simp⟩⟩
end Go.Proofs.YtncbjgblcofddaaGreatDoor

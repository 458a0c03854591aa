import Derived.Test.YtifbhcfdealfaaaGreatDoorMl01
import Derived.Test.YtifbhcfdealfaaaGreatDoorTie
import Derived.ProofKit
import Derived.JoinedCond
set_option maxRecDepth 100000
set_option maxHeartbeats 25600000
namespace Go.Proofs.YtifbhcfdealfaaaGreatDoor.designLimits
open Go.Proofs.Tryz
open Go.ChangeShapes Go.WideShapes Go.ChangeAt Go.RowKit
theorem zp{a b:Bool}(ha:a=true)(hb:b=true):(a&&b)=true:=by rw[ha,hb];rfl
set_option maxRecDepth 100000
theorem cf0:(Rows.designLimitsRow.wf (OpenSpec.ofChange (OpenSpec.ofChange Rows.designLimitsSpec).bare))=true:=by kernel_rfl
theorem cf1:(laidOutB Tryz.pinned.checked.prog)=true:=by kernel_rfl
theorem cf2:(mapsRowed Tryz.pinned.checked.prog)=true:=by kernel_rfl
theorem cf3:(f4.params.all (Tryz.pinned.checked.prog.readableRec ·))=true:=by kernel_rfl
theorem cf4:(namedTie Tryz.pinned.checked.prog Rows.designLimitsRow.named (OpenSpec.ofChange Rows.designLimitsSpec).bare.vars)=true:=by kernel_rfl
theorem cf5:((Rows.designLimitsRow.stops==[]))=true:=by kernel_rfl
theorem cf6:((Tryz.pinned.checked.prog.stops==[]))=true:=by kernel_rfl
theorem cf7:((Rows.designLimitsRow.knobs==[]))=true:=by kernel_rfl
theorem cf8:((Tryz.pinned.checked.prog.stopKnobs==[]))=true:=by kernel_rfl
theorem cf9:((Rows.designLimitsRow.inPlace==Tryz.pinned.checked.prog.inPlace 4))=true:=by kernel_rfl
theorem jHX:((Rows.designLimitsRow.unfollowed==Tryz.pinned.checked.prog.unfollowed 4))=true:=by kernel_rfl
theorem jHW:((Rows.designLimitsRow.recurses==Tryz.pinned.checked.prog.recurses 4))=true:=by kernel_rfl
end Go.Proofs.YtifbhcfdealfaaaGreatDoor.designLimits
namespace Go.Proofs.YtifbhcfdealfaaaGreatDoor.designLimits
open Go.Proofs.Tryz
open Go.ChangeShapes Go.WideShapes Go.ChangeAt Go.RowKit
set_option maxRecDepth 100000
theorem jHV:((Rows.designLimitsRow.named==Tryz.pinned.checked.prog.varsNamed 4))=true:=by kernel_rfl
theorem jHU:((Rows.designLimitsRow.maps==(f4.params.toList++(OpenSpec.ofChange Rows.designLimitsSpec).bare.plain.varTypes Tryz.pinned.checked.prog).any (Tryz.pinned.checked.prog.mapsRec ·)))=true:=by kernel_rfl
theorem jHT:((Rows.designLimitsRow.ifaces==(f4.params.toList++(OpenSpec.ofChange Rows.designLimitsSpec).bare.plain.varTypes Tryz.pinned.checked.prog).any (Tryz.pinned.checked.prog.ifacesRec ·)))=true:=by kernel_rfl
theorem jHS:((Rows.designLimitsRow.mapsOut==Tryz.pinned.checked.prog.mapsAmong f4.resultTypes.toList))=true:=by kernel_rfl
theorem jHR:((Rows.designLimitsRow.loops==(f4.params.toList++(OpenSpec.ofChange Rows.designLimitsSpec).bare.plain.varTypes Tryz.pinned.checked.prog).any (Tryz.pinned.checked.prog.loopsFrom ·)))=true:=by kernel_rfl
theorem jHQ:((Rows.designLimitsRow.wideKeys==(f4.params.toList++(OpenSpec.ofChange Rows.designLimitsSpec).bare.plain.varTypes Tryz.pinned.checked.prog++f4.resultTypes.toList).any (Tryz.pinned.checked.prog.wideKeysFrom ·)))=true:=by kernel_rfl
theorem jHP:((OpenSpec.ofChange Rows.designLimitsSpec).bare.vars.all (Tryz.pinned.checked.prog.varReadable ·))=true:=by kernel_rfl
theorem jHO:(f4.resultTypes.all (fun t=>Tryz.pinned.checked.prog.readableRec t&&decide (t<Tryz.pinned.checked.prog.types.size)))=true:=by kernel_rfl
theorem jHN:((Rows.designLimitsRow.ifacesOut==f4.resultTypes.toList.any (Tryz.pinned.checked.prog.ifacesRec ·)))=true:=by kernel_rfl
theorem jHM:((Rows.designLimitsRow.loopsOut==f4.resultTypes.toList.any (Tryz.pinned.checked.prog.loopsFrom ·)))=true:=by kernel_rfl
theorem jHL:((Rows.designLimitsRow.plainKeys==Tryz.pinned.checked.prog.plainKeys))=true:=by kernel_rfl
theorem jHK:(Rows.designLimitsRow.shortTexts.isNone)=true:=by kernel_rfl
theorem jHJ:(Tryz.pinned.checked.prog.stopsHeard)=true:=by kernel_rfl
theorem jHI:(Tryz.pinned.checked.prog.mayEnter)=true:=by kernel_rfl
theorem jHH:((Rows.designLimitsRow.lifted==Tryz.pinned.checked.prog.liftsFinal))=true:=by kernel_rfl
theorem jHG:((Tryz.pinned.checked.prog.make==some Rows.designLimitsRow.make))=true:=by kernel_rfl
theorem jHF:((Rows.designLimitsRow.kinds==(if Rows.designLimitsRow.domain.isEmpty then []else f4.params.toList.map fun t=>match Tryz.pinned.checked.prog.underlying t with|some (.int k)=>some k|_=>none)))=true:=by kernel_rfl
theorem jHE:((Rows.designLimitsRow.pinned==Rows.designLimitsRow.pinnedBy))=true:=by kernel_rfl
theorem jHD:((Rows.designLimitsRow.veiled==(f4.params.toList++(OpenSpec.ofChange Rows.designLimitsSpec).bare.plain.varTypes Tryz.pinned.checked.prog++f4.resultTypes.toList).any (Tryz.pinned.checked.prog.veiledRec ·)))=true:=by kernel_rfl
theorem jHC:(Rows.designLimitsRow.veiledFits Tryz.pinned.checked.prog f4.params.toList (f4.params.toList++(OpenSpec.ofChange Rows.designLimitsSpec).bare.plain.varTypes Tryz.pinned.checked.prog++f4.resultTypes.toList))=true:=by kernel_rfl
theorem nameFact:Tryz.pinned.checked.prog.funcNamed Rows.designLimitsRow.func=some 4:=by kernel_rfl
theorem jA2:f4.isInstance Tryz.pinned.checked.prog Rows.designLimitsRow.origin Rows.designLimitsRow.targs:=jM8 (by kernel_rfl)
theorem Us:f4.isWrapper Tryz.pinned.checked.prog Rows.designLimitsRow.wrapper Rows.designLimitsRow.mainSum:=by
 unfold Func.isWrapper
 first|(rw[jJ6 (by decide+kernel)];kernel_rfl)|(rw[jJ5 (by decide+kernel)];exact⟨rfl,rfl⟩)
theorem jD1:Rows.designLimitsRow.wfByText (OpenSpec.ofChange Rows.designLimitsSpec)=true:=by kernel_rfl
theorem jBB:false=Rows.designLimitsRow.goesBy Tryz.pinned.checked.prog:=by kernel_rfl
theorem XW:true=Tryz.pinned.checked.prog.looks []:=by kernel_rfl
end Go.Proofs.YtifbhcfdealfaaaGreatDoor.designLimits
namespace Go.Proofs.YtifbhcfdealfaaaGreatDoor.designLimits
open Go.Proofs.Tryz
open Go.ChangeShapes Go.WideShapes Go.ChangeAt Go.RowKit
set_option maxRecDepth 100000
theorem qk:joinedFacts Tryz.pinned.checked.prog 4 f4 (OpenSpec.ofChange Rows.designLimitsSpec).bare Rows.designLimitsRow=true:=by
 unfold joinedFacts;refine zp ?_ jHC;refine zp ?_ jHD;refine zp ?_ jHE;refine zp ?_ jHF;refine zp ?_ jHG;refine zp ?_ jHH;refine zp ?_ jHI;refine zp ?_ jHJ;refine zp ?_ jHK;refine zp ?_ jHL;refine zp ?_ jHM;refine zp ?_ jHN;refine zp ?_ jHO;refine zp ?_ jHP;refine zp ?_ jHQ;refine zp ?_ jHR;refine zp ?_ jHS;refine zp ?_ jHT;refine zp ?_ jHU;refine zp ?_ jHV;refine zp ?_ jHW;refine zp ?_ jHX;refine zp ?_ cf9;refine zp ?_ cf8;refine zp ?_ cf7;refine zp ?_ cf6;refine zp ?_ cf5;refine zp ?_ cf4;refine zp ?_ cf3;refine zp ?_ cf2;refine zp ?_ cf1;exact cf0
end Go.Proofs.YtifbhcfdealfaaaGreatDoor.designLimits

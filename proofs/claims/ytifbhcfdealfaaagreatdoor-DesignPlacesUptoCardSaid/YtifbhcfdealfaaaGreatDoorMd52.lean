import Derived.Test.YtifbhcfdealfaaaGreatDoorMd01
import Derived.Test.YtifbhcfdealfaaaGreatDoorTie
import Derived.ProofKit
import Derived.JoinedCond
set_option maxRecDepth 100000
set_option maxHeartbeats 25600000
namespace Go.Proofs.YtifbhcfdealfaaaGreatDoor.designPlaces
open Go.Proofs.Tryz
open Go.ChangeShapes Go.WideShapes Go.ChangeAt Go.RowKit
theorem zp{a b:Bool}(ha:a=true)(hb:b=true):(a&&b)=true:=by rw[ha,hb];rfl
set_option maxRecDepth 100000
theorem cf0:(Rows.designPlacesUptoRow.wf (OpenSpec.ofChange (Rows.OpenSpec.upto Rows.designPlacesSpec).bare))=true:=by kernel_rfl
theorem cf1:(laidOutB Tryz.pinned.checked.prog)=true:=by kernel_rfl
theorem cf2:(mapsRowed Tryz.pinned.checked.prog)=true:=by kernel_rfl
theorem cf3:(f3.params.all (Tryz.pinned.checked.prog.readableRec ·))=true:=by kernel_rfl
theorem cf4:(namedTie Tryz.pinned.checked.prog Rows.designPlacesUptoRow.named (Rows.OpenSpec.upto Rows.designPlacesSpec).bare.vars)=true:=by kernel_rfl
theorem cf5:((Rows.designPlacesUptoRow.stops==[]))=true:=by kernel_rfl
theorem cf6:((Tryz.pinned.checked.prog.stops==[]))=true:=by kernel_rfl
theorem cf7:((Rows.designPlacesUptoRow.knobs==[]))=true:=by kernel_rfl
theorem cf8:((Tryz.pinned.checked.prog.stopKnobs==[]))=true:=by kernel_rfl
theorem cf9:((Rows.designPlacesUptoRow.inPlace==Tryz.pinned.checked.prog.inPlace 3))=true:=by kernel_rfl
theorem jHX:((Rows.designPlacesUptoRow.unfollowed==Tryz.pinned.checked.prog.unfollowed 3))=true:=by kernel_rfl
theorem jHW:((Rows.designPlacesUptoRow.recurses==Tryz.pinned.checked.prog.recurses 3))=true:=by kernel_rfl
end Go.Proofs.YtifbhcfdealfaaaGreatDoor.designPlaces
namespace Go.Proofs.YtifbhcfdealfaaaGreatDoor.designPlaces
open Go.Proofs.Tryz
open Go.ChangeShapes Go.WideShapes Go.ChangeAt Go.RowKit
set_option maxRecDepth 100000
theorem jHV:((Rows.designPlacesUptoRow.named==Tryz.pinned.checked.prog.varsNamed 3))=true:=by kernel_rfl
theorem jHU:((Rows.designPlacesUptoRow.maps==(f3.params.toList++(Rows.OpenSpec.upto Rows.designPlacesSpec).bare.plain.varTypes Tryz.pinned.checked.prog).any (Tryz.pinned.checked.prog.mapsRec ·)))=true:=by kernel_rfl
theorem jHT:((Rows.designPlacesUptoRow.ifaces==(f3.params.toList++(Rows.OpenSpec.upto Rows.designPlacesSpec).bare.plain.varTypes Tryz.pinned.checked.prog).any (Tryz.pinned.checked.prog.ifacesRec ·)))=true:=by kernel_rfl
theorem jHS:((Rows.designPlacesUptoRow.mapsOut==Tryz.pinned.checked.prog.mapsAmong f3.resultTypes.toList))=true:=by kernel_rfl
theorem jHR:((Rows.designPlacesUptoRow.loops==(f3.params.toList++(Rows.OpenSpec.upto Rows.designPlacesSpec).bare.plain.varTypes Tryz.pinned.checked.prog).any (Tryz.pinned.checked.prog.loopsFrom ·)))=true:=by kernel_rfl
theorem jHQ:((Rows.designPlacesUptoRow.wideKeys==(f3.params.toList++(Rows.OpenSpec.upto Rows.designPlacesSpec).bare.plain.varTypes Tryz.pinned.checked.prog++f3.resultTypes.toList).any (Tryz.pinned.checked.prog.wideKeysFrom ·)))=true:=by kernel_rfl
theorem jHP:((Rows.OpenSpec.upto Rows.designPlacesSpec).bare.vars.all (Tryz.pinned.checked.prog.varReadable ·))=true:=by kernel_rfl
theorem jHO:(f3.resultTypes.all (fun t=>Tryz.pinned.checked.prog.readableRec t&&decide (t<Tryz.pinned.checked.prog.types.size)))=true:=by kernel_rfl
theorem jHN:((Rows.designPlacesUptoRow.ifacesOut==f3.resultTypes.toList.any (Tryz.pinned.checked.prog.ifacesRec ·)))=true:=by kernel_rfl
theorem jHM:((Rows.designPlacesUptoRow.loopsOut==f3.resultTypes.toList.any (Tryz.pinned.checked.prog.loopsFrom ·)))=true:=by kernel_rfl
theorem jHL:((Rows.designPlacesUptoRow.plainKeys==Tryz.pinned.checked.prog.plainKeys))=true:=by kernel_rfl
theorem jHK:(Rows.designPlacesUptoRow.shortTexts.isNone)=true:=by kernel_rfl
theorem jHJ:(Tryz.pinned.checked.prog.stopsHeard)=true:=by kernel_rfl
theorem jHI:(Tryz.pinned.checked.prog.mayEnter)=true:=by kernel_rfl
theorem jHH:((Rows.designPlacesUptoRow.lifted==Tryz.pinned.checked.prog.liftsFinal))=true:=by kernel_rfl
theorem jHG:((Tryz.pinned.checked.prog.make==some Rows.designPlacesUptoRow.make))=true:=by kernel_rfl
theorem jHF:((Rows.designPlacesUptoRow.kinds==(if Rows.designPlacesUptoRow.domain.isEmpty then []else f3.params.toList.map fun t=>match Tryz.pinned.checked.prog.underlying t with|some (.int k)=>some k|_=>none)))=true:=by kernel_rfl
theorem jHE:((Rows.designPlacesUptoRow.pinned==Rows.designPlacesUptoRow.pinnedBy))=true:=by kernel_rfl
theorem jHD:((Rows.designPlacesUptoRow.veiled==(f3.params.toList++(Rows.OpenSpec.upto Rows.designPlacesSpec).bare.plain.varTypes Tryz.pinned.checked.prog++f3.resultTypes.toList).any (Tryz.pinned.checked.prog.veiledRec ·)))=true:=by kernel_rfl
theorem jHC:(Rows.designPlacesUptoRow.veiledFits Tryz.pinned.checked.prog f3.params.toList (f3.params.toList++(Rows.OpenSpec.upto Rows.designPlacesSpec).bare.plain.varTypes Tryz.pinned.checked.prog++f3.resultTypes.toList))=true:=by kernel_rfl
theorem nameFact:Tryz.pinned.checked.prog.funcNamed Rows.designPlacesUptoRow.func=some 3:=by kernel_rfl
theorem jA2:f3.isInstance Tryz.pinned.checked.prog Rows.designPlacesUptoRow.origin Rows.designPlacesUptoRow.targs:=jM8 (by kernel_rfl)
theorem Us:f3.isWrapper Tryz.pinned.checked.prog Rows.designPlacesUptoRow.wrapper Rows.designPlacesUptoRow.mainSum:=by
 unfold Func.isWrapper
 first|(rw[jJ6 (by decide+kernel)];kernel_rfl)|(rw[jJ5 (by decide+kernel)];exact⟨rfl,rfl⟩)
theorem jD1:Rows.designPlacesUptoRow.wfByText (Rows.OpenSpec.upto Rows.designPlacesSpec)=true:=by kernel_rfl
theorem jBB:false=Rows.designPlacesUptoRow.goesBy Tryz.pinned.checked.prog:=by kernel_rfl
theorem XW:true=Tryz.pinned.checked.prog.looks []:=by kernel_rfl
end Go.Proofs.YtifbhcfdealfaaaGreatDoor.designPlaces
namespace Go.Proofs.YtifbhcfdealfaaaGreatDoor.designPlaces
open Go.Proofs.Tryz
open Go.ChangeShapes Go.WideShapes Go.ChangeAt Go.RowKit
set_option maxRecDepth 100000
theorem qk:joinedFacts Tryz.pinned.checked.prog 3 f3 (Rows.OpenSpec.upto Rows.designPlacesSpec).bare Rows.designPlacesUptoRow=true:=by
 unfold joinedFacts;refine zp ?_ jHC;refine zp ?_ jHD;refine zp ?_ jHE;refine zp ?_ jHF;refine zp ?_ jHG;refine zp ?_ jHH;refine zp ?_ jHI;refine zp ?_ jHJ;refine zp ?_ jHK;refine zp ?_ jHL;refine zp ?_ jHM;refine zp ?_ jHN;refine zp ?_ jHO;refine zp ?_ jHP;refine zp ?_ jHQ;refine zp ?_ jHR;refine zp ?_ jHS;refine zp ?_ jHT;refine zp ?_ jHU;refine zp ?_ jHV;refine zp ?_ jHW;refine zp ?_ jHX;refine zp ?_ cf9;refine zp ?_ cf8;refine zp ?_ cf7;refine zp ?_ cf6;refine zp ?_ cf5;refine zp ?_ cf4;refine zp ?_ cf3;refine zp ?_ cf2;refine zp ?_ cf1;exact cf0
end Go.Proofs.YtifbhcfdealfaaaGreatDoor.designPlaces

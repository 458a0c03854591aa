/-
  Proved: for every name and every row of bytes whose bulk is at most 1048576 the law DesignPlaces returns true, and its arguments read as they did; the listed variables tied to the program's text (the card).
-/
import Derived.Test.YtifbhcfdealfaaaGreatDoorMd51
import Derived.Test.YtifbhcfdealfaaaGreatDoorMd52
import Derived.Test.YtifbhcfdealfaaaGreatDoorCards
import Derived.Carry
import Derived.Deep.DeepHandedRow
import Derived.Deep.DeepWitnessRowRef
set_option maxRecDepth 100000
set_option maxHeartbeats 25600000
namespace Go.Proofs.YtifbhcfdealfaaaGreatDoor.designPlaces
open Go.Proofs.Tryz
open Go.ChangeShapes Go.WideShapes Go.ChangeAt Go.RowKit
theorem own:ownKnob prog.godebug=none:=by kernel_rfl
theorem Xg:laidOutB prog=true:=by kernel_rfl
theorem QC:prog.readableRec 22=true:=by kernel_rfl
theorem jBQ:22<prog.types.size:=of_decide_eq_true (by kernel_rfl)
theorem jAD:prog.readableRec 9=true:=by kernel_rfl
theorem jEA:9<prog.types.size:=of_decide_eq_true (by kernel_rfl)
theorem jBM(H:Type)(enc:TypeId×Value->H)(W:World)(base:Nat)(args:Array Value)(ds gs:List (DataW H))(before:List MemPlace)
  (WK:∀(j:Nat) t v,f3.params[j]? =some t->args[j]? =some v->Value.okWide prog W .any base t v)
  (hW:DataW.Whole enc prog f3.params.toList Rows.designPlacesSpec.vars false W args.toList ds gs before) (hk:Rows.uptoSmall H (ds++gs)=true) (hL:laidMet prog Rows.designPlacesUptoRow.laid W):
  Calls prog 3 args W fun e W' =>∃v,e=.returned v/\Rows.designPlacesSpec.post enc prog f3 false true false false W args v W' :=by
 have Z4:=hW;obtain⟨p,q,DS,hV,rfl,ID,X5⟩:=hW;have hA:DataW.TrodAll enc prog W 0 (fun _=>true) true f3.params.toList args.toList ds p:=DS;rw[params3]at hA WK;obtain⟨v0,vs0,d0,ds0,p0,q0,M8,rfl,rfl,h0,r0⟩:=trodAll_cons hA;obtain⟨v1,vs1,d1,ds1,p1,q1,rfl,rfl,rfl,h1,r1⟩:=trodAll_cons r0;obtain⟨rfl,rfl,rfl⟩:=trodAll_nil r1;obtain rfl:args= #[v0,v1]:=by cases args;simp_all
 obtain⟨rfl,rfl⟩:=trodVars_none hV;clear DS;simp only[jN7]at Z4 hk;have hB:Rows.uptoBulkAll [d0,d1]<=1048576:=of_decide_eq_true hk;simp only[Rows.uptoBulkAll]at hB;have hlt:=Z4.lt;obtain⟨name,Rl⟩:∃s:BA,v0=.string s:=by
  obtain⟨fuel0,RI⟩:=h0;obtain⟨s,hs,_⟩:=XB RI;have A7:=WK 0 9 v0 rfl rfl;cases v0<;>simp only[Value.cells,List.cons.injEq,and_true]at hs<;>first|exact⟨s,hs⟩|skip
  simp[Value.okWide,Cell.okWide,underlying9,Cell.ok]at A7
 subst Rl;obtain⟨a0,len,cap,rfl⟩:=okWide_slice underlying22 (WK 1 22 v1 rfl rfl);have C0:=h0;have Be:=h1;obtain⟨fuel1,AJ⟩:=h1;obtain⟨A,c,l,hl,GA,hc,hb⟩:=uP AJ;have Dm:[Value.slice a0 len cap]=[.slice A l.length c]:=hl;simp only[List.cons.injEq,Value.slice.injEq,and_true]at Dm;obtain⟨rfl,rfl,rfl⟩:=Dm;obtain⟨hg,h8⟩:=jCV hL (by simp[Rows.designPlacesUptoRow]) (by simp[Rows.designPlacesUptoRow]) (by simp[Rows.designPlacesUptoRow]);have Rz:=jDJ hL (by simp[Rows.designPlacesUptoRow]);refine(Yy W hg Rz h8 name a0 _ cap l GA hc (by simp only at hb;omega)).mono fun e W' ⟨he,ho⟩=> ?_;subst he;refine⟨_,rfl,qN (pa:=p0++p1) (pv:=[]) Z4 (fun _ _ _=>trodAll_cons_mk (shut_bool underlying4 _) trodAll_mk0) (fun sp SM=> ?_) (fun _ _=>rfl) (by simp) ho (ok_one (by kernel_rfl) rfl (okWide_bool_mk underlying4 _))⟩;have RR:=Kp.below ho;rw[params3];refine trodAll_mk2 ?_ ?_
 ·exact WideElems.Trod_stays Xg jAD jEA C0 (fun x hx=>RR.same (hlt x (List.mem_append_left _ hx))) (fun x hx=>SM x (List.mem_append_left _ hx))
 ·exact WideElems.Trod_stays Xg QC jBQ Be (fun x hx=>RR.same (hlt x (List.mem_append_right _ hx))) (fun x hx=>SM x (List.mem_append_right _ hx))
theorem jAq(os:Os)(args:Array Value):laidMet prog Rows.designPlacesUptoRow.laid ((laidWorld os).forCall (fun _ _=>0) ⟨#[],args,[]⟩).memory:=
 laidMet_of_run' 8 (by kernel_rfl) (by kernel_rfl)
theorem jFg(os:Os){H:Type}(enc:TypeId×Value->H):∃places,DataW.whole enc prog ((laidWorld os).forCall (fun _ _=>0) ⟨#[],#[.string ⟨#[]⟩,.slice none 0 0],[]⟩).memory f3.params.toList Rows.designPlacesSpec.vars false #[Value.string ⟨#[]⟩,.slice none 0 0].toList 8=some ([.lit (.string []),.nil],[],places):=
 ⟨[],by kernel_rfl⟩
theorem lifted(os:Os)(started:os.Started)(H:Type)(enc:TypeId×Value->H)(F:Stop.Interp):
  ReturnsInHanded {} checked os 3 .any ((Rows.OpenSpec.upto Rows.designPlacesSpec).preRow enc prog f3 Rows.designPlacesUptoRow.domain false Rows.designPlacesUptoRow.laid) (((Rows.OpenSpec.upto Rows.designPlacesSpec).at F).post enc prog f3 false true false false):=by
 obtain⟨places,hx⟩:=jFg os enc;refine returnsInHanded_of_row (C:=checked) (s:=Rows.OpenSpec.upto Rows.designPlacesSpec) own started (by kernel_rfl) func3
  (witness_row_atRef (enc:=enc) (C:=checked) false (laidWorld os) #[.string ⟨#[]⟩,.slice none 0 0] rfl (by kernel_rfl) (by kernel_rfl) (by kernel_rfl)
   (OpenSpec.preRow_of_cond 8 hx (by kernel_rfl) (fun k hk=>by cases hk;kernel_rfl) (by kernel_rfl) (jAq os _))) ?_
 intro W base args ds gs before WK hW _ hcond _ hL _ _;exact jBM H enc W base args ds gs before WK hW (hcond _ rfl) hL
theorem jAJ:Rows.DesignPlacesUptoSaid:=
 OpenClaim.holds_of_cond 3 f3 rfl rfl rfl rfl rfl rfl rfl ⟨rfl,rfl,rfl,rfl,rfl⟩ rfl rfl rfl rfl rfl nameFact func3 qk jA2 Us
  (fun os started H enc _ F=>by rw[OpenClaim.pre_eq_preRow];exact lifted os started H enc F)
theorem plain(f:FuncId)(fn:Func)(hf:Tryz.pinned.checked.prog.funcNamed "docket/docketlaw12.DesignPlaces" =some f)(AI:Tryz.pinned.checked.prog.funcs[f]? =some fn):
  true=Tryz.pinned.checked.prog.looks []/\∀(j:Nat) t,fn.params[j]? =some t->Tryz.pinned.checked.prog.wantsStandIn t=false:=by
 obtain rfl:f=3:=jL5 (nameFact.symm.trans hf)|>.symm;obtain rfl:fn=f3:=(jL5 (func3.symm.trans AI)).symm;refine⟨XW,fun j t ht=> ?_⟩;rw[params3]at ht;have hm:t=9\/t=22:=(by simpa using Array.mem_of_getElem? ht);rcases hm with rfl|rfl
 ·exact(show prog.wantsStandIn 9=false by kernel_rfl)
 ·exact(show prog.wantsStandIn 22=false by kernel_rfl)
theorem proved:Rows.DesignPlacesUptoCardSaid:=
 Claim7.holds_tied_plain_at .later [] _ _ _ _ jAJ (fun _ h=>by cases h) jD1 (fun _ h=>by cases h) designPlacesUpto_row_tie rfl ⟨rfl,rfl⟩ (by kernel_rfl) rfl plain jBB
#print axioms proved
end Go.Proofs.YtifbhcfdealfaaaGreatDoor.designPlaces

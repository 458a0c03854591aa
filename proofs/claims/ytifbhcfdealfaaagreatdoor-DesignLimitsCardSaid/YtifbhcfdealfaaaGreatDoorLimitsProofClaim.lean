/-
  Proved: for every two numbers the law DesignLimits returns true, and its arguments read as they did; the listed variables tied to the program's text (the card).
-/
import Derived.Test.YtifbhcfdealfaaaGreatDoorMl50
import Derived.Test.YtifbhcfdealfaaaGreatDoorMl51
import Derived.Test.YtifbhcfdealfaaaGreatDoorCards
import Derived.Carry
import Derived.Deep.DeepHandedRow
import Derived.Deep.DeepWitnessRowRef
set_option maxRecDepth 100000
set_option maxHeartbeats 25600000
namespace Go.Proofs.YtifbhcfdealfaaaGreatDoor.designLimits
open Go.Proofs.Tryz
open Go.ChangeShapes Go.WideShapes Go.ChangeAt Go.RowKit
theorem own:ownKnob prog.godebug=none:=by kernel_rfl
theorem Xg:laidOutB prog=true:=by kernel_rfl
theorem jIJ:prog.readableRec 3=true:=by kernel_rfl
theorem jIq:3<prog.types.size:=of_decide_eq_true (by kernel_rfl)
theorem jBM(H:Type)(enc:TypeId×Value->H)(W:World)(base:Nat)(args:Array Value)(ds gs:List (DataW H))(before:List MemPlace)
  (WK:∀(j:Nat) t v,f4.params[j]? =some t->args[j]? =some v->Value.okWide prog W .any base t v)
  (hW:DataW.Whole enc prog f4.params.toList Rows.designLimitsSpec.vars false W args.toList ds gs before) (hL:laidMet prog Rows.designLimitsRow.laid W):
  Calls prog 4 args W fun e W' =>∃v,e=.returned v/\Rows.designLimitsSpec.post enc prog f4 false true false false W args v W' :=by
 have Z4:=hW;obtain⟨p,q,DS,hV,rfl,ID,X5⟩:=hW;have hA:DataW.TrodAll enc prog W 0 (fun _=>true) true f4.params.toList args.toList ds p:=DS;rw[params4]at hA WK;obtain⟨v0,vs0,d0,ds0,p0,q0,M8,rfl,rfl,h0,r0⟩:=trodAll_cons hA;obtain⟨v1,vs1,d1,ds1,p1,q1,rfl,rfl,rfl,h1,r1⟩:=trodAll_cons r0;obtain⟨rfl,rfl,rfl⟩:=trodAll_nil r1;obtain rfl:args= #[v0,v1]:=by cases args;simp_all
 obtain⟨rfl,rfl⟩:=trodVars_none hV;clear DS;simp only[jN7]at Z4;have hlt:=Z4.lt;obtain⟨n0,rfl,_⟩:=open_int underlying3 (WK 0 3 v0 rfl rfl) h0;obtain⟨n1,rfl,_⟩:=open_int underlying3 (WK 1 3 v1 rfl rfl) h1;obtain⟨hg,h8⟩:=jCV hL (by simp[Rows.designLimitsRow]) (by simp[Rows.designLimitsRow]) (by simp[Rows.designLimitsRow]);have Rz:=jDJ hL (by simp[Rows.designLimitsRow]);refine(jIE W hg Rz h8 n0 n1).mono fun e W' ⟨he,ho⟩=> ?_;subst he;refine⟨_,rfl,qN (pa:=p0++p1) (pv:=[]) Z4 (fun _ _ _=>trodAll_cons_mk (shut_bool underlying4 _) trodAll_mk0) (fun sp SM=> ?_) (fun _ _=>rfl) (by simp) ho (ok_one (by kernel_rfl) rfl (okWide_bool_mk underlying4 _))⟩;have RR:=Kp.below ho;rw[params4];refine trodAll_mk2 ?_ ?_
 ·exact WideElems.Trod_stays Xg jIJ jIq h0 (fun x hx=>RR.same (hlt x (by simp[hx]))) (fun x hx=>SM x (by simp[hx]))
 ·exact WideElems.Trod_stays Xg jIJ jIq h1 (fun x hx=>RR.same (hlt x (by simp[hx]))) (fun x hx=>SM x (by simp[hx]))
theorem jAq(os:Os)(args:Array Value):laidMet prog Rows.designLimitsRow.laid ((laidWorld os).forCall (fun _ _=>0) ⟨#[],args,[]⟩).memory:=
 laidMet_of_run' 8 (by kernel_rfl) (by kernel_rfl)
theorem jFg(os:Os){H:Type}(enc:TypeId×Value->H):∃places,DataW.whole enc prog ((laidWorld os).forCall (fun _ _=>0) ⟨#[],#[.int .i64 0,.int .i64 0],[]⟩).memory f4.params.toList Rows.designLimitsSpec.vars false #[Value.int .i64 0,.int .i64 0].toList 8=some ([.lit (.int .i64 0),.lit (.int .i64 0)],[],places):=
 ⟨[],by kernel_rfl⟩
theorem lifted(os:Os)(started:os.Started)(H:Type)(enc:TypeId×Value->H)(F:Stop.Interp):
  ReturnsInHanded {} checked os 4 .any ((OpenSpec.ofChange Rows.designLimitsSpec).preRow enc prog f4 Rows.designLimitsRow.domain false Rows.designLimitsRow.laid) (((OpenSpec.ofChange Rows.designLimitsSpec).at F).post enc prog f4 false true false false):=by
 obtain⟨places,hx⟩:=jFg os enc;refine returnsInHanded_of_row (C:=checked) (s:=OpenSpec.ofChange Rows.designLimitsSpec) own started (by kernel_rfl) func4
  (witness_row_atRef (enc:=enc) (C:=checked) false (laidWorld os) #[.int .i64 0,.int .i64 0] rfl (by kernel_rfl) (by kernel_rfl) (by kernel_rfl)
   (OpenSpec.preRow_of_cond 8 hx (by kernel_rfl) (fun k hk=>by cases hk) (by kernel_rfl) (jAq os _))) ?_
 intro W base args ds gs before WK hW _ _ _ hL _ _;exact jBM H enc W base args ds gs before WK hW hL
theorem jJr:Rows.DesignLimitsSaid:=
 OpenClaim.holds_of_cond 4 f4 rfl rfl rfl rfl rfl rfl rfl ⟨rfl,rfl,rfl,rfl,rfl⟩ rfl rfl rfl rfl rfl nameFact func4 qk jA2 Us
  (fun os started H enc _ F=>by rw[OpenClaim.pre_eq_preRow];exact lifted os started H enc F)
theorem plain(f:FuncId)(fn:Func)(hf:Tryz.pinned.checked.prog.funcNamed "docket/docketlaw12.DesignLimits" =some f)(AI:Tryz.pinned.checked.prog.funcs[f]? =some fn):
  true=Tryz.pinned.checked.prog.looks []/\∀(j:Nat) t,fn.params[j]? =some t->Tryz.pinned.checked.prog.wantsStandIn t=false:=by
 obtain rfl:f=4:=jL5 (nameFact.symm.trans hf)|>.symm;obtain rfl:fn=f4:=(jL5 (func4.symm.trans AI)).symm;refine⟨XW,fun j t ht=> ?_⟩;rw[params4]at ht;obtain rfl:t=3:=(by simpa using Array.mem_of_getElem? ht);exact(show prog.wantsStandIn 3=false by kernel_rfl)
theorem proved:Rows.DesignLimitsCardSaid:=
 Claim7.holds_tied_plain_at .later [] _ _ _ _ jJr (fun _ h=>by cases h) jD1 (fun _ h=>by cases h) designLimits_row_tie rfl ⟨rfl,rfl⟩ (by kernel_rfl) rfl plain jBB
#print axioms proved
end Go.Proofs.YtifbhcfdealfaaaGreatDoor.designLimits

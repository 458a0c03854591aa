/-
  Proved: for every tree whose bulk is at most 1048576 the law TextPrints returns true, and its argument reads as it did; the listed variables tied to the program's text (the card).
-/
import Derived.Test.YtmmjcbbogokmfaaGreatDoorMp46
import Derived.Test.YtmmjcbbogokmfaaGreatDoorMp47
import Derived.Test.YtmmjcbbogokmfaaGreatDoorCards
import Derived.Test.YtmmjcbbogokmfaaGreatDoorTie
import Derived.ProofKit
import Derived.JoinedCond
import Derived.Carry
import Derived.Deep.DeepHandedRow
import Derived.Deep.DeepWitnessRowRef
set_option maxRecDepth 100000
set_option maxHeartbeats 25600000
namespace Go.Proofs.YtmmjcbbogokmfaaGreatDoor.textPrints
open Go.Proofs.Tryz
open Go.ChangeShapes Go.WideShapes Go.ChangeAt Go.RowKit
theorem own:ownKnob prog.godebug=none:=by kernel_rfl
theorem jFO:laidOutB prog=true:=by kernel_rfl
theorem UL:prog.readableRec 29=true:=by kernel_rfl
theorem jEW:29<prog.types.size:=of_decide_eq_true (by kernel_rfl)
theorem jDw(H:Type)(enc:TypeId×Value->H)(W:World)(base:Nat)(args:Array Value)(ds gs:List (DataW H))(before:List MemPlace)
  (LR:∀(j:Nat) t v,f3.params[j]? =some t->args[j]? =some v->Value.okWide prog W .any base t v)
  (hW:DataW.Whole enc prog f3.params.toList Rows.textPrintsSpec.vars false W args.toList ds gs before) (hk:Rows.uptoSmall H (ds++gs)=true) (hL:laidMet prog Rows.textPrintsUptoRow.laid W):
  Calls prog 3 args W fun e W' =>∃v,e=.returned v/\Rows.textPrintsSpec.post enc prog f3 false true false false W args v W' :=by
 have CG:=hW;obtain⟨p,q,Ek,hV,rfl,Iv,Cs⟩:=hW;have hA:DataW.TrodAll enc prog W 0 (fun _=>true) true f3.params.toList args.toList ds p:=Ek;rw[params3]at hA LR;obtain⟨v0,vs0,d0,ds0,p0,q0,Lm,rfl,rfl,h0,r0⟩:=trodAll_cons hA;obtain⟨rfl,rfl,rfl⟩:=trodAll_nil r0;obtain rfl:args= #[v0]:=by cases args;simp_all
 obtain⟨rfl,rfl⟩:=trodVars_none hV;clear Ek;simp only[jN7]at CG hk;have hB:Rows.uptoBulkAll [d0]<=1048576:=of_decide_eq_true hk;simp only[Rows.uptoBulkAll]at hB;have hlt:=CG.lt;have Cf:=LR 0 29 v0 rfl rfl;unfold Value.okWide at Cf;rw[underlying29]at Cf;obtain⟨cs,rfl,_⟩:=Cf;have Bl:=h0;obtain⟨fuel0,AL⟩:=h0;obtain⟨t,s,ns,ps,hm,hT,hP⟩:=Xd AL (by simp only;omega);obtain rfl:cs=(jF t s).toArray:=by
  have e:cs.toList=jF t s:=hm;rw[<-e]
 obtain⟨hg,h8⟩:=jEb hL (by simp[Rows.textPrintsUptoRow]) (by simp[Rows.textPrintsUptoRow]) (by simp[Rows.textPrintsUptoRow]);have X9:=jCg hL (by simp[Rows.textPrintsUptoRow]);have CH:=jCT hL (by simp[Rows.textPrintsUptoRow]);refine(uF W hg X9 CH h8 t s ns ps hT hP).mono fun e W' ⟨he,ho⟩=> ?_;subst he;refine⟨_,rfl,uH (pa:=p0) (pv:=[]) CG (fun _ _ _=>trodAll_cons_mk (shut_bool underlying4 _) trodAll_mk0) (fun sp SA=> ?_) (fun _ _=>rfl) (by simp) ho (ok_one (by kernel_rfl) rfl (okWide_bool_mk underlying4 _))⟩;have Mk:=Kp.below ho;rw[params3];exact trodAll_mk1 (WideElems.Trod_stays jFO UL jEW Bl (fun x hx=>Mk.same (hlt x hx)) (fun x hx=>SA x hx))
theorem jDJ(os:Os)(args:Array Value):laidMet prog Rows.textPrintsUptoRow.laid ((laidWorld os).forCall (fun _ _=>0) ⟨#[],args,[]⟩).memory:=
 laidMet_of_run' 8 (by kernel_rfl) (by kernel_rfl)
theorem jHi(os:Os){H:Type}(enc:TypeId×Value->H):∃places,DataW.whole enc prog ((laidWorld os).forCall (fun _ _=>0) ⟨#[],#[.agg #[.string ⟨#[]⟩,.int .i64 0,.slice none 0 0,.slice none 0 0,.slice none 0 0,.slice none 0 0,.slice none 0 0,.slice none 0 0]],[]⟩).memory f3.params.toList Rows.textPrintsSpec.vars false #[Value.agg #[.string ⟨#[]⟩,.int .i64 0,.slice none 0 0,.slice none 0 0,.slice none 0 0,.slice none 0 0,.slice none 0 0,.slice none 0 0]].toList 8=some ([.agg [.lit (.string []),.lit (.int .i64 0),.nil,.nil,.nil,.nil,.nil,.nil]],[],places):=
 ⟨[],by kernel_rfl⟩
theorem jGk(os:Os)(started:os.Started)(H:Type)(enc:TypeId×Value->H)(F:Stop.Interp):
  ReturnsInHanded {} checked os 3 .any ((Rows.OpenSpec.upto Rows.textPrintsSpec).preRow enc prog f3 Rows.textPrintsUptoRow.domain false Rows.textPrintsUptoRow.laid) (((Rows.OpenSpec.upto Rows.textPrintsSpec).at F).post enc prog f3 false true false false):=by
 obtain⟨places,hx⟩:=jHi os enc;refine returnsInHanded_of_row (C:=checked) (s:=Rows.OpenSpec.upto Rows.textPrintsSpec) own started (by kernel_rfl) func3
  (witness_row_atRef (enc:=enc) (C:=checked) false (laidWorld os) #[.agg #[.string ⟨#[]⟩,.int .i64 0,.slice none 0 0,.slice none 0 0,.slice none 0 0,.slice none 0 0,.slice none 0 0,.slice none 0 0]] rfl (by kernel_rfl) (by kernel_rfl) (by kernel_rfl)
   (OpenSpec.preRow_of_cond 8 hx (by kernel_rfl) (fun k hk=>by cases hk;kernel_rfl) (by kernel_rfl) (jDJ os _))) ?_
 intro W base args ds gs before LR hW _ hcond _ hL _ _;exact jDw H enc W base args ds gs before LR hW (hcond _ rfl) hL
theorem jC4:Tryz.pinned.checked.prog.funcNamed Rows.textPrintsUptoRow.func=some 3:=by kernel_rfl
theorem uj:joinedFacts Tryz.pinned.checked.prog 3 f3 (Rows.OpenSpec.upto Rows.textPrintsSpec).bare Rows.textPrintsUptoRow=true:=by kernel_rfl
theorem jDO:f3.isInstance Tryz.pinned.checked.prog Rows.textPrintsUptoRow.origin Rows.textPrintsUptoRow.targs:=of_decide_eq_true (by kernel_rfl)
theorem jCG:f3.isWrapper Tryz.pinned.checked.prog Rows.textPrintsUptoRow.wrapper Rows.textPrintsUptoRow.mainSum:=by
 unfold Func.isWrapper
 first|(rw[jJ6 (by decide+kernel)];kernel_rfl)|(rw[jJ5 (by decide+kernel)];exact⟨rfl,rfl⟩)
theorem jCi:Rows.TextPrintsUptoSaid:=
 OpenClaim.holds_of_cond 3 f3 rfl rfl rfl rfl rfl rfl rfl ⟨rfl,rfl,rfl,rfl,rfl⟩ rfl rfl rfl rfl rfl jC4 func3 uj jDO jCG
  (fun os started H enc _ F=>by rw[OpenClaim.pre_eq_preRow];exact jGk os started H enc F)
theorem jHk(f:FuncId)(fn:Func)(hf:Tryz.pinned.checked.prog.funcNamed "docket/docketlaw9.TextPrints" =some f)(AJ:Tryz.pinned.checked.prog.funcs[f]? =some fn):
  true=Tryz.pinned.checked.prog.looks []/\∀(j:Nat) t,fn.params[j]? =some t->Tryz.pinned.checked.prog.wantsStandIn t=false:=by
 obtain rfl:f=3:=jL5 ((show prog.funcNamed "docket/docketlaw9.TextPrints" =some 3 by kernel_rfl).symm.trans hf)|>.symm;obtain rfl:fn=f3:=(jL5 (func3.symm.trans AJ)).symm;refine⟨by kernel_rfl,fun j t ht=> ?_⟩;rw[params3]at ht;have hm:t=29:=(by simpa using Array.mem_of_getElem? ht);subst hm;exact(show prog.wantsStandIn 29=false by kernel_rfl)
theorem proved:Rows.TextPrintsUptoCardSaid:=
 Claim7.holds_tied_plain_at .later [] _ _ _ _ jCi (fun _ h=>by cases h) (by kernel_rfl) (fun _ h=>by cases h) textPrintsUpto_row_tie rfl ⟨rfl,rfl⟩ (by kernel_rfl) rfl jHk (by kernel_rfl)
#print axioms proved
end Go.Proofs.YtmmjcbbogokmfaaGreatDoor.textPrints

/-
  Proved: for every two rows of bytes whose bulk is at most 1048576 the law TextBlanks returns true, and its arguments read as they did; the listed variables tied to the program's text (the card).
-/
import Derived.Test.YtmmjcbbogokmfaaGreatDoorMb45
import Derived.Test.YtmmjcbbogokmfaaGreatDoorCards
import Derived.Test.YtmmjcbbogokmfaaGreatDoorTie
import Derived.ProofKit
import Derived.JoinedCond
import Derived.Carry
import Derived.Deep.DeepHandedRow
import Derived.Deep.DeepWitnessRowRef
set_option maxRecDepth 100000
set_option maxHeartbeats 25600000
namespace Go.Proofs.YtmmjcbbogokmfaaGreatDoor.textBlanks
open Go.Proofs.Tryz
open Go.ChangeShapes Go.WideShapes Go.ChangeAt Go.RowKit
theorem own:ownKnob prog.godebug=none:=by kernel_rfl
theorem jCD:laidOutB prog=true:=by kernel_rfl
theorem qH:prog.readableRec 33=true:=by kernel_rfl
theorem UO:33<prog.types.size:=of_decide_eq_true (by kernel_rfl)
theorem jEr(H:Type)(enc:TypeId×Value->H)(W:World)(base:Nat)(args:Array Value)(ds gs:List (DataW H))(before:List MemPlace)
  (Ma:∀(j:Nat) t v,f7.params[j]? =some t->args[j]? =some v->Value.okWide prog W .any base t v)
  (hW:DataW.Whole enc prog f7.params.toList Rows.textBlanksSpec.vars false W args.toList ds gs before) (hk:Rows.uptoSmall H (ds++gs)=true) (hL:laidMet prog Rows.textBlanksUptoRow.laid W):
  Calls prog 7 args W fun e W' =>∃v,e=.returned v/\Rows.textBlanksSpec.post enc prog f7 false true false false W args v W' :=by
 have TT:=hW;obtain⟨p,q,CD,hV,rfl,An,Tz⟩:=hW;have hA:DataW.TrodAll enc prog W 0 (fun _=>true) true f7.params.toList args.toList ds p:=CD;rw[params7]at hA Ma;obtain⟨v0,vs0,d0,ds0,p0,q0,Mw,rfl,rfl,h0,r0⟩:=trodAll_cons hA;obtain⟨v1,vs1,d1,ds1,p1,q1,rfl,rfl,rfl,h1,r1⟩:=trodAll_cons r0;obtain⟨rfl,rfl,rfl⟩:=trodAll_nil r1;obtain rfl:args= #[v0,v1]:=by cases args;simp_all
 obtain⟨rfl,rfl⟩:=trodVars_none hV;clear CD;simp only[jN7]at TT hk;have hB:Rows.uptoBulkAll [d0,d1]<=1048576:=of_decide_eq_true hk;simp only[Rows.uptoBulkAll]at hB;have hlt:=TT.lt;obtain⟨a0,len,cap,rfl⟩:=okWide_slice underlying33 (Ma 0 33 v0 rfl rfl);obtain⟨a1,len1,cap1,rfl⟩:=okWide_slice underlying33 (Ma 1 33 v1 rfl rfl);have Eg:=h0;have Ee:=h1;obtain⟨fuel0,DM⟩:=h0;obtain⟨A,c,l,hl,Fx,hc,hb⟩:=Zs DM;have Cl:[Value.slice a0 len cap]=[.slice A l.length c]:=hl;simp only[List.cons.injEq,Value.slice.injEq,and_true]at Cl;obtain⟨rfl,rfl,rfl⟩:=Cl;obtain⟨fuel1,DL⟩:=h1;obtain⟨A1,c1,l1,PM,V9,FE,Gl⟩:=Zs DL;have Rq:[Value.slice a1 len1 cap1]=[.slice A1 l1.length c1]:=PM;simp only[List.cons.injEq,Value.slice.injEq,and_true]at Rq;obtain⟨rfl,rfl,rfl⟩:=Rq;obtain⟨hg,h8⟩:=jFq hL (by simp[Rows.textBlanksUptoRow]) (by simp[Rows.textBlanksUptoRow]) (by simp[Rows.textBlanksUptoRow]);refine(Qt W hg (jDS hL (by simp[Rows.textBlanksUptoRow])) h8 a0 cap l Fx a1 cap1 l1 V9 (by simp only at Gl;omega)).mono fun e W' ⟨he,ho⟩=> ?_;subst he;refine⟨_,rfl,QN (pa:=p0++p1) (pv:=[]) TT (fun _ _ _=>trodAll_cons_mk (shut_bool underlying4 _) trodAll_mk0) (fun sp Lr=> ?_) (fun _ _=>rfl) (by simp) ho (ok_one (by kernel_rfl) rfl (okWide_bool_mk underlying4 _))⟩;have Nv:=Kp.below ho;rw[params7];refine trodAll_mk2 ?_ ?_
 ·exact WideElems.Trod_stays jCD qH UO Eg (fun x hx=>Nv.same (hlt x (List.mem_append_left _ hx))) (fun x hx=>Lr x (List.mem_append_left _ hx))
 ·exact WideElems.Trod_stays jCD qH UO Ee (fun x hx=>Nv.same (hlt x (List.mem_append_right _ hx))) (fun x hx=>Lr x (List.mem_append_right _ hx))
theorem jEQ(os:Os)(args:Array Value):laidMet prog Rows.textBlanksUptoRow.laid ((laidWorld os).forCall (fun _ _=>0) ⟨#[],args,[]⟩).memory:=
 laidMet_of_run' 8 (by kernel_rfl) (by kernel_rfl)
theorem jJT(os:Os){H:Type}(enc:TypeId×Value->H):∃places,DataW.whole enc prog ((laidWorld os).forCall (fun _ _=>0) ⟨#[],#[.slice none 0 0,.slice none 0 0],[]⟩).memory f7.params.toList Rows.textBlanksSpec.vars false #[Value.slice none 0 0,.slice none 0 0].toList 8=some ([.nil,.nil],[],places):=
 ⟨[],by kernel_rfl⟩
theorem jIN(os:Os)(started:os.Started)(H:Type)(enc:TypeId×Value->H)(F:Stop.Interp):
  ReturnsInHanded {} checked os 7 .any ((Rows.OpenSpec.upto Rows.textBlanksSpec).preRow enc prog f7 Rows.textBlanksUptoRow.domain false Rows.textBlanksUptoRow.laid) (((Rows.OpenSpec.upto Rows.textBlanksSpec).at F).post enc prog f7 false true false false):=by
 obtain⟨places,hx⟩:=jJT os enc;refine returnsInHanded_of_row (C:=checked) (s:=Rows.OpenSpec.upto Rows.textBlanksSpec) own started (by kernel_rfl) func7
  (witness_row_atRef (enc:=enc) (C:=checked) false (laidWorld os) #[.slice none 0 0,.slice none 0 0] rfl (by kernel_rfl) (by kernel_rfl) (by kernel_rfl)
   (OpenSpec.preRow_of_cond 8 hx (by kernel_rfl) (fun k hk=>by cases hk;kernel_rfl) (by kernel_rfl) (jEQ os _))) ?_
 intro W base args ds gs before Ma hW _ hcond _ hL _ _;exact jEr H enc W base args ds gs before Ma hW (hcond _ rfl) hL
theorem jEB:Tryz.pinned.checked.prog.funcNamed Rows.textBlanksUptoRow.func=some 7:=by kernel_rfl
theorem Qp:joinedFacts Tryz.pinned.checked.prog 7 f7 (Rows.OpenSpec.upto Rows.textBlanksSpec).bare Rows.textBlanksUptoRow=true:=by kernel_rfl
theorem jEW:f7.isInstance Tryz.pinned.checked.prog Rows.textBlanksUptoRow.origin Rows.textBlanksUptoRow.targs:=of_decide_eq_true (by kernel_rfl)
theorem jDI:f7.isWrapper Tryz.pinned.checked.prog Rows.textBlanksUptoRow.wrapper Rows.textBlanksUptoRow.mainSum:=by
 unfold Func.isWrapper
 first|(rw[jJ6 (by decide+kernel)];kernel_rfl)|(rw[jJ5 (by decide+kernel)];exact⟨rfl,rfl⟩)
theorem jDh:Rows.TextBlanksUptoSaid:=
 OpenClaim.holds_of_cond 7 f7 rfl rfl rfl rfl rfl rfl rfl ⟨rfl,rfl,rfl,rfl,rfl⟩ rfl rfl rfl rfl rfl jEB func7 Qp jEW jDI
  (fun os started H enc _ F=>by rw[OpenClaim.pre_eq_preRow];exact jIN os started H enc F)
theorem jJV(f:FuncId)(fn:Func)(hf:Tryz.pinned.checked.prog.funcNamed "docket/docketlaw9.TextBlanks" =some f)(Ru:Tryz.pinned.checked.prog.funcs[f]? =some fn):
  true=Tryz.pinned.checked.prog.looks []/\∀(j:Nat) t,fn.params[j]? =some t->Tryz.pinned.checked.prog.wantsStandIn t=false:=by
 obtain rfl:f=7:=jL5 ((show prog.funcNamed "docket/docketlaw9.TextBlanks" =some 7 by kernel_rfl).symm.trans hf)|>.symm;obtain rfl:fn=f7:=(jL5 (func7.symm.trans Ru)).symm;refine⟨by kernel_rfl,fun j t ht=> ?_⟩;rw[params7]at ht;have hm:t=33:=(by simpa using Array.mem_of_getElem? ht);subst hm;exact(show prog.wantsStandIn 33=false by kernel_rfl)
theorem proved:Rows.TextBlanksUptoCardSaid:=
 Claim7.holds_tied_plain_at .later [] _ _ _ _ jDh (fun _ h=>by cases h) (by kernel_rfl) (fun _ h=>by cases h) textBlanksUpto_row_tie rfl ⟨rfl,rfl⟩ (by kernel_rfl) rfl jJV (by kernel_rfl)
#print axioms proved
end Go.Proofs.YtmmjcbbogokmfaaGreatDoor.textBlanks

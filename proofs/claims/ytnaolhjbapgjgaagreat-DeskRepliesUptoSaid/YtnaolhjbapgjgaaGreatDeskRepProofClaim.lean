/-
  Proved: for every number, reply and row of bytes whose bulk together is at most 1048576 the law DeskReplies returns true, and its arguments read as they did.
  (The frame follows the seat's page on upto statements.)
-/
import Derived.Test.YtnaolhjbapgjgaaGreatMg34
import Derived.ProofKit
import Derived.JoinedCond
import Derived.Carry
set_option maxRecDepth 100000
set_option maxHeartbeats 6400000
namespace Go.Proofs.YtnaolhjbapgjgaaGreat.deskReplies
open Go.Proofs.Tryz
open Go.ChangeShapes Go.WideShapes Go.ChangeAt Go.RowKit
set_option linter.unusedVariables false
theorem own:ownKnob prog.godebug=none:=by kernel_rfl
theorem UL:laidOutB prog=true:=by kernel_rfl
theorem jGR:prog.readableRec 3=true:=by kernel_rfl
theorem jI4:3<prog.types.size:=of_decide_eq_true (by kernel_rfl)
theorem jF0:prog.readableRec 63=true:=by kernel_rfl
theorem jIl:63<prog.types.size:=of_decide_eq_true (by kernel_rfl)
theorem jCX:prog.readableRec 22=true:=by kernel_rfl
theorem jGy:22<prog.types.size:=of_decide_eq_true (by kernel_rfl)
theorem jGo(H:Type)(enc:TypeId×Value->H)(W:World)(base:Nat)(args:Array Value)(ds gs:List (DataW H))(before:List MemPlace)
  (LX:∀(j:Nat) t v,f4.params[j]? =some t->args[j]? =some v->Value.okWide prog W .any base t v)
  (hW:DataW.Whole enc prog f4.params.toList Rows.deskRepliesSpec.vars false W args.toList ds gs before) (hk:Rows.uptoSmall H (ds++gs)=true):
  Calls prog 4 args W fun e W' =>∃v,e=.returned v/\Rows.deskRepliesSpec.post enc prog f4 false true false false W args v W' :=by
 have Ml:=hW;obtain⟨p,q,OY,hV,rfl,Bp,hnd⟩:=hW;have hA:DataW.TrodAll enc prog W 0 (fun _=>true) true f4.params.toList args.toList ds p:=OY;rw[params4]at hA LX;obtain⟨v0,vs0,d0,ds0,p0,q0,Q6,rfl,rfl,h0,r0⟩:=trodAll_cons hA;obtain⟨v1,vs1,d1,ds1,p1,q1,rfl,rfl,rfl,h1,r1⟩:=trodAll_cons r0;obtain⟨v2,vs2,d2,ds2,p2,q2,rfl,rfl,rfl,h2,r2⟩:=trodAll_cons r1;obtain⟨rfl,rfl,rfl⟩:=trodAll_nil r2;obtain rfl:args= #[v0,v1,v2]:=by cases args;simp_all
 obtain⟨rfl,rfl⟩:=trodVars_none hV;clear OY;simp only[List.append_nil]at Ml hk;have hB:Rows.uptoBulkAll [d0,d1,d2]<=1048576:=of_decide_eq_true hk;simp only[Rows.uptoBulkAll]at hB;have hM:=Ml.lt;obtain⟨op,rfl⟩:=okWide_int underlying3 (LX 0 3 v0 rfl rfl);have RE:=LX 1 63 v1 rfl rfl;unfold Value.okWide at RE;rw[underlying63]at RE;obtain⟨cr,rfl,_⟩:=RE;obtain⟨a0,len,cap,rfl⟩:=okWide_slice underlying22 (LX 2 22 v2 rfl rfl);have Al:=h0;have Ns:=h1;have Nx:=h2;obtain⟨fuel1,TW⟩:=h1;obtain⟨fuel2,Wy⟩:=h2;obtain⟨r,hr,Gm,hvr,hhn,hhs⟩:=jBk TW (by simp only;omega);obtain rfl:cr=r.cells.toArray:=by
  have e:cr.toList=r.cells:=hr;rw[<-e]
 obtain⟨A,c,l,hl,Fa,hc,hb⟩:=Ys Wy;have Dh:[Value.slice a0 len cap]=[.slice A l.length c]:=hl;simp only[List.cons.injEq,Value.slice.injEq,and_true]at Dh;obtain⟨rfl,rfl,rfl⟩:=Dh;refine(Qw W op r a0 cap l Gm hvr (by have:=jAl r.hap;omega) Fa hc (by simp only at hb;omega)).mono fun e W' ⟨he,ho⟩=> ?_;subst he;refine⟨_,rfl,UA (pa:=p0++(p1++p2)) (pv:=[]) Ml (fun _ _ _=>trodAll_cons_mk (shut_bool underlying4 _) trodAll_mk0) (fun sp PM=> ?_) (fun _ _=>rfl) (by simp) ho (ok_one (by kernel_rfl) rfl (okWide_bool_mk underlying4 _))⟩;have MT:=Kp.below ho;rw[params4];refine trodAll_mk3 ?_ ?_ ?_
 ·exact WideElems.Trod_stays UL jGR jI4 Al (fun x hx=>MT.same (hM x (by simp[hx]))) (fun x hx=>PM x (by simp[hx]))
 ·exact WideElems.Trod_stays UL jF0 jIl Ns (fun x hx=>MT.same (hM x (by simp[hx]))) (fun x hx=>PM x (by simp[hx]))
 ·exact WideElems.Trod_stays UL jCX jGy Nx (fun x hx=>MT.same (hM x (by simp[hx]))) (fun x hx=>PM x (by simp[hx]))
theorem jI3(os:Os)(started:os.Started)(H:Type)(enc:TypeId×Value->H)(F:Stop.Interp):
  ReturnsInHanded {} checked os 4 .any ((Rows.OpenSpec.upto Rows.deskRepliesSpec).pre6 enc prog f4 Rows.deskRepliesUptoRow.domain false) (((Rows.OpenSpec.upto Rows.deskRepliesSpec).at F).post enc prog f4 false true false false):=by
 refine returnsInHanded_of_cond (C:=checked) (s:=Rows.OpenSpec.upto Rows.deskRepliesSpec) (k:=Rows.uptoSmall) rfl own started (by kernel_rfl) func4
  (OpenSpec.witness (enc:=enc) (C:=checked) (s:=Rows.OpenSpec.upto Rows.deskRepliesSpec) (k:=Rows.uptoSmall) rfl false
   ⟨#[],#[.int .i64 0,.agg zeroMR.cells.toArray,.slice none 0 0],[]⟩ 8 (by kernel_rfl) (by kernel_rfl) (by kernel_rfl)
   (x:=([.lit (.int .i64 0),.agg [.lit (.int .i64 0),.agg [.lit (.int .i64 0),.lit (.int .i64 0),.lit (.int .i64 0)],.lit (.int .i64 0),.nil,.agg [.lit (.string []),.lit (.string []),.lit (.int .i64 0),.agg (List.replicate 32 (.lit (.int .u8 0))),.nil,.nil,.nil,.nil],.nil,.lit (.int .i64 0),.agg [.agg [.agg (List.replicate 32 (.lit (.int .u8 0))),.lit (.int .i64 0),.agg (List.replicate 32 (.lit (.int .u8 0))),.agg (List.replicate 32 (.lit (.int .u8 0))),.lit (.int .i64 0)],.nil],.agg [.lit (.int .i64 0),.lit (.int .i64 0),.nil],.agg [.lit (.int .i64 0),.lit (.int .i64 0),.nil],.agg [.lit (.string []),.lit (.bool false),.agg [.lit (.int .i64 0),.agg (List.replicate 32 (.lit (.int .u8 0)))],.agg (List.replicate 32 (.lit (.int .u8 0))),.nil],.agg [.lit (.string []),.lit (.int .i64 0),.agg (List.replicate 32 (.lit (.int .u8 0))),.nil,.nil]],.nil],[],[])) (by kernel_rfl) rfl (by kernel_rfl)) ?_
 intro W base args ds gs before LX hW _ hk _;exact jGo H enc W base args ds gs before LX hW hk
theorem jGI:Tryz.pinned.checked.prog.funcNamed Rows.deskRepliesUptoRow.func=some 4:=by kernel_rfl
theorem Ub:joinedFacts Tryz.pinned.checked.prog 4 f4 (Rows.OpenSpec.upto Rows.deskRepliesSpec).bare Rows.deskRepliesUptoRow=true:=by kernel_rfl
theorem jGS:f4.isInstance Tryz.pinned.checked.prog Rows.deskRepliesUptoRow.origin Rows.deskRepliesUptoRow.targs:=of_decide_eq_true (by kernel_rfl)
theorem jFG:f4.isWrapper Tryz.pinned.checked.prog Rows.deskRepliesUptoRow.wrapper Rows.deskRepliesUptoRow.mainSum:=by
 unfold Func.isWrapper
 first|(rw[jJ6 (by decide+kernel)];kernel_rfl)|(rw[jJ5 (by decide+kernel)];exact⟨rfl,rfl⟩)
theorem over:Rows.deskRepliesUptoRow.holds Tryz.pinned (Rows.OpenSpec.upto Rows.deskRepliesSpec):=
 OpenClaim.holds_of_cond 4 f4 rfl rfl rfl rfl rfl rfl rfl ⟨rfl,rfl,rfl,rfl,rfl⟩ rfl rfl rfl rfl rfl jGI func4 Ub
  jGS jFG
  (fun os started H enc _ F=>jI3 os started H enc F)
theorem proved:Rows.DeskRepliesUptoSaid:=
 over
#print axioms proved
end Go.Proofs.YtnaolhjbapgjgaaGreat.deskReplies

import Derived.Test.YtmmjcbbogokmfaaGreatDoorMb25
import Derived.Laws.IdiomCopy
import Derived.Laws.MakeOwn
import Derived.Laws.OwnMore
set_option maxRecDepth 100000
set_option maxHeartbeats 25600000
namespace Go.Proofs.YtmmjcbbogokmfaaGreatDoor
open Go.Proofs.Tryz
open Go.RowKit
theorem kA{P:Program}{op:Oper}{a:Act}{w:World}(ty:TypeId)(x:Operand)(ho:op.op=.load ty x)
  (b o:Nat) (hx:a.eval x=.pointer (some ⟨b,o,none⟩)) (cs:List Value) (d:TypeDesc) (hc:w.rangeAt b o cs)
  (hu:P.underlying ty=some d) (hd:d.isRow=true) (hi:(P.info? ty).map (·.size)=some cs.length):(execOp a.eval op).run P w=.ok (.value (.agg cs.toArray)) w:=by
 unfold execOp;simp only[ho,hx,Instr.loadAt,Instr.sureAddr,Sem.run_bind,Sem.run_pure,Result.andThen_ok,run_loadVar_mid w b o ty cs d hc hu hd hi]
theorem Ja{op:Oper}{a:Act}{w:World}(t t' :TypeId)(x y:Operand)(ho:op.op=.binOp .neq t x y t')
  (xs ys:Array Value) (hx:a.eval x=.agg xs) (hy:a.eval y=.agg ys) (hg:prog.eqGuardType prog.depth t=false) (r:Bool) (hr:(Op.equalIn 10000 t (.agg xs) (.agg ys)).run prog w=.ok r w):
  (execOp a.eval op).run prog w=.ok (.value (.bool (!r))) w:=by
 unfold execOp;simp only[ho,hx,hy,Sem.run_bind,run_eqGuard_agg w .neq t x y xs ys hg,run_neq_struct,hr,Result.andThen_ok];rfl
theorem jZ{w w' :World}{b o:Nat}{xs:List Value}(h:w.rangeAt b o xs)(ho:Old w w'):w'.rangeAt b o xs:=fun j v hv=>by
 have:=h j v hv;exact(World.cell?_of_block (ho.block b (jg this) (fun f=>f))).trans this
theorem kS{α:Type}{w:World}{C:α->List Value}{z:Nat}(hz:∀x,(C x).length=z){A:OA}{n:Nat}{xs:List α}(hr:Rd w z A n (xs.flatMap C)){k:Nat}{x:α}(hk:xs[k]? =some x)(hn:k<n):∃b o,A=some ⟨b,o,none⟩/\w.rangeAt b (o+k*z) (C x):=by
 obtain⟨b,o,hA,hc⟩:=kH hz hr hk hn;exact⟨b,o,hA,fun j v hv=>by rw[Nat.add_assoc];exact hc j v hv⟩
theorem xJ(x:Atr)(w:World):(Op.equalIn 10000 114 (.agg (atC x).toArray) (.agg (atC x).toArray)).run prog w=.ok true w:=by
 unfold atC iv;go_simp
theorem Yh:(prog.info? 114).map (·.size)=some 7:=by kernel_rfl
theorem YB:prog.eqGuardType prog.depth 114=false:=by kernel_rfl
theorem Yj(w:World)(A B:OA)(c d:Nat)(x:List Atr)(hx:Rd w 7 A x.length (x.flatMap atC))(hy:Rd w 7 B x.length (x.flatMap atC))(hl:x.length<=1000000000000):
  Calls prog 83 #[.slice A x.length c,.slice B x.length d] w fun e w' =>e=.returned (.bool true)/\Old w w' :=by
 have h1:((x.length:Int) !=(x.length:Int))=false:=(by simp);have Hx:=G hx;have Hy:=G hy;clear hx hy;go_enter func83,ntmps83;go_wp2;go_loopw [5] (fun i wr=>∃k:Nat,k<=x.length/\i=.int .i64 k/\Old w wr) (fun i _=>x.length-(intOf i).toNat)
 case atStart=>exact⟨0,by omega,rfl,jQ0 _ _⟩
 case round=>
  obtain⟨k,hk,rfl,Ht⟩:=hrel;by_cases hlt:k<x.length
  ·obtain⟨b1,o1,rfl,FJ⟩:=kS (C:=atC) (fun x=>rfl) (Hx.out.old Ht) (jJ9 hlt) hlt;obtain⟨b2,o2,rfl,FT⟩:=kS (C:=atC) (fun x=>rfl) (Hy.out.old Ht) (jJ9 hlt) hlt;have b5:(k:Int)<=1000000000000:=(by omega);have b6:(0:Int)<=(k:Int):=(by omega);have b7:(k:Int)<(x.length:Int):=(by omega);have b8:(k:Int).toNat=k:=(by omega);have Ho:=G Ht;have G6:(prog.info? 114).map (·.size)=some (atC x[k]).length:=Yh;have WH:=G (xJ x[k]);generalize atC x[k]=cs at*;have GA:=G G6;have Wt:=G FJ;have NR:=G FT;clear Ht G6 FJ FT;go_upto_region 6 with(fail);refine jd (S:=fun w' =>w'.rangeAt b1 (o1+k*7) cs/\w'.rangeAt b2 (o2+k*7) cs) 9 rfl (by kernel_rfl) ⟨jZ Wt.out (jQ0 NoX wr).drew,jZ NR.out (jQ0 NoX wr).drew⟩ (fun Ha=> ?_)
   iterate 3 (refine' tOn rfl rfl (by kernel_rfl) (fun _ _ _ h=>h) rfl Ha (fun w' Hj=> ?_) ?_;rotate_left;(clear Hj;go_simp<;>with_reducible rfl);simp only[Act.put,jJ1,jJ2,jJ3])
   refine' tOn rfl rfl (by kernel_rfl) (fun _ _ _ h=>h) rfl Ha (fun w' Hj=>kA 114 (.tmp 19) rfl b1 (o1+k*7) rfl cs _ Hj.1 underlying114 rfl GA.out) ?_;simp only[Act.put,jJ1,jJ2,jJ3]
   iterate 3 (refine' tOn rfl rfl (by kernel_rfl) (fun _ _ _ h=>h) rfl Ha (fun w' Hj=> ?_) ?_;rotate_left;(clear Hj;go_simp<;>with_reducible rfl);simp only[Act.put,jJ1,jJ2,jJ3])
   refine' tOn rfl rfl (by kernel_rfl) (fun _ _ _ h=>h) rfl Ha (fun w' Hj=>kA 114 (.tmp 23) rfl b2 (o2+k*7) rfl cs _ Hj.2 underlying114 rfl GA.out) ?_;simp only[Act.put,jJ1,jJ2,jJ3];refine' tOn rfl rfl (by kernel_rfl) (fun _ _ _ h=>h) rfl Ha (fun w' Hj=>Ja 114 114 (.tmp 20) (.tmp 24) rfl _ _ rfl rfl YB _ (WH.out _)) ?_;simp only[Act.put,jJ1,jJ2,jJ3];refine wpAnyH_done (by kernel_rfl) ?_ _;go_wp2;go_roundw
   case rel=>exact⟨k+1,by omega,by go_num,Ho.out.drew⟩
   case measure=>simp[intOf];omega
  ·obtain rfl:k=x.length:=(by omega);have Ho:=G Ht;clear Ht;go_wp2;go_ret;exact⟨rfl,Ho.out⟩
theorem jCb(x:Stg)(w:World):(Op.equalIn 10000 117 (.agg (sgC x).toArray) (.agg (sgC x).toArray)).run prog w=.ok true w:=by
 unfold sgC iv;go_simp
theorem QD:(prog.info? 117).map (·.size)=some 7:=by kernel_rfl
theorem uR:prog.eqGuardType prog.depth 117=false:=by kernel_rfl
theorem QH(w:World)(A B:OA)(c d:Nat)(x:List Stg)(hx:Rd w 7 A x.length (x.flatMap sgC))(hy:Rd w 7 B x.length (x.flatMap sgC))(hl:x.length<=1000000000000):
  Calls prog 84 #[.slice A x.length c,.slice B x.length d] w fun e w' =>e=.returned (.bool true)/\Old w w' :=by
 have h1:((x.length:Int) !=(x.length:Int))=false:=(by simp);have Hx:=G hx;have Hy:=G hy;clear hx hy;go_enter func84,ntmps84;go_wp2;go_loopw [5] (fun i wr=>∃k:Nat,k<=x.length/\i=.int .i64 k/\Old w wr) (fun i _=>x.length-(intOf i).toNat)
 case atStart=>exact⟨0,by omega,rfl,jQ0 _ _⟩
 case round=>
  obtain⟨k,hk,rfl,Ht⟩:=hrel;by_cases hlt:k<x.length
  ·obtain⟨b1,o1,rfl,FJ⟩:=kS (C:=sgC) (fun x=>rfl) (Hx.out.old Ht) (jJ9 hlt) hlt;obtain⟨b2,o2,rfl,FT⟩:=kS (C:=sgC) (fun x=>rfl) (Hy.out.old Ht) (jJ9 hlt) hlt;have b5:(k:Int)<=1000000000000:=(by omega);have b6:(0:Int)<=(k:Int):=(by omega);have b7:(k:Int)<(x.length:Int):=(by omega);have b8:(k:Int).toNat=k:=(by omega);have Ho:=G Ht;have G6:(prog.info? 117).map (·.size)=some (sgC x[k]).length:=QD;have WH:=G (jCb x[k]);generalize sgC x[k]=cs at*;have GA:=G G6;have Wt:=G FJ;have NR:=G FT;clear Ht G6 FJ FT;go_upto_region 6 with(fail);refine jd (S:=fun w' =>w'.rangeAt b1 (o1+k*7) cs/\w'.rangeAt b2 (o2+k*7) cs) 9 rfl (by kernel_rfl) ⟨jZ Wt.out (jQ0 NoX wr).drew,jZ NR.out (jQ0 NoX wr).drew⟩ (fun Ha=> ?_)
   iterate 3 (refine' tOn rfl rfl (by kernel_rfl) (fun _ _ _ h=>h) rfl Ha (fun w' Hj=> ?_) ?_;rotate_left;(clear Hj;go_simp<;>with_reducible rfl);simp only[Act.put,jJ1,jJ2,jJ3])
   refine' tOn rfl rfl (by kernel_rfl) (fun _ _ _ h=>h) rfl Ha (fun w' Hj=>kA 117 (.tmp 19) rfl b1 (o1+k*7) rfl cs _ Hj.1 underlying117 rfl GA.out) ?_;simp only[Act.put,jJ1,jJ2,jJ3]
   iterate 3 (refine' tOn rfl rfl (by kernel_rfl) (fun _ _ _ h=>h) rfl Ha (fun w' Hj=> ?_) ?_;rotate_left;(clear Hj;go_simp<;>with_reducible rfl);simp only[Act.put,jJ1,jJ2,jJ3])
   refine' tOn rfl rfl (by kernel_rfl) (fun _ _ _ h=>h) rfl Ha (fun w' Hj=>kA 117 (.tmp 23) rfl b2 (o2+k*7) rfl cs _ Hj.2 underlying117 rfl GA.out) ?_;simp only[Act.put,jJ1,jJ2,jJ3];refine' tOn rfl rfl (by kernel_rfl) (fun _ _ _ h=>h) rfl Ha (fun w' Hj=>Ja 117 117 (.tmp 20) (.tmp 24) rfl _ _ rfl rfl uR _ (WH.out _)) ?_;simp only[Act.put,jJ1,jJ2,jJ3];refine wpAnyH_done (by kernel_rfl) ?_ _;go_wp2;go_roundw
   case rel=>exact⟨k+1,by omega,by go_num,Ho.out.drew⟩
   case measure=>simp[intOf];omega
  ·obtain rfl:k=x.length:=(by omega);have Ho:=G Ht;clear Ht;go_wp2;go_ret;exact⟨rfl,Ho.out⟩
theorem xI(x:Mil)(w:World):(Op.equalIn 10000 64 (.agg (miC x).toArray) (.agg (miC x).toArray)).run prog w=.ok true w:=by
 unfold miC iv;go_simp
theorem Yg:(prog.info? 64).map (·.size)=some 6:=by kernel_rfl
theorem YA:prog.eqGuardType prog.depth 64=false:=by kernel_rfl
theorem Yi(w:World)(A B:OA)(c d:Nat)(x:List Mil)(hx:Rd w 6 A x.length (x.flatMap miC))(hy:Rd w 6 B x.length (x.flatMap miC))(hl:x.length<=1000000000000):
  Calls prog 85 #[.slice A x.length c,.slice B x.length d] w fun e w' =>e=.returned (.bool true)/\Old w w' :=by
 have h1:((x.length:Int) !=(x.length:Int))=false:=(by simp);have Hx:=G hx;have Hy:=G hy;clear hx hy;go_enter func85,ntmps85;go_wp2;go_loopw [5] (fun i wr=>∃k:Nat,k<=x.length/\i=.int .i64 k/\Old w wr) (fun i _=>x.length-(intOf i).toNat)
 case atStart=>exact⟨0,by omega,rfl,jQ0 _ _⟩
 case round=>
  obtain⟨k,hk,rfl,Ht⟩:=hrel;by_cases hlt:k<x.length
  ·obtain⟨b1,o1,rfl,FJ⟩:=kS (C:=miC) (fun x=>rfl) (Hx.out.old Ht) (jJ9 hlt) hlt;obtain⟨b2,o2,rfl,FT⟩:=kS (C:=miC) (fun x=>rfl) (Hy.out.old Ht) (jJ9 hlt) hlt;have b5:(k:Int)<=1000000000000:=(by omega);have b6:(0:Int)<=(k:Int):=(by omega);have b7:(k:Int)<(x.length:Int):=(by omega);have b8:(k:Int).toNat=k:=(by omega);have Ho:=G Ht;have G6:(prog.info? 64).map (·.size)=some (miC x[k]).length:=Yg;have WH:=G (xI x[k]);generalize miC x[k]=cs at*;have GA:=G G6;have Wt:=G FJ;have NR:=G FT;clear Ht G6 FJ FT;go_upto_region 6 with(fail);refine jd (S:=fun w' =>w'.rangeAt b1 (o1+k*6) cs/\w'.rangeAt b2 (o2+k*6) cs) 9 rfl (by kernel_rfl) ⟨jZ Wt.out (jQ0 NoX wr).drew,jZ NR.out (jQ0 NoX wr).drew⟩ (fun Ha=> ?_)
   iterate 3 (refine' tOn rfl rfl (by kernel_rfl) (fun _ _ _ h=>h) rfl Ha (fun w' Hj=> ?_) ?_;rotate_left;(clear Hj;go_simp<;>with_reducible rfl);simp only[Act.put,jJ1,jJ2,jJ3])
   refine' tOn rfl rfl (by kernel_rfl) (fun _ _ _ h=>h) rfl Ha (fun w' Hj=>kA 64 (.tmp 19) rfl b1 (o1+k*6) rfl cs _ Hj.1 underlying64 rfl GA.out) ?_;simp only[Act.put,jJ1,jJ2,jJ3]
   iterate 3 (refine' tOn rfl rfl (by kernel_rfl) (fun _ _ _ h=>h) rfl Ha (fun w' Hj=> ?_) ?_;rotate_left;(clear Hj;go_simp<;>with_reducible rfl);simp only[Act.put,jJ1,jJ2,jJ3])
   refine' tOn rfl rfl (by kernel_rfl) (fun _ _ _ h=>h) rfl Ha (fun w' Hj=>kA 64 (.tmp 23) rfl b2 (o2+k*6) rfl cs _ Hj.2 underlying64 rfl GA.out) ?_;simp only[Act.put,jJ1,jJ2,jJ3];refine' tOn rfl rfl (by kernel_rfl) (fun _ _ _ h=>h) rfl Ha (fun w' Hj=>Ja 64 64 (.tmp 20) (.tmp 24) rfl _ _ rfl rfl YA _ (WH.out _)) ?_;simp only[Act.put,jJ1,jJ2,jJ3];refine wpAnyH_done (by kernel_rfl) ?_ _;go_wp2;go_roundw
   case rel=>exact⟨k+1,by omega,by go_num,Ho.out.drew⟩
   case measure=>simp[intOf];omega
  ·obtain rfl:k=x.length:=(by omega);have Ho:=G Ht;clear Ht;go_wp2;go_ret;exact⟨rfl,Ho.out⟩
theorem jCc(x:Prm)(w:World):(Op.equalIn 10000 122 (.agg (prC x).toArray) (.agg (prC x).toArray)).run prog w=.ok true w:=by
 unfold prC iv;go_simp
theorem QE:(prog.info? 122).map (·.size)=some 3:=by kernel_rfl
theorem uS:prog.eqGuardType prog.depth 122=false:=by kernel_rfl
theorem QI(w:World)(A B:OA)(c d:Nat)(x:List Prm)(hx:Rd w 3 A x.length (x.flatMap prC))(hy:Rd w 3 B x.length (x.flatMap prC))(hl:x.length<=1000000000000):
  Calls prog 125 #[.slice A x.length c,.slice B x.length d] w fun e w' =>e=.returned (.bool true)/\Old w w' :=by
 have h1:((x.length:Int) !=(x.length:Int))=false:=(by simp);have Hx:=G hx;have Hy:=G hy;clear hx hy;go_enter func125,ntmps125;go_wp2;go_loopw [5] (fun i wr=>∃k:Nat,k<=x.length/\i=.int .i64 k/\Old w wr) (fun i _=>x.length-(intOf i).toNat)
 case atStart=>exact⟨0,by omega,rfl,jQ0 _ _⟩
 case round=>
  obtain⟨k,hk,rfl,Ht⟩:=hrel;by_cases hlt:k<x.length
  ·obtain⟨b1,o1,rfl,FJ⟩:=kS (C:=prC) (fun x=>rfl) (Hx.out.old Ht) (jJ9 hlt) hlt;obtain⟨b2,o2,rfl,FT⟩:=kS (C:=prC) (fun x=>rfl) (Hy.out.old Ht) (jJ9 hlt) hlt;have b5:(k:Int)<=1000000000000:=(by omega);have b6:(0:Int)<=(k:Int):=(by omega);have b7:(k:Int)<(x.length:Int):=(by omega);have b8:(k:Int).toNat=k:=(by omega);have Ho:=G Ht;have G6:(prog.info? 122).map (·.size)=some (prC x[k]).length:=QE;have WH:=G (jCc x[k]);generalize prC x[k]=cs at*;have GA:=G G6;have Wt:=G FJ;have NR:=G FT;clear Ht G6 FJ FT;go_upto_region 6 with(fail);refine jd (S:=fun w' =>w'.rangeAt b1 (o1+k*3) cs/\w'.rangeAt b2 (o2+k*3) cs) 9 rfl (by kernel_rfl) ⟨jZ Wt.out (jQ0 NoX wr).drew,jZ NR.out (jQ0 NoX wr).drew⟩ (fun Ha=> ?_)
   iterate 3 (refine' tOn rfl rfl (by kernel_rfl) (fun _ _ _ h=>h) rfl Ha (fun w' Hj=> ?_) ?_;rotate_left;(clear Hj;go_simp<;>with_reducible rfl);simp only[Act.put,jJ1,jJ2,jJ3])
   refine' tOn rfl rfl (by kernel_rfl) (fun _ _ _ h=>h) rfl Ha (fun w' Hj=>kA 122 (.tmp 19) rfl b1 (o1+k*3) rfl cs _ Hj.1 underlying122 rfl GA.out) ?_;simp only[Act.put,jJ1,jJ2,jJ3]
   iterate 3 (refine' tOn rfl rfl (by kernel_rfl) (fun _ _ _ h=>h) rfl Ha (fun w' Hj=> ?_) ?_;rotate_left;(clear Hj;go_simp<;>with_reducible rfl);simp only[Act.put,jJ1,jJ2,jJ3])
   refine' tOn rfl rfl (by kernel_rfl) (fun _ _ _ h=>h) rfl Ha (fun w' Hj=>kA 122 (.tmp 23) rfl b2 (o2+k*3) rfl cs _ Hj.2 underlying122 rfl GA.out) ?_;simp only[Act.put,jJ1,jJ2,jJ3];refine' tOn rfl rfl (by kernel_rfl) (fun _ _ _ h=>h) rfl Ha (fun w' Hj=>Ja 122 122 (.tmp 20) (.tmp 24) rfl _ _ rfl rfl uS _ (WH.out _)) ?_;simp only[Act.put,jJ1,jJ2,jJ3];refine wpAnyH_done (by kernel_rfl) ?_ _;go_wp2;go_roundw
   case rel=>exact⟨k+1,by omega,by go_num,Ho.out.drew⟩
   case measure=>simp[intOf];omega
  ·obtain rfl:k=x.length:=(by omega);have Ho:=G Ht;clear Ht;go_wp2;go_ret;exact⟨rfl,Ho.out⟩
theorem jAC(x:Eff)(w:World):(Op.equalIn 10000 125 (.agg (efC x).toArray) (.agg (efC x).toArray)).run prog w=.ok true w:=by
 unfold efC iv;go_simp
theorem xh:(prog.info? 125).map (·.size)=some 3:=by kernel_rfl
theorem xD:prog.eqGuardType prog.depth 125=false:=by kernel_rfl
theorem xi(w:World)(A B:OA)(c d:Nat)(x:List Eff)(hx:Rd w 3 A x.length (x.flatMap efC))(hy:Rd w 3 B x.length (x.flatMap efC))(hl:x.length<=1000000000000):
  Calls prog 126 #[.slice A x.length c,.slice B x.length d] w fun e w' =>e=.returned (.bool true)/\Old w w' :=by
 have h1:((x.length:Int) !=(x.length:Int))=false:=(by simp);have Hx:=G hx;have Hy:=G hy;clear hx hy;go_enter func126,ntmps126;go_wp2;go_loopw [5] (fun i wr=>∃k:Nat,k<=x.length/\i=.int .i64 k/\Old w wr) (fun i _=>x.length-(intOf i).toNat)
 case atStart=>exact⟨0,by omega,rfl,jQ0 _ _⟩
 case round=>
  obtain⟨k,hk,rfl,Ht⟩:=hrel;by_cases hlt:k<x.length
  ·obtain⟨b1,o1,rfl,FJ⟩:=kS (C:=efC) (fun x=>rfl) (Hx.out.old Ht) (jJ9 hlt) hlt;obtain⟨b2,o2,rfl,FT⟩:=kS (C:=efC) (fun x=>rfl) (Hy.out.old Ht) (jJ9 hlt) hlt;have b5:(k:Int)<=1000000000000:=(by omega);have b6:(0:Int)<=(k:Int):=(by omega);have b7:(k:Int)<(x.length:Int):=(by omega);have b8:(k:Int).toNat=k:=(by omega);have Ho:=G Ht;have G6:(prog.info? 125).map (·.size)=some (efC x[k]).length:=xh;have WH:=G (jAC x[k]);generalize efC x[k]=cs at*;have GA:=G G6;have Wt:=G FJ;have NR:=G FT;clear Ht G6 FJ FT;go_upto_region 6 with(fail);refine jd (S:=fun w' =>w'.rangeAt b1 (o1+k*3) cs/\w'.rangeAt b2 (o2+k*3) cs) 9 rfl (by kernel_rfl) ⟨jZ Wt.out (jQ0 NoX wr).drew,jZ NR.out (jQ0 NoX wr).drew⟩ (fun Ha=> ?_)
   iterate 3 (refine' tOn rfl rfl (by kernel_rfl) (fun _ _ _ h=>h) rfl Ha (fun w' Hj=> ?_) ?_;rotate_left;(clear Hj;go_simp<;>with_reducible rfl);simp only[Act.put,jJ1,jJ2,jJ3])
   refine' tOn rfl rfl (by kernel_rfl) (fun _ _ _ h=>h) rfl Ha (fun w' Hj=>kA 125 (.tmp 19) rfl b1 (o1+k*3) rfl cs _ Hj.1 underlying125 rfl GA.out) ?_;simp only[Act.put,jJ1,jJ2,jJ3]
   iterate 3 (refine' tOn rfl rfl (by kernel_rfl) (fun _ _ _ h=>h) rfl Ha (fun w' Hj=> ?_) ?_;rotate_left;(clear Hj;go_simp<;>with_reducible rfl);simp only[Act.put,jJ1,jJ2,jJ3])
   refine' tOn rfl rfl (by kernel_rfl) (fun _ _ _ h=>h) rfl Ha (fun w' Hj=>kA 125 (.tmp 23) rfl b2 (o2+k*3) rfl cs _ Hj.2 underlying125 rfl GA.out) ?_;simp only[Act.put,jJ1,jJ2,jJ3];refine' tOn rfl rfl (by kernel_rfl) (fun _ _ _ h=>h) rfl Ha (fun w' Hj=>Ja 125 125 (.tmp 20) (.tmp 24) rfl _ _ rfl rfl xD _ (WH.out _)) ?_;simp only[Act.put,jJ1,jJ2,jJ3];refine wpAnyH_done (by kernel_rfl) ?_ _;go_wp2;go_roundw
   case rel=>exact⟨k+1,by omega,by go_num,Ho.out.drew⟩
   case measure=>simp[intOf];omega
  ·obtain rfl:k=x.length:=(by omega);have Ho:=G Ht;clear Ht;go_wp2;go_ret;exact⟨rfl,Ho.out⟩
def jF0(l:List Value)(m:Value):List Value:=l++List.replicate 80 m
theorem jJj:(prog.info? 5).map (fun i=>(i.zero,i.size,i.bytes))=some (some (.int .u8 0),1,1):=by kernel_rfl
theorem jHw(w:World)(A B:OA)(c d:Nat)(l:List Int)(hx:Rd w 1 A l.length (l.map iv))(hy:Rd w 1 B l.length (l.map iv))(hl:l.length<=9223372036854775807):
  Calls prog 74 #[.slice A l.length c,.slice B l.length d] w fun e w' =>e=.returned (.bool true)/\Old w w' :=by
 have h1:((l.length:Int) !=(l.length:Int))=false:=bne_eq_false_iff_eq.2 rfl;go_enter func74,ntmps74;go_wp2;go_loopw [5] (fun i wr=>∃k:Nat,k<=l.length/\i=.int .i64 k/\Old w wr) (fun i _=>l.length-(intOf i).toNat)
 case atStart=>exact⟨0,by omega,rfl,jQ0 _ _⟩
 case round=>
  obtain⟨k,hk,rfl,Ht⟩:=hrel;by_cases hlt:k<l.length
  ·obtain⟨b1,o1,u1,rfl,Mb,FE⟩:=(hx.old Ht).at_ hlt;obtain⟨b2,o2,u2,rfl,Nk,Fq⟩:=(hy.old Ht).at_ hlt;rw[jM1,jJ9 hlt]at Mb Nk;simp only[Option.map_some,Option.some.injEq,iv]at Mb Nk;subst Mb Nk;have b5:(k:Int)<=9223372036854775806:=(by omega);have b6:(0:Int)<=(k:Int):=(by omega);have b7:(k:Int)<(l.length:Int):=(by omega);have b8:(k:Int).toNat=k:=(by omega);have Ho:=G Ht;clear Ht;generalize l[k]=q at*;have hq:((q:Int)!=q)=false:=(by simp);go_wp2;go_quiet (fail);go_wp2;go_roundw
   case rel=>exact⟨k+1,by omega,by go_num,Ho.out.drewN _⟩
   case measure=>simp[intOf];omega
  ·obtain rfl:k=l.length:=(by omega);have Ho:=G Ht;clear Ht;go_wp2;go_ret;exact⟨rfl,Ho.out⟩
theorem jJL(w:World)(A B:OA)(c d:Nat)(l:List BA)(hx:Rd w 1 A l.length (l.map sv))(hy:Rd w 1 B l.length (l.map sv))(hl:l.length<=9223372036854775807):
  Calls prog 75 #[.slice A l.length c,.slice B l.length d] w fun e w' =>e=.returned (.bool true)/\Old w w' :=by
 have h1:((l.length:Int) !=(l.length:Int))=false:=bne_eq_false_iff_eq.2 rfl;go_enter func75,ntmps75;go_wp2;go_loopw [5] (fun i wr=>∃k:Nat,k<=l.length/\i=.int .i64 k/\Old w wr) (fun i _=>l.length-(intOf i).toNat)
 case atStart=>exact⟨0,by omega,rfl,jQ0 _ _⟩
 case round=>
  obtain⟨k,hk,rfl,Ht⟩:=hrel;by_cases hlt:k<l.length
  ·obtain⟨b1,o1,u1,rfl,Mb,FE⟩:=(hx.old Ht).at_ hlt;obtain⟨b2,o2,u2,rfl,Nk,Fq⟩:=(hy.old Ht).at_ hlt;rw[jM1,jJ9 hlt]at Mb Nk;simp only[Option.map_some,Option.some.injEq,sv]at Mb Nk;subst Mb Nk;have b5:(k:Int)<=9223372036854775806:=(by omega);have b6:(0:Int)<=(k:Int):=(by omega);have b7:(k:Int)<(l.length:Int):=(by omega);have b8:(k:Int).toNat=k:=(by omega);have Ho:=G Ht;clear Ht;generalize l[k]=q at*;have hq:(q.toList==q.toList)=true:=(by simp);go_wp2;go_quiet (fail);go_wp2;go_roundw
   case rel=>exact⟨k+1,by omega,by go_num,Ho.out.drewN _⟩
   case measure=>simp[intOf];omega
  ·obtain rfl:k=l.length:=(by omega);have Ho:=G Ht;clear Ht;go_wp2;go_ret;exact⟨rfl,Ho.out⟩
theorem jJM(w:World)(A B:OA)(c d:Nat)(l:LB)(hx:Rd w 1 A l.length (l.map bv))(hy:Rd w 1 B l.length (l.map bv))(hl:l.length<=9223372036854775807):
  Calls prog 61 #[.slice A l.length c,.slice B l.length d] w fun e w' =>e=.returned (.bool true)/\Old w w' :=by
 have h1:((l.length:Int) !=(l.length:Int))=false:=bne_eq_false_iff_eq.2 rfl;go_enter func61,ntmps61;go_wp2;go_loopw [5] (fun i wr=>∃k:Nat,k<=l.length/\i=.int .i64 k/\Old w wr) (fun i _=>l.length-(intOf i).toNat)
 case atStart=>exact⟨0,by omega,rfl,jQ0 _ _⟩
 case round=>
  obtain⟨k,hk,rfl,Ht⟩:=hrel;by_cases hlt:k<l.length
  ·obtain⟨b1,o1,u1,rfl,Mb,FE⟩:=(hx.old Ht).at_ hlt;obtain⟨b2,o2,u2,rfl,Nk,Fq⟩:=(hy.old Ht).at_ hlt;rw[jM1,jJ9 hlt]at Mb Nk;simp only[Option.map_some,Option.some.injEq,bv]at Mb Nk;subst Mb Nk;have b5:(k:Int)<=9223372036854775806:=(by omega);have b6:(0:Int)<=(k:Int):=(by omega);have b7:(k:Int)<(l.length:Int):=(by omega);have b8:(k:Int).toNat=k:=(by omega);have Ho:=G Ht;clear Ht;generalize l[k]=q at*;have hq:((q.toNat:Int)!=(q.toNat:Int))=false:=(by simp);go_wp2;go_quiet (fail);go_wp2;go_roundw
   case rel=>exact⟨k+1,by omega,by go_num,Ho.out.drewN _⟩
   case measure=>simp[intOf];omega
  ·obtain rfl:k=l.length:=(by omega);have Ho:=G Ht;clear Ht;go_wp2;go_ret;exact⟨rfl,Ho.out⟩
def jBN{α:Type}(l:List α)(m:α):List α:=l++List.replicate 80 m
theorem uY{α:Type}{C:α->List Value}{z:Nat}(hz:∀x,(C x).length=z):∀(l:List α),(l.flatMap C).length=l.length*z
 |[]=>by simp
 |x::l=>by rw[jL9,jJ4,hz,uY hz l,jK6,Nat.succ_mul,Nat.add_comm]
def QX:BA:=⟨#[109,97,114,107]⟩
def QV:Atr:=⟨QX,0,0,false,0,0,0⟩
def jGa:Stg:=⟨QX,0,0,⟨#[]⟩,0,0,0⟩
def QU:Mil:=⟨QX,0,0,⟨#[]⟩,0,0⟩
def jGb:Prm:=⟨QX,0,0⟩
def jEC:Eff:=⟨QX,0,0⟩
theorem jDg(w:World)(vk vn:Int)(vt:BA)(vs:List BA)(A B:OA)(c d:Nat)(hx:Rd w 1 A vs.length (vs.map sv))(hy:Rd w 1 B vs.length (vs.map sv))(hl:vs.length<=9223372036854775807):
  Calls prog 127 #[.agg #[.int .i64 vk,.int .i64 vn,.string vt,.slice A vs.length c],.agg #[.int .i64 vk,.int .i64 vn,.string vt,.slice B vs.length d]] w fun e w' =>e=.returned (.bool true)/\Old w w' :=by
 have HS:=G (fun W (hO:Old w W)=>jJL W A B c d vs (hx.old hO) (hy.old hO) hl);have q1:(vt.toList==vt.toList)=true:=beq_self_eq_true _;clear hx hy hl;go_enter func127,ntmps127;go_wp2_with (first|(go_at_call 75;refine(HS.out _ (((jQ0 NoX w).alloc _).alloc _)).mono ?_;rintro e w1 ⟨rfl,hX⟩;have H1:=G hX;clear hX)|fail);go_ret;exact⟨rfl,(((jQ0 NoX w).alloc _).alloc _).trans H1.out (fun _ _ e=>e)⟩
structure Nd2(w:World)(x y:MNd):Prop where
 eq:x.n=y.n
 kx:Rd w 1 x.A x.n.kids.length (x.n.kids.map iv)
 ky:Rd w 1 y.A x.n.kids.length (x.n.kids.map iv)
 vx:Rd w 1 x.vA x.n.vs.length (x.n.vs.map sv)
 vy:Rd w 1 y.vA x.n.vs.length (x.n.vs.map sv)
 kl:x.n.kids.length<=1000000000
 vl:x.n.vs.length<=1000000000
theorem Nd2.old{w w' :World}{x y:MNd}(h:Nd2 w x y)(ho:Old w w'):Nd2 w' x y:=⟨h.eq,h.kx.old ho,h.ky.old ho,h.vx.old ho,h.vy.old ho,h.kl,h.vl⟩
theorem jBD(w:World)(x y:MNd)(h:Nd2 w x y):
  Calls prog 68 #[.agg (ndC x).toArray,.agg (ndC y).toArray] w fun e w' =>e=.returned (.bool true)/\Old w w' :=by
 obtain⟨⟨op,name,vk,vn,vt,vs,kids⟩,A,c,vA,vc⟩:=x;obtain⟨n2,A2,c2,vA2,vc2⟩:=y;obtain⟨rfl,kx,ky,vx,vy,kl,vl⟩:=h;simp only at kx ky vx vy kl vl;have HV:=G (fun W (hO:Old w W)=>jDg W vk vn vt vs vA vA2 vc vc2 (vx.old hO) (vy.old hO) (by omega));have HK:=G (fun W (hO:Old w W)=>jHw W A A2 c c2 kids (kx.old hO) (ky.old hO) (by omega));have q1:(name.toList==name.toList)=true:=beq_self_eq_true _;have B1:=G ((jQ2 w 46 (ndC ⟨⟨op,name,vk,vn,vt,vs,kids⟩,A,c,vA,vc⟩).toArray).old ((jQ0 NoX _).alloc (.cells (ndC ⟨⟨op,name,vk,vn,vt,vs,kids⟩,A2,c2,vA2,vc2⟩).toArray 46)));have B2:=G (jQ2 (w.alloc (.cells (ndC ⟨⟨op,name,vk,vn,vt,vs,kids⟩,A,c,vA,vc⟩).toArray 46)) 46 (ndC ⟨⟨op,name,vk,vn,vt,vs,kids⟩,A2,c2,vA2,vc2⟩).toArray);rw[show(w.alloc (.cells (ndC ⟨⟨op,name,vk,vn,vt,vs,kids⟩,A,c,vA,vc⟩).toArray 46)).heap.size=w.heap.size+1 by simp]at B2;clear kx ky vx vy kl vl;unfold ndC iv at*;go_enter func68,ntmps68;go_wp2_with (first|(go_at_call 74;refine(HK.out _ ((((jQ0 NoX w).alloc _).alloc _).trans H1.out (fun _ _ e=>e))).mono ?_;rintro e w2 ⟨rfl,hX⟩;have H2:=G hX;clear hX)|(go_at_call 127;refine(HV.out _ (((jQ0 NoX w).alloc _).alloc _)).mono ?_;rintro e w1 ⟨rfl,hX⟩;have H1:=G hX;have n6:=(B1.out.old hX).at_ 6 (v:=.slice A kids.length c) rfl;have m6:=(B2.out.old hX).at_ 6 (v:=.slice A2 kids.length c2) rfl;clear hX)|fail);go_ret;exact⟨rfl,((((jQ0 NoX w).alloc _).alloc _).trans H1.out (fun _ _ e=>e)).trans H2.out (fun _ _ e=>e)⟩
structure St2(w:World)(x y:MSt):Prop where
 eq:x.s=y.s
 px:Rd w 3 x.pA x.s.params.length (x.s.params.flatMap prC)
 py:Rd w 3 y.pA x.s.params.length (x.s.params.flatMap prC)
 ex:Rd w 3 x.eA x.s.effects.length (x.s.effects.flatMap efC)
 ey:Rd w 3 y.eA x.s.effects.length (x.s.effects.flatMap efC)
 pl:x.s.params.length<=1000000000
 el:x.s.effects.length<=1000000000
theorem St2.old{w w' :World}{x y:MSt}(h:St2 w x y)(ho:Old w w'):St2 w' x y:=⟨h.eq,h.px.old ho,h.py.old ho,h.ex.old ho,h.ey.old ho,h.pl,h.el⟩
theorem jBC(w:World)(x y:MSt)(h:St2 w x y):
  Calls prog 67 #[.agg (stC x).toArray,.agg (stC y).toArray] w fun e w' =>e=.returned (.bool true)/\Old w w' :=by
 obtain⟨⟨name,at_,order,params,in_,inAt,when_,effects⟩,pA,pc,eA,ec⟩:=x;obtain⟨n2,pA2,pc2,eA2,ec2⟩:=y;obtain⟨rfl,px,py,ex,ey,pl,el⟩:=h;simp only at px py ex ey pl el;have HV:=G (fun W (hO:Old w W)=>QI W pA pA2 pc pc2 params (px.old hO) (py.old hO) (by omega));have HK:=G (fun W (hO:Old w W)=>xi W eA eA2 ec ec2 effects (ex.old hO) (ey.old hO) (by omega));have q1:(name.toList !=name.toList)=false:=bne_self_eq_false _;have q2:(in_.toList !=in_.toList)=false:=bne_self_eq_false _;have B1:=G ((jQ2 w 111 (stC ⟨⟨name,at_,order,params,in_,inAt,when_,effects⟩,pA,pc,eA,ec⟩).toArray).old ((jQ0 NoX _).alloc (.cells (stC ⟨⟨name,at_,order,params,in_,inAt,when_,effects⟩,pA2,pc2,eA2,ec2⟩).toArray 111)));have B2:=G (jQ2 (w.alloc (.cells (stC ⟨⟨name,at_,order,params,in_,inAt,when_,effects⟩,pA,pc,eA,ec⟩).toArray 111)) 111 (stC ⟨⟨name,at_,order,params,in_,inAt,when_,effects⟩,pA2,pc2,eA2,ec2⟩).toArray);rw[show(w.alloc (.cells (stC ⟨⟨name,at_,order,params,in_,inAt,when_,effects⟩,pA,pc,eA,ec⟩).toArray 111)).heap.size=w.heap.size+1 by simp]at B2;clear px py ex ey pl el;unfold stC iv at*;go_enter func67,ntmps67;go_wp2_with (first|(go_at_call 126;refine(HK.out _ ((((jQ0 NoX w).alloc _).alloc _).trans H1.out (fun _ _ e=>e))).mono ?_;rintro e w2 ⟨rfl,hX⟩;have H2:=G hX;clear hX)|(go_at_call 125;refine(HV.out _ (((jQ0 NoX w).alloc _).alloc _)).mono ?_;rintro e w1 ⟨rfl,hX⟩;have H1:=G hX;have n7:=(B1.out.old hX).at_ 7 (v:=.slice eA effects.length ec) rfl;have m7:=(B2.out.old hX).at_ 7 (v:=.slice eA2 effects.length ec2) rfl;clear hX)|fail);go_ret;exact⟨rfl,((((jQ0 NoX w).alloc _).alloc _).trans H1.out (fun _ _ e=>e)).trans H2.out (fun _ _ e=>e)⟩
theorem Zm:(prog.info? 46).map (·.size)=some 7:=by kernel_rfl
theorem VL:(prog.info? 111).map (·.size)=some 8:=by kernel_rfl
theorem XB(w:World)(A B:OA)(c d:Nat)(xs ys:List MNd)(hlen:ys.length=xs.length)(hx:Rd w 7 A xs.length (xs.flatMap ndC))(hy:Rd w 7 B xs.length (ys.flatMap ndC))(hl:xs.length<=1000000000000)
  (hp:∀(k:Nat) (x y:MNd),xs[k]? =some x->ys[k]? =some y->Nd2 w x y):
  Calls prog 81 #[.slice A xs.length c,.slice B xs.length d,.func (.func 68) #[] #[]] w fun e w' =>e=.returned (.bool true)/\Old w w' :=by
 have h1:((xs.length:Int) !=(xs.length:Int))=false:=bne_self_eq_false _;have Hx:=G hx;have Hy:=G hy;have Hp:=G hp;have Fe:=G hlen;clear hx hy hp hlen;go_enter func81,ntmps81;go_wp2;go_loopw [7] (fun i wr=>∃k:Nat,k<=xs.length/\i=.int .i64 k/\Old w wr) (fun i _=>xs.length-(intOf i).toNat)
 case atStart=>exact⟨0,by omega,rfl,jQ0 _ _⟩
 case round=>
  obtain⟨k,hk,rfl,Ht⟩:=hrel;by_cases hlt:k<xs.length
  ·have Gc:k<ys.length:=by rw[Fe.out];exact hlt
   have ex:=jJ9 hlt;have ey:=jJ9 Gc;have HC:=G (fun W (hO:Old wr W)=>jBD W _ _ ((Hp.out k _ _ ex ey).old (Ht.trans hO (fun _ _ e=>e))));obtain⟨b1,o1,rfl,FJ⟩:=kS (C:=ndC) (fun x=>rfl) (Hx.out.old Ht) ex hlt;obtain⟨b2,o2,rfl,FT⟩:=kS (C:=ndC) (fun x=>rfl) (Hy.out.old Ht) ey hlt;have b5:(k:Int)<=1000000000000:=(by omega);have b6:(0:Int)<=(k:Int):=(by omega);have b7:(k:Int)<(xs.length:Int):=(by omega);have b8:(k:Int).toNat=k:=(by omega);have Ho:=G Ht;have Po:=G (show(prog.info? 46).map (·.size)=some (ndC xs[k]).length from Zm);have Pn:=G (show(prog.info? 46).map (·.size)=some (ndC ys[k]).length from Zm);generalize ndC xs[k]=cs at*;generalize ndC ys[k]=ds at*;have Wt:=G FJ;have NR:=G FT;clear Ht FJ FT ex ey;go_upto_region 6 with(fail);refine jd (S:=fun w' =>w'.rangeAt b1 (o1+k*7) cs/\w'.rangeAt b2 (o2+k*7) ds) 11 rfl (by kernel_rfl) ⟨jZ Wt.out (jQ0 NoX wr).drew,jZ NR.out (jQ0 NoX wr).drew⟩ (fun Ha=> ?_)
   iterate 4 (refine' tOn rfl rfl (by kernel_rfl) (fun _ _ _ h=>h) rfl Ha (fun w' Hj=> ?_) ?_;rotate_left;(clear Hj;go_simp<;>with_reducible rfl);simp only[Act.put,jJ1,jJ2,jJ3])
   refine' tOn rfl rfl (by kernel_rfl) (fun _ _ _ h=>h) rfl Ha (fun w' Hj=>kA 46 (.tmp 22) rfl b1 (o1+k*7) rfl cs _ Hj.1 underlying46 rfl Po.out) ?_;simp only[Act.put,jJ1,jJ2,jJ3]
   iterate 3 (refine' tOn rfl rfl (by kernel_rfl) (fun _ _ _ h=>h) rfl Ha (fun w' Hj=> ?_) ?_;rotate_left;(clear Hj;go_simp<;>with_reducible rfl);simp only[Act.put,jJ1,jJ2,jJ3])
   refine' tOn rfl rfl (by kernel_rfl) (fun _ _ _ h=>h) rfl Ha (fun w' Hj=>kA 46 (.tmp 26) rfl b2 (o2+k*7) rfl ds _ Hj.2 underlying46 rfl Pn.out) ?_;simp only[Act.put,jJ1,jJ2,jJ3];refine Vy rfl (by kernel_rfl) (by decide) (fun K hK=> ?_);go_simp;go_at_call 68;refine(HC.out _ ((jQ0 _ _).drew)).mono ?_;rintro e w1 ⟨rfl,hX⟩;have H1:=G ((Ho.out.drew).trans hX (fun _ _ e=>e));have Y3:=G (jZ (jZ Wt.out (jQ0 NoX wr).drew) hX);have X9:=G (jZ (jZ NR.out (jQ0 NoX wr).drew) hX);clear hX;go_simp;refine hK.out _ _ ⟨Y3.out,X9.out⟩ (fun Ha=> ?_);clear hK K
   iterate 1 (refine' tOn rfl rfl (by kernel_rfl) (fun _ _ _ h=>h) rfl Ha (fun w' Hj=> ?_) ?_;rotate_left;(clear Hj;go_simp<;>with_reducible rfl);simp only[Act.put,jJ1,jJ2,jJ3])
   refine wpAnyH_done (by kernel_rfl) ?_ _;go_wp2;go_roundw
   case rel=>exact⟨k+1,by omega,by go_num,H1.out⟩
   case measure=>simp[intOf];omega
  ·obtain rfl:k=xs.length:=(by omega);have Ho:=G Ht;clear Ht;go_wp2;go_ret;exact⟨rfl,Ho.out⟩
theorem XA(w:World)(A B:OA)(c d:Nat)(xs ys:List MSt)(hlen:ys.length=xs.length)(hx:Rd w 8 A xs.length (xs.flatMap stC))(hy:Rd w 8 B xs.length (ys.flatMap stC))(hl:xs.length<=1000000000000)
  (hp:∀(k:Nat) (x y:MSt),xs[k]? =some x->ys[k]? =some y->St2 w x y):
  Calls prog 82 #[.slice A xs.length c,.slice B xs.length d,.func (.func 67) #[] #[]] w fun e w' =>e=.returned (.bool true)/\Old w w' :=by
 have h1:((xs.length:Int) !=(xs.length:Int))=false:=bne_self_eq_false _;have Hx:=G hx;have Hy:=G hy;have Hp:=G hp;have Fe:=G hlen;clear hx hy hp hlen;go_enter func82,ntmps82;go_wp2;go_loopw [7] (fun i wr=>∃k:Nat,k<=xs.length/\i=.int .i64 k/\Old w wr) (fun i _=>xs.length-(intOf i).toNat)
 case atStart=>exact⟨0,by omega,rfl,jQ0 _ _⟩
 case round=>
  obtain⟨k,hk,rfl,Ht⟩:=hrel;by_cases hlt:k<xs.length
  ·have Gc:k<ys.length:=by rw[Fe.out];exact hlt
   have ex:=jJ9 hlt;have ey:=jJ9 Gc;have HC:=G (fun W (hO:Old wr W)=>jBC W _ _ ((Hp.out k _ _ ex ey).old (Ht.trans hO (fun _ _ e=>e))));obtain⟨b1,o1,rfl,FJ⟩:=kS (C:=stC) (fun x=>rfl) (Hx.out.old Ht) ex hlt;obtain⟨b2,o2,rfl,FT⟩:=kS (C:=stC) (fun x=>rfl) (Hy.out.old Ht) ey hlt;have b5:(k:Int)<=1000000000000:=(by omega);have b6:(0:Int)<=(k:Int):=(by omega);have b7:(k:Int)<(xs.length:Int):=(by omega);have b8:(k:Int).toNat=k:=(by omega);have Ho:=G Ht;have Po:=G (show(prog.info? 111).map (·.size)=some (stC xs[k]).length from VL);have Pn:=G (show(prog.info? 111).map (·.size)=some (stC ys[k]).length from VL);generalize stC xs[k]=cs at*;generalize stC ys[k]=ds at*;have Wt:=G FJ;have NR:=G FT;clear Ht FJ FT ex ey;go_upto_region 6 with(fail);refine jd (S:=fun w' =>w'.rangeAt b1 (o1+k*8) cs/\w'.rangeAt b2 (o2+k*8) ds) 11 rfl (by kernel_rfl) ⟨jZ Wt.out (jQ0 NoX wr).drew,jZ NR.out (jQ0 NoX wr).drew⟩ (fun Ha=> ?_)
   iterate 4 (refine' tOn rfl rfl (by kernel_rfl) (fun _ _ _ h=>h) rfl Ha (fun w' Hj=> ?_) ?_;rotate_left;(clear Hj;go_simp<;>with_reducible rfl);simp only[Act.put,jJ1,jJ2,jJ3])
   refine' tOn rfl rfl (by kernel_rfl) (fun _ _ _ h=>h) rfl Ha (fun w' Hj=>kA 111 (.tmp 22) rfl b1 (o1+k*8) rfl cs _ Hj.1 underlying111 rfl Po.out) ?_;simp only[Act.put,jJ1,jJ2,jJ3]
   iterate 3 (refine' tOn rfl rfl (by kernel_rfl) (fun _ _ _ h=>h) rfl Ha (fun w' Hj=> ?_) ?_;rotate_left;(clear Hj;go_simp<;>with_reducible rfl);simp only[Act.put,jJ1,jJ2,jJ3])
   refine' tOn rfl rfl (by kernel_rfl) (fun _ _ _ h=>h) rfl Ha (fun w' Hj=>kA 111 (.tmp 26) rfl b2 (o2+k*8) rfl ds _ Hj.2 underlying111 rfl Pn.out) ?_;simp only[Act.put,jJ1,jJ2,jJ3];refine Vy rfl (by kernel_rfl) (by decide) (fun K hK=> ?_);go_simp;go_at_call 67;refine(HC.out _ ((jQ0 _ _).drew)).mono ?_;rintro e w1 ⟨rfl,hX⟩;have H1:=G ((Ho.out.drew).trans hX (fun _ _ e=>e));have Y3:=G (jZ (jZ Wt.out (jQ0 NoX wr).drew) hX);have X9:=G (jZ (jZ NR.out (jQ0 NoX wr).drew) hX);clear hX;go_simp;refine hK.out _ _ ⟨Y3.out,X9.out⟩ (fun Ha=> ?_);clear hK K
   iterate 1 (refine' tOn rfl rfl (by kernel_rfl) (fun _ _ _ h=>h) rfl Ha (fun w' Hj=> ?_) ?_;rotate_left;(clear Hj;go_simp<;>with_reducible rfl);simp only[Act.put,jJ1,jJ2,jJ3])
   refine wpAnyH_done (by kernel_rfl) ?_ _;go_wp2;go_roundw
   case rel=>exact⟨k+1,by omega,by go_num,H1.out⟩
   case measure=>simp[intOf];omega
  ·obtain rfl:k=xs.length:=(by omega);have Ho:=G Ht;clear Ht;go_wp2;go_ret;exact⟨rfl,Ho.out⟩
end Go.Proofs.YtmmjcbbogokmfaaGreatDoor

import Derived.Test.YtifbhcfdealfaaaGreatDoorMl09
set_option maxRecDepth 100000
set_option maxHeartbeats 25600000
namespace Go.Proofs.YtifbhcfdealfaaaGreatDoor
open Go.Proofs.Tryz
open Go.RowKit
theorem jm{P:Program}{op:Oper}{a:Act}{w:World}(ty:TypeId)(x:Operand)(ho:op.op=.load ty x)
  (b o:Nat) (hx:a.eval x=.pointer (some ⟨b,o,none⟩)) (cs:List Value) (d:TypeDesc) (hc:w.rangeAt b o cs)
  (hu:P.underlying ty=some d) (hd:d.isRow=true) (hi:(P.info? ty).map (·.size)=some cs.length):(execOp a.eval op).run P w=.ok (.value (.agg cs.toArray)) w:=by
 unfold execOp;simp only[ho,hx,Instr.loadAt,Instr.sureAddr,Sem.run_bind,Sem.run_pure,Result.andThen_ok,run_loadVar_mid w b o ty cs d hc hu hd hi]
theorem zI{op:Oper}{a:Act}{w:World}(t t' :TypeId)(x y:Operand)(ho:op.op=.binOp .neq t x y t')
  (xs ys:Array Value) (hx:a.eval x=.agg xs) (hy:a.eval y=.agg ys) (hg:prog.eqGuardType prog.depth t=false) (r:Bool) (hr:(Op.equalIn 10000 t (.agg xs) (.agg ys)).run prog w=.ok r w):
  (execOp a.eval op).run prog w=.ok (.value (.bool (!r))) w:=by
 unfold execOp;simp only[ho,hx,hy,Sem.run_bind,run_eqGuard_agg w .neq t x y xs ys hg,run_neq_struct,hr,Result.andThen_ok];rfl
theorem jS{w w' :World}{b o:Nat}{xs:List Value}(h:w.rangeAt b o xs)(ho:Old w w'):w'.rangeAt b o xs:=fun j v hv=>by
 have:=h j v hv;exact(World.cell?_of_block (ho.block b (jU this) (fun f=>f))).trans this
theorem ju{α:Type}{w:World}{C:α->List Value}{z:Nat}(hz:∀x,(C x).length=z){A:OA}{n:Nat}{xs:List α}(hr:Rd w z A n (xs.flatMap C)){k:Nat}{x:α}(hk:xs[k]? =some x)(hn:k<n):∃b o,A=some ⟨b,o,none⟩/\w.rangeAt b (o+k*z) (C x):=by
 obtain⟨b,o,hA,hc⟩:=jK hz hr hk hn;exact⟨b,o,hA,fun j v hv=>by rw[Nat.add_assoc];exact hc j v hv⟩
theorem YS(x:Atr)(w:World):(Op.equalIn 10000 60 (.agg (atC x).toArray) (.agg (atC x).toArray)).run prog w=.ok true w:=by
 unfold atC iv;go_simp
theorem Kb:(prog.info? 60).map (·.size)=some 7:=by kernel_rfl
theorem Jw:prog.eqGuardType prog.depth 60=false:=by kernel_rfl
theorem Ke(w:World)(A B:OA)(c d:Nat)(x:List Atr)(hx:Rd w 7 A x.length (x.flatMap atC))(hy:Rd w 7 B x.length (x.flatMap atC))(hl:x.length<=1000000000000):
  Calls prog 65 #[.slice A x.length c,.slice B x.length d] w fun e w' =>e=.returned (.bool true)/\Old w w' :=by
 have h1:((x.length:Int) !=(x.length:Int))=false:=(by simp);have Hx:=G hx;have Hy:=G hy;clear hx hy;go_enter func65,ntmps65;go_wp2;go_loopw [5] (fun i wr=>∃k:Nat,k<=x.length/\i=.int .i64 k/\Old w wr) (fun i _=>x.length-(intOf i).toNat)
 case atStart=>exact⟨0,by omega,rfl,jQ0 _ _⟩
 case round=>
  obtain⟨k,hk,rfl,F2⟩:=hrel;by_cases hlt:k<x.length
  ·obtain⟨b1,o1,rfl,FH⟩:=ju (C:=atC) (fun x=>rfl) (Hx.out.old F2) (jJ9 hlt) hlt;obtain⟨b2,o2,rfl,FC⟩:=ju (C:=atC) (fun x=>rfl) (Hy.out.old F2) (jJ9 hlt) hlt;have b5:(k:Int)<=1000000000000:=(by omega);have b6:(0:Int)<=(k:Int):=(by omega);have b7:(k:Int)<(x.length:Int):=(by omega);have b8:(k:Int).toNat=k:=(by omega);have Ho:=G F2;have FK:(prog.info? 60).map (·.size)=some (atC x[k]).length:=Kb;have V2:=G (YS x[k]);generalize atC x[k]=cs at*;have FA:=G FK;have W4:=G FH;have NZ:=G FC;clear F2 FK FH FC;go_upto_region 6 with(fail);refine je (S:=fun w' =>w'.rangeAt b1 (o1+k*7) cs/\w'.rangeAt b2 (o2+k*7) cs) 9 rfl (by kernel_rfl) ⟨jS W4.out (jQ0 NoX wr).drew,jS NZ.out (jQ0 NoX wr).drew⟩ (fun HU=> ?_)
   iterate 3 (refine' tOn rfl rfl (by kernel_rfl) (fun _ _ _ h=>h) rfl HU (fun w' F0=> ?_) ?_;rotate_left;(clear F0;go_simp<;>with_reducible rfl);simp only[Act.put,jJ1,jJ2,jJ3])
   refine' tOn rfl rfl (by kernel_rfl) (fun _ _ _ h=>h) rfl HU (fun w' F0=>jm 60 (.tmp 19) rfl b1 (o1+k*7) rfl cs _ F0.1 underlying60 rfl FA.out) ?_;simp only[Act.put,jJ1,jJ2,jJ3]
   iterate 3 (refine' tOn rfl rfl (by kernel_rfl) (fun _ _ _ h=>h) rfl HU (fun w' F0=> ?_) ?_;rotate_left;(clear F0;go_simp<;>with_reducible rfl);simp only[Act.put,jJ1,jJ2,jJ3])
   refine' tOn rfl rfl (by kernel_rfl) (fun _ _ _ h=>h) rfl HU (fun w' F0=>jm 60 (.tmp 23) rfl b2 (o2+k*7) rfl cs _ F0.2 underlying60 rfl FA.out) ?_;simp only[Act.put,jJ1,jJ2,jJ3];refine' tOn rfl rfl (by kernel_rfl) (fun _ _ _ h=>h) rfl HU (fun w' F0=>zI 60 60 (.tmp 20) (.tmp 24) rfl _ _ rfl rfl Jw _ (V2.out _)) ?_;simp only[Act.put,jJ1,jJ2,jJ3];refine wpAnyH_done (by kernel_rfl) ?_ _;go_wp2;go_roundw
   case rel=>exact⟨k+1,by omega,by go_num,Ho.out.drew⟩
   case measure=>simp[intOf];omega
  ·obtain rfl:k=x.length:=(by omega);have Ho:=G F2;clear F2;go_wp2;go_ret;exact⟨rfl,Ho.out⟩
theorem UN(x:Stg)(w:World):(Op.equalIn 10000 83 (.agg (sgC x).toArray) (.agg (sgC x).toArray)).run prog w=.ok true w:=by
 unfold sgC iv;go_simp
theorem qC:(prog.info? 83).map (·.size)=some 7:=by kernel_rfl
theorem ZS:prog.eqGuardType prog.depth 83=false:=by kernel_rfl
theorem qI(w:World)(A B:OA)(c d:Nat)(x:List Stg)(hx:Rd w 7 A x.length (x.flatMap sgC))(hy:Rd w 7 B x.length (x.flatMap sgC))(hl:x.length<=1000000000000):
  Calls prog 66 #[.slice A x.length c,.slice B x.length d] w fun e w' =>e=.returned (.bool true)/\Old w w' :=by
 have h1:((x.length:Int) !=(x.length:Int))=false:=(by simp);have Hx:=G hx;have Hy:=G hy;clear hx hy;go_enter func66,ntmps66;go_wp2;go_loopw [5] (fun i wr=>∃k:Nat,k<=x.length/\i=.int .i64 k/\Old w wr) (fun i _=>x.length-(intOf i).toNat)
 case atStart=>exact⟨0,by omega,rfl,jQ0 _ _⟩
 case round=>
  obtain⟨k,hk,rfl,F2⟩:=hrel;by_cases hlt:k<x.length
  ·obtain⟨b1,o1,rfl,FH⟩:=ju (C:=sgC) (fun x=>rfl) (Hx.out.old F2) (jJ9 hlt) hlt;obtain⟨b2,o2,rfl,FC⟩:=ju (C:=sgC) (fun x=>rfl) (Hy.out.old F2) (jJ9 hlt) hlt;have b5:(k:Int)<=1000000000000:=(by omega);have b6:(0:Int)<=(k:Int):=(by omega);have b7:(k:Int)<(x.length:Int):=(by omega);have b8:(k:Int).toNat=k:=(by omega);have Ho:=G F2;have FK:(prog.info? 83).map (·.size)=some (sgC x[k]).length:=qC;have V2:=G (UN x[k]);generalize sgC x[k]=cs at*;have FA:=G FK;have W4:=G FH;have NZ:=G FC;clear F2 FK FH FC;go_upto_region 6 with(fail);refine je (S:=fun w' =>w'.rangeAt b1 (o1+k*7) cs/\w'.rangeAt b2 (o2+k*7) cs) 9 rfl (by kernel_rfl) ⟨jS W4.out (jQ0 NoX wr).drew,jS NZ.out (jQ0 NoX wr).drew⟩ (fun HU=> ?_)
   iterate 3 (refine' tOn rfl rfl (by kernel_rfl) (fun _ _ _ h=>h) rfl HU (fun w' F0=> ?_) ?_;rotate_left;(clear F0;go_simp<;>with_reducible rfl);simp only[Act.put,jJ1,jJ2,jJ3])
   refine' tOn rfl rfl (by kernel_rfl) (fun _ _ _ h=>h) rfl HU (fun w' F0=>jm 83 (.tmp 19) rfl b1 (o1+k*7) rfl cs _ F0.1 underlying83 rfl FA.out) ?_;simp only[Act.put,jJ1,jJ2,jJ3]
   iterate 3 (refine' tOn rfl rfl (by kernel_rfl) (fun _ _ _ h=>h) rfl HU (fun w' F0=> ?_) ?_;rotate_left;(clear F0;go_simp<;>with_reducible rfl);simp only[Act.put,jJ1,jJ2,jJ3])
   refine' tOn rfl rfl (by kernel_rfl) (fun _ _ _ h=>h) rfl HU (fun w' F0=>jm 83 (.tmp 23) rfl b2 (o2+k*7) rfl cs _ F0.2 underlying83 rfl FA.out) ?_;simp only[Act.put,jJ1,jJ2,jJ3];refine' tOn rfl rfl (by kernel_rfl) (fun _ _ _ h=>h) rfl HU (fun w' F0=>zI 83 83 (.tmp 20) (.tmp 24) rfl _ _ rfl rfl ZS _ (V2.out _)) ?_;simp only[Act.put,jJ1,jJ2,jJ3];refine wpAnyH_done (by kernel_rfl) ?_ _;go_wp2;go_roundw
   case rel=>exact⟨k+1,by omega,by go_num,Ho.out.drew⟩
   case measure=>simp[intOf];omega
  ·obtain rfl:k=x.length:=(by omega);have Ho:=G F2;clear F2;go_wp2;go_ret;exact⟨rfl,Ho.out⟩
theorem YR(x:Mil)(w:World):(Op.equalIn 10000 85 (.agg (miC x).toArray) (.agg (miC x).toArray)).run prog w=.ok true w:=by
 unfold miC iv;go_simp
theorem KZ:(prog.info? 85).map (·.size)=some 6:=by kernel_rfl
theorem Jv:prog.eqGuardType prog.depth 85=false:=by kernel_rfl
theorem Kc(w:World)(A B:OA)(c d:Nat)(x:List Mil)(hx:Rd w 6 A x.length (x.flatMap miC))(hy:Rd w 6 B x.length (x.flatMap miC))(hl:x.length<=1000000000000):
  Calls prog 67 #[.slice A x.length c,.slice B x.length d] w fun e w' =>e=.returned (.bool true)/\Old w w' :=by
 have h1:((x.length:Int) !=(x.length:Int))=false:=(by simp);have Hx:=G hx;have Hy:=G hy;clear hx hy;go_enter func67,ntmps67;go_wp2;go_loopw [5] (fun i wr=>∃k:Nat,k<=x.length/\i=.int .i64 k/\Old w wr) (fun i _=>x.length-(intOf i).toNat)
 case atStart=>exact⟨0,by omega,rfl,jQ0 _ _⟩
 case round=>
  obtain⟨k,hk,rfl,F2⟩:=hrel;by_cases hlt:k<x.length
  ·obtain⟨b1,o1,rfl,FH⟩:=ju (C:=miC) (fun x=>rfl) (Hx.out.old F2) (jJ9 hlt) hlt;obtain⟨b2,o2,rfl,FC⟩:=ju (C:=miC) (fun x=>rfl) (Hy.out.old F2) (jJ9 hlt) hlt;have b5:(k:Int)<=1000000000000:=(by omega);have b6:(0:Int)<=(k:Int):=(by omega);have b7:(k:Int)<(x.length:Int):=(by omega);have b8:(k:Int).toNat=k:=(by omega);have Ho:=G F2;have FK:(prog.info? 85).map (·.size)=some (miC x[k]).length:=KZ;have V2:=G (YR x[k]);generalize miC x[k]=cs at*;have FA:=G FK;have W4:=G FH;have NZ:=G FC;clear F2 FK FH FC;go_upto_region 6 with(fail);refine je (S:=fun w' =>w'.rangeAt b1 (o1+k*6) cs/\w'.rangeAt b2 (o2+k*6) cs) 9 rfl (by kernel_rfl) ⟨jS W4.out (jQ0 NoX wr).drew,jS NZ.out (jQ0 NoX wr).drew⟩ (fun HU=> ?_)
   iterate 3 (refine' tOn rfl rfl (by kernel_rfl) (fun _ _ _ h=>h) rfl HU (fun w' F0=> ?_) ?_;rotate_left;(clear F0;go_simp<;>with_reducible rfl);simp only[Act.put,jJ1,jJ2,jJ3])
   refine' tOn rfl rfl (by kernel_rfl) (fun _ _ _ h=>h) rfl HU (fun w' F0=>jm 85 (.tmp 19) rfl b1 (o1+k*6) rfl cs _ F0.1 underlying85 rfl FA.out) ?_;simp only[Act.put,jJ1,jJ2,jJ3]
   iterate 3 (refine' tOn rfl rfl (by kernel_rfl) (fun _ _ _ h=>h) rfl HU (fun w' F0=> ?_) ?_;rotate_left;(clear F0;go_simp<;>with_reducible rfl);simp only[Act.put,jJ1,jJ2,jJ3])
   refine' tOn rfl rfl (by kernel_rfl) (fun _ _ _ h=>h) rfl HU (fun w' F0=>jm 85 (.tmp 23) rfl b2 (o2+k*6) rfl cs _ F0.2 underlying85 rfl FA.out) ?_;simp only[Act.put,jJ1,jJ2,jJ3];refine' tOn rfl rfl (by kernel_rfl) (fun _ _ _ h=>h) rfl HU (fun w' F0=>zI 85 85 (.tmp 20) (.tmp 24) rfl _ _ rfl rfl Jv _ (V2.out _)) ?_;simp only[Act.put,jJ1,jJ2,jJ3];refine wpAnyH_done (by kernel_rfl) ?_ _;go_wp2;go_roundw
   case rel=>exact⟨k+1,by omega,by go_num,Ho.out.drew⟩
   case measure=>simp[intOf];omega
  ·obtain rfl:k=x.length:=(by omega);have Ho:=G F2;clear F2;go_wp2;go_ret;exact⟨rfl,Ho.out⟩
theorem UO(x:Prm)(w:World):(Op.equalIn 10000 68 (.agg (prC x).toArray) (.agg (prC x).toArray)).run prog w=.ok true w:=by
 unfold prC iv;go_simp
theorem qD:(prog.info? 68).map (·.size)=some 3:=by kernel_rfl
theorem ZT:prog.eqGuardType prog.depth 68=false:=by kernel_rfl
theorem qJ(w:World)(A B:OA)(c d:Nat)(x:List Prm)(hx:Rd w 3 A x.length (x.flatMap prC))(hy:Rd w 3 B x.length (x.flatMap prC))(hl:x.length<=1000000000000):
  Calls prog 128 #[.slice A x.length c,.slice B x.length d] w fun e w' =>e=.returned (.bool true)/\Old w w' :=by
 have h1:((x.length:Int) !=(x.length:Int))=false:=(by simp);have Hx:=G hx;have Hy:=G hy;clear hx hy;go_enter func128,ntmps128;go_wp2;go_loopw [5] (fun i wr=>∃k:Nat,k<=x.length/\i=.int .i64 k/\Old w wr) (fun i _=>x.length-(intOf i).toNat)
 case atStart=>exact⟨0,by omega,rfl,jQ0 _ _⟩
 case round=>
  obtain⟨k,hk,rfl,F2⟩:=hrel;by_cases hlt:k<x.length
  ·obtain⟨b1,o1,rfl,FH⟩:=ju (C:=prC) (fun x=>rfl) (Hx.out.old F2) (jJ9 hlt) hlt;obtain⟨b2,o2,rfl,FC⟩:=ju (C:=prC) (fun x=>rfl) (Hy.out.old F2) (jJ9 hlt) hlt;have b5:(k:Int)<=1000000000000:=(by omega);have b6:(0:Int)<=(k:Int):=(by omega);have b7:(k:Int)<(x.length:Int):=(by omega);have b8:(k:Int).toNat=k:=(by omega);have Ho:=G F2;have FK:(prog.info? 68).map (·.size)=some (prC x[k]).length:=qD;have V2:=G (UO x[k]);generalize prC x[k]=cs at*;have FA:=G FK;have W4:=G FH;have NZ:=G FC;clear F2 FK FH FC;go_upto_region 6 with(fail);refine je (S:=fun w' =>w'.rangeAt b1 (o1+k*3) cs/\w'.rangeAt b2 (o2+k*3) cs) 9 rfl (by kernel_rfl) ⟨jS W4.out (jQ0 NoX wr).drew,jS NZ.out (jQ0 NoX wr).drew⟩ (fun HU=> ?_)
   iterate 3 (refine' tOn rfl rfl (by kernel_rfl) (fun _ _ _ h=>h) rfl HU (fun w' F0=> ?_) ?_;rotate_left;(clear F0;go_simp<;>with_reducible rfl);simp only[Act.put,jJ1,jJ2,jJ3])
   refine' tOn rfl rfl (by kernel_rfl) (fun _ _ _ h=>h) rfl HU (fun w' F0=>jm 68 (.tmp 19) rfl b1 (o1+k*3) rfl cs _ F0.1 underlying68 rfl FA.out) ?_;simp only[Act.put,jJ1,jJ2,jJ3]
   iterate 3 (refine' tOn rfl rfl (by kernel_rfl) (fun _ _ _ h=>h) rfl HU (fun w' F0=> ?_) ?_;rotate_left;(clear F0;go_simp<;>with_reducible rfl);simp only[Act.put,jJ1,jJ2,jJ3])
   refine' tOn rfl rfl (by kernel_rfl) (fun _ _ _ h=>h) rfl HU (fun w' F0=>jm 68 (.tmp 23) rfl b2 (o2+k*3) rfl cs _ F0.2 underlying68 rfl FA.out) ?_;simp only[Act.put,jJ1,jJ2,jJ3];refine' tOn rfl rfl (by kernel_rfl) (fun _ _ _ h=>h) rfl HU (fun w' F0=>zI 68 68 (.tmp 20) (.tmp 24) rfl _ _ rfl rfl ZT _ (V2.out _)) ?_;simp only[Act.put,jJ1,jJ2,jJ3];refine wpAnyH_done (by kernel_rfl) ?_ _;go_wp2;go_roundw
   case rel=>exact⟨k+1,by omega,by go_num,Ho.out.drew⟩
   case measure=>simp[intOf];omega
  ·obtain rfl:k=x.length:=(by omega);have Ho:=G F2;clear F2;go_wp2;go_ret;exact⟨rfl,Ho.out⟩
theorem uq(x:Eff)(w:World):(Op.equalIn 10000 74 (.agg (efC x).toArray) (.agg (efC x).toArray)).run prog w=.ok true w:=by
 unfold efC iv;go_simp
theorem Yp:(prog.info? 74).map (·.size)=some 3:=by kernel_rfl
theorem YL:prog.eqGuardType prog.depth 74=false:=by kernel_rfl
theorem Ys(w:World)(A B:OA)(c d:Nat)(x:List Eff)(hx:Rd w 3 A x.length (x.flatMap efC))(hy:Rd w 3 B x.length (x.flatMap efC))(hl:x.length<=1000000000000):
  Calls prog 129 #[.slice A x.length c,.slice B x.length d] w fun e w' =>e=.returned (.bool true)/\Old w w' :=by
 have h1:((x.length:Int) !=(x.length:Int))=false:=(by simp);have Hx:=G hx;have Hy:=G hy;clear hx hy;go_enter func129,ntmps129;go_wp2;go_loopw [5] (fun i wr=>∃k:Nat,k<=x.length/\i=.int .i64 k/\Old w wr) (fun i _=>x.length-(intOf i).toNat)
 case atStart=>exact⟨0,by omega,rfl,jQ0 _ _⟩
 case round=>
  obtain⟨k,hk,rfl,F2⟩:=hrel;by_cases hlt:k<x.length
  ·obtain⟨b1,o1,rfl,FH⟩:=ju (C:=efC) (fun x=>rfl) (Hx.out.old F2) (jJ9 hlt) hlt;obtain⟨b2,o2,rfl,FC⟩:=ju (C:=efC) (fun x=>rfl) (Hy.out.old F2) (jJ9 hlt) hlt;have b5:(k:Int)<=1000000000000:=(by omega);have b6:(0:Int)<=(k:Int):=(by omega);have b7:(k:Int)<(x.length:Int):=(by omega);have b8:(k:Int).toNat=k:=(by omega);have Ho:=G F2;have FK:(prog.info? 74).map (·.size)=some (efC x[k]).length:=Yp;have V2:=G (uq x[k]);generalize efC x[k]=cs at*;have FA:=G FK;have W4:=G FH;have NZ:=G FC;clear F2 FK FH FC;go_upto_region 6 with(fail);refine je (S:=fun w' =>w'.rangeAt b1 (o1+k*3) cs/\w'.rangeAt b2 (o2+k*3) cs) 9 rfl (by kernel_rfl) ⟨jS W4.out (jQ0 NoX wr).drew,jS NZ.out (jQ0 NoX wr).drew⟩ (fun HU=> ?_)
   iterate 3 (refine' tOn rfl rfl (by kernel_rfl) (fun _ _ _ h=>h) rfl HU (fun w' F0=> ?_) ?_;rotate_left;(clear F0;go_simp<;>with_reducible rfl);simp only[Act.put,jJ1,jJ2,jJ3])
   refine' tOn rfl rfl (by kernel_rfl) (fun _ _ _ h=>h) rfl HU (fun w' F0=>jm 74 (.tmp 19) rfl b1 (o1+k*3) rfl cs _ F0.1 underlying74 rfl FA.out) ?_;simp only[Act.put,jJ1,jJ2,jJ3]
   iterate 3 (refine' tOn rfl rfl (by kernel_rfl) (fun _ _ _ h=>h) rfl HU (fun w' F0=> ?_) ?_;rotate_left;(clear F0;go_simp<;>with_reducible rfl);simp only[Act.put,jJ1,jJ2,jJ3])
   refine' tOn rfl rfl (by kernel_rfl) (fun _ _ _ h=>h) rfl HU (fun w' F0=>jm 74 (.tmp 23) rfl b2 (o2+k*3) rfl cs _ F0.2 underlying74 rfl FA.out) ?_;simp only[Act.put,jJ1,jJ2,jJ3];refine' tOn rfl rfl (by kernel_rfl) (fun _ _ _ h=>h) rfl HU (fun w' F0=>zI 74 74 (.tmp 20) (.tmp 24) rfl _ _ rfl rfl YL _ (V2.out _)) ?_;simp only[Act.put,jJ1,jJ2,jJ3];refine wpAnyH_done (by kernel_rfl) ?_ _;go_wp2;go_roundw
   case rel=>exact⟨k+1,by omega,by go_num,Ho.out.drew⟩
   case measure=>simp[intOf];omega
  ·obtain rfl:k=x.length:=(by omega);have Ho:=G F2;clear F2;go_wp2;go_ret;exact⟨rfl,Ho.out⟩
end Go.Proofs.YtifbhcfdealfaaaGreatDoor

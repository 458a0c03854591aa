import Derived.Test.YtmmjcbbogokmfaaGreatDoorMp19
import Derived.Test.YtmmjcbbogokmfaaGreatDoorMp39
set_option maxRecDepth 100000
set_option maxHeartbeats 25600000
namespace Go.Proofs.YtmmjcbbogokmfaaGreatDoor
open Go.Proofs.Tryz
open Go.RowKit
theorem yt:prog.underlying 22=some (.slice (prog.elem 22)):=by kernel_rfl
theorem yW(w:World):(sizeOf (prog.elem 22)).run prog w=.ok 7 w:=by kernel_rfl
theorem VD(w:World)(g:Nat)(B:OA)(d:Nat)(l:List Atr)(hb:Blk w g 114 ((jo l jS).flatMap atC).toArray)(hr:Rd w 7 B l.length (l.flatMap atC))(hl:l.length<=1000000000000):
  Calls prog 62 #[.slice (some ⟨g,0,none⟩) (l.length+80) (l.length+80),.slice B l.length d,.agg (atC jS).toArray] w fun e w' =>e=.returned (.bool true)/\Old w w' :=by
 have FI:=yH (C:=atC) (z:=7) (fun x=>rfl) hb;have ho:Old w (w.alloc (.cells (atC jS).toArray 114)):=(jQ0 NoX w).alloc _;have HS:=G (JG (w.alloc (.cells (atC jS).toArray 114)) (some ⟨g,0,none⟩) B (l.length+80) d l (FI.old ho) (hr.old ho) hl);have N8:=G (jQ2 w 114 (atC jS).toArray);have HO:=G ho;have Mt:=fun W=>yD (P:=prog) yt yW (some ⟨g,0,none⟩) (l.length+80) (l.length+80) l.length .i64 (l.length:Int) rfl (by omega) W;have e80:IntKind.i64.wrap ((l.length:Int)+80)=(l.length:Int)+80:=jQ3 _ (by omega);have Hl:=G hl;have Hb:=G hb;generalize Fp:atC jS=cs at*;have NG:=G Fp;have G5:=G (fun W=>(show(Op.equalIn 10000 114 (.agg cs.toArray) (.agg cs.toArray)).run prog W=.ok true W from by rw[<-Fp];exact Kd jS W));have GT:=G (show(prog.info? 114).map (·.size)=some cs.length from by rw[<-Fp];exact kM);clear hb hr hl FI ho Fp;go_enter func62,ntmps62;go_wp2_with fail;refine HS.out.mono ?_;rintro e w1 ⟨rfl,FN⟩;have NE:=G (N8.out.old FN);have NZ:=G (HO.out.trans FN (fun _ _ e=>e));clear FN HS Mt HO N8;go_wp2_with fail;go_loopw [7] (fun i wr=>∃k:Nat,l.length<=k/\k<=l.length+80/\i=.int .i64 k/\Old w1 wr) (fun i _=>l.length+80-(intOf i).toNat)
 case atStart=>exact⟨l.length,jL3 _,Nat.le_add_right _ _,rfl,jQ0 _ _⟩
 case round=>
  obtain⟨k,GF,hU,rfl,Hj⟩:=hrel;have HW:=G Hj;by_cases hlt:k<l.length+80
  ·have hx:(jo l jS)[k]? =some jS:=by
    unfold jo;rw[List.getElem?_append_right GF,List.getElem?_replicate,jJ6 (by omega)]
   have Fy:wr.rangeAt g (k*7) cs:=fun j v hv=>by
    rw[((Hb.out.old NZ.out).old Hj).cell,jJ7];have hj:j<7:=by rw[<-NG.out]at hv;exact(jM5 hv).1
    rw[Ka atC 7 (fun x=>rfl) _ k _ hx j hj,NG.out];exact hv
   have FH:wr.rangeAt w.heap.size 0 cs:=fun j v hv=>by
    rw[Nat.zero_add];exact(NE.out.old Hj).at_ j (by rw[jJ7];exact hv)
   have NB:=G Fy;have N7:=G FH;have b1:(0:Int)<=(k:Int):=(by omega);have b2:(k:Int)<(l.length:Int)+80:=(by omega);have b3:(k:Int).toNat=k:=(by omega);have b4:(k:Int)<=1000000000100:=by have:=Hl.out;omega
   clear Hj hx Fy FH;go_upto_region 6 with(fail);refine jL (S:=fun w' =>w'.rangeAt g (k*7) cs/\w'.rangeAt w.heap.size 0 cs) 6 rfl (by kernel_rfl) ⟨jM NB.out (jQ0 NoX wr).drew,jM N7.out (jQ0 NoX wr).drew⟩ (fun Ha=> ?_)
   iterate 3 (refine' tOn rfl rfl (by kernel_rfl) (fun _ _ _ h=>h) rfl Ha (fun w' Hh=> ?_) ?_;rotate_left;(clear Hh;go_simp<;>with_reducible rfl);simp only[Act.put,jJ1,jJ2,jJ3])
   refine' tOn rfl rfl (by kernel_rfl) (fun _ _ _ h=>h) rfl Ha (fun w' Hh=>jO 114 (.tmp 33) rfl g (k*7) rfl cs _ Hh.1 underlying114 rfl GT.out) ?_;simp only[Act.put,jJ1,jJ2,jJ3];refine' tOn rfl rfl (by kernel_rfl) (fun _ _ _ h=>h) rfl Ha (fun w' Hh=>jO 114 (.tmp 5) rfl w.heap.size 0 rfl cs _ Hh.2 underlying114 rfl GT.out) ?_;simp only[Act.put,jJ1,jJ2,jJ3];refine' tOn rfl rfl (by kernel_rfl) (fun _ _ _ h=>h) rfl Ha (fun w' Hh=>vM 114 114 (.tmp 34) (.tmp 35) rfl _ _ rfl rfl zq _ (G5.out _)) ?_;simp only[Act.put,jJ1,jJ2,jJ3];refine wpAnyH_done (by kernel_rfl) ?_ _;go_wp2;go_roundw
   case rel=>exact⟨k+1,by omega,by omega,by go_num,HW.out.drew⟩
   case measure=>simp[intOf];omega
  ·obtain rfl:k=l.length+80:=(by omega);go_wp2;go_ret;exact⟨rfl,NZ.out.trans HW.out (fun _ _ e=>e)⟩
theorem Jq:prog.underlying 23=some (.slice (prog.elem 23)):=by kernel_rfl
theorem JB(w:World):(sizeOf (prog.elem 23)).run prog w=.ok 7 w:=by kernel_rfl
theorem Zq(w:World)(g:Nat)(B:OA)(d:Nat)(l:List Stg)(hb:Blk w g 117 ((jo l kI).flatMap sgC).toArray)(hr:Rd w 7 B l.length (l.flatMap sgC))(hl:l.length<=1000000000000):
  Calls prog 63 #[.slice (some ⟨g,0,none⟩) (l.length+80) (l.length+80),.slice B l.length d,.agg (sgC kI).toArray] w fun e w' =>e=.returned (.bool true)/\Old w w' :=by
 have FI:=yH (C:=sgC) (z:=7) (fun x=>rfl) hb;have ho:Old w (w.alloc (.cells (sgC kI).toArray 117)):=(jQ0 NoX w).alloc _;have HS:=G (YC (w.alloc (.cells (sgC kI).toArray 117)) (some ⟨g,0,none⟩) B (l.length+80) d l (FI.old ho) (hr.old ho) hl);have N8:=G (jQ2 w 117 (sgC kI).toArray);have HO:=G ho;have Mt:=fun W=>yD (P:=prog) Jq JB (some ⟨g,0,none⟩) (l.length+80) (l.length+80) l.length .i64 (l.length:Int) rfl (by omega) W;have e80:IntKind.i64.wrap ((l.length:Int)+80)=(l.length:Int)+80:=jQ3 _ (by omega);have Hl:=G hl;have Hb:=G hb;generalize Fp:sgC kI=cs at*;have NG:=G Fp;have G5:=G (fun W=>(show(Op.equalIn 10000 117 (.agg cs.toArray) (.agg cs.toArray)).run prog W=.ok true W from by rw[<-Fp];exact xV kI W));have GT:=G (show(prog.info? 117).map (·.size)=some cs.length from by rw[<-Fp];exact vS);clear hb hr hl FI ho Fp;go_enter func63,ntmps63;go_wp2_with fail;refine HS.out.mono ?_;rintro e w1 ⟨rfl,FN⟩;have NE:=G (N8.out.old FN);have NZ:=G (HO.out.trans FN (fun _ _ e=>e));clear FN HS Mt HO N8;go_wp2_with fail;go_loopw [7] (fun i wr=>∃k:Nat,l.length<=k/\k<=l.length+80/\i=.int .i64 k/\Old w1 wr) (fun i _=>l.length+80-(intOf i).toNat)
 case atStart=>exact⟨l.length,jL3 _,Nat.le_add_right _ _,rfl,jQ0 _ _⟩
 case round=>
  obtain⟨k,GF,hU,rfl,Hj⟩:=hrel;have HW:=G Hj;by_cases hlt:k<l.length+80
  ·have hx:(jo l kI)[k]? =some kI:=by
    unfold jo;rw[List.getElem?_append_right GF,List.getElem?_replicate,jJ6 (by omega)]
   have Fy:wr.rangeAt g (k*7) cs:=fun j v hv=>by
    rw[((Hb.out.old NZ.out).old Hj).cell,jJ7];have hj:j<7:=by rw[<-NG.out]at hv;exact(jM5 hv).1
    rw[Ka sgC 7 (fun x=>rfl) _ k _ hx j hj,NG.out];exact hv
   have FH:wr.rangeAt w.heap.size 0 cs:=fun j v hv=>by
    rw[Nat.zero_add];exact(NE.out.old Hj).at_ j (by rw[jJ7];exact hv)
   have NB:=G Fy;have N7:=G FH;have b1:(0:Int)<=(k:Int):=(by omega);have b2:(k:Int)<(l.length:Int)+80:=(by omega);have b3:(k:Int).toNat=k:=(by omega);have b4:(k:Int)<=1000000000100:=by have:=Hl.out;omega
   clear Hj hx Fy FH;go_upto_region 6 with(fail);refine jL (S:=fun w' =>w'.rangeAt g (k*7) cs/\w'.rangeAt w.heap.size 0 cs) 6 rfl (by kernel_rfl) ⟨jM NB.out (jQ0 NoX wr).drew,jM N7.out (jQ0 NoX wr).drew⟩ (fun Ha=> ?_)
   iterate 3 (refine' tOn rfl rfl (by kernel_rfl) (fun _ _ _ h=>h) rfl Ha (fun w' Hh=> ?_) ?_;rotate_left;(clear Hh;go_simp<;>with_reducible rfl);simp only[Act.put,jJ1,jJ2,jJ3])
   refine' tOn rfl rfl (by kernel_rfl) (fun _ _ _ h=>h) rfl Ha (fun w' Hh=>jO 117 (.tmp 33) rfl g (k*7) rfl cs _ Hh.1 underlying117 rfl GT.out) ?_;simp only[Act.put,jJ1,jJ2,jJ3];refine' tOn rfl rfl (by kernel_rfl) (fun _ _ _ h=>h) rfl Ha (fun w' Hh=>jO 117 (.tmp 5) rfl w.heap.size 0 rfl cs _ Hh.2 underlying117 rfl GT.out) ?_;simp only[Act.put,jJ1,jJ2,jJ3];refine' tOn rfl rfl (by kernel_rfl) (fun _ _ _ h=>h) rfl Ha (fun w' Hh=>vM 117 117 (.tmp 34) (.tmp 35) rfl _ _ rfl rfl VQ _ (G5.out _)) ?_;simp only[Act.put,jJ1,jJ2,jJ3];refine wpAnyH_done (by kernel_rfl) ?_ _;go_wp2;go_roundw
   case rel=>exact⟨k+1,by omega,by omega,by go_num,HW.out.drew⟩
   case measure=>simp[intOf];omega
  ·obtain rfl:k=l.length+80:=(by omega);go_wp2;go_ret;exact⟨rfl,NZ.out.trans HW.out (fun _ _ e=>e)⟩
theorem yq:prog.underlying 24=some (.slice (prog.elem 24)):=by kernel_rfl
theorem yV(w:World):(sizeOf (prog.elem 24)).run prog w=.ok 6 w:=by kernel_rfl
theorem VC(w:World)(g:Nat)(B:OA)(d:Nat)(l:List Mil)(hb:Blk w g 64 ((jo l jR).flatMap miC).toArray)(hr:Rd w 6 B l.length (l.flatMap miC))(hl:l.length<=1000000000000):
  Calls prog 64 #[.slice (some ⟨g,0,none⟩) (l.length+80) (l.length+80),.slice B l.length d,.agg (miC jR).toArray] w fun e w' =>e=.returned (.bool true)/\Old w w' :=by
 have FI:=yH (C:=miC) (z:=6) (fun x=>rfl) hb;have ho:Old w (w.alloc (.cells (miC jR).toArray 64)):=(jQ0 NoX w).alloc _;have HS:=G (JF (w.alloc (.cells (miC jR).toArray 64)) (some ⟨g,0,none⟩) B (l.length+80) d l (FI.old ho) (hr.old ho) hl);have N8:=G (jQ2 w 64 (miC jR).toArray);have HO:=G ho;have Mt:=fun W=>yD (P:=prog) yq yV (some ⟨g,0,none⟩) (l.length+80) (l.length+80) l.length .i64 (l.length:Int) rfl (by omega) W;have e80:IntKind.i64.wrap ((l.length:Int)+80)=(l.length:Int)+80:=jQ3 _ (by omega);have Hl:=G hl;have Hb:=G hb;generalize Fp:miC jR=cs at*;have NG:=G Fp;have G5:=G (fun W=>(show(Op.equalIn 10000 64 (.agg cs.toArray) (.agg cs.toArray)).run prog W=.ok true W from by rw[<-Fp];exact Kc jR W));have GT:=G (show(prog.info? 64).map (·.size)=some cs.length from by rw[<-Fp];exact kL);clear hb hr hl FI ho Fp;go_enter func64,ntmps64;go_wp2_with fail;refine HS.out.mono ?_;rintro e w1 ⟨rfl,FN⟩;have NE:=G (N8.out.old FN);have NZ:=G (HO.out.trans FN (fun _ _ e=>e));clear FN HS Mt HO N8;go_wp2_with fail;go_loopw [7] (fun i wr=>∃k:Nat,l.length<=k/\k<=l.length+80/\i=.int .i64 k/\Old w1 wr) (fun i _=>l.length+80-(intOf i).toNat)
 case atStart=>exact⟨l.length,jL3 _,Nat.le_add_right _ _,rfl,jQ0 _ _⟩
 case round=>
  obtain⟨k,GF,hU,rfl,Hj⟩:=hrel;have HW:=G Hj;by_cases hlt:k<l.length+80
  ·have hx:(jo l jR)[k]? =some jR:=by
    unfold jo;rw[List.getElem?_append_right GF,List.getElem?_replicate,jJ6 (by omega)]
   have Fy:wr.rangeAt g (k*6) cs:=fun j v hv=>by
    rw[((Hb.out.old NZ.out).old Hj).cell,jJ7];have hj:j<6:=by rw[<-NG.out]at hv;exact(jM5 hv).1
    rw[Ka miC 6 (fun x=>rfl) _ k _ hx j hj,NG.out];exact hv
   have FH:wr.rangeAt w.heap.size 0 cs:=fun j v hv=>by
    rw[Nat.zero_add];exact(NE.out.old Hj).at_ j (by rw[jJ7];exact hv)
   have NB:=G Fy;have N7:=G FH;have b1:(0:Int)<=(k:Int):=(by omega);have b2:(k:Int)<(l.length:Int)+80:=(by omega);have b3:(k:Int).toNat=k:=(by omega);have b4:(k:Int)<=1000000000100:=by have:=Hl.out;omega
   clear Hj hx Fy FH;go_upto_region 6 with(fail);refine jL (S:=fun w' =>w'.rangeAt g (k*6) cs/\w'.rangeAt w.heap.size 0 cs) 6 rfl (by kernel_rfl) ⟨jM NB.out (jQ0 NoX wr).drew,jM N7.out (jQ0 NoX wr).drew⟩ (fun Ha=> ?_)
   iterate 3 (refine' tOn rfl rfl (by kernel_rfl) (fun _ _ _ h=>h) rfl Ha (fun w' Hh=> ?_) ?_;rotate_left;(clear Hh;go_simp<;>with_reducible rfl);simp only[Act.put,jJ1,jJ2,jJ3])
   refine' tOn rfl rfl (by kernel_rfl) (fun _ _ _ h=>h) rfl Ha (fun w' Hh=>jO 64 (.tmp 33) rfl g (k*6) rfl cs _ Hh.1 underlying64 rfl GT.out) ?_;simp only[Act.put,jJ1,jJ2,jJ3];refine' tOn rfl rfl (by kernel_rfl) (fun _ _ _ h=>h) rfl Ha (fun w' Hh=>jO 64 (.tmp 5) rfl w.heap.size 0 rfl cs _ Hh.2 underlying64 rfl GT.out) ?_;simp only[Act.put,jJ1,jJ2,jJ3];refine' tOn rfl rfl (by kernel_rfl) (fun _ _ _ h=>h) rfl Ha (fun w' Hh=>vM 64 64 (.tmp 34) (.tmp 35) rfl _ _ rfl rfl zp _ (G5.out _)) ?_;simp only[Act.put,jJ1,jJ2,jJ3];refine wpAnyH_done (by kernel_rfl) ?_ _;go_wp2;go_roundw
   case rel=>exact⟨k+1,by omega,by omega,by go_num,HW.out.drew⟩
   case measure=>simp[intOf];omega
  ·obtain rfl:k=l.length+80:=(by omega);go_wp2;go_ret;exact⟨rfl,NZ.out.trans HW.out (fun _ _ e=>e)⟩
theorem Jr:prog.underlying 108=some (.slice (prog.elem 108)):=by kernel_rfl
theorem JC(w:World):(sizeOf (prog.elem 108)).run prog w=.ok 3 w:=by kernel_rfl
theorem Zr(w:World)(g:Nat)(B:OA)(d:Nat)(l:List Prm)(hb:Blk w g 122 ((jo l kG).flatMap prC).toArray)(hr:Rd w 3 B l.length (l.flatMap prC))(hl:l.length<=1000000000000):
  Calls prog 65 #[.slice (some ⟨g,0,none⟩) (l.length+80) (l.length+80),.slice B l.length d,.agg (prC kG).toArray] w fun e w' =>e=.returned (.bool true)/\Old w w' :=by
 have FI:=yH (C:=prC) (z:=3) (fun x=>rfl) hb;have ho:Old w (w.alloc (.cells (prC kG).toArray 122)):=(jQ0 NoX w).alloc _;have HS:=G (YD (w.alloc (.cells (prC kG).toArray 122)) (some ⟨g,0,none⟩) B (l.length+80) d l (FI.old ho) (hr.old ho) hl);have N8:=G (jQ2 w 122 (prC kG).toArray);have HO:=G ho;have Mt:=fun W=>yD (P:=prog) Jr JC (some ⟨g,0,none⟩) (l.length+80) (l.length+80) l.length .i64 (l.length:Int) rfl (by omega) W;have e80:IntKind.i64.wrap ((l.length:Int)+80)=(l.length:Int)+80:=jQ3 _ (by omega);have Hl:=G hl;have Hb:=G hb;generalize Fp:prC kG=cs at*;have NG:=G Fp;have G5:=G (fun W=>(show(Op.equalIn 10000 122 (.agg cs.toArray) (.agg cs.toArray)).run prog W=.ok true W from by rw[<-Fp];exact xW kG W));have GT:=G (show(prog.info? 122).map (·.size)=some cs.length from by rw[<-Fp];exact vT);clear hb hr hl FI ho Fp;go_enter func65,ntmps65;go_wp2_with fail;refine HS.out.mono ?_;rintro e w1 ⟨rfl,FN⟩;have NE:=G (N8.out.old FN);have NZ:=G (HO.out.trans FN (fun _ _ e=>e));clear FN HS Mt HO N8;go_wp2_with fail;go_loopw [7] (fun i wr=>∃k:Nat,l.length<=k/\k<=l.length+80/\i=.int .i64 k/\Old w1 wr) (fun i _=>l.length+80-(intOf i).toNat)
 case atStart=>exact⟨l.length,jL3 _,Nat.le_add_right _ _,rfl,jQ0 _ _⟩
 case round=>
  obtain⟨k,GF,hU,rfl,Hj⟩:=hrel;have HW:=G Hj;by_cases hlt:k<l.length+80
  ·have hx:(jo l kG)[k]? =some kG:=by
    unfold jo;rw[List.getElem?_append_right GF,List.getElem?_replicate,jJ6 (by omega)]
   have Fy:wr.rangeAt g (k*3) cs:=fun j v hv=>by
    rw[((Hb.out.old NZ.out).old Hj).cell,jJ7];have hj:j<3:=by rw[<-NG.out]at hv;exact(jM5 hv).1
    rw[Ka prC 3 (fun x=>rfl) _ k _ hx j hj,NG.out];exact hv
   have FH:wr.rangeAt w.heap.size 0 cs:=fun j v hv=>by
    rw[Nat.zero_add];exact(NE.out.old Hj).at_ j (by rw[jJ7];exact hv)
   have NB:=G Fy;have N7:=G FH;have b1:(0:Int)<=(k:Int):=(by omega);have b2:(k:Int)<(l.length:Int)+80:=(by omega);have b3:(k:Int).toNat=k:=(by omega);have b4:(k:Int)<=1000000000100:=by have:=Hl.out;omega
   clear Hj hx Fy FH;go_upto_region 6 with(fail);refine jL (S:=fun w' =>w'.rangeAt g (k*3) cs/\w'.rangeAt w.heap.size 0 cs) 6 rfl (by kernel_rfl) ⟨jM NB.out (jQ0 NoX wr).drew,jM N7.out (jQ0 NoX wr).drew⟩ (fun Ha=> ?_)
   iterate 3 (refine' tOn rfl rfl (by kernel_rfl) (fun _ _ _ h=>h) rfl Ha (fun w' Hh=> ?_) ?_;rotate_left;(clear Hh;go_simp<;>with_reducible rfl);simp only[Act.put,jJ1,jJ2,jJ3])
   refine' tOn rfl rfl (by kernel_rfl) (fun _ _ _ h=>h) rfl Ha (fun w' Hh=>jO 122 (.tmp 33) rfl g (k*3) rfl cs _ Hh.1 underlying122 rfl GT.out) ?_;simp only[Act.put,jJ1,jJ2,jJ3];refine' tOn rfl rfl (by kernel_rfl) (fun _ _ _ h=>h) rfl Ha (fun w' Hh=>jO 122 (.tmp 5) rfl w.heap.size 0 rfl cs _ Hh.2 underlying122 rfl GT.out) ?_;simp only[Act.put,jJ1,jJ2,jJ3];refine' tOn rfl rfl (by kernel_rfl) (fun _ _ _ h=>h) rfl Ha (fun w' Hh=>vM 122 122 (.tmp 34) (.tmp 35) rfl _ _ rfl rfl VR _ (G5.out _)) ?_;simp only[Act.put,jJ1,jJ2,jJ3];refine wpAnyH_done (by kernel_rfl) ?_ _;go_wp2;go_roundw
   case rel=>exact⟨k+1,by omega,by omega,by go_num,HW.out.drew⟩
   case measure=>simp[intOf];omega
  ·obtain rfl:k=l.length+80:=(by omega);go_wp2;go_ret;exact⟨rfl,NZ.out.trans HW.out (fun _ _ e=>e)⟩
theorem JQ:prog.underlying 109=some (.slice (prog.elem 109)):=by kernel_rfl
theorem zh(w:World):(sizeOf (prog.elem 109)).run prog w=.ok 3 w:=by kernel_rfl
theorem Ys(w:World)(g:Nat)(B:OA)(d:Nat)(l:List Eff)(hb:Blk w g 125 ((jo l jp).flatMap efC).toArray)(hr:Rd w 3 B l.length (l.flatMap efC))(hl:l.length<=1000000000000):
  Calls prog 66 #[.slice (some ⟨g,0,none⟩) (l.length+80) (l.length+80),.slice B l.length d,.agg (efC jp).toArray] w fun e w' =>e=.returned (.bool true)/\Old w w' :=by
 have FI:=yH (C:=efC) (z:=3) (fun x=>rfl) hb;have ho:Old w (w.alloc (.cells (efC jp).toArray 125)):=(jQ0 NoX w).alloc _;have HS:=G (VK (w.alloc (.cells (efC jp).toArray 125)) (some ⟨g,0,none⟩) B (l.length+80) d l (FI.old ho) (hr.old ho) hl);have N8:=G (jQ2 w 125 (efC jp).toArray);have HO:=G ho;have Mt:=fun W=>yD (P:=prog) JQ zh (some ⟨g,0,none⟩) (l.length+80) (l.length+80) l.length .i64 (l.length:Int) rfl (by omega) W;have e80:IntKind.i64.wrap ((l.length:Int)+80)=(l.length:Int)+80:=jQ3 _ (by omega);have Hl:=G hl;have Hb:=G hb;generalize Fp:efC jp=cs at*;have NG:=G Fp;have G5:=G (fun W=>(show(Op.equalIn 10000 125 (.agg cs.toArray) (.agg cs.toArray)).run prog W=.ok true W from by rw[<-Fp];exact ZN jp W));have GT:=G (show(prog.info? 125).map (·.size)=some cs.length from by rw[<-Fp];exact vD);clear hb hr hl FI ho Fp;go_enter func66,ntmps66;go_wp2_with fail;refine HS.out.mono ?_;rintro e w1 ⟨rfl,FN⟩;have NE:=G (N8.out.old FN);have NZ:=G (HO.out.trans FN (fun _ _ e=>e));clear FN HS Mt HO N8;go_wp2_with fail;go_loopw [7] (fun i wr=>∃k:Nat,l.length<=k/\k<=l.length+80/\i=.int .i64 k/\Old w1 wr) (fun i _=>l.length+80-(intOf i).toNat)
 case atStart=>exact⟨l.length,jL3 _,Nat.le_add_right _ _,rfl,jQ0 _ _⟩
 case round=>
  obtain⟨k,GF,hU,rfl,Hj⟩:=hrel;have HW:=G Hj;by_cases hlt:k<l.length+80
  ·have hx:(jo l jp)[k]? =some jp:=by
    unfold jo;rw[List.getElem?_append_right GF,List.getElem?_replicate,jJ6 (by omega)]
   have Fy:wr.rangeAt g (k*3) cs:=fun j v hv=>by
    rw[((Hb.out.old NZ.out).old Hj).cell,jJ7];have hj:j<3:=by rw[<-NG.out]at hv;exact(jM5 hv).1
    rw[Ka efC 3 (fun x=>rfl) _ k _ hx j hj,NG.out];exact hv
   have FH:wr.rangeAt w.heap.size 0 cs:=fun j v hv=>by
    rw[Nat.zero_add];exact(NE.out.old Hj).at_ j (by rw[jJ7];exact hv)
   have NB:=G Fy;have N7:=G FH;have b1:(0:Int)<=(k:Int):=(by omega);have b2:(k:Int)<(l.length:Int)+80:=(by omega);have b3:(k:Int).toNat=k:=(by omega);have b4:(k:Int)<=1000000000100:=by have:=Hl.out;omega
   clear Hj hx Fy FH;go_upto_region 6 with(fail);refine jL (S:=fun w' =>w'.rangeAt g (k*3) cs/\w'.rangeAt w.heap.size 0 cs) 6 rfl (by kernel_rfl) ⟨jM NB.out (jQ0 NoX wr).drew,jM N7.out (jQ0 NoX wr).drew⟩ (fun Ha=> ?_)
   iterate 3 (refine' tOn rfl rfl (by kernel_rfl) (fun _ _ _ h=>h) rfl Ha (fun w' Hh=> ?_) ?_;rotate_left;(clear Hh;go_simp<;>with_reducible rfl);simp only[Act.put,jJ1,jJ2,jJ3])
   refine' tOn rfl rfl (by kernel_rfl) (fun _ _ _ h=>h) rfl Ha (fun w' Hh=>jO 125 (.tmp 33) rfl g (k*3) rfl cs _ Hh.1 underlying125 rfl GT.out) ?_;simp only[Act.put,jJ1,jJ2,jJ3];refine' tOn rfl rfl (by kernel_rfl) (fun _ _ _ h=>h) rfl Ha (fun w' Hh=>jO 125 (.tmp 5) rfl w.heap.size 0 rfl cs _ Hh.2 underlying125 rfl GT.out) ?_;simp only[Act.put,jJ1,jJ2,jJ3];refine' tOn rfl rfl (by kernel_rfl) (fun _ _ _ h=>h) rfl Ha (fun w' Hh=>vM 125 125 (.tmp 34) (.tmp 35) rfl _ _ rfl rfl KY _ (G5.out _)) ?_;simp only[Act.put,jJ1,jJ2,jJ3];refine wpAnyH_done (by kernel_rfl) ?_ _;go_wp2;go_roundw
   case rel=>exact⟨k+1,by omega,by omega,by go_num,HW.out.drew⟩
   case measure=>simp[intOf];omega
  ·obtain rfl:k=l.length+80:=(by omega);go_wp2;go_ret;exact⟨rfl,NZ.out.trans HW.out (fun _ _ e=>e)⟩
theorem jCh(w:World)(vk vn:Int)(vt:BA)(vs:List BA)(A B:OA)(c d:Nat)(hx:Rd w 1 A vs.length (vs.map sv))(hy:Rd w 1 B vs.length (vs.map sv))(hl:vs.length<=9223372036854775807):
  Calls prog 127 #[.agg #[.int .i64 vk,.int .i64 vn,.string vt,.slice A vs.length c],.agg #[.int .i64 vk,.int .i64 vn,.string vt,.slice B vs.length d]] w fun e w' =>e=.returned (.bool true)/\Old w w' :=by
 have HS:=G (fun W (hO:Old w W)=>jGS W A B c d vs (hx.old hO) (hy.old hO) hl);have q1:(vt.toList==vt.toList)=true:=beq_self_eq_true _;clear hx hy hl;go_enter func127,ntmps127;go_wp2_with (first|(go_at_call 75;refine(HS.out _ (((jQ0 NoX w).alloc _).alloc _)).mono ?_;rintro e w1 ⟨rfl,hX⟩;have H1:=G hX;clear hX)|fail);go_ret;exact⟨rfl,(((jQ0 NoX w).alloc _).alloc _).trans H1.out (fun _ _ e=>e)⟩
structure Nd2(w:World)(x y:MNd):Prop where
 eq:x.n=y.n
 kx:Rd w 1 x.A x.n.kids.length (x.n.kids.map iv)
 ky:Rd w 1 y.A x.n.kids.length (x.n.kids.map iv)
 vx:Rd w 1 x.vA x.n.vs.length (x.n.vs.map sv)
 vy:Rd w 1 y.vA x.n.vs.length (x.n.vs.map sv)
 kl:x.n.kids.length<=1000000000
 vl:x.n.vs.length<=1000000000
theorem Nd2.old{w w' :World}{x y:MNd}(h:Nd2 w x y)(ho:Old w w'):Nd2 w' x y:=⟨h.eq,h.kx.old ho,h.ky.old ho,h.vx.old ho,h.vy.old ho,h.kl,h.vl⟩
theorem qV(w:World)(x y:MNd)(h:Nd2 w x y):
  Calls prog 68 #[.agg (ndC x).toArray,.agg (ndC y).toArray] w fun e w' =>e=.returned (.bool true)/\Old w w' :=by
 obtain⟨⟨op,name,vk,vn,vt,vs,kids⟩,A,c,vA,vc⟩:=x;obtain⟨n2,A2,c2,vA2,vc2⟩:=y;obtain⟨rfl,kx,ky,vx,vy,kl,vl⟩:=h;simp only at kx ky vx vy kl vl;have HV:=G (fun W (hO:Old w W)=>jCh W vk vn vt vs vA vA2 vc vc2 (vx.old hO) (vy.old hO) (by omega));have HK:=G (fun W (hO:Old w W)=>jEd W A A2 c c2 kids (kx.old hO) (ky.old hO) (by omega));have q1:(name.toList==name.toList)=true:=beq_self_eq_true _;have B1:=G ((jQ2 w 46 (ndC ⟨⟨op,name,vk,vn,vt,vs,kids⟩,A,c,vA,vc⟩).toArray).old ((jQ0 NoX _).alloc (.cells (ndC ⟨⟨op,name,vk,vn,vt,vs,kids⟩,A2,c2,vA2,vc2⟩).toArray 46)));have B2:=G (jQ2 (w.alloc (.cells (ndC ⟨⟨op,name,vk,vn,vt,vs,kids⟩,A,c,vA,vc⟩).toArray 46)) 46 (ndC ⟨⟨op,name,vk,vn,vt,vs,kids⟩,A2,c2,vA2,vc2⟩).toArray);rw[show(w.alloc (.cells (ndC ⟨⟨op,name,vk,vn,vt,vs,kids⟩,A,c,vA,vc⟩).toArray 46)).heap.size=w.heap.size+1 by simp]at B2;clear kx ky vx vy kl vl;unfold ndC iv at*;go_enter func68,ntmps68;go_wp2_with (first|(go_at_call 74;refine(HK.out _ ((((jQ0 NoX w).alloc _).alloc _).trans H1.out (fun _ _ e=>e))).mono ?_;rintro e w2 ⟨rfl,hX⟩;have H2:=G hX;clear hX)|(go_at_call 127;refine(HV.out _ (((jQ0 NoX w).alloc _).alloc _)).mono ?_;rintro e w1 ⟨rfl,hX⟩;have H1:=G hX;have n6:=(B1.out.old hX).at_ 6 (v:=.slice A kids.length c) rfl;have m6:=(B2.out.old hX).at_ 6 (v:=.slice A2 kids.length c2) rfl;clear hX)|fail);go_ret;exact⟨rfl,((((jQ0 NoX w).alloc _).alloc _).trans H1.out (fun _ _ e=>e)).trans H2.out (fun _ _ e=>e)⟩
structure St2(w:World)(x y:MSt):Prop where
 eq:x.s=y.s
 px:Rd w 3 x.pA x.s.params.length (x.s.params.flatMap prC)
 py:Rd w 3 y.pA x.s.params.length (x.s.params.flatMap prC)
 ex:Rd w 3 x.eA x.s.effects.length (x.s.effects.flatMap efC)
 ey:Rd w 3 y.eA x.s.effects.length (x.s.effects.flatMap efC)
 pl:x.s.params.length<=1000000000
 el:x.s.effects.length<=1000000000
theorem St2.old{w w' :World}{x y:MSt}(h:St2 w x y)(ho:Old w w'):St2 w' x y:=⟨h.eq,h.px.old ho,h.py.old ho,h.ex.old ho,h.ey.old ho,h.pl,h.el⟩
theorem qU(w:World)(x y:MSt)(h:St2 w x y):
  Calls prog 67 #[.agg (stC x).toArray,.agg (stC y).toArray] w fun e w' =>e=.returned (.bool true)/\Old w w' :=by
 obtain⟨⟨name,at_,order,params,in_,inAt,when_,effects⟩,pA,pc,eA,ec⟩:=x;obtain⟨n2,pA2,pc2,eA2,ec2⟩:=y;obtain⟨rfl,px,py,ex,ey,pl,el⟩:=h;simp only at px py ex ey pl el;have HV:=G (fun W (hO:Old w W)=>YD W pA pA2 pc pc2 params (px.old hO) (py.old hO) (by omega));have HK:=G (fun W (hO:Old w W)=>VK W eA eA2 ec ec2 effects (ex.old hO) (ey.old hO) (by omega));have q1:(name.toList !=name.toList)=false:=bne_self_eq_false _;have q2:(in_.toList !=in_.toList)=false:=bne_self_eq_false _;have B1:=G ((jQ2 w 111 (stC ⟨⟨name,at_,order,params,in_,inAt,when_,effects⟩,pA,pc,eA,ec⟩).toArray).old ((jQ0 NoX _).alloc (.cells (stC ⟨⟨name,at_,order,params,in_,inAt,when_,effects⟩,pA2,pc2,eA2,ec2⟩).toArray 111)));have B2:=G (jQ2 (w.alloc (.cells (stC ⟨⟨name,at_,order,params,in_,inAt,when_,effects⟩,pA,pc,eA,ec⟩).toArray 111)) 111 (stC ⟨⟨name,at_,order,params,in_,inAt,when_,effects⟩,pA2,pc2,eA2,ec2⟩).toArray);rw[show(w.alloc (.cells (stC ⟨⟨name,at_,order,params,in_,inAt,when_,effects⟩,pA,pc,eA,ec⟩).toArray 111)).heap.size=w.heap.size+1 by simp]at B2;clear px py ex ey pl el;unfold stC iv at*;go_enter func67,ntmps67;go_wp2_with (first|(go_at_call 126;refine(HK.out _ ((((jQ0 NoX w).alloc _).alloc _).trans H1.out (fun _ _ e=>e))).mono ?_;rintro e w2 ⟨rfl,hX⟩;have H2:=G hX;clear hX)|(go_at_call 125;refine(HV.out _ (((jQ0 NoX w).alloc _).alloc _)).mono ?_;rintro e w1 ⟨rfl,hX⟩;have H1:=G hX;have n7:=(B1.out.old hX).at_ 7 (v:=.slice eA effects.length ec) rfl;have m7:=(B2.out.old hX).at_ 7 (v:=.slice eA2 effects.length ec2) rfl;clear hX)|fail);go_ret;exact⟨rfl,((((jQ0 NoX w).alloc _).alloc _).trans H1.out (fun _ _ e=>e)).trans H2.out (fun _ _ e=>e)⟩
theorem kt:(prog.info? 46).map (·.size)=some 7:=by kernel_rfl
theorem kr:(prog.info? 111).map (·.size)=some 8:=by kernel_rfl
theorem uq(w:World)(A B:OA)(c d:Nat)(xs ys:List MNd)(hlen:ys.length=xs.length)(hx:Rd w 7 A xs.length (xs.flatMap ndC))(hy:Rd w 7 B xs.length (ys.flatMap ndC))(hl:xs.length<=1000000000000)
  (hp:∀(k:Nat) (x y:MNd),xs[k]? =some x->ys[k]? =some y->Nd2 w x y):
  Calls prog 81 #[.slice A xs.length c,.slice B xs.length d,.func (.func 68) #[] #[]] w fun e w' =>e=.returned (.bool true)/\Old w w' :=by
 have h1:((xs.length:Int) !=(xs.length:Int))=false:=bne_self_eq_false _;have Hx:=G hx;have Hy:=G hy;have Hp:=G hp;have Fb:=G hlen;clear hx hy hp hlen;go_enter func81,ntmps81;go_wp2;go_loopw [7] (fun i wr=>∃k:Nat,k<=xs.length/\i=.int .i64 k/\Old w wr) (fun i _=>xs.length-(intOf i).toNat)
 case atStart=>exact⟨0,by omega,rfl,jQ0 _ _⟩
 case round=>
  obtain⟨k,hk,rfl,Hj⟩:=hrel;by_cases hlt:k<xs.length
  ·have Gm:k<ys.length:=by rw[Fb.out];exact hlt
   have ex:=jJ9 hlt;have ey:=jJ9 Gm;have HC:=G (fun W (hO:Old wr W)=>qV W _ _ ((Hp.out k _ _ ex ey).old (Hj.trans hO (fun _ _ e=>e))));obtain⟨b1,o1,rfl,Fy⟩:=kH (C:=ndC) (fun x=>rfl) (Hx.out.old Hj) ex hlt;obtain⟨b2,o2,rfl,FH⟩:=kH (C:=ndC) (fun x=>rfl) (Hy.out.old Hj) ey hlt;have b5:(k:Int)<=1000000000000:=(by omega);have b6:(0:Int)<=(k:Int):=(by omega);have b7:(k:Int)<(xs.length:Int):=(by omega);have b8:(k:Int).toNat=k:=(by omega);have Ho:=G Hj;have RD:=G (show(prog.info? 46).map (·.size)=some (ndC xs[k]).length from kt);have RA:=G (show(prog.info? 46).map (·.size)=some (ndC ys[k]).length from kt);generalize ndC xs[k]=cs at*;generalize ndC ys[k]=ds at*;have NB:=G Fy;have N7:=G FH;clear Hj Fy FH ex ey;go_upto_region 6 with(fail);refine jL (S:=fun w' =>w'.rangeAt b1 (o1+k*7) cs/\w'.rangeAt b2 (o2+k*7) ds) 11 rfl (by kernel_rfl) ⟨jM NB.out (jQ0 NoX wr).drew,jM N7.out (jQ0 NoX wr).drew⟩ (fun Ha=> ?_)
   iterate 4 (refine' tOn rfl rfl (by kernel_rfl) (fun _ _ _ h=>h) rfl Ha (fun w' Hh=> ?_) ?_;rotate_left;(clear Hh;go_simp<;>with_reducible rfl);simp only[Act.put,jJ1,jJ2,jJ3])
   refine' tOn rfl rfl (by kernel_rfl) (fun _ _ _ h=>h) rfl Ha (fun w' Hh=>jO 46 (.tmp 22) rfl b1 (o1+k*7) rfl cs _ Hh.1 underlying46 rfl RD.out) ?_;simp only[Act.put,jJ1,jJ2,jJ3]
   iterate 3 (refine' tOn rfl rfl (by kernel_rfl) (fun _ _ _ h=>h) rfl Ha (fun w' Hh=> ?_) ?_;rotate_left;(clear Hh;go_simp<;>with_reducible rfl);simp only[Act.put,jJ1,jJ2,jJ3])
   refine' tOn rfl rfl (by kernel_rfl) (fun _ _ _ h=>h) rfl Ha (fun w' Hh=>jO 46 (.tmp 26) rfl b2 (o2+k*7) rfl ds _ Hh.2 underlying46 rfl RA.out) ?_;simp only[Act.put,jJ1,jJ2,jJ3];refine yU rfl (by kernel_rfl) (by decide) (fun K hK=> ?_);go_simp;go_at_call 68;refine(HC.out _ ((jQ0 _ _).drew)).mono ?_;rintro e w1 ⟨rfl,hX⟩;have H1:=G ((Ho.out.drew).trans hX (fun _ _ e=>e));have CX:=G (jM (jM NB.out (jQ0 NoX wr).drew) hX);have CW:=G (jM (jM N7.out (jQ0 NoX wr).drew) hX);clear hX;go_simp;refine hK.out _ _ ⟨CX.out,CW.out⟩ (fun Ha=> ?_);clear hK K
   iterate 1 (refine' tOn rfl rfl (by kernel_rfl) (fun _ _ _ h=>h) rfl Ha (fun w' Hh=> ?_) ?_;rotate_left;(clear Hh;go_simp<;>with_reducible rfl);simp only[Act.put,jJ1,jJ2,jJ3])
   refine wpAnyH_done (by kernel_rfl) ?_ _;go_wp2;go_roundw
   case rel=>exact⟨k+1,by omega,by go_num,H1.out⟩
   case measure=>simp[intOf];omega
  ·obtain rfl:k=xs.length:=(by omega);have Ho:=G Hj;clear Hj;go_wp2;go_ret;exact⟨rfl,Ho.out⟩
theorem up(w:World)(A B:OA)(c d:Nat)(xs ys:List MSt)(hlen:ys.length=xs.length)(hx:Rd w 8 A xs.length (xs.flatMap stC))(hy:Rd w 8 B xs.length (ys.flatMap stC))(hl:xs.length<=1000000000000)
  (hp:∀(k:Nat) (x y:MSt),xs[k]? =some x->ys[k]? =some y->St2 w x y):
  Calls prog 82 #[.slice A xs.length c,.slice B xs.length d,.func (.func 67) #[] #[]] w fun e w' =>e=.returned (.bool true)/\Old w w' :=by
 have h1:((xs.length:Int) !=(xs.length:Int))=false:=bne_self_eq_false _;have Hx:=G hx;have Hy:=G hy;have Hp:=G hp;have Fb:=G hlen;clear hx hy hp hlen;go_enter func82,ntmps82;go_wp2;go_loopw [7] (fun i wr=>∃k:Nat,k<=xs.length/\i=.int .i64 k/\Old w wr) (fun i _=>xs.length-(intOf i).toNat)
 case atStart=>exact⟨0,by omega,rfl,jQ0 _ _⟩
 case round=>
  obtain⟨k,hk,rfl,Hj⟩:=hrel;by_cases hlt:k<xs.length
  ·have Gm:k<ys.length:=by rw[Fb.out];exact hlt
   have ex:=jJ9 hlt;have ey:=jJ9 Gm;have HC:=G (fun W (hO:Old wr W)=>qU W _ _ ((Hp.out k _ _ ex ey).old (Hj.trans hO (fun _ _ e=>e))));obtain⟨b1,o1,rfl,Fy⟩:=kH (C:=stC) (fun x=>rfl) (Hx.out.old Hj) ex hlt;obtain⟨b2,o2,rfl,FH⟩:=kH (C:=stC) (fun x=>rfl) (Hy.out.old Hj) ey hlt;have b5:(k:Int)<=1000000000000:=(by omega);have b6:(0:Int)<=(k:Int):=(by omega);have b7:(k:Int)<(xs.length:Int):=(by omega);have b8:(k:Int).toNat=k:=(by omega);have Ho:=G Hj;have RD:=G (show(prog.info? 111).map (·.size)=some (stC xs[k]).length from kr);have RA:=G (show(prog.info? 111).map (·.size)=some (stC ys[k]).length from kr);generalize stC xs[k]=cs at*;generalize stC ys[k]=ds at*;have NB:=G Fy;have N7:=G FH;clear Hj Fy FH ex ey;go_upto_region 6 with(fail);refine jL (S:=fun w' =>w'.rangeAt b1 (o1+k*8) cs/\w'.rangeAt b2 (o2+k*8) ds) 11 rfl (by kernel_rfl) ⟨jM NB.out (jQ0 NoX wr).drew,jM N7.out (jQ0 NoX wr).drew⟩ (fun Ha=> ?_)
   iterate 4 (refine' tOn rfl rfl (by kernel_rfl) (fun _ _ _ h=>h) rfl Ha (fun w' Hh=> ?_) ?_;rotate_left;(clear Hh;go_simp<;>with_reducible rfl);simp only[Act.put,jJ1,jJ2,jJ3])
   refine' tOn rfl rfl (by kernel_rfl) (fun _ _ _ h=>h) rfl Ha (fun w' Hh=>jO 111 (.tmp 22) rfl b1 (o1+k*8) rfl cs _ Hh.1 underlying111 rfl RD.out) ?_;simp only[Act.put,jJ1,jJ2,jJ3]
   iterate 3 (refine' tOn rfl rfl (by kernel_rfl) (fun _ _ _ h=>h) rfl Ha (fun w' Hh=> ?_) ?_;rotate_left;(clear Hh;go_simp<;>with_reducible rfl);simp only[Act.put,jJ1,jJ2,jJ3])
   refine' tOn rfl rfl (by kernel_rfl) (fun _ _ _ h=>h) rfl Ha (fun w' Hh=>jO 111 (.tmp 26) rfl b2 (o2+k*8) rfl ds _ Hh.2 underlying111 rfl RA.out) ?_;simp only[Act.put,jJ1,jJ2,jJ3];refine yU rfl (by kernel_rfl) (by decide) (fun K hK=> ?_);go_simp;go_at_call 67;refine(HC.out _ ((jQ0 _ _).drew)).mono ?_;rintro e w1 ⟨rfl,hX⟩;have H1:=G ((Ho.out.drew).trans hX (fun _ _ e=>e));have CX:=G (jM (jM NB.out (jQ0 NoX wr).drew) hX);have CW:=G (jM (jM N7.out (jQ0 NoX wr).drew) hX);clear hX;go_simp;refine hK.out _ _ ⟨CX.out,CW.out⟩ (fun Ha=> ?_);clear hK K
   iterate 1 (refine' tOn rfl rfl (by kernel_rfl) (fun _ _ _ h=>h) rfl Ha (fun w' Hh=> ?_) ?_;rotate_left;(clear Hh;go_simp<;>with_reducible rfl);simp only[Act.put,jJ1,jJ2,jJ3])
   refine wpAnyH_done (by kernel_rfl) ?_ _;go_wp2;go_roundw
   case rel=>exact⟨k+1,by omega,by go_num,H1.out⟩
   case measure=>simp[intOf];omega
  ·obtain rfl:k=xs.length:=(by omega);have Ho:=G Hj;clear Hj;go_wp2;go_ret;exact⟨rfl,Ho.out⟩
theorem jW{a b c:World}(h:Old a b)(k:Old b c):Old a c:=h.trans k (fun _ _ e=>e)
structure TrF(w:World)(t:Tre)(s:Sl)(ns:List MNd)(ps:List MSt):Prop where
 rA:Rd w 7 s.aA t.attrs.length (t.attrs.flatMap atC)
 rG:Rd w 7 s.gA t.stages.length (t.stages.flatMap sgC)
 rM:Rd w 6 s.mA t.miles.length (t.miles.flatMap miC)
 rP:Rd w 8 s.pA t.steps.length (ps.flatMap stC)
 rN:Rd w 7 s.nA t.nodes.length (ns.flatMap ndC)
 rO:Rd w 1 s.oA t.ats.length (t.ats.map iv)
 pe:ps.map (·.s)=t.steps
 ne:ns.map (·.n)=t.nodes
 po:∀x∈ps,Rd w 3 x.pA x.s.params.length (x.s.params.flatMap prC)/\Rd w 3 x.eA x.s.effects.length (x.s.effects.flatMap efC)
 no:∀x∈ns,Rd w 1 x.A x.n.kids.length (x.n.kids.map iv)/\Rd w 1 x.vA x.n.vs.length (x.n.vs.map sv)
structure TrB(t:Tre):Prop where
 nA:t.attrs.length<=1000000
 nG:t.stages.length<=1000000
 nM:t.miles.length<=1000000
 nP:t.steps.length<=1000000
 nN:t.nodes.length<=1000000
 nO:t.ats.length<=2000000
 nS:∀x∈t.steps,x.params.length<=1000000/\x.effects.length<=1000000
 nK:∀n∈t.nodes,n.kids.length<=2000000/\n.vs.length<=2000000
structure Pr9(t:Tre):Prop where
 b:TrB t
 v:∀n∈t.nodes,n.vn<=9223372036854775807/\n.vt.size<=100000000
 f:Zv t<=jN
theorem TrF.old{w w' :World}{t:Tre}{s:Sl}{ns:List MNd}{ps:List MSt}(h:TrF w t s ns ps)(ho:Old w w'):TrF w' t s ns ps:=
 ⟨h.rA.old ho,h.rG.old ho,h.rM.old ho,h.rP.old ho,h.rN.old ho,h.rO.old ho,h.pe,h.ne,fun x hx=>⟨(h.po x hx).1.old ho,(h.po x hx).2.old ho⟩,fun x hx=>⟨(h.no x hx).1.old ho,(h.no x hx).2.old ho⟩⟩
theorem TrF.trd{w:World}{t:Tre}{s:Sl}{ns:List MNd}{ps:List MSt}(h:TrF w t s ns ps)(b:TrB t):TrD w t s ns ps:=
 ⟨⟨h.rN,h.ne,b.nN,fun x hx=>⟨(h.no x hx).1,by have:=(b.nK x.n (by rw[<-h.ne];exact List.mem_map_of_mem hx)).1;omega⟩⟩,h.rA,h.rG,h.rM,h.rP,h.pe,fun x hx=>⟨⟨(h.po x hx).1,(b.nS x.s (by rw[<-h.pe];exact List.mem_map_of_mem hx)).1⟩,(h.po x hx).2,(b.nS x.s (by rw[<-h.pe];exact List.mem_map_of_mem hx)).2⟩,b.nA,b.nG,b.nM,b.nP⟩
theorem jEF{α β:Type}{f:α->β}{xs ys:List α}(h:xs.map f=ys.map f){k:Nat}{x y:α}(hx:xs[k]? =some x)(hy:ys[k]? =some y):f x=f y:=by
 have h1:=congrArg (fun l=>l[k]?) h;simp only[jM1,hx,hy,Option.map_some,Option.some.injEq]at h1;exact h1
section
variable{w:World}{t:Tre}{s s2:Sl}{ns ns2:List MNd}{ps ps2:List MSt}
theorem TrF.nd2(h:TrF w t s ns ps)(k:TrF w t s2 ns2 ps2)(b:TrB t):∀(i:Nat) (x y:MNd),ns[i]? =some x->ns2[i]? =some y->Nd2 w x y:=fun i x y hx hy=>by
 have e:=jEF (h.ne.trans k.ne.symm) hx hy;have h1:=h.no x (List.mem_of_getElem? hx);have h2:=k.no y (List.mem_of_getElem? hy);have hb:=b.nK x.n (by rw[<-h.ne];exact List.mem_map_of_mem (List.mem_of_getElem? hx));rw[<-e]at h2;exact⟨e,h1.1,h2.1,h1.2,h2.2,by omega,by omega⟩
theorem TrF.st2(h:TrF w t s ns ps)(k:TrF w t s2 ns2 ps2)(b:TrB t):∀(i:Nat) (x y:MSt),ps[i]? =some x->ps2[i]? =some y->St2 w x y:=fun i x y hx hy=>by
 have e:=jEF (h.pe.trans k.pe.symm) hx hy;have h1:=h.po x (List.mem_of_getElem? hx);have h2:=k.po y (List.mem_of_getElem? hy);have hb:=b.nS x.s (by rw[<-h.pe];exact List.mem_map_of_mem (List.mem_of_getElem? hx));rw[<-e]at h2;exact⟨e,h1.1,h2.1,h1.2,h2.2,by omega,by omega⟩
theorem TrF.lenN(h:TrF w t s ns ps):ns.length=t.nodes.length:=by rw[<-h.ne,jK7]
theorem TrF.lenP(h:TrF w t s ns ps):ps.length=t.steps.length:=by rw[<-h.pe,jK7]
end
theorem jAC(w:World)(t:Tre)(s s2:Sl)(ns ns2:List MNd)(ps ps2:List MSt)(h:TrF w t s ns ps)(k:TrF w t s2 ns2 ps2)(b:TrB t):
  Calls prog 30 #[.agg (jF t s).toArray,.agg (jF t s2).toArray] w fun e w' =>e=.returned (.bool true)/\Old w w' :=by
 have HI:=G (fun W (hO:Old w W)=>jEd W s.oA s2.oA s.oc s2.oc t.ats (h.rO.old hO) (k.rO.old hO) (by have:=b.nO;omega));have HN:=G (fun W (hO:Old w W)=>uq W s.nA s2.nA s.nc s2.nc ns ns2 (by rw[h.lenN,k.lenN]) (by rw[h.lenN];exact h.rN.old hO) (by rw[h.lenN];exact k.rN.old hO) (by rw[h.lenN];have:=b.nN;omega) ((h.old hO).nd2 (k.old hO) b));rw[h.lenN]at HN;have HS:=G (fun W (hO:Old w W)=>up W s.pA s2.pA s.pc s2.pc ps ps2 (by rw[h.lenP,k.lenP]) (by rw[h.lenP];exact h.rP.old hO) (by rw[h.lenP];exact k.rP.old hO) (by rw[h.lenP];have:=b.nP;omega) ((h.old hO).st2 (k.old hO) b));rw[h.lenP]at HS;have HA:=G (fun W (hO:Old w W)=>JG W s.aA s2.aA s.ac s2.ac t.attrs (h.rA.old hO) (k.rA.old hO) (by have:=b.nA;omega));have HG:=G (fun W (hO:Old w W)=>YC W s.gA s2.gA s.gc s2.gc t.stages (h.rG.old hO) (k.rG.old hO) (by have:=b.nG;omega));have HM:=G (fun W (hO:Old w W)=>JF W s.mA s2.mA s.mc s2.mc t.miles (h.rM.old hO) (k.rM.old hO) (by have:=b.nM;omega));have q1:(t.name.toList !=t.name.toList)=false:=bne_self_eq_false _;have B1:=G ((jQ2 w 29 (jF t s).toArray).old ((jQ0 NoX _).alloc (.cells (jF t s2).toArray 29)));have B2:=G (jQ2 (w.alloc (.cells (jF t s).toArray 29)) 29 (jF t s2).toArray);rw[show(w.alloc (.cells (jF t s).toArray 29)).heap.size=w.heap.size+1 by simp]at B2;clear h k b;unfold jF iv at*;go_enter func30,ntmps30;go_wp2_with (first|(go_at_call 85;refine(HM.out _ OW5.out).mono ?_;rintro e w6 ⟨rfl,hX⟩;have OW6:=G (jW OW5.out hX);have K6a:=G (K5a.out.old hX);have K6b:=G (K5b.out.old hX);clear hX)|(go_at_call 84;refine(HG.out _ OW4.out).mono ?_;rintro e w5 ⟨rfl,hX⟩;have OW5:=G (jW OW4.out hX);have K5a:=G (K4a.out.old hX);have K5b:=G (K4b.out.old hX);have n4:=K5a.out.at_ 4 (v:=.slice s.mA t.miles.length s.mc) rfl;have m4:=K5b.out.at_ 4 (v:=.slice s2.mA t.miles.length s2.mc) rfl;clear hX)|(go_at_call 83;refine(HA.out _ OW3.out).mono ?_;rintro e w4 ⟨rfl,hX⟩;have OW4:=G (jW OW3.out hX);have K4a:=G (K3a.out.old hX);have K4b:=G (K3b.out.old hX);have n3:=K4a.out.at_ 3 (v:=.slice s.gA t.stages.length s.gc) rfl;have m3:=K4b.out.at_ 3 (v:=.slice s2.gA t.stages.length s2.gc) rfl;clear hX)|(go_at_call 82;refine(HS.out _ OW2.out).mono ?_;rintro e w3 ⟨rfl,hX⟩;have OW3:=G (jW OW2.out hX);have K3a:=G (K2a.out.old hX);have K3b:=G (K2b.out.old hX);have n2:=K3a.out.at_ 2 (v:=.slice s.aA t.attrs.length s.ac) rfl;have m2:=K3b.out.at_ 2 (v:=.slice s2.aA t.attrs.length s2.ac) rfl;clear hX)|(go_at_call 81;refine(HN.out _ OW1.out).mono ?_;rintro e w2 ⟨rfl,hX⟩;have OW2:=G (jW OW1.out hX);have K2a:=G (K1a.out.old hX);have K2b:=G (K1b.out.old hX);have n5:=K2a.out.at_ 5 (v:=.slice s.pA t.steps.length s.pc) rfl;have m5:=K2b.out.at_ 5 (v:=.slice s2.pA t.steps.length s2.pc) rfl;clear hX)|(go_at_call 74;refine(HI.out _ (((jQ0 NoX w).alloc _).alloc _)).mono ?_;rintro e w1 ⟨rfl,hX⟩;have OW1:=G (jW (((jQ0 NoX w).alloc _).alloc _) hX);have K1a:=G (B1.out.old hX);have K1b:=G (B2.out.old hX);have n6:=K1a.out.at_ 6 (v:=.slice s.nA t.nodes.length s.nc) rfl;have m6:=K1b.out.at_ 6 (v:=.slice s2.nA t.nodes.length s2.nc) rfl;clear hX)|fail);go_ret;exact⟨rfl,OW6.out⟩
def Yh:MSt:=⟨⟨Jn,0,0,[],⟨#[]⟩,0,0,[]⟩,none,0,none,0⟩
def Vf:MNd:=⟨⟨-77,⟨#[]⟩,0,0,⟨#[]⟩,[],[]⟩,none,0,none,0⟩
structure Mk9 where
 gO:Nat
 gA:Nat
 gG:Nat
 gM:Nat
 gP:Nat
 gN:Nat
def slM(m:Mk9)(t:Tre):Sl:=⟨some ⟨m.gA,0,none⟩,t.attrs.length+80,some ⟨m.gG,0,none⟩,t.stages.length+80,some ⟨m.gM,0,none⟩,t.miles.length+80,some ⟨m.gP,0,none⟩,t.steps.length+8,some ⟨m.gN,0,none⟩,t.nodes.length+8,some ⟨m.gO,0,none⟩,t.ats.length+80,fun _=>False⟩
def MarkS(w:World)(x:MSt):Prop:=∃g h,x.pA=some ⟨g,0,none⟩/\x.pc=x.s.params.length+80/\Blk w g 122 ((jo x.s.params kG).flatMap prC).toArray/\x.eA=some ⟨h,0,none⟩/\x.ec=x.s.effects.length+80/\Blk w h 125 ((jo x.s.effects jp).flatMap efC).toArray
def MarkN(w:World)(x:MNd):Prop:=∃g h,x.A=some ⟨g,0,none⟩/\x.c=x.n.kids.length+80/\Blk w g 3 (vU (x.n.kids.map iv) (.int .i64 (-77))).toArray/\x.vA=some ⟨h,0,none⟩/\x.vc=x.n.vs.length+80/\Blk w h 9 (vU (x.n.vs.map sv) (.string Jn)).toArray
structure TrM(w:World)(t:Tre)(m:Mk9)(ns:List MNd)(ps:List MSt):Prop where
 bO:Blk w m.gO 3 (vU (t.ats.map iv) (.int .i64 (-77))).toArray
 bA:Blk w m.gA 114 ((jo t.attrs jS).flatMap atC).toArray
 bG:Blk w m.gG 117 ((jo t.stages kI).flatMap sgC).toArray
 bM:Blk w m.gM 64 ((jo t.miles jR).flatMap miC).toArray
 bP:Blk w m.gP 111 ((ps++List.replicate 8 Yh).flatMap stC).toArray
 bN:Blk w m.gN 46 ((ns++List.replicate 8 Vf).flatMap ndC).toArray
 pe:ps.map (·.s)=t.steps
 ne:ns.map (·.n)=t.nodes
 po:∀x∈ps,MarkS w x
 no:∀x∈ns,MarkN w x
theorem MarkS.old{w w' :World}{x:MSt}(h:MarkS w x)(ho:Old w w'):MarkS w' x:=by
 obtain⟨g,k,a,b,c,d,e,f⟩:=h;exact⟨g,k,a,b,c.old ho,d,e,f.old ho⟩
theorem MarkN.old{w w' :World}{x:MNd}(h:MarkN w x)(ho:Old w w'):MarkN w' x:=by
 obtain⟨g,k,a,b,c,d,e,f⟩:=h;exact⟨g,k,a,b,c.old ho,d,e,f.old ho⟩
theorem TrM.old{w w' :World}{t:Tre}{m:Mk9}{ns:List MNd}{ps:List MSt}(h:TrM w t m ns ps)(ho:Old w w'):TrM w' t m ns ps:=
 ⟨h.bO.old ho,h.bA.old ho,h.bG.old ho,h.bM.old ho,h.bP.old ho,h.bN.old ho,h.pe,h.ne,fun x hx=>(h.po x hx).old ho,fun x hx=>(h.no x hx).old ho⟩
theorem jAd{α:Type}{C:α->List Value}{z:Nat}(hz:∀x,(C x).length=z){w:World}{g:Nat}{T:TypeId}{l r:List α}(h:Blk w g T ((l++r).flatMap C).toArray){n:Nat}(hn:l.length=n):Rd w z (some ⟨g,0,none⟩) n (l.flatMap C):=by
 subst hn;refine⟨jy hz l,fun _=>⟨_,_,rfl,fun j u hu=> ?_⟩⟩;have hj:=(jM5 hu).1;rw[Nat.zero_add,h.cell j,jJ7,jN5,List.getElem?_append_left hj];exact hu
theorem TrM.trf{w:World}{t:Tre}{m:Mk9}{ns:List MNd}{ps:List MSt}(h:TrM w t m ns ps):TrF w t (slM m t) ns ps:=by
 refine⟨yH (C:=atC) (fun _=>rfl) h.bA,yH (C:=sgC) (fun _=>rfl) h.bG,yH (C:=miC) (fun _=>rfl) h.bM,jAd (C:=stC) (fun _=>rfl) h.bP (by rw[<-h.pe,jK7]),jAd (C:=ndC) (fun _=>rfl) h.bN (by rw[<-h.ne,jK7]),?_,h.pe,h.ne,fun x hx=> ?_,fun x hx=> ?_⟩
 ·have:=KH h.bO
  rwa [jK7]at this
 ·obtain⟨g,k,a,b,c,d,e,f⟩:=h.po x hx;rw[a,d];exact⟨yH (C:=prC) (fun _=>rfl) c,yH (C:=efC) (fun _=>rfl) f⟩
 ·obtain⟨g,k,a,b,c,d,e,f⟩:=h.no x hx;rw[a,d];have h1:=KH c;have h2:=KH f;rw[jK7]at h1 h2;exact⟨h1,h2⟩
theorem qQ(w:World):Calls prog 47 #[] w fun e w' =>e=.returned (.agg (stC Yh).toArray)/\Old w w' :=by
 unfold stC Yh Jn iv;go_enter func47,ntmps47;go_wp2;refine yb (g:=w.heap.size) rfl rfl (jQ2 w _ _) underlying111 rfl kr rfl ?_;exact⟨rfl,(jQ0 _ _).alloc _⟩
theorem qz(w:World):Calls prog 50 #[] w fun e w' =>e=.returned (.agg (ndC Vf).toArray)/\Old w w' :=by
 unfold ndC Vf iv;go_enter func50,ntmps50;go_wp2;refine yb (g:=w.heap.size) rfl rfl (jQ2 w _ _) underlying46 rfl kt rfl ?_;exact⟨rfl,(jQ0 _ _).alloc _⟩
end Go.Proofs.YtmmjcbbogokmfaaGreatDoor

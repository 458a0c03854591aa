import Derived.Test.YtifbhcfdealfaaaGreatDoorMl19
import Derived.ChangeKeysEq
set_option maxRecDepth 100000
set_option maxHeartbeats 25600000
namespace Go.Proofs.YtifbhcfdealfaaaGreatDoor
open Go.Proofs.Tryz
open Go.RowKit
def KdR(w:World)(r:Kd×Bool)(e:Ending)(w' :World):Prop:=e=.returned (.tuple #[kdV r.1,.bool r.2])/\Old w w'
theorem Uq(w:World)(o1 o2:Obj)(t:TypeId)(cs:Array Value):Blk (((w.alloc o1).alloc o2).alloc (.cells cs t)) (w.heap.size+1+1) t cs:=by
 simpa using jQ2 ((w.alloc o1).alloc o2) t cs
theorem Zp(w:World)(o1 o2 o3:Obj):Old w (((w.alloc o1).alloc o2).alloc o3):=(((jQ0 _ _).alloc _).alloc _).alloc _
theorem XE(w:World)(o1 o2 o3:Obj):Old w (((w.alloc o1).alloc o2).alloc o3).drew:=(Zp w o1 o2 o3).drew
theorem kR:(prog.info? 81).map (·.size)=some 2:=by kernel_rfl
theorem Vh(w:World)(hn:Kn w)(x y:Kd):Calls prog 265 #[kdV x,kdV y] w (KdR w (vv x y)):=by
 obtain⟨a,o⟩:=x;obtain⟨b,p⟩:=y;have n0:=hn.c0;have n1:=hn.c1;have hp:0<w.heap.size:=jU n0;clear hn;generalize hR:vv (a,o) (b,p)=R;unfold vv noK at hR;simp only[Prod.mk.injEq]at hR;unfold kdV;by_cases h0:a=0
 ·subst h0;by_cases hb:b=0
  ·subst hb;cases o<;>cases p
   all_goals
    have HR:=G hR;clear hR;go_enter func265,ntmps265;go_wp2
    try (go_region;all_goals (try go_wp2))
    refine jL (g:=w.heap.size+1+1) rfl rfl (Uq _ _ _ _ _) underlying81 rfl kR rfl ?_;obtain rfl:=HR.out;exact⟨rfl,by first|exact Zp _ _ _ _ |exact XE _ _ _ _⟩
  ·have q1:(b==0)=false:=jM3 hb;have q2:((0:Int)==b)=false:=jM3 (fun e=>hb e.symm);have q3:decide ((0:Int)=b)=false:=jK3 (fun e=>hb e.symm);rw[q3]at hR;simp only[hb,false_and,if_false]at hR;clear hb q3;cases o<;>cases p
   all_goals
    have HR:=G hR;clear hR;go_enter func265,ntmps265;go_wp2
    try (go_region;all_goals (try go_wp2))
    refine jL (g:=w.heap.size+1+1) rfl rfl (Uq _ _ _ _ _) underlying81 rfl kR rfl ?_;obtain rfl:=HR.out;exact⟨rfl,by first|exact Zp _ _ _ _ |exact XE _ _ _ _⟩
 ·have q0:(a==0)=false:=jM3 h0;simp only[h0,false_and,if_false]at hR;by_cases hb:a=b
  ·subst hb;simp only[h0,false_and,if_false,decide_true]at hR;clear h0;cases o<;>cases p
   all_goals
    have HR:=G hR;clear hR;go_enter func265,ntmps265;go_wp2
    try (go_region;all_goals (try go_wp2))
    refine jL (g:=w.heap.size+1+1) rfl rfl (Uq _ _ _ _ _) underlying81 rfl kR rfl ?_;obtain rfl:=HR.out;exact⟨rfl,by first|exact Zp _ _ _ _ |exact XE _ _ _ _⟩
  ·have q1:(a==b)=false:=jM3 hb;rw[jK3 hb]at hR;by_cases h1:b=0
   ·subst h1;clear h0 hb;cases o<;>cases p
    all_goals
     have HR:=G hR;clear hR;go_enter func265,ntmps265;go_wp2
     try (go_region;all_goals (try go_wp2))
     refine jL (g:=w.heap.size+1+1) rfl rfl (Uq _ _ _ _ _) underlying81 rfl kR rfl ?_;obtain rfl:=HR.out;exact⟨rfl,by first|exact Zp _ _ _ _ |exact XE _ _ _ _⟩
   ·have q2:(b==0)=false:=jM3 h1;simp only[h1,false_and,if_false]at hR;clear h0 hb h1;cases o<;>cases p
    all_goals
     have HR:=G hR;clear hR;go_enter func265,ntmps265;go_wp2
     try (go_region;all_goals (try go_wp2))
     refine jL (g:=w.heap.size+1+1) rfl rfl (Uq _ _ _ _ _) underlying81 rfl kR rfl ?_;obtain rfl:=HR.out;exact⟨rfl,by first|exact Zp _ _ _ _ |exact XE _ _ _ _⟩
def rwC(r:Int×Int×Int×Int):List Value:=[iq r.1,iq r.2.1,iq r.2.2.1,iq r.2.2.2]
def jGS(w:World)(e:Ending)(w' :World):Prop:=∃q,e=.returned (.slice (some ⟨q,0,none⟩) 22 22)/\Blk w' q 335 (pairsL.flatMap rwC).toArray/\Old w w'
theorem Qy(w:World):Calls prog 227 #[] w (jGS w):=by
 have Hf:=G (show jGS w (.returned (.slice (some ⟨w.heap.size,0,none⟩) 22 22)) (w.alloc (.cells (pairsL.flatMap rwC).toArray 335))from⟨_,rfl,jQ2 _ _ _,(jQ0 _ _).alloc _⟩);go_enter func227,ntmps227;go_wp2;go_ret;exact Hf.out
theorem jEy:(prog.info? 56).map (fun i=>(i.zero,i.size,i.bytes))=some (some (.int .i64 0),1,8):=by kernel_rfl
theorem jE4(w:World)(d:Nat)(p a:Int):(Op.equalIn (d+1) 56 (iq p) (iq a)).run prog w=.ok (p==a) w:=by
 simp[Op.equalIn,run_underlying underlying56]
theorem UM(w:World)(p q a b:Int):(Op.equalIn 10000 320 (.agg #[iq p,iq q]) (.agg #[iq a,iq b])).run prog w=.ok ((p==a)&&(q==b)) w:=by
 obtain⟨i,hi,_,_,_⟩:=info_parts jEy;have h0:=run_equalIn_array (P:=prog) w 9999 #[iq p,iq q] #[iq a,iq b] underlying320 hi;refine h0.trans ?_;have e1:prog.cellsOf 56=1:=(by kernel_rfl);have h1:(Op.equalIn 9999 56 (iq p) (iq a)).run prog w=.ok (p==a) w:=jE4 w 9998 p a;have h2:(Op.equalIn 9999 56 (iq q) (iq b)).run prog w=.ok (q==b) w:=jE4 w 9998 q b;rw[show List.range 2=[0,1]from rfl];simp only[Op.eqItems,Sem.run_bind,e1,part];simp;rw[h1];simp only[Result.andThen_ok];rw[h2];cases (p==a)<;>cases (q==b)<;>rfl
theorem vu{w W:World}{o1 o2 o3:Obj}(h:Old (((w.alloc o1).alloc o2).alloc o3) W):Old w W:=(Zp w o1 o2 o3).trans h (fun _ _ e=>e)
theorem jCM{op op' :Int}(x y:Kd)(h1:op≠11)(h2:op≠12)(h3:op≠33)(h:op' =if op=14\/op=15\/op=16 then 13 else if op=32 then 31 else op):Zo op x y=Vy op' x y pairsL:=by
 unfold Zo;rw[jJ5 (by omega),jJ5 h3,h]
theorem Vx(op:Int)(x y:Kd)(j:Nat)(hj:j<pairsL.length):Vy op x y (pairsL.drop j)=if pairsL[j].1=op/\pairsL[j].2.1=x.1/\pairsL[j].2.2.1=y.1 then((pairsL[j].2.2.2,false),true)else Vy op x y (pairsL.drop (j+1)):=by
 rw[jM9 hj,Vy]
theorem jCN(w:World)(op:Int)(x y:Kd)(A:OA)(c:Nat)(hr:Rd w 4 A 22 (pairsL.flatMap rwC))(h1:op≠11)(h2:op≠12)(h3:op≠33):
  Calls prog 266 #[iq op,.slice A 22 c,kdV x,kdV y] w (KdR w (Zo op x y)):=by
 obtain⟨op',FX⟩:∃op',op' =if op=14\/op=15\/op=16 then(13:Int)else if op=32 then 31 else op:=⟨_,rfl⟩;obtain⟨R,hR⟩:∃R,R=Zo op x y:=⟨_,rfl⟩;have HR:=G (hR.trans (jCM x y h1 h2 h3 FX));rw[<-hR];obtain⟨a,o⟩:=x;obtain⟨b,p⟩:=y;have Pf:=G hr;have b11:(op==11)=false:=jM3 h1;have b12:(op==12)=false:=jM3 h2;have b33:(op==33)=false:=jM3 h3;have FP:pairsL.length=22:=rfl;have W0:=G (jQ0 NoX (((w.alloc (.cells #[iq a,.bool o] 81)).alloc (.cells #[iq b,.bool p] 81)).alloc (.cells #[iq 0,.bool false] 81)));have K1:=G (((jQ2 w 81 #[iq a,.bool o]).alloc (.cells #[iq b,.bool p] 81)).alloc (.cells #[iq 0,.bool false] 81));have K2:=G ((show Blk ((w.alloc (.cells #[iq a,.bool o] 81)).alloc (.cells #[iq b,.bool p] 81)) (w.heap.size+1) 81 #[iq b,.bool p]by simpa using jQ2 (w.alloc (.cells #[iq a,.bool o] 81)) 81 #[iq b,.bool p]).alloc (.cells #[iq 0,.bool false] 81));have K3:=G (Uq w (.cells #[iq a,.bool o] 81) (.cells #[iq b,.bool p] 81) 81 #[iq 0,.bool false]);have Fi:=G (show R=Vy op' (a,o) (b,p) (pairsL.drop 0)from HR.out);have ways:(op' =13/\((op==14)=true\/(op==14)=false/\(op==15)=true\/(op==14)=false/\(op==15)=false/\(op==16)=true))\/
   (op==14)=false/\(op==15)=false/\(op==16)=false/\(op==32)=true/\op' =31\/(op==14)=false/\(op==15)=false/\(op==16)=false/\(op==32)=false/\op' =op:=by
  by_cases e14:op=14
  ·subst e14;exact .inl ⟨FX,.inl rfl⟩
  by_cases e15:op=15
  ·subst e15;exact .inl ⟨FX,.inr (.inl ⟨rfl,rfl⟩)⟩
  by_cases e16:op=16
  ·subst e16;exact .inl ⟨FX,.inr (.inr ⟨rfl,rfl,rfl⟩)⟩
  have n1:(op==14)=false:=jM3 e14;have n2:(op==15)=false:=jM3 e15;have n3:(op==16)=false:=jM3 e16;by_cases e32:op=32
  ·exact .inr (.inl ⟨n1,n2,n3,beq_iff_eq.2 e32,by rw[FX,jJ5 (by omega),jJ6 e32]⟩)
  ·exact .inr (.inr ⟨n1,n2,n3,jM3 e32,by rw[FX,jJ5 (by omega),jJ5 e32]⟩)
 clear hr hR HR h1 h2 h3 FX;unfold kdV;rcases ways with⟨rfl,ys⟩|⟨y1,y2,y3,y4,rfl⟩|⟨y1,y2,y3,y4,rfl⟩
 ·rcases ys with y1|⟨y1,y2⟩|⟨y1,y2,y3⟩
  all_goals
   go_enter func266,ntmps266;go_wp2;go_loopw [65] (fun i wr=>∃j:Nat,j<=22/\i=.int .i64 (j:Int)/\Old (((w.alloc (.cells #[iq a,.bool o] 81)).alloc (.cells #[iq b,.bool p] 81)).alloc (.cells #[iq 0,.bool false] 81)) wr/\R=Vy (13) (a,o) (b,p) (pairsL.drop j)) (fun i _=>22-(intOf i).toNat)
   case atStart=>exact⟨0,by decide,rfl,W0.out,Fi.out⟩
   case round=>
    clear W0 Fi;obtain⟨j,hj,rfl,hO,hR⟩:=hrel;have HO:=G hO;have Gu:=K3.out.old hO;have k1:=(K1.out.old hO).at_ 0 (v:=iq a) rfl;have k2:=(K2.out.old hO).at_ 0 (v:=iq b) rfl;have k3:=Gu.at_ 0 (v:=iq 0) rfl;have k4:=Gu.at_ 1 (v:=.bool false) rfl;have z3:=Gu.frozen 0;have z4:=Gu.frozen 1;have sz:w.heap.size+1+1<wr.heap.size:=Gu.lt;have s1:w.heap.size<wr.heap.size:=(by omega);have s2:w.heap.size+1<wr.heap.size:=(by omega);have Ny:=G Gu;by_cases hlt:j<22
    ·rw[Vx _ (a,o) (b,p) j (by rw[FP];exact hlt)]at hR;obtain⟨bb,q,hA,hc⟩:=jK (C:=rwC) (fun x=>rfl) (Pf.out.old (vu hO)) (jJ9 (l:=pairsL) hlt) hlt;generalize pairsL[j]=r at*;obtain⟨r1,r2,r3,r4⟩:=r;have h0:wr.cell? ⟨bb,q+j*4,none⟩=some (iq r1):=hc 0 _ rfl;have h1:wr.cell? ⟨bb,q+j*4+1,none⟩=some (iq r2):=hc 1 _ rfl;have h2:wr.cell? ⟨bb,q+j*4+2,none⟩=some (iq r3):=hc 2 _ rfl;have h3:wr.cell? ⟨bb,q+j*4+3,none⟩=some (iq r4):=hc 3 _ rfl;have j1:(0:Int)<=(j:Int):=(by omega);have j2:(j:Int).toNat=j:=(by omega);have j3:(j:Int)<22:=(by omega);have j4:IntKind.i64.wrap ((j:Int)+1)=(j:Int)+1:=jQ3 _ (by omega);have F8:=G hlt;have FS:=G (hO.alloc (.cells #[iq r1,iq r2,iq r3,iq r4] 335));have HF:=G (show Blk (((wr.setCell ⟨w.heap.size+1+1,0,none⟩ (iq r4)).setCell ⟨w.heap.size+1+1,1,none⟩ (.bool false)).alloc (.cells #[iq r1,iq r2,iq r3,iq r4] 335)) (w.heap.size+1+1) 81 #[iq r4,.bool false]from((Ny.out.set_ 0 (iq r4)).set_ 1 (.bool false)).alloc _);have HX:=G (show Old w (((wr.setCell ⟨w.heap.size+1+1,0,none⟩ (iq r4)).setCell ⟨w.heap.size+1+1,1,none⟩ (.bool false)).alloc (.cells #[iq r1,iq r2,iq r3,iq r4] 335))from(((vu hO).setCell (p:=⟨w.heap.size+1+1,0,none⟩) (fun h=>absurd h (by simp only;omega)) _).setCell (p:=⟨w.heap.size+1+1,1,none⟩) (fun h=>absurd h (by simp only;omega)) _).alloc _);have e1:(r1==13)=true/\(r2==a)=true/\(r3==b)=true/\R=((r4,false),true)\/(r1==13)=false/\R=Vy (13) (a,o) (b,p) (pairsL.drop (j+1))\/(r1==13)=true/\(r2==a)=false/\R=Vy (13) (a,o) (b,p) (pairsL.drop (j+1))\/(r1==13)=true/\(r2==a)=true/\(r3==b)=false/\R=Vy (13) (a,o) (b,p) (pairsL.drop (j+1)):=by
      simp only at hR;by_cases e1:r1=13
      ·by_cases e2:r2=a
       ·by_cases e3:r3=b
        ·rw[jJ6 ⟨e1,e2,e3⟩]at hR;exact .inl ⟨beq_iff_eq.2 e1,beq_iff_eq.2 e2,beq_iff_eq.2 e3,hR⟩
        ·rw[jJ5 (fun hh=>e3 hh.2.2)]at hR;exact .inr (.inr (.inr ⟨beq_iff_eq.2 e1,beq_iff_eq.2 e2,jM3 e3,hR⟩))
       ·rw[jJ5 (fun hh=>e2 hh.2.1)]at hR;exact .inr (.inr (.inl ⟨beq_iff_eq.2 e1,jM3 e2,hR⟩))
      ·rw[jJ5 (fun hh=>e1 hh.1)]at hR;exact .inr (.inl ⟨jM3 e1,hR⟩)
     have LP:=UM (wr.alloc (.cells #[iq r1,iq r2,iq r3,iq r4] 335)) r2 r3 a b;rw[hA];clear hc hA hR Gu hO hlt;rcases e1 with⟨e1,e2,e3,hR⟩|⟨e1,hR⟩|⟨e1,e2,hR⟩|⟨e1,e2,e3,hR⟩
     ·have HR:=G hR;clear hR;go_wp2;refine jL (g:=w.heap.size+1+1) rfl rfl HF.out underlying81 rfl kR rfl ?_;exact⟨by rw[HR.out];rfl,HX.out⟩
     all_goals
      have HR:=G hR;clear hR;go_wp2;exact⟨⟨j+1,by have:=F8.out;omega,by rw[show((j+1:Nat):Int)=(j:Int)+1 by omega],FS.out,HR.out⟩,by have:=F8.out;simp only[intOf];omega⟩
    ·obtain rfl:j=22:=(by omega);have Gh:R=((0,false),false):=hR;have HR:=G Gh;have HF:=G (show Blk ((wr.setCell ⟨w.heap.size+1+1,0,none⟩ (iq 0)).setCell ⟨w.heap.size+1+1,1,none⟩ (.bool false)) (w.heap.size+1+1) 81 #[iq 0,.bool false]from(Ny.out.set_ 0 (iq 0)).set_ 1 (.bool false));have HX:=G (show Old w ((wr.setCell ⟨w.heap.size+1+1,0,none⟩ (iq 0)).setCell ⟨w.heap.size+1+1,1,none⟩ (.bool false))from((vu hO).setCell (p:=⟨w.heap.size+1+1,0,none⟩) (fun h=>absurd h (by simp only;omega)) _).setCell (p:=⟨w.heap.size+1+1,1,none⟩) (fun h=>absurd h (by simp only;omega)) _);clear hR Gh hO Gu hlt;go_wp2;refine jL (g:=w.heap.size+1+1) rfl rfl HF.out underlying81 rfl kR rfl ?_;exact⟨by rw[HR.out];rfl,HX.out⟩
 ·all_goals
   go_enter func266,ntmps266;go_wp2;go_loopw [65] (fun i wr=>∃j:Nat,j<=22/\i=.int .i64 (j:Int)/\Old (((w.alloc (.cells #[iq a,.bool o] 81)).alloc (.cells #[iq b,.bool p] 81)).alloc (.cells #[iq 0,.bool false] 81)) wr/\R=Vy (31) (a,o) (b,p) (pairsL.drop j)) (fun i _=>22-(intOf i).toNat)
   case atStart=>exact⟨0,by decide,rfl,W0.out,Fi.out⟩
   case round=>
    clear W0 Fi;obtain⟨j,hj,rfl,hO,hR⟩:=hrel;have HO:=G hO;have Gu:=K3.out.old hO;have k1:=(K1.out.old hO).at_ 0 (v:=iq a) rfl;have k2:=(K2.out.old hO).at_ 0 (v:=iq b) rfl;have k3:=Gu.at_ 0 (v:=iq 0) rfl;have k4:=Gu.at_ 1 (v:=.bool false) rfl;have z3:=Gu.frozen 0;have z4:=Gu.frozen 1;have sz:w.heap.size+1+1<wr.heap.size:=Gu.lt;have s1:w.heap.size<wr.heap.size:=(by omega);have s2:w.heap.size+1<wr.heap.size:=(by omega);have Ny:=G Gu;by_cases hlt:j<22
    ·rw[Vx _ (a,o) (b,p) j (by rw[FP];exact hlt)]at hR;obtain⟨bb,q,hA,hc⟩:=jK (C:=rwC) (fun x=>rfl) (Pf.out.old (vu hO)) (jJ9 (l:=pairsL) hlt) hlt;generalize pairsL[j]=r at*;obtain⟨r1,r2,r3,r4⟩:=r;have h0:wr.cell? ⟨bb,q+j*4,none⟩=some (iq r1):=hc 0 _ rfl;have h1:wr.cell? ⟨bb,q+j*4+1,none⟩=some (iq r2):=hc 1 _ rfl;have h2:wr.cell? ⟨bb,q+j*4+2,none⟩=some (iq r3):=hc 2 _ rfl;have h3:wr.cell? ⟨bb,q+j*4+3,none⟩=some (iq r4):=hc 3 _ rfl;have j1:(0:Int)<=(j:Int):=(by omega);have j2:(j:Int).toNat=j:=(by omega);have j3:(j:Int)<22:=(by omega);have j4:IntKind.i64.wrap ((j:Int)+1)=(j:Int)+1:=jQ3 _ (by omega);have F8:=G hlt;have FS:=G (hO.alloc (.cells #[iq r1,iq r2,iq r3,iq r4] 335));have HF:=G (show Blk (((wr.setCell ⟨w.heap.size+1+1,0,none⟩ (iq r4)).setCell ⟨w.heap.size+1+1,1,none⟩ (.bool false)).alloc (.cells #[iq r1,iq r2,iq r3,iq r4] 335)) (w.heap.size+1+1) 81 #[iq r4,.bool false]from((Ny.out.set_ 0 (iq r4)).set_ 1 (.bool false)).alloc _);have HX:=G (show Old w (((wr.setCell ⟨w.heap.size+1+1,0,none⟩ (iq r4)).setCell ⟨w.heap.size+1+1,1,none⟩ (.bool false)).alloc (.cells #[iq r1,iq r2,iq r3,iq r4] 335))from(((vu hO).setCell (p:=⟨w.heap.size+1+1,0,none⟩) (fun h=>absurd h (by simp only;omega)) _).setCell (p:=⟨w.heap.size+1+1,1,none⟩) (fun h=>absurd h (by simp only;omega)) _).alloc _);have e1:(r1==31)=true/\(r2==a)=true/\(r3==b)=true/\R=((r4,false),true)\/(r1==31)=false/\R=Vy (31) (a,o) (b,p) (pairsL.drop (j+1))\/(r1==31)=true/\(r2==a)=false/\R=Vy (31) (a,o) (b,p) (pairsL.drop (j+1))\/(r1==31)=true/\(r2==a)=true/\(r3==b)=false/\R=Vy (31) (a,o) (b,p) (pairsL.drop (j+1)):=by
      simp only at hR;by_cases e1:r1=31
      ·by_cases e2:r2=a
       ·by_cases e3:r3=b
        ·rw[jJ6 ⟨e1,e2,e3⟩]at hR;exact .inl ⟨beq_iff_eq.2 e1,beq_iff_eq.2 e2,beq_iff_eq.2 e3,hR⟩
        ·rw[jJ5 (fun hh=>e3 hh.2.2)]at hR;exact .inr (.inr (.inr ⟨beq_iff_eq.2 e1,beq_iff_eq.2 e2,jM3 e3,hR⟩))
       ·rw[jJ5 (fun hh=>e2 hh.2.1)]at hR;exact .inr (.inr (.inl ⟨beq_iff_eq.2 e1,jM3 e2,hR⟩))
      ·rw[jJ5 (fun hh=>e1 hh.1)]at hR;exact .inr (.inl ⟨jM3 e1,hR⟩)
     have LP:=UM (wr.alloc (.cells #[iq r1,iq r2,iq r3,iq r4] 335)) r2 r3 a b;rw[hA];clear hc hA hR Gu hO hlt;rcases e1 with⟨e1,e2,e3,hR⟩|⟨e1,hR⟩|⟨e1,e2,hR⟩|⟨e1,e2,e3,hR⟩
     ·have HR:=G hR;clear hR;go_wp2;refine jL (g:=w.heap.size+1+1) rfl rfl HF.out underlying81 rfl kR rfl ?_;exact⟨by rw[HR.out];rfl,HX.out⟩
     all_goals
      have HR:=G hR;clear hR;go_wp2;exact⟨⟨j+1,by have:=F8.out;omega,by rw[show((j+1:Nat):Int)=(j:Int)+1 by omega],FS.out,HR.out⟩,by have:=F8.out;simp only[intOf];omega⟩
    ·obtain rfl:j=22:=(by omega);have Gh:R=((0,false),false):=hR;have HR:=G Gh;have HF:=G (show Blk ((wr.setCell ⟨w.heap.size+1+1,0,none⟩ (iq 0)).setCell ⟨w.heap.size+1+1,1,none⟩ (.bool false)) (w.heap.size+1+1) 81 #[iq 0,.bool false]from(Ny.out.set_ 0 (iq 0)).set_ 1 (.bool false));have HX:=G (show Old w ((wr.setCell ⟨w.heap.size+1+1,0,none⟩ (iq 0)).setCell ⟨w.heap.size+1+1,1,none⟩ (.bool false))from((vu hO).setCell (p:=⟨w.heap.size+1+1,0,none⟩) (fun h=>absurd h (by simp only;omega)) _).setCell (p:=⟨w.heap.size+1+1,1,none⟩) (fun h=>absurd h (by simp only;omega)) _);clear hR Gh hO Gu hlt;go_wp2;refine jL (g:=w.heap.size+1+1) rfl rfl HF.out underlying81 rfl kR rfl ?_;exact⟨by rw[HR.out];rfl,HX.out⟩
 ·all_goals
   go_enter func266,ntmps266;go_wp2;go_loopw [65] (fun i wr=>∃j:Nat,j<=22/\i=.int .i64 (j:Int)/\Old (((w.alloc (.cells #[iq a,.bool o] 81)).alloc (.cells #[iq b,.bool p] 81)).alloc (.cells #[iq 0,.bool false] 81)) wr/\R=Vy (op') (a,o) (b,p) (pairsL.drop j)) (fun i _=>22-(intOf i).toNat)
   case atStart=>exact⟨0,by decide,rfl,W0.out,Fi.out⟩
   case round=>
    clear W0 Fi;obtain⟨j,hj,rfl,hO,hR⟩:=hrel;have HO:=G hO;have Gu:=K3.out.old hO;have k1:=(K1.out.old hO).at_ 0 (v:=iq a) rfl;have k2:=(K2.out.old hO).at_ 0 (v:=iq b) rfl;have k3:=Gu.at_ 0 (v:=iq 0) rfl;have k4:=Gu.at_ 1 (v:=.bool false) rfl;have z3:=Gu.frozen 0;have z4:=Gu.frozen 1;have sz:w.heap.size+1+1<wr.heap.size:=Gu.lt;have s1:w.heap.size<wr.heap.size:=(by omega);have s2:w.heap.size+1<wr.heap.size:=(by omega);have Ny:=G Gu;by_cases hlt:j<22
    ·rw[Vx _ (a,o) (b,p) j (by rw[FP];exact hlt)]at hR;obtain⟨bb,q,hA,hc⟩:=jK (C:=rwC) (fun x=>rfl) (Pf.out.old (vu hO)) (jJ9 (l:=pairsL) hlt) hlt;generalize pairsL[j]=r at*;obtain⟨r1,r2,r3,r4⟩:=r;have h0:wr.cell? ⟨bb,q+j*4,none⟩=some (iq r1):=hc 0 _ rfl;have h1:wr.cell? ⟨bb,q+j*4+1,none⟩=some (iq r2):=hc 1 _ rfl;have h2:wr.cell? ⟨bb,q+j*4+2,none⟩=some (iq r3):=hc 2 _ rfl;have h3:wr.cell? ⟨bb,q+j*4+3,none⟩=some (iq r4):=hc 3 _ rfl;have j1:(0:Int)<=(j:Int):=(by omega);have j2:(j:Int).toNat=j:=(by omega);have j3:(j:Int)<22:=(by omega);have j4:IntKind.i64.wrap ((j:Int)+1)=(j:Int)+1:=jQ3 _ (by omega);have F8:=G hlt;have FS:=G (hO.alloc (.cells #[iq r1,iq r2,iq r3,iq r4] 335));have HF:=G (show Blk (((wr.setCell ⟨w.heap.size+1+1,0,none⟩ (iq r4)).setCell ⟨w.heap.size+1+1,1,none⟩ (.bool false)).alloc (.cells #[iq r1,iq r2,iq r3,iq r4] 335)) (w.heap.size+1+1) 81 #[iq r4,.bool false]from((Ny.out.set_ 0 (iq r4)).set_ 1 (.bool false)).alloc _);have HX:=G (show Old w (((wr.setCell ⟨w.heap.size+1+1,0,none⟩ (iq r4)).setCell ⟨w.heap.size+1+1,1,none⟩ (.bool false)).alloc (.cells #[iq r1,iq r2,iq r3,iq r4] 335))from(((vu hO).setCell (p:=⟨w.heap.size+1+1,0,none⟩) (fun h=>absurd h (by simp only;omega)) _).setCell (p:=⟨w.heap.size+1+1,1,none⟩) (fun h=>absurd h (by simp only;omega)) _).alloc _);have e1:(r1==op')=true/\(r2==a)=true/\(r3==b)=true/\R=((r4,false),true)\/(r1==op')=false/\R=Vy (op') (a,o) (b,p) (pairsL.drop (j+1))\/(r1==op')=true/\(r2==a)=false/\R=Vy (op') (a,o) (b,p) (pairsL.drop (j+1))\/(r1==op')=true/\(r2==a)=true/\(r3==b)=false/\R=Vy (op') (a,o) (b,p) (pairsL.drop (j+1)):=by
      simp only at hR;by_cases e1:r1=op'
      ·by_cases e2:r2=a
       ·by_cases e3:r3=b
        ·rw[jJ6 ⟨e1,e2,e3⟩]at hR;exact .inl ⟨beq_iff_eq.2 e1,beq_iff_eq.2 e2,beq_iff_eq.2 e3,hR⟩
        ·rw[jJ5 (fun hh=>e3 hh.2.2)]at hR;exact .inr (.inr (.inr ⟨beq_iff_eq.2 e1,beq_iff_eq.2 e2,jM3 e3,hR⟩))
       ·rw[jJ5 (fun hh=>e2 hh.2.1)]at hR;exact .inr (.inr (.inl ⟨beq_iff_eq.2 e1,jM3 e2,hR⟩))
      ·rw[jJ5 (fun hh=>e1 hh.1)]at hR;exact .inr (.inl ⟨jM3 e1,hR⟩)
     have LP:=UM (wr.alloc (.cells #[iq r1,iq r2,iq r3,iq r4] 335)) r2 r3 a b;rw[hA];clear hc hA hR Gu hO hlt;rcases e1 with⟨e1,e2,e3,hR⟩|⟨e1,hR⟩|⟨e1,e2,hR⟩|⟨e1,e2,e3,hR⟩
     ·have HR:=G hR;clear hR;go_wp2;refine jL (g:=w.heap.size+1+1) rfl rfl HF.out underlying81 rfl kR rfl ?_;exact⟨by rw[HR.out];rfl,HX.out⟩
     all_goals
      have HR:=G hR;clear hR;go_wp2;exact⟨⟨j+1,by have:=F8.out;omega,by rw[show((j+1:Nat):Int)=(j:Int)+1 by omega],FS.out,HR.out⟩,by have:=F8.out;simp only[intOf];omega⟩
    ·obtain rfl:j=22:=(by omega);have Gh:R=((0,false),false):=hR;have HR:=G Gh;have HF:=G (show Blk ((wr.setCell ⟨w.heap.size+1+1,0,none⟩ (iq 0)).setCell ⟨w.heap.size+1+1,1,none⟩ (.bool false)) (w.heap.size+1+1) 81 #[iq 0,.bool false]from(Ny.out.set_ 0 (iq 0)).set_ 1 (.bool false));have HX:=G (show Old w ((wr.setCell ⟨w.heap.size+1+1,0,none⟩ (iq 0)).setCell ⟨w.heap.size+1+1,1,none⟩ (.bool false))from((vu hO).setCell (p:=⟨w.heap.size+1+1,0,none⟩) (fun h=>absurd h (by simp only;omega)) _).setCell (p:=⟨w.heap.size+1+1,1,none⟩) (fun h=>absurd h (by simp only;omega)) _);clear hR Gh hO Gu hlt;go_wp2;refine jL (g:=w.heap.size+1+1) rfl rfl HF.out underlying81 rfl kR rfl ?_;exact⟨by rw[HR.out];rfl,HX.out⟩
def scC(x:BA×Kd):List Value:=[.string x.1,iq x.2.1,.bool x.2.2]
def LkB(w:World)(g:Nat)(sA:OA)(sn sc:Nat)(rA:OA)(rc:Nat)(kA:OA)(kn kc:Nat):Prop:=Blk w g 300 #[.slice sA sn sc,.slice rA 22 rc,.slice kA kn kc]
theorem uU{scope:List (BA×Kd)}{s:BA}{j:Nat}(hj:j<scope.length)(h:vF scope s=vF (scope.drop j) s):vF scope s=if scope[j].1=s then(scope[j].2,decide (1<=scope[j].2.1)&&decide (scope[j].2.1<=5))else vF (scope.drop (j+1)) s:=by
 rw[h,jM9 hj];unfold vF;rw[List.find?_cons];by_cases e:scope[j].1=s
 ·rw[jJ6 e,jK5 e]
 ·rw[jJ5 e,jK3 e]
theorem XN(w:World)(g:Nat)(sA:OA)(sc:Nat)(scope:List (BA×Kd))(rA:OA)(rc:Nat)(kA:OA)(kn kc:Nat)(hl:LkB w g sA scope.length sc rA rc kA kn kc)(hs:Rd w 3 sA scope.length (scope.flatMap scC))(hlen:scope.length<=100000000)(s:BA):
  Calls prog 263 #[.pointer (some ⟨g,0,none⟩),.string s] w (KdR w (vF scope s)):=by
 have c0:=Blk.at_ hl 0 (v:=.slice sA scope.length sc) rfl;have hg:g<w.heap.size:=Blk.lt hl;have H0:=G (jQ0 NoX (w.alloc (.cells #[iq 0,.bool false] 81)));have HK:=G (jQ2 w 81 #[iq 0,.bool false]);have HS:=G hs;have FP:=G hlen;have Fi:=G (show vF scope s=vF (scope.drop 0) s from rfl);generalize hR:vF scope s=R at Fi;have HR:=G hR;clear hl hs hlen hR;unfold KdR;go_enter func263,ntmps263;go_wp2;go_loopw [13] (fun i wr=>∃j:Nat,j<=scope.length/\i=.int .i64 (j:Int)/\Old (w.alloc (.cells #[iq 0,.bool false] 81)) wr/\R=vF (scope.drop j) s) (fun i _=>scope.length-(intOf i).toNat)
 case atStart=>exact⟨0,Nat.zero_le _,rfl,H0.out,Fi.out⟩
 case round=>
  clear H0 Fi;obtain⟨j,hj,rfl,hO,RV⟩:=hrel;have hB:=HK.out.old hO;have k3:=hB.at_ 0 (v:=iq 0) rfl;have k4:=hB.at_ 1 (v:=.bool false) rfl;have z3:=hB.frozen 0;have z4:=hB.frozen 1;have sz:w.heap.size<wr.heap.size:=hB.lt;have HO:=G (show Old w wr from((jQ0 NoX w).alloc _).trans hO (fun _ _ e=>e));have HB:=G hB;by_cases hlt:j<scope.length
  ·have NN:=uU hlt (HR.out.trans RV);rw[HR.out]at NN;obtain⟨bb,o,hA,hc⟩:=jK (C:=scC) (fun x=>rfl) (HS.out.old HO.out) (jJ9 hlt) hlt;generalize scope[j]=x at*;obtain⟨nm,⟨kb,ko⟩⟩:=x;have h0:wr.cell? ⟨bb,o+j*3,none⟩=some (.string nm):=hc 0 _ rfl;have h1:wr.cell? ⟨bb,o+j*3+1,none⟩=some (iq kb):=hc 1 _ rfl;have h2:wr.cell? ⟨bb,o+j*3+2,none⟩=some (.bool ko):=hc 2 _ rfl;have j1:(0:Int)<=(j:Int):=(by omega);have j2:(j:Int).toNat=j:=(by omega);have j3:(j:Int)<(scope.length:Int):=(by omega);have j4:IntKind.i64.wrap ((j:Int)+1)=(j:Int)+1:=jQ3 _ (by have:=FP.out;omega);have FS:=G (hO.alloc (.cells #[.string nm,iq kb,.bool ko] 304));have F8:=G hlt;rw[hA];clear hc hA RV hB hO hlt hj;by_cases e:nm=s
   ·have q1:(nm.toList==s.toList)=true:=by rw[e];exact beq_self_eq_true _
    simp only at NN;rw[jJ6 e]at NN;have Lw:=G NN;clear NN e;have ways:decide (1<=kb)=true/\decide (kb<=5)=true/\R=((kb,ko),true)\/decide (1<=kb)=true/\decide (kb<=5)=false/\R=((kb,ko),false)\/decide (1<=kb)=false/\R=((kb,ko),false):=by
     rw[Lw.out];by_cases e1:1<=kb
     ·by_cases e2:kb<=5
      ·exact .inl ⟨jK5 e1,jK5 e2,by simp[e1,e2]⟩
      ·exact .inr (.inl ⟨jK5 e1,jK3 e2,by simp[e2]⟩)
     ·exact .inr (.inr ⟨jK3 e1,by simp[e1]⟩)
    clear Lw;rcases ways with⟨e1,e2,hR⟩|⟨e1,e2,hR⟩|⟨e1,hR⟩
    all_goals
     have Lw:=G hR;clear hR;go_wp2
     go_region
     all_goals
      try go_wp2
      refine jL (g:=w.heap.size) rfl rfl (((HB.out.set_ 0 (iq kb)).set_ 1 (.bool ko)).alloc (.cells #[.string nm,iq kb,.bool ko] 304)) underlying81 rfl kR rfl ?_;exact⟨by rw[Lw.out];rfl,by first|exact(((HO.out.setCell (p:=⟨w.heap.size,0,none⟩) (fun h=>absurd h (by simp only;omega)) _).setCell (p:=⟨w.heap.size,1,none⟩) (fun h=>absurd h (by simp only;omega)) _).alloc _).drew|exact((HO.out.setCell (p:=⟨w.heap.size,0,none⟩) (fun h=>absurd h (by simp only;omega)) _).setCell (p:=⟨w.heap.size,1,none⟩) (fun h=>absurd h (by simp only;omega)) _).alloc _⟩
   ·have q1:(nm.toList==s.toList)=false:=by
     rw[beq_eq_false_iff_ne];intro h;exact e (by rw[ByteArray.toList_eq,ByteArray.toList_eq]at h;cases nm;cases s;congr 1;exact Array.toList_inj.1 h)
    simp only at NN;rw[jJ5 e]at NN;have Lw:=G NN;clear NN e;go_wp2;exact⟨⟨j+1,by have:=F8.out;omega,by rw[show((j+1:Nat):Int)=(j:Int)+1 by omega],FS.out,Lw.out⟩,by have:=F8.out;simp only[intOf];omega⟩
  ·obtain rfl:j=scope.length:=(by omega);rw[List.drop_length]at RV;have Gh:R=((0,false),false):=RV;have Lw:=G Gh;have HF:=G (show Blk ((wr.setCell ⟨w.heap.size,0,none⟩ (iq 0)).setCell ⟨w.heap.size,1,none⟩ (.bool false)) w.heap.size 81 #[iq 0,.bool false]from(hB.set_ 0 (iq 0)).set_ 1 (.bool false));have HX:=G (show Old w ((wr.setCell ⟨w.heap.size,0,none⟩ (iq 0)).setCell ⟨w.heap.size,1,none⟩ (.bool false))from(HO.out.setCell (p:=⟨w.heap.size,0,none⟩) (fun h=>absurd h (by simp only;omega)) _).setCell (p:=⟨w.heap.size,1,none⟩) (fun h=>absurd h (by simp only;omega)) _);clear RV Gh hO hB hlt hj;go_wp2;refine jL (g:=w.heap.size) rfl rfl HF.out underlying81 rfl kR rfl ?_;exact⟨by rw[Lw.out];rfl,HX.out⟩
end Go.Proofs.YtifbhcfdealfaaaGreatDoor

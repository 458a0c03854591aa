import Derived.Test.YtifbhcfdealfaaaGreatDoorMl26
set_option maxRecDepth 100000
set_option maxHeartbeats 25600000
namespace Go.Proofs.YtifbhcfdealfaaaGreatDoor
open Go.Proofs.Tryz
open Go.RowKit
section
variable{w W W' :World}{g:Nat}{t:Tre}{s:Sl}{b:BdS}{p:Wr9N}
theorem BdW.keep(h:BdW w g t s b W)(ho:Old W W'):BdW w g t s b W' :=
 ⟨Blk.old h.bx ho,h.m1.old ho,h.m2.old ho,h.m3.old ho,h.m4.old ho,jJ h.rX ho (fun _ _ e=>e),jJ h.rU ho (fun _ _ e=>e),h.ge,jM h.old ho⟩
theorem BdW.kp(h:BdW w g t s b W){b' :BdS}(hb:Bx W' g t s b')(hk:Kp (fun k=>k=g) W W')(e1:b'.b1=b.b1)(e2:b'.b2=b.b2)(e3:b'.b3=b.b3)(e4:b'.b4=b.b4)(eu:(b'.uA,b'.uc,b'.ups)=(b.uA,b.uc,b.ups))(ex:(b'.xA,b'.xc,b'.all)=(b.xA,b.xc,b.all)):BdW w g t s b' W' :=by
 simp only[Prod.mk.injEq]at eu ex;obtain⟨u1,u2,u3⟩:=eu;obtain⟨x1,x2,x3⟩:=ex;refine⟨hb,by rw[e1];exact h.m1.kp hk (h.m1.ne h.bx),by rw[e2];exact h.m2.kp hk (h.m2.ne h.bx),by rw[e3];exact h.m3.kp hk (h.m3.ne h.bx),by rw[e4];exact h.m4.kp hk (h.m4.ne h.bx),?_,?_,by rw[e1,e2,e3,e4];exact h.ge,h.old.trans hk (fun k hk e=>absurd hk (by have:=h.ge.1;omega))⟩
 ·rw[x1,x2,x3];exact jJ h.rX hk (fun k e e2=>by subst e2;exact jH h.rX h.bx (by decide) e)
 ·rw[u1,u2,u3];exact jJ h.rU hk (fun k e e2=>by subst e2;exact jH h.rU h.bx (by decide) e)
theorem BdW.put(h:BdW w g t s b W)(hr:BxR W g t s b p W'):BdW w g t s {b with p:=p} W' :=h.kp hr.1 hr.2 rfl rfl rfl rfl rfl rfl
theorem BdW.rUd(h:BdW w g t s b W):Rd W 1 b.uA b.ups.length (b.ups.map iv):=Rd.of_own h.rU
theorem BdW.rXd(h:BdW w g t s b W):Rd W 5 b.xA b.all.length (b.all.flatMap Jt):=Rd.of_own h.rX
structure BdK(w W0:World)(g:Nat)(t:Tre)(s:Sl)(b:BdS)(W:World):Prop extends BdW w g t s b W where
 kp0:Kp (fun k=>k=g) W0 W
theorem BdK.keep{W0:World}(h:BdK w W0 g t s b W)(ho:Old W W'):BdK w W0 g t s b W' :=⟨h.toBdW.keep ho,h.kp0.trans (ho.mono (fun _ _ e=>e.elim)) (fun _ _ e=>e)⟩
theorem BdK.put{W0:World}(h:BdK w W0 g t s b W)(hr:BxR W g t s b p W'):BdK w W0 g t s {b with p:=p} W' :=⟨h.toBdW.put hr,h.kp0.trans hr.2 (fun _ _ e=>e)⟩
theorem jGy{X:Nat->Prop}{W W' W2:World}(h:Kp X W W')(ho:Old W' W2):Kp X W W2:=h.trans (ho.mono (fun _ _ e=>e.elim)) (fun _ _ e=>e)
end
def jGd:Value->Nat
 | .slice _ n _=>n
 |_=>0
theorem jBN{ups:List Int}{i:Int}{m:Nat}{up:Int}(h0:0<=up)(h1:up≠i)(hl:up.toNat<ups.length):yB ups i (m+1) up=yB ups i m ups[up.toNat]:=by
 rw[yB,jJ6 ⟨h0,h1⟩,List.getD,jJ9 hl];rfl
theorem uz{ups:List Int}{i:Int}{m:Nat}{up:Int}(h:¬0<=up\/up=i\/m=0):yB ups i m up=up:=by
 cases m with
 |zero=>rfl
 |succ m=>
  rw[yB,jJ5];rintro ⟨h0,h1⟩;rcases h with h|h|h
  ·exact h h0
  ·exact h1 h
  ·cases h
theorem jCl{ups:List Int}{m:Nat}{x:Int}(h0:0<=x)(hl:x.toNat<ups.length):yy ups (m+1) x=yy ups m ups[x.toNat]+1:=by
 rw[yy,jJ6 h0,List.getD,jJ9 hl];rfl
theorem jCk{ups:List Int}{m:Nat}{x:Int}(h0:¬0<=x):yy ups m x=0:=by
 cases m with
 |zero=>rfl
 |succ m=>rw[yy,jJ5 h0]
theorem qi(ups:List Int)(i:Nat)(x:Stg)(l:List Stg)(p:Wr9N):jw ups i (x::l) p=jw ups (i+1) l (jP (decide (yB ups i ups.length (ups.getD i 0)=(i:Int))) p x.at_ 120):=by rw[jw]
theorem ut(w:World)(t:Tre)(s:Sl)(ns:List MNd)(ps:List MSt)(CX:CxB w t s ns ps)(W:World)(g:Nat)(b:BdS)(hB:BdW w g t s b W)(hu:b.ups=t.ups):
  Calls prog 121 #[.pointer (some ⟨g,0,none⟩)] W fun e w' =>e=.returned (.tuple #[])/\BxR W g t s b (jw t.ups 0 t.stages b.p) w' :=by
 have c3:=Blk.at_ hB.bx 3 (v:=.slice s.gA t.stages.length s.gc) rfl;have Gq:g<W.heap.size:=Blk.lt hB.bx;have HG:=G (fun wr (h:Old w wr)=>CX.tf.rG.old h);have FP:=G (And.intro (yp t) CX.sz.lG);have F8:=G (QO t);have Fi:=G (show jw t.ups 0 t.stages b.p=jw t.ups 0 (t.stages.drop 0) b.p from rfl);generalize jw t.ups 0 t.stages b.p=R at Fi⊢;have H0:=G (And.intro (show BdW w g t s {b with p:=b.p} W from hB) (jQ0 (fun k=>k=g) W));have Hu:=G hu;clear CX hB hu;go_enter func121,ntmps121;go_wp2;go_loopw [12] (fun i wr=>∃(k:Nat) (p:Wr9N),k<=t.stages.length/\i=.int .i64 (k:Int)/\BdW w g t s {b with p:=p} wr/\Kp (fun k=>k=g) W wr/\R=jw t.ups k (t.stages.drop k) p) (fun i _=>t.stages.length-(intOf i).toNat)
 case atStart=>exact⟨0,_,Nat.zero_le _,rfl,H0.out.1,H0.out.2,Fi.out⟩
 case round=>
  clear H0 Fi c3;obtain⟨k,p,hk,rfl,hB,hK,hR⟩:=hrel;by_cases hlt:k<t.stages.length
  ·obtain⟨bb,o,hA,hc⟩:=jK (C:=sgC) (fun x=>rfl) (HG.out wr hB.old) (jJ9 hlt) hlt;rw[jM9 hlt,qi]at hR;generalize t.stages[k]=y at*;have h0:wr.cell? ⟨bb,o+k*7,none⟩=some (.string y.name):=hc 0 _ rfl;have h1:wr.cell? ⟨bb,o+k*7+1,none⟩=some (.int .i64 y.at_):=hc 1 _ rfl;have h2:wr.cell? ⟨bb,o+k*7+2,none⟩=some (.int .i64 y.order):=hc 2 _ rfl;have h3:wr.cell? ⟨bb,o+k*7+3,none⟩=some (.string y.in_):=hc 3 _ rfl;have h4:wr.cell? ⟨bb,o+k*7+4,none⟩=some (.int .i64 y.inAt):=hc 4 _ rfl;have h5:wr.cell? ⟨bb,o+k*7+5,none⟩=some (.int .i64 y.opens):=hc 5 _ rfl;have h6:wr.cell? ⟨bb,o+k*7+6,none⟩=some (.int .i64 y.closes):=hc 6 _ rfl;have LE:k<t.ups.length:=by have:=FP.out.1;omega
   have Mq:=hB.rUd;simp only at Mq;rw[Hu.out]at Mq;obtain⟨ub,uo,u,L8,Nc,NA⟩:=Mq.at_ LE;rw[jM1,jJ9 LE]at Nc;obtain rfl:=jL5 Nc;have To:=G (fun(j:Nat) (hj:j<t.ups.length)=>(show wr.cell? ⟨ub,uo+j,none⟩=some (.int .i64 t.ups[j])by
    obtain⟨ub',uo',u',WM,WN,LF⟩:=Mq.at_ hj;rw[L8]at WM;injection WM with e;injection e with e1 e2;subst e1;subst e2;rw[jM1,jJ9 hj]at WN;obtain rfl:=jL5 WN;exact LF))
   have c13:=Blk.at_ hB.bx 13 (v:=.slice b.uA b.ups.length b.uc) rfl;rw[Hu.out,L8]at c13;have D9:wr.cell? ⟨ub,uo+k,none⟩=some (.int .i64 t.ups[k]):=NA;have TQ:ub<wr.heap.size:=jU D9;have MH:g<wr.heap.size:=Blk.lt hB.bx;have Mz:=F8.out _ (jL6 LE);have N7:t.ups.getD k 0=t.ups[k]:=by rw[List.getD,jJ9 LE];rfl
   rw[N7]at hR;have HR:=G hR;have i1:(0:Int)<=(k:Int):=(by omega);have i2:(k:Int).toNat=k:=(by omega);have i3:(k:Int)<(t.stages.length:Int):=(by omega);have i4:IntKind.i64.wrap ((k:Int)+1)=(k:Int)+1:=jQ3 _ (by have:=FP.out.2;omega);have i6:(k:Int)<(t.ups.length:Int):=(by omega);have Hl:=G hlt;have DZ:=G Mz;have O1:=((jQ0 NoX wr).alloc (.cells (sgC y).toArray 83));have Fg:=G (hB.keep O1);have PQ:=G (jGy hK O1);have Y1:=G (jQ2 wr 83 (sgC y).toArray);have FS:=G O1;unfold sgC iv at Fg PQ Y1 FS;have Bi:=G L8;rw[hA];generalize huk:t.ups[k]=uk at*;clear hc hA Mq L8 Nc NA hB hK hR hlt hk Mz N7 huk O1;have d13:=Blk.at_ Fg.out.bx 13 (v:=.slice b.uA b.ups.length b.uc) rfl;rw[Hu.out,Bi.out]at d13;have y1:=Y1.out.at_ 1 (v:=.int .i64 y.at_) rfl;go_upto_region 4 with fail;clear h0 h1 h2 h3 h4 h5 h6 c13 D9 TQ MH;generalize wr.alloc (.cells #[.string y.name,.int .i64 y.at_,.int .i64 y.order,.string y.in_,.int .i64 y.inAt,.int .i64 y.opens,.int .i64 y.closes] 83)=w1 at*;generalize wr.heap.size=q1 at*;have AH:g<w1.heap.size:=jU d13;have TW:q1<w1.heap.size:=jU y1;generalize wr=wo at*;have BI:=G (fun(j:Nat) (hj:j<t.ups.length)=>jD (To.out j hj) FS.out);obtain⟨C,hC⟩:∃C,C=yB t.ups k t.ups.length uk:=⟨_,rfl⟩;have Fi:=G (show C=yB t.ups k (t.ups.length-0) uk from hC);rw[<-hC]at HR;clear hC;clear To FS;go_wp2;go_loopw [4,5] (fun u n wr=>∃(up:Int) (j:Nat),u=.int .i64 up/\n=.int .i64 (j:Int)/\j<=t.ups.length/\(-1<=up/\up<(t.ups.length:Int))/\w1=wr/\C=yB t.ups k (t.ups.length-j) up) (fun _ n _=>t.ups.length-(intOf n).toNat)
   case atStart=>exact⟨uk,0,rfl,rfl,Nat.zero_le _,DZ.out,rfl,Fi.out⟩
   case round=>
    clear Fi DZ;obtain⟨up,j,rfl,rfl,hj,Mz,rfl,hC⟩:=hrel;have Hj:=G hj;have IJ:=G Mz;by_cases Fh:0<=up/\up≠(k:Int)/\j<t.ups.length
    ·obtain⟨a1,a2,a3⟩:=Fh;have Gp:up.toNat<t.ups.length:=(by omega);rw[show t.ups.length-j=(t.ups.length-(j+1))+1 by omega,jBN a1 a2 Gp]at hC;have NC:=BI.out _ Gp;have PZ:=F8.out _ (jL6 Gp);generalize t.ups[up.toNat]=u2 at*;have HC:=G (And.intro hC PZ);have b1:(up !=(k:Int))=true:=bne_iff_ne.2 a2;have b2:(j:Int)<(t.ups.length:Int):=(by omega);have b3:up<(t.ups.length:Int):=(by omega);have b4:IntKind.i64.wrap ((j:Int)+1)=(j:Int)+1:=jQ3 _ (by have:=FP.out.1;have:=FP.out.2;omega);have TR:ub<w1.heap.size:=jU NC;have Ei:=G a3;clear hC PZ Gp a2 a3 hj Mz;go_wp2;exact⟨⟨u2,j+1,rfl,by rw[show((j+1:Nat):Int)=(j:Int)+1 by omega],by have:=Ei.out;omega,HC.out.2,by trivial,HC.out.1⟩,by have:=Ei.out;simp only[intOf];omega⟩
    ·have way:∃z:Bool,(up==(k:Int))=z/\(up !=(k:Int))= !z/\decide (up=(k:Int))=z/\((¬0<=up/\z=false)\/(0<=up/\z=true)\/(0<=up/\z=false/\¬(j:Int)<(t.ups.length:Int))):=by
      by_cases e:up=(k:Int)
      ·exact⟨true,beq_iff_eq.2 e,by rw[bne,beq_iff_eq.2 e],jK5 e,.inr (.inl ⟨by omega,rfl⟩)⟩
      ·refine⟨false,jM3 e,by rw[bne,jM3 e],jK3 e,?_⟩;by_cases e0:0<=up
       ·exact .inr (.inr ⟨e0,rfl,by omega⟩)
       ·exact .inl ⟨e0,rfl⟩
     obtain⟨z,z1,z2,z3,way⟩:=way;have DP:C=up:=by
      rw[hC];exact uz (by omega)
     rw[DP,z3]at HR;clear hC DP z3 Fh hj Mz;rcases way with⟨a1,rfl⟩|⟨a1,rfl⟩|⟨a1,rfl,a2⟩
     all_goals
      go_wp2_with (first|(go_at_call 171;refine(kH w1 g t s {b with p:=p} Fg.out.bx y.at_ 120).mono ?_;rintro e w5 ⟨rfl,hX⟩;have HX:=G (Fg.out.put hX);have HK:=G (PQ.out.trans hX.2 (fun _ _ e=>e));clear hX)|fail)
      first
       |exact⟨⟨k+1,_,by have:=Hl.out;omega,by rw[show((k+1:Nat):Int)=(k:Int)+1 by omega],HX.out,HK.out,HR.out⟩,by have:=Hl.out;simp only[intOf];omega⟩
       |exact⟨⟨k+1,_,by have:=Hl.out;omega,by rw[show((k+1:Nat):Int)=(k:Int)+1 by omega],Fg.out,PQ.out,HR.out⟩,by have:=Hl.out;simp only[intOf];omega⟩
  ·obtain rfl:k=t.stages.length:=(by omega);rw[List.drop_length]at hR;have Fy:=G (show R=p from hR);have HX:=G (And.intro hB.bx hK);clear hB hK hR hlt hk;go_wp2;go_end0;rw[Fy.out];exact⟨rfl,HX.out.1,HX.out.2⟩
theorem jAP(w:World)(t:Tre)(s:Sl)(W:World)(g:Nat)(b:BdS)(hB:BdW w g t s b W)(hu:b.ups=t.ups)(hn:Zn t.ups)(hl:t.ups.length<=1000000)(i:Nat)(hi:i<t.ups.length):
  Calls prog 181 #[.pointer (some ⟨g,0,none⟩),.int .i64 (i:Int)] W fun e w' =>∃A c,e=.returned (.slice A (yy t.ups (t.ups.length+1) i) c)/\Old W w' :=by
 have Gx:=Qt (fun u hu=>(QO t u hu).2) hn i (by omega);have F8:=G (QO t);have c13:=Blk.at_ hB.bx 13 (v:=.slice b.uA b.ups.length b.uc) rfl;have Mq:=hB.rUd;rw[hu]at Mq c13;obtain⟨ub,uo,L8,_⟩:=Mq.2 (by omega);have To:=G (fun(j:Nat) (hj:j<t.ups.length)=>(show W.cell? ⟨ub,uo+j,none⟩=some (.int .i64 t.ups[j])by
  obtain⟨ub',uo',u',WM,WN,LF⟩:=Mq.at_ hj;rw[L8]at WM;injection WM with e;injection e with e1 e2;subst e1;subst e2;rw[jM1,jJ9 hj]at WN;obtain rfl:=jL5 WN;exact LF))
 rw[L8]at c13;obtain⟨k0,hk,Wj,Wb,Fu⟩:=info_parts KI;obtain⟨R,Gh⟩:∃R,R=yy t.ups (t.ups.length+1) i:=⟨_,rfl⟩;have H0:=G (And.intro (show Mk9 W 3 1 none 0 0 [] W from Mk9.nil (jQ0 _ _)) (show 0+yy t.ups (t.ups.length+1-0) i=R by rw[Gh];exact Nat.zero_add _));rw[<-Gh]at Gx⊢;have WC:=G Gx;have Hl:=G hl;have H1:=G (show-1<=(i:Int)/\(i:Int)<(t.ups.length:Int)by omega);have HC:=G c13;have Co:=G (show g<W.heap.size from Blk.lt hB.bx);clear hB hu hn hl hi Mq L8 c13 Gx Gh;go_enter func181,ntmps181;go_wp2;go_loopw [1,5] (fun v l wr=>∃(x:Int) (n:Nat) (A:OA) (c:Nat) (xs:List Value),v=.int .i64 x/\l=.slice A n c/\Mk9 W 3 1 A c n xs wr/\n+yy t.ups (t.ups.length+1-n) x=R/\ -1<=x/\x<(t.ups.length:Int)) (fun _ l _=>R-jGd l)
 case atStart=>exact⟨_,0,none,0,[],rfl,rfl,H0.out.1,H0.out.2,H1.out.1,H1.out.2⟩
 case round=>
  clear H0 H1;obtain⟨x,n,A,c,xs,rfl,rfl,hM,hR,h0,h1⟩:=hrel;have HM:=G hM;by_cases hx:0<=x
  ·have Nj:n<t.ups.length+1:=by
    rcases Nat.lt_or_ge n (t.ups.length+1)with h|h
    ·exact h
    ·have:=WC.out;omega
   have Gp:x.toNat<t.ups.length:=(by omega);have F3:n+1+yy t.ups (t.ups.length+1-(n+1)) t.ups[x.toNat]=R:=by
    rw[show t.ups.length+1-n=(t.ups.length+1-(n+1))+1 by omega,jCl hx Gp]at hR;omega
   have TR:=To.out _ Gp;have Mz:=F8.out _ (jL6 Gp);generalize t.ups[x.toNat]=y at*;have Fi:=G (And.intro F3 Mz);have O1:=((jQ0 NoX wr).alloc (.cells #[.int .i64 x] 3));have FS:=G O1;have I7:=G (hM.keep O1);have Mn:=G (hM.keep O1).old.size;have FM:=G (show n+1<=maxLen by have:=Hl.out;unfold maxLen;omega);have FN:=G (show(n+1)*8<=140737488355328 by have:=Hl.out;omega);have Bp:=G (show n<R by omega);have Bh:=G TR;clear hM hR F3 Mz O1 TR;go_wp2_with (first|(at_builtin;refine jG _ rfl (.tmp 15) (.tmp 17) 37 rfl W.heap.size 3 k0 _ 1 8 underlying37 hk Wj Wb Fu rfl (by decide) (.slice A n c) n xs rfl I7.out.own _ 1 1 [.int .i64 x] rfl (Rd.one_new _ _ _) (kI _ rfl) FM.out FN.out Mn.out ?_;intro A1 c1 w2 hI hgrow F1;have HX:=G (HM.out.put FS.out hI hgrow);have d13:=jD HC.out HX.out.old;have dgl:g<w2.heap.size:=jU d13;have dub:=jD Bh.out HX.out.old;clear hI hgrow F1)|fail);exact⟨⟨y,n+1,A1,c1,_,rfl,rfl,HX.out,Fi.out.1,Fi.out.2⟩,by have:=Bp.out;simp only[jGd];omega⟩
  ·have Fy:=G (show n=R by rw[jCk hx]at hR;omega);clear hM hR;go_wp2;go_ret;rw[<-Fy.out];exact⟨⟨A,c,rfl⟩,HM.out.old⟩
end Go.Proofs.YtifbhcfdealfaaaGreatDoor

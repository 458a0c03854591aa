import Derived.Test.YtnaolhjbapgjgaaGreatMg23
set_option maxRecDepth 100000
set_option maxHeartbeats 6400000
namespace Go.Proofs.YtnaolhjbapgjgaaGreat
open Go.Proofs.Tryz
open Go.RowKit
structure RdR(T:TypeId)(z:List Value)(w:World)(g:Nat)(bs:LB)(s:Ls)(W:World):Prop where
 box:Blk W w.heap.size T z.toArray
 rr:Lq W g bs s
 old:Old w W
 lt:w.heap.size<g
section
variable{T:TypeId}{z:List Value}{w:World}{g:Nat}{bs:LB}{s s' :Ls}{W W' :World}
theorem RdR.step(h:RdR T z w g bs s W)(hr:Lq W' g bs s')(hk:Kp (RX g) W W'):RdR T z w g bs s' W' :=
 ⟨h.box.kp hk (fun e=>by have:w.heap.size=g:=e;have:=h.lt;omega),hr,h.old.trans hk (fun b hb e=>by have:b=g:=e;have:=h.lt;omega),h.lt⟩
theorem RdR.still(h:RdR T z w g bs s W)(hk:Old W W'):RdR T z w g bs s W' :=⟨h.box.old hk,h.rr.old hk,h.old.old hk,h.lt⟩
theorem RdR.put(h:RdR T z w g bs s W){X:Nat->Prop}(hk:Kp X W W')(hx:∀b,X b->g<b):RdR T z w g bs s W' :=
 ⟨h.box.kp hk (fun e=>by have:=hx _ e;have:=h.lt;omega),h.rr.kp hk (fun b hb e=>by have:=hx _ e;omega),h.old.trans hk (fun b hb e=>by have:=hx _ e;have:=h.lt;omega),h.lt⟩
theorem RdR.set(h:RdR T z w g bs s W){P i:Nat}(hP:g<P)(v:Value):RdR T z w g bs s (W.setCell ⟨P,i,none⟩ v):=
 h.put ((jQ0 (fun b=>b=P) W).setCell (p:=⟨P,i,none⟩) (fun _=>rfl) v) (fun b e=>by omega)
theorem RdR.th(h:RdR T z w g bs s W)(vs:List Value)(hl:z.length=vs.length):W.there w.heap.size 0 vs.toArray.size:=h.box.there 0 _ (by rw[jJ8,jJ8];omega)
theorem RdR.told(h:RdR T z w g bs s W)(vs:List Value)(hl:z.length=vs.length):Told T vs w W (W.setCells w.heap.size 0 vs):=
 ⟨h.box.setWhole vs hl,h.old.trans (Kp.setCells _ 0 vs W) (fun b hb e=>by omega),Kp.setCells _ 0 vs W⟩
end
def jIc(w:World)(d:Option Way)(e:Ending)(w' :World):Prop:=
 ∃(m:MWay) (er:Int),m.data=d.getD ⟨0,0,[]⟩/\e=.returned (.tuple #[.agg m.cells.toArray,.int .i64 er])/\m.Ok w' (fun k=>k<w.heap.size)/\Old w w'
theorem zR{w w' :World}{er:Int}(ho:Old w w'):jIc w none (.returned (.tuple #[.agg zeroWay.toArray,.int .i64 er])) w' :=
 ⟨⟨0,0,[],none,0⟩,er,rfl,rfl,⟨fun d hd=>(by cases hd),Rd.none_,fun h=>absurd h (by simp),by decide⟩,ho⟩
theorem jAa{W:World}{g:Nat}{bs:LB}{A:OA}{c:Nat}(hb:Blk W g 264 #[.slice A bs.length c,.bool false])(hr:Rd W 1 A bs.length (bs.map bv))(ha:Av (fun k=>g<=k+1) bs.length A)(hc:bs.length<=c)(hl:bs.length<=10000000000):Lq W g bs ⟨0,false⟩:=
 ⟨A,c,by simpa using hb,by simpa using hr,by simpa using ha,by simpa using hc,Nat.zero_le _,hl⟩
theorem Jp{bs:LB}{most kind:Nat}(h:most<bs.length):kH bs most kind=none:=jJ6 h
theorem Kv{most kind:Nat}(hk:kind≠0):kH [] most kind=none:=by
 unfold kH;rw[jJ5 (by simp),jJ5];rintro ⟨h,_⟩;have:(tkN [] 1 ⟨0,0⟩).1=0:=(by simp[tkN]);exact hk (by omega)
theorem uU(bs:LB):∀(n:Nat) (s:Ls) (acc:List LB),(wayL bs n s acc).1.length<=acc.length+n
 |0,s,acc=>jL3 _
 |n+1,s,acc=>by
  rw[wayL];split
  ·simp only;omega
  ·have:=uU bs n (digL bs s).2 (acc++[(digL bs s).1]);rw[jJ4,List.length_singleton]at this;omega
theorem Uw{k:Nat}{o:Option Nat}{a b:Int}{ds:List LB}{l:LB}(hd:Dgs ds)(h:jA2 k o a b ds=some l):l.length=17+ds.length*32:=by
 unfold jA2 at h;split at h
 ·obtain rfl:=jL5 h;simp only[jJ4,jC,jG,hd.flat];omega
 ·cases h
theorem Qz(bs:LB):jCo (uR yA bs) (jAh (uR yA bs).a (uR yA bs).b (uR yA bs).ds) bs=ve bs:=jCx yh (by decide) bs
theorem jDn(w:World)(A:OA)(c:Nat)(bs:LB)(Fa:Rd w 1 A bs.length (bs.map bv))(hc:bs.length<=c):
  Calls prog 129 #[.slice A bs.length c] w (jIc w (ve bs)):=by
 have Hb:=G (jQ2 w 51 zeroWay.toArray);have HO:=G ((jQ0 NoX w).alloc (.cells zeroWay.toArray 51));by_cases Fj:9000<bs.length
 ·have hY:=G (show ve bs=none by unfold ve;rw[Jp Fj];rfl);have Nj:(9000:Int)<(bs.length:Int):=(by omega);have hU:=G (Hb.out.there 0 zeroWay.toArray.size (by decide));have FI:=G (Hb.out.setWhole zeroWay rfl);have FR:=G (HO.out.trans (Kp.setCells w.heap.size 0 zeroWay (w.alloc (.cells zeroWay.toArray 51))) (fun b hb e=>by omega));clear Fj Fa;unfold zeroWay at Hb HO hU FI FR;go_enter func129,ntmps129;go_wp2_with (first|((with_reducible refine jF 51 (.tmp 2) (.tmp 9) ?_);refine jQ1 rfl 51 (.tmp 2) (.tmp 9) rfl w.heap.size 0 zeroWay.toArray rfl rfl hU.out jN (jR rfl) ?_)|fail);refine jD (g:=w.heap.size) (cs:=zeroWay.toArray) rfl rfl FI.out underlying51 rfl jN rfl ?_;rw[hY.out];exact zR FR.out
 have Nj:¬(9000:Int)<(bs.length:Int):=(by omega);have EC:=G Fj;have Gh:=G (Qz bs);have Np:=G (show bs=[]->ve bs=none from fun e=>by rw[e];unfold ve;rw[Kv (by decide)];rfl);have Mp:=G (HO.out.alloc (.cells #[.slice A bs.length c,.bool false] 264));have HG:=G (show Lq ((w.alloc (.cells zeroWay.toArray 51)).alloc (.cells #[.slice A bs.length c,.bool false] 264)) (w.heap.size+1) bs ⟨0,false⟩from
  jAa (by
   have:=jQ2 (w.alloc (.cells zeroWay.toArray 51)) 264 #[.slice A bs.length c,.bool false]
   rwa [show(w.alloc (.cells zeroWay.toArray 51)).heap.size=w.heap.size+1 by simp]at this) (Fa.old Mp.out) (fun hn ad e hx=>by have:=Fa.lt (by decide) hn e;have h2:w.heap.size+1<=ad.block+1:=hx;omega) hc (by omega))
 have HS:=G (show RdR 51 zeroWay w (w.heap.size+1) bs ⟨0,false⟩ _ from⟨Hb.out.alloc _,HG.out,Mp.out,by omega⟩);have DW:=G (show(w.alloc (.cells zeroWay.toArray 51)).heap.size=w.heap.size+1 by simp);have Fy:=G Fa;clear HG Mp Hb HO Fj Fa;generalize ve bs=D at*;unfold uR at Gh;unfold zeroWay at HS DW;go_enter func129,ntmps129;go_wp2_with fail;generalize (w.alloc _).alloc _=W at*;clear DW;generalize hg:w.heap.size+1=g at*;have Lj:=G (va W g bs 1 ⟨0,false⟩ HS.out.rr (by decide));refine Lj.out.mono ?_;clear Lj;generalize jZ bs 1 ⟨0,false⟩=t0 at*;obtain⟨l0,s0⟩:=t0;rintro e w1 ⟨A1,c1,rfl,_,_,Fd,Fc⟩;simp only at Gh Fd;replace HS:=G ((HS.out.step Fd Fc).still ((jQ0 NoX w1).alloc (.cells zeroWay.toArray 51)));have GW:=G (jQ2 w1 51 zeroWay.toArray);have Nm:=G (show g<w1.heap.size from Fd.lt);clear Fd Fc;unfold zeroWay at HS GW;have Ge:=G (fun W (h:Lq W g bs s0)=>kC W g bs 8 s0 h (by decide));go_wp2_with fail;generalize w1.alloc _=W1 at*;generalize w1.heap.size=P at*;refine(Ge.out _ HS.out.rr).mono ?_;clear Ge;generalize numL bs 8 s0=t1 at*;obtain⟨a,s1⟩:=t1;rintro e w2 ⟨rfl,Fb,hZ⟩;simp only at Gh Fb⊢;have FG:=GW.out.kp hZ (fun e=>by have h1:P=g:=e;have:=Nm.out;omega);replace HS:=G ((HS.out.step Fb hZ).set Nm.out (.int .i64 a) (i:=0));replace GW:=G (FG.set_ 0 (.int .i64 a));have c0:=FG.at_ 0 (v:=.int .i64 0) rfl;have z0:=FG.frozen 0;clear Fb hZ;have Ge:=G (fun W (h:Lq W g bs s1)=>kC W g bs 8 s1 h (by decide));go_wp2_with fail;clear c0 z0 FG;generalize w2.setCell _ _=W2 at*;refine(Ge.out _ HS.out.rr).mono ?_;clear Ge;generalize numL bs 8 s1=t2 at*;obtain⟨b,s2⟩:=t2;rintro e w3 ⟨rfl,Fb,hZ⟩;simp only at Gh Fb⊢;have FG:=GW.out.kp hZ (fun e=>by have h1:P=g:=e;have:=Nm.out;omega);replace HS:=G ((HS.out.step Fb hZ).set Nm.out (.int .i64 b) (i:=1));replace GW:=G (FG.set_ 1 (.int .i64 b));have c1' :=FG.at_ 1 (v:=.int .i64 0) rfl;have z1:=FG.frozen 1;have c0:=GW.out.at_ 0 (v:=.int .i64 a) rfl;have c1:=GW.out.at_ 1 (v:=.int .i64 b) rfl;have HB:=G (fun W=>Jd W a b);have M5:=G (show jp (yA a b)<=100000 by
  cases hf:yA a b with
  |none=>simp[jp]
  |some n=>have:=(yh a b n hf).2.2;simp only[jp];omega)
 clear Fb hZ;unfold jFL at Gh;simp only at Gh;go_wp2_with fail;generalize jp (yA a b)=n at*;refine(HB.out _).mono ?_;rintro e w4 ⟨rfl,rfl⟩;have HW:=G (fun W (h:Lq W g bs s2)=>Vp W g bs n s2 h M5.out);have LI:=G GW.out.lt;clear HB c0 c1 c1' z1 FG;go_wp2_with fail;refine(HW.out _ HS.out.rr).mono ?_;clear HW;have Nl:=G (show(wayL bs n.toNat s2 []).1.length<=n.toNat by have:=uU bs n.toNat s2 [];simpa using this);generalize wayL bs n.toNat s2 []=t3 at*;obtain⟨ds,s3⟩:=t3;rintro e w5 ⟨A5,c5,rfl,Ni,N4,Lw,WM,Nu⟩;simp only at Gh Nl WM Ni N4 Lw⊢;have Nr:=GW.out.kp Nu (fun e=>by have h1:P=g:=e;have:=Nm.out;omega);have c2:=Nr.at_ 2 (v:=.slice none 0 0) rfl;have z2:=Nr.frozen 2;replace HS:=G ((HS.out.step WM Nu).set Nm.out (.slice A5 ds.length c5) (i:=2));replace GW:=G (show Blk (w5.setCell ⟨P,2,none⟩ (.slice A5 ds.length c5)) P 51 (MWay.cells ⟨a,b,ds,A5,c5⟩).toArray from Nr.set_ 2 (.slice A5 ds.length c5));have HM:=G (show MWay.Ok (w5.setCell ⟨P,2,none⟩ (.slice A5 ds.length c5)) (fun k=>k<=P) ⟨a,b,ds,A5,c5⟩from
  ⟨Lw,Ni.kp ((jQ0 (fun b=>b=P) w5).setCell (p:=⟨P,2,none⟩) (fun _=>rfl) _) (fun hn ad e hx=>N4 hn ad e (by have h1:ad.block=P:=hx;have:=LI.out;omega)),fun hn ad e hx=>N4 hn ad e (by have h1:ad.block<=P:=hx;have:=LI.out;omega),
   by have:=Nl.out;have:=M5.out;show ds.length<=2147483647;omega⟩)
 have DQ:=G (show w.heap.size<P by have:=Nm.out;omega);clear Ni N4 Lw WM Nu LI;by_cases N6:bs=[]
 ·have b0:((bs.length:Int)==0)=true:=(by simp[N6]);have hY:=G (Np.out N6);clear N6 Np;have hU:=G (HS.out.th zeroWay rfl);have Ht:=G (HS.out.told zeroWay rfl);unfold zeroWay at hU Ht;go_wp2_with (first|((with_reducible refine jF 51 (.tmp 2) (.tmp 39) ?_);refine jQ1 rfl 51 (.tmp 2) (.tmp 39) rfl w.heap.size 0 zeroWay.toArray rfl rfl hU.out jN (jR rfl) ?_)|fail);refine jD (g:=w.heap.size) (cs:=zeroWay.toArray) rfl rfl Ht.out.box underlying51 rfl jN rfl ?_;rw[hY.out];exact zR Ht.out.old
 have b0:((bs.length:Int)==0)=false:=(by simpa using N6);have C3:=G N6;have Fn:=G GW.out.range;clear N6 Np;have HI:=G (jAL (w5.setCell ⟨P,2,none⟩ (.slice A5 ds.length c5)) ⟨a,b,ds,A5,c5⟩ ⟨HM.out.dgs,HM.out.rd,fun _ _ _ f=>f,HM.out.big⟩);go_wp2_with (first|((with_reducible refine jT 51 (.tmp 5) ?_);refine jK rfl 51 (.tmp 5) rfl P 0 rfl (MWay.cells ⟨a,b,ds,A5,c5⟩) _ Fn.out underlying51 rfl jN ?_)|((with_reducible refine ji 51 (.tmp 5) ?_);refine jK rfl 51 (.tmp 5) rfl P 0 rfl (MWay.cells ⟨a,b,ds,A5,c5⟩) _ Fn.out underlying51 rfl jN ?_)|fail);clear c2 z2 Nr Fn;generalize w5.setCell _ _=W5 at*;refine HI.out.mono ?_;clear HI;have Q8:=G (fun l (h:jAh a b ds=some l)=>Uw HM.out.dgs h);generalize jAh a b ds=IB at*;have FT:=G (show IB=some bs->D=some ⟨a,b,ds⟩from fun h=>by rw[<-Gh.out];exact jJ6 h);have hY:=G (show IB≠some bs->D=none from fun h=>by rw[<-Gh.out];exact jJ5 h);intro e w6 h6;obtain⟨l,A6,c6,he,PP,Wx,Mm,FN⟩:∃(l:LB) (A6:OA) (c6:Nat),e=.returned (.slice A6 l.length c6)/\Rd w6 1 A6 l.length (l.map bv)/\l.length<=1000000000000/\(IB=some bs↔l=bs)/\Old W5 w6:=by
  rcases h6 with⟨l,A6,c6,e1,_,e2,hr,ho⟩|⟨e1,e2,ho⟩
  ·exact⟨l,A6,c6,e2,hr.rd,by have h1:l.length=17+ds.length*32:=Q8.out l e1;have:=Nl.out;have:=M5.out;omega,by rw[e1];exact⟨fun h=>jL5 h,fun h=>congrArg some h⟩,ho⟩
  ·exact⟨[],none,0,e2,Rd.none_,by simp,by rw[e1];exact⟨fun h=>by(cases h),fun h=>absurd h.symm C3.out⟩,ho⟩
 clear h6;subst he;have HC:=G (Kg w6 A6 A c6 c l bs PP ((Fy.out.old HS.out.old).old FN) Wx);replace HS:=G (HS.out.still FN);replace GW:=G (GW.out.old FN);replace HM:=G (show MWay.Ok w6 (fun k=>k<=P) ⟨a,b,ds,A5,c5⟩from⟨HM.out.dgs,HM.out.rd.old FN,HM.out.av,HM.out.big⟩);clear PP Wx FN;go_wp2_with fail;refine HC.out.mono ?_;rintro e w7 ⟨rfl,GZ⟩;replace HS:=G (HS.out.still GZ);replace GW:=G (GW.out.old GZ);replace HM:=G (show MWay.Ok w7 (fun k=>k<=P) ⟨a,b,ds,A5,c5⟩from⟨HM.out.dgs,HM.out.rd.old GZ,HM.out.av,HM.out.big⟩);clear GZ HC;by_cases Gw:l=bs
 ·have Hd:=G (FT.out (Mm.2 Gw));rw[jK5 Gw];clear Gw Mm;have hU:=G (HS.out.th (MWay.cells ⟨a,b,ds,A5,c5⟩) rfl);have Ht:=G (HS.out.told (MWay.cells ⟨a,b,ds,A5,c5⟩) rfl);have Fn:=G GW.out.range;go_wp2_with (first|((with_reducible refine jT 51 (.tmp 5) ?_);refine jK rfl 51 (.tmp 5) rfl P 0 rfl (MWay.cells ⟨a,b,ds,A5,c5⟩) _ Fn.out underlying51 rfl jN ?_)|((with_reducible refine jF 51 (.tmp 2) (.tmp 40) ?_);refine jQ1 rfl 51 (.tmp 2) (.tmp 40) rfl w.heap.size 0 (MWay.cells ⟨a,b,ds,A5,c5⟩).toArray rfl rfl hU.out jN (jR rfl) ?_)|fail);refine jD (g:=w.heap.size) (cs:=(MWay.cells ⟨a,b,ds,A5,c5⟩).toArray) rfl rfl Ht.out.box underlying51 rfl jN rfl ?_;refine⟨⟨a,b,ds,A5,c5⟩,0,by rw[Hd.out];rfl,rfl,⟨HM.out.dgs,HM.out.rd.told Ht.out (fun hn ad e hx=>HM.out.av hn ad e (by have:ad.block<=w.heap.size:=hx;have:=DQ.out;show ad.block<=P;omega)),fun hn ad e hx=>HM.out.av hn ad e (by have:ad.block<w.heap.size:=hx;have:=DQ.out;show ad.block<=P;omega),HM.out.big⟩,Ht.out.old⟩
 ·have Hd:=G (hY.out (fun h=>Gw (Mm.1 h)));rw[jK3 Gw];clear Gw Mm;have hU:=G (HS.out.th zeroWay rfl);have Ht:=G (HS.out.told zeroWay rfl);unfold zeroWay at hU Ht;go_wp2_with (first|((with_reducible refine jF 51 (.tmp 2) (.tmp 39) ?_);refine jQ1 rfl 51 (.tmp 2) (.tmp 39) rfl w.heap.size 0 zeroWay.toArray rfl rfl hU.out jN (jR rfl) ?_)|fail);refine jD (g:=w.heap.size) (cs:=zeroWay.toArray) rfl rfl Ht.out.box underlying51 rfl jN rfl ?_;rw[Hd.out];exact zR Ht.out.old
theorem XB(bs:LB):jCo (uR JR bs) (jAr (uR JR bs).a (uR JR bs).b (uR JR bs).ds) bs=vf bs:=jCx qJ (by decide) bs
theorem jDp(w:World)(A:OA)(c:Nat)(bs:LB)(Fa:Rd w 1 A bs.length (bs.map bv))(hc:bs.length<=c):
  Calls prog 130 #[.slice A bs.length c] w (jIc w (vf bs)):=by
 have Hb:=G (jQ2 w 53 zeroWay.toArray);have HO:=G ((jQ0 NoX w).alloc (.cells zeroWay.toArray 53));by_cases Fj:9000<bs.length
 ·have hY:=G (show vf bs=none by unfold vf;rw[Jp Fj];rfl);have Nj:(9000:Int)<(bs.length:Int):=(by omega);have hU:=G (Hb.out.there 0 zeroWay.toArray.size (by decide));have FI:=G (Hb.out.setWhole zeroWay rfl);have FR:=G (HO.out.trans (Kp.setCells w.heap.size 0 zeroWay (w.alloc (.cells zeroWay.toArray 53))) (fun b hb e=>by omega));clear Fj Fa;unfold zeroWay at Hb HO hU FI FR;go_enter func130,ntmps130;go_wp2_with (first|((with_reducible refine jF 53 (.tmp 2) (.tmp 9) ?_);refine jQ1 rfl 53 (.tmp 2) (.tmp 9) rfl w.heap.size 0 zeroWay.toArray rfl rfl hU.out jL (jR rfl) ?_)|fail);refine jD (g:=w.heap.size) (cs:=zeroWay.toArray) rfl rfl FI.out underlying53 rfl jL rfl ?_;rw[hY.out];exact zR FR.out
 have Nj:¬(9000:Int)<(bs.length:Int):=(by omega);have EC:=G Fj;have Gh:=G (XB bs);have Np:=G (show bs=[]->vf bs=none from fun e=>by rw[e];unfold vf;rw[Kv (by decide)];rfl);have Mp:=G (HO.out.alloc (.cells #[.slice A bs.length c,.bool false] 264));have HG:=G (show Lq ((w.alloc (.cells zeroWay.toArray 53)).alloc (.cells #[.slice A bs.length c,.bool false] 264)) (w.heap.size+1) bs ⟨0,false⟩from
  jAa (by
   have:=jQ2 (w.alloc (.cells zeroWay.toArray 53)) 264 #[.slice A bs.length c,.bool false]
   rwa [show(w.alloc (.cells zeroWay.toArray 53)).heap.size=w.heap.size+1 by simp]at this) (Fa.old Mp.out) (fun hn ad e hx=>by have:=Fa.lt (by decide) hn e;have h2:w.heap.size+1<=ad.block+1:=hx;omega) hc (by omega))
 have HS:=G (show RdR 53 zeroWay w (w.heap.size+1) bs ⟨0,false⟩ _ from⟨Hb.out.alloc _,HG.out,Mp.out,by omega⟩);have DW:=G (show(w.alloc (.cells zeroWay.toArray 53)).heap.size=w.heap.size+1 by simp);have Fy:=G Fa;clear HG Mp Hb HO Fj Fa;generalize vf bs=D at*;unfold uR at Gh;unfold zeroWay at HS DW;go_enter func130,ntmps130;go_wp2_with fail;generalize (w.alloc _).alloc _=W at*;clear DW;generalize hg:w.heap.size+1=g at*;have Lj:=G (va W g bs 1 ⟨0,false⟩ HS.out.rr (by decide));refine Lj.out.mono ?_;clear Lj;generalize jZ bs 1 ⟨0,false⟩=t0 at*;obtain⟨l0,s0⟩:=t0;rintro e w1 ⟨A1,c1,rfl,_,_,Fd,Fc⟩;simp only at Gh Fd;replace HS:=G ((HS.out.step Fd Fc).still ((jQ0 NoX w1).alloc (.cells zeroWay.toArray 53)));have GW:=G (jQ2 w1 53 zeroWay.toArray);have Nm:=G (show g<w1.heap.size from Fd.lt);clear Fd Fc;unfold zeroWay at HS GW;have Ge:=G (fun W (h:Lq W g bs s0)=>kC W g bs 8 s0 h (by decide));go_wp2_with fail;generalize w1.alloc _=W1 at*;generalize w1.heap.size=P at*;refine(Ge.out _ HS.out.rr).mono ?_;clear Ge;generalize numL bs 8 s0=t1 at*;obtain⟨a,s1⟩:=t1;rintro e w2 ⟨rfl,Fb,hZ⟩;simp only at Gh Fb⊢;have FG:=GW.out.kp hZ (fun e=>by have h1:P=g:=e;have:=Nm.out;omega);replace HS:=G ((HS.out.step Fb hZ).set Nm.out (.int .i64 a) (i:=0));replace GW:=G (FG.set_ 0 (.int .i64 a));have c0:=FG.at_ 0 (v:=.int .i64 0) rfl;have z0:=FG.frozen 0;clear Fb hZ;have Ge:=G (fun W (h:Lq W g bs s1)=>kC W g bs 8 s1 h (by decide));go_wp2_with fail;clear c0 z0 FG;generalize w2.setCell _ _=W2 at*;refine(Ge.out _ HS.out.rr).mono ?_;clear Ge;generalize numL bs 8 s1=t2 at*;obtain⟨b,s2⟩:=t2;rintro e w3 ⟨rfl,Fb,hZ⟩;simp only at Gh Fb⊢;have FG:=GW.out.kp hZ (fun e=>by have h1:P=g:=e;have:=Nm.out;omega);replace HS:=G ((HS.out.step Fb hZ).set Nm.out (.int .i64 b) (i:=1));replace GW:=G (FG.set_ 1 (.int .i64 b));have c1' :=FG.at_ 1 (v:=.int .i64 0) rfl;have z1:=FG.frozen 1;have c0:=GW.out.at_ 0 (v:=.int .i64 a) rfl;have c1:=GW.out.at_ 1 (v:=.int .i64 b) rfl;have HB:=G (fun W=>ZM W a b);have M5:=G (show jp (JR a b)<=100000 by
  cases hf:JR a b with
  |none=>simp[jp]
  |some n=>have:=(qJ a b n hf).2.2;simp only[jp];omega)
 clear Fb hZ;unfold jFL at Gh;simp only at Gh;go_wp2_with fail;generalize jp (JR a b)=n at*;refine(HB.out _).mono ?_;rintro e w4 ⟨rfl,rfl⟩;have HW:=G (fun W (h:Lq W g bs s2)=>Vp W g bs n s2 h M5.out);have LI:=G GW.out.lt;clear HB c0 c1 c1' z1 FG;go_wp2_with fail;refine(HW.out _ HS.out.rr).mono ?_;clear HW;have Nl:=G (show(wayL bs n.toNat s2 []).1.length<=n.toNat by have:=uU bs n.toNat s2 [];simpa using this);generalize wayL bs n.toNat s2 []=t3 at*;obtain⟨ds,s3⟩:=t3;rintro e w5 ⟨A5,c5,rfl,Ni,N4,Lw,WM,Nu⟩;simp only at Gh Nl WM Ni N4 Lw⊢;have Nr:=GW.out.kp Nu (fun e=>by have h1:P=g:=e;have:=Nm.out;omega);have c2:=Nr.at_ 2 (v:=.slice none 0 0) rfl;have z2:=Nr.frozen 2;replace HS:=G ((HS.out.step WM Nu).set Nm.out (.slice A5 ds.length c5) (i:=2));replace GW:=G (show Blk (w5.setCell ⟨P,2,none⟩ (.slice A5 ds.length c5)) P 53 (MWay.cells ⟨a,b,ds,A5,c5⟩).toArray from Nr.set_ 2 (.slice A5 ds.length c5));have HM:=G (show MWay.Ok (w5.setCell ⟨P,2,none⟩ (.slice A5 ds.length c5)) (fun k=>k<=P) ⟨a,b,ds,A5,c5⟩from
  ⟨Lw,Ni.kp ((jQ0 (fun b=>b=P) w5).setCell (p:=⟨P,2,none⟩) (fun _=>rfl) _) (fun hn ad e hx=>N4 hn ad e (by have h1:ad.block=P:=hx;have:=LI.out;omega)),fun hn ad e hx=>N4 hn ad e (by have h1:ad.block<=P:=hx;have:=LI.out;omega),
   by have:=Nl.out;have:=M5.out;show ds.length<=2147483647;omega⟩)
 have DQ:=G (show w.heap.size<P by have:=Nm.out;omega);clear Ni N4 Lw WM Nu LI;by_cases N6:bs=[]
 ·have b0:((bs.length:Int)==0)=true:=(by simp[N6]);have hY:=G (Np.out N6);clear N6 Np;have hU:=G (HS.out.th zeroWay rfl);have Ht:=G (HS.out.told zeroWay rfl);unfold zeroWay at hU Ht;go_wp2_with (first|((with_reducible refine jF 53 (.tmp 2) (.tmp 39) ?_);refine jQ1 rfl 53 (.tmp 2) (.tmp 39) rfl w.heap.size 0 zeroWay.toArray rfl rfl hU.out jL (jR rfl) ?_)|fail);refine jD (g:=w.heap.size) (cs:=zeroWay.toArray) rfl rfl Ht.out.box underlying53 rfl jL rfl ?_;rw[hY.out];exact zR Ht.out.old
 have b0:((bs.length:Int)==0)=false:=(by simpa using N6);have C3:=G N6;have Fn:=G GW.out.range;clear N6 Np;have HI:=G (jAN (w5.setCell ⟨P,2,none⟩ (.slice A5 ds.length c5)) ⟨a,b,ds,A5,c5⟩ ⟨HM.out.dgs,HM.out.rd,fun _ _ _ f=>f,HM.out.big⟩);go_wp2_with (first|((with_reducible refine jT 53 (.tmp 5) ?_);refine jK rfl 53 (.tmp 5) rfl P 0 rfl (MWay.cells ⟨a,b,ds,A5,c5⟩) _ Fn.out underlying53 rfl jL ?_)|((with_reducible refine ji 53 (.tmp 5) ?_);refine jK rfl 53 (.tmp 5) rfl P 0 rfl (MWay.cells ⟨a,b,ds,A5,c5⟩) _ Fn.out underlying53 rfl jL ?_)|fail);clear c2 z2 Nr Fn;generalize w5.setCell _ _=W5 at*;refine HI.out.mono ?_;clear HI;have Q8:=G (fun l (h:jAr a b ds=some l)=>Uw HM.out.dgs h);generalize jAr a b ds=IB at*;have FT:=G (show IB=some bs->D=some ⟨a,b,ds⟩from fun h=>by rw[<-Gh.out];exact jJ6 h);have hY:=G (show IB≠some bs->D=none from fun h=>by rw[<-Gh.out];exact jJ5 h);intro e w6 h6;obtain⟨l,A6,c6,he,PP,Wx,Mm,FN⟩:∃(l:LB) (A6:OA) (c6:Nat),e=.returned (.slice A6 l.length c6)/\Rd w6 1 A6 l.length (l.map bv)/\l.length<=1000000000000/\(IB=some bs↔l=bs)/\Old W5 w6:=by
  rcases h6 with⟨l,A6,c6,e1,_,e2,hr,ho⟩|⟨e1,e2,ho⟩
  ·exact⟨l,A6,c6,e2,hr.rd,by have h1:l.length=17+ds.length*32:=Q8.out l e1;have:=Nl.out;have:=M5.out;omega,by rw[e1];exact⟨fun h=>jL5 h,fun h=>congrArg some h⟩,ho⟩
  ·exact⟨[],none,0,e2,Rd.none_,by simp,by rw[e1];exact⟨fun h=>by(cases h),fun h=>absurd h.symm C3.out⟩,ho⟩
 clear h6;subst he;have HC:=G (Kg w6 A6 A c6 c l bs PP ((Fy.out.old HS.out.old).old FN) Wx);replace HS:=G (HS.out.still FN);replace GW:=G (GW.out.old FN);replace HM:=G (show MWay.Ok w6 (fun k=>k<=P) ⟨a,b,ds,A5,c5⟩from⟨HM.out.dgs,HM.out.rd.old FN,HM.out.av,HM.out.big⟩);clear PP Wx FN;go_wp2_with fail;refine HC.out.mono ?_;rintro e w7 ⟨rfl,GZ⟩;replace HS:=G (HS.out.still GZ);replace GW:=G (GW.out.old GZ);replace HM:=G (show MWay.Ok w7 (fun k=>k<=P) ⟨a,b,ds,A5,c5⟩from⟨HM.out.dgs,HM.out.rd.old GZ,HM.out.av,HM.out.big⟩);clear GZ HC;by_cases Gw:l=bs
 ·have Hd:=G (FT.out (Mm.2 Gw));rw[jK5 Gw];clear Gw Mm;have hU:=G (HS.out.th (MWay.cells ⟨a,b,ds,A5,c5⟩) rfl);have Ht:=G (HS.out.told (MWay.cells ⟨a,b,ds,A5,c5⟩) rfl);have Fn:=G GW.out.range;go_wp2_with (first|((with_reducible refine jT 53 (.tmp 5) ?_);refine jK rfl 53 (.tmp 5) rfl P 0 rfl (MWay.cells ⟨a,b,ds,A5,c5⟩) _ Fn.out underlying53 rfl jL ?_)|((with_reducible refine jF 53 (.tmp 2) (.tmp 40) ?_);refine jQ1 rfl 53 (.tmp 2) (.tmp 40) rfl w.heap.size 0 (MWay.cells ⟨a,b,ds,A5,c5⟩).toArray rfl rfl hU.out jL (jR rfl) ?_)|fail);refine jD (g:=w.heap.size) (cs:=(MWay.cells ⟨a,b,ds,A5,c5⟩).toArray) rfl rfl Ht.out.box underlying53 rfl jL rfl ?_;refine⟨⟨a,b,ds,A5,c5⟩,0,by rw[Hd.out];rfl,rfl,⟨HM.out.dgs,HM.out.rd.told Ht.out (fun hn ad e hx=>HM.out.av hn ad e (by have:ad.block<=w.heap.size:=hx;have:=DQ.out;show ad.block<=P;omega)),fun hn ad e hx=>HM.out.av hn ad e (by have:ad.block<w.heap.size:=hx;have:=DQ.out;show ad.block<=P;omega),HM.out.big⟩,Ht.out.old⟩
 ·have Hd:=G (hY.out (fun h=>Gw (Mm.1 h)));rw[jK3 Gw];clear Gw Mm;have hU:=G (HS.out.th zeroWay rfl);have Ht:=G (HS.out.told zeroWay rfl);unfold zeroWay at hU Ht;go_wp2_with (first|((with_reducible refine jF 53 (.tmp 2) (.tmp 39) ?_);refine jQ1 rfl 53 (.tmp 2) (.tmp 39) rfl w.heap.size 0 zeroWay.toArray rfl rfl hU.out jL (jR rfl) ?_)|fail);refine jD (g:=w.heap.size) (cs:=zeroWay.toArray) rfl rfl Ht.out.box underlying53 rfl jL rfl ?_;rw[Hd.out];exact zR Ht.out.old
theorem jDD{a b:Sgn}(h1:a.key=b.key)(h2:a.tag=b.tag):a=b:=by
 obtain⟨k,t,_,_⟩:=a;obtain⟨k',t',_,_⟩:=b;simp only at h1 h2;subst h1 h2;rfl
section
variable{bs:LB}
theorem At.sgn{p:Nat}{x:Sgn}(h:At bs p (vY x)):XS bs ⟨p,0⟩=(x,⟨p+64,0⟩):=by
 unfold vY at h;have h1:=h.fst.dig x.hk;have h2:=(h.snd' (q:=p+32) (by rw[x.hk])).dig x.ht;have e1:(XS bs ⟨p,0⟩).1=x:=jDD (by simp only[XS];rw[h1]) (by simp only[XS];rw[h1];simp only;rw[h2]);have e2:(XS bs ⟨p,0⟩).2=⟨p+64,0⟩:=by simp only[XS];rw[h1];simp only;rw[h2]
 rw[<-e1,<-e2]
theorem xU:∀(l:List Sgn) (p:Nat) (acc:List Sgn),At bs p (l.flatMap vY)->vg bs l.length ⟨p,0⟩ acc=(acc++l,⟨p+l.length*64,0⟩)
 |[],p,acc,_=>by simp[vg]
 |x::l,p,acc,h=>by
  rw[jL9]at h;have h1:=h.fst.sgn;have ih:=xU l (p+64) (acc++[x]) (h.snd' (by rw[vY,jJ4,x.hk,x.ht]));rw[jK6,vg,h1];simp only;rw[ih];simp only[jK1,List.singleton_append,Prod.mk.injEq,true_and,Rs.mk.injEq,and_true];omega
theorem At.head{p:Nat}{h:Hd}(hA:At bs p (vh h))(Hu:h.Ok)(hh:vU h=true):JM bs ⟨p,0⟩=(some h,⟨p+113,0⟩):=by
 unfold vh at hA;have hb:=of_decide_eq_true hh;have a1:=hA.snd' (q:=p+1) (by rw[jC]);have a2:=a1.snd' (q:=p+1+32) (by rw[Hu.log]);have a3:=a2.snd' (q:=p+1+32+8) (by rw[jG]);have a4:=a3.snd' (q:=p+1+32+8+32) (by rw[Hu.root]);have a5:=a4.snd' (q:=p+1+32+8+32+32) (by rw[Hu.index]);unfold JM;rw[hA.fst.tk (by decide)];unfold jHH;simp only;rw[a1.fst.dig Hu.log];simp only;rw[a2.fst.tk8 (by omega)];simp only;rw[a3.fst.dig Hu.root];simp only;rw[a4.fst.dig Hu.index];simp only;rw[a5.tk8 (by omega)];simp only;rw[jJ6 ⟨trivial,trivial,by omega,by omega⟩];rw[show((h.size.toNat:Nat):Int)=h.size by omega,show((h.clock.toNat:Nat):Int)=h.clock by omega]
theorem Ve{h:Hd}{l:List Sgn}(Hu:h.Ok)(hn:yU h l=some bs):jn bs=some (h,zF l):=by
 unfold yU at hn;split at hn
 ·rename_i hc;injection hn with hn;have hA:=At.all bs;have hl:(zF l).length=l.length:=(zQ l).length_eq;have M3:At bs 0 (be 1 33++(vh h++(be 1 l.length++(zF l).flatMap vY))):=by rw[hn];exact hA
  have Oz:(vh h).length=113:=(by simp only[vh,jJ4,jC,jG,Hu.log,Hu.root,Hu.index]);have a1:=M3.snd' (q:=1) (by rw[jC]);have a2:=a1.snd' (q:=1+113) (by rw[Oz]);have a3:=a2.snd' (q:=1+113+1) (by rw[jC]);have hlen:bs.length=1+(113+(1+l.length*64)):=by rw[<-hn];simp only[jJ4,jC,Oz,KA,hl]
  unfold jn;rw[M3.fst.tk (by decide)];simp only[Nat.zero_add];rw[a1.fst.head Hu hc.1];unfold UH;simp only;rw[a2.fst.tk (by omega)];simp only;have hg:=xU (zF l) _ [] a3;rw[hl,List.nil_append]at hg;rw[jJ6 ⟨trivial,hc.2.1,hc.2.2.1⟩,hg];unfold KK;simp only;rw[jJ6 ⟨Vb (by omega),hc.2.2.2⟩]
 ·cases hn
theorem xK:∀(l:List BA) (p:Nat) (acc:List BA),okT l=true->At bs p (YK l)->(ki bs l.length ⟨p,0⟩ acc).2=⟨p+(YK l).length,0⟩
 |[],p,acc,_,_=>by simp[ki,YK]
 |x::l,p,acc,ho,h=>by
  have e:YK (x::l)=lp 4 (sb x)++YK l:=(by simp[YK]);rw[e]at h;unfold okT at ho;rw[List.all_cons,Bool.and_eq_true,decide_eq_true_eq]at ho;have h1:=h.fst.word ho.1;have ih:=xK l (p+(4+x.size)) (acc++[x]) ho.2 (h.snd' (by rw[KQ]));rw[jK6,ki,h1];simp only;rw[ih,e,jJ4,KQ,Nat.add_assoc]
theorem Yv{l:List BA}{e:LB}(h:kg l=some e):e=KL l/\l.length<=255/\okT l=true:=by
 unfold kg at h;split at h
 ·rename_i hc;injection h with h;exact⟨h.symm,hc.1,hc.2⟩
 ·cases h
theorem Yz{l:List BA}{p:Nat}(hl:l.length<=255)(ho:okT l=true)(h:At bs p (KL l)):(jr bs ⟨p,0⟩).2=⟨p+(KL l).length,0⟩:=by
 unfold KL at h;have h1:=h.fst.tk (by omega);have h2:=xK l (p+1) [] ho (h.snd' (by rw[jC]));unfold jr;rw[h1];simp only;rw[h2,KL,jJ4,jC,Nat.add_assoc]
theorem uL:∀(l:List (BA×Val)) (p:Nat) (acc:List (BA×Val)),l.all zA=true->At bs p (l.flatMap vu)->(kK bs l.length ⟨p,0⟩ acc).2=⟨p+(l.flatMap vu).length,0⟩
 |[],p,acc,_,_=>by simp[kK]
 |x::l,p,acc,ho,h=>by
  rw[jL9,vu,jK1]at h;rw[List.all_cons,Bool.and_eq_true,zA,decide_eq_true_eq]at ho;have h1:=h.fst.word ho.1.1;have h' :=h.snd' (q:=p+(4+x.1.size)) (by rw[KQ]);have h2:=h'.fst.val ho.1.2;have ih:=uL l (p+(4+x.1.size)+(yX x.2).length) (acc++[(x.1,cV x.2)]) ho.2 (h'.snd' rfl);rw[jK6,kK,h1];simp only;rw[h2];simp only;rw[ih,jL9,vu];simp only[jJ4,KQ,Nat.add_assoc]
theorem jFO{c:Cas}{e:LB}{p:Nat}(hc:c.chain.length=32)(he:YX c=some e)(h:At bs p e):(Jy bs ⟨p,0⟩).2=⟨p+e.length,0⟩:=by
 unfold YX at he;split at he
 ·rename_i Hu;unfold three at he;cases h1:kg c.open_ with
  |none=>rw[h1]at he;cases he
  |some e1=>
   cases h2:kg c.closed with
   |none=>rw[h1,h2]at he;cases he
   |some e2=>
    cases h3:kg c.reached with
    |none=>rw[h1,h2,h3]at he;cases he
    |some e3=>
     rw[h1,h2,h3]at he;simp only[jL2,Option.map_some,Option.some.injEq]at he;obtain⟨r1,l1,o1⟩:=Yv h1;obtain⟨r2,l2,o2⟩:=Yv h2;obtain⟨r3,l3,o3⟩:=Yv h3;subst r1 r2 r3;subst he;unfold vz at h;simp only[jK1]at h;have a1:=h.snd' (q:=p+(4+c.type_.size)) (by rw[KQ]);have a2:=a1.snd' (q:=p+(4+c.type_.size)+8) (by rw[jG]);have a3:=a2.snd' (q:=p+(4+c.type_.size)+8+32) (by rw[hc]);have a4:=a3.snd' (q:=p+(4+c.type_.size)+8+32+1) (by rw[jC]);have a5:=a4.snd' (q:=p+(4+c.type_.size)+8+32+1+(c.values.flatMap vu).length) rfl;have a6:=a5.snd' (q:=p+(4+c.type_.size)+8+32+1+(c.values.flatMap vu).length+(KL c.open_).length) rfl;have a7:=a6.snd' (q:=p+(4+c.type_.size)+8+32+1+(c.values.flatMap vu).length+(KL c.open_).length+(KL c.closed).length) rfl;unfold Jy;rw[h.fst.word Hu.1];simp only;rw[a1.fst.num];simp only;rw[a2.fst.dig hc];unfold qB;simp only;rw[a3.fst.tk (by omega)];unfold qC;simp only;rw[uL c.values _ [] Hu.2.2 a4.fst,Yz l1 o1 a5.fst,Yz l2 o2 a6.fst,Yz l3 o3 a7];simp only[vz,jJ4,KQ,jG,jC,hc,Nat.add_assoc]
 ·cases he
theorem Qn:∀(l:List MHap) (p:Nat) (acc:List MHap),okH l=true->At bs p (l.flatMap zM)->(vW bs l.length ⟨p,0⟩ acc).2=⟨p+(l.flatMap zM).length,0⟩
 |[],p,acc,_,_=>by simp[vW]
 |x::l,p,acc,ho,h=>by
  rw[jL9,zM,jK1]at h;unfold okH at ho;rw[List.all_cons,Bool.and_eq_true,decide_eq_true_eq]at ho;have h1:=h.fst.tk (by omega);have h' :=h.snd' (q:=p+1) (by rw[jC]);have h2:=h'.fst.word ho.1.2.2;have ih:=Qn l (p+1+(4+x.name.size)) (acc++[⟨(x.op.toNat:Nat),x.name⟩]) ho.2 (h'.snd' (by rw[KQ]));rw[jK6,vW,h1];simp only;rw[h2];simp only;rw[ih,jL9,zM];simp only[jJ4,jC,KQ,Nat.add_assoc]
theorem jE5{n:Int}{l:List MHap}{e:LB}{p:Nat}(he:((zm l).map fun x=>be8 n++x)=some e)(h:At bs p e):(KZ bs ⟨p,0⟩).2=⟨p+e.length,0⟩:=by
 cases hb:zm l with
 |none=>rw[hb]at he;cases he
 |some x=>
  rw[hb]at he;simp only[Option.map_some,Option.some.injEq]at he;subst he;unfold zm at hb;split at hb
  ·rename_i hc;injection hb with hb;subst hb;have h' :=h.snd' (q:=p+8) (by rw[jG]);have h'' :=h'.snd' (q:=p+8+2) (by rw[jC]);unfold KZ;simp only;rw[h.fst.num];simp only;rw[h'.fst.tk (by rw[jAR];omega)];simp only;rw[Qn l _ [] hc.2 h''];simp only[jJ4,jG,jC,Nat.add_assoc]
  ·cases hb
end
theorem VS(f sz:Int):∀(rs:List Prow) (i b:Nat) (prev:Int),vH f sz i b prev rs=i+rs.length->
  (b<=2097152->b+(rs.map fun r=>12+r.n+32*r.k).sum<=2097152)/\(rs≠ []->f<=sz-i-1)
 |[],i,b,prev,_=>⟨by simp,fun h=>absurd rfl h⟩
 |r::rs,i,b,prev,h=>by
  rw[vH]at h;split at h
  ·simp at h
  ·next hs=>
   have h1:=VS f sz rs (i+1) (b+(12+r.n+32*r.k)) r.num (by rw[h,jK6];omega);have Tv:zW f sz i (b+(12+r.n+32*r.k)) prev r=false:=(by simpa using hs);unfold zW at Tv;have Nw:=of_decide_eq_false Tv;have a2:¬2097152<b+(12+r.n+32*r.k):=fun e=>Nw (.inr (.inl e));have a3:¬sz-i-1<f:=fun e=>Nw (.inr (.inr (.inr (.inl e))));refine⟨fun _=> ?_,fun _=>by omega⟩;have:=h1.1 (by omega);rw[List.map_cons,List.sum_cons];omega
theorem xY:∀(es:List LB) (ps:List Way),(∀p∈ps,Dgs p.ds)->(List.zipWith JS es ps).flatten.length=((List.zipWith ZN es ps).map fun r=>12+r.n+32*r.k).sum
 |[],_,_=>by simp
 |_::_,[],_=>by simp
 |e::es,p::ps,h=>by
  simp only[List.zipWith_cons_cons,List.flatten_cons,jJ4,List.map_cons,List.sum_cons,xY es ps (fun q hq=>h q (List.mem_cons_of_mem _ hq)),JS,jG,jV,(h p List.mem_cons_self).flat,ZN];omega
section
variable{bs:LB}
theorem jHh{size:Int}{e:LB}{x:Way}{p:Nat}(h:At bs p (JS e x))(ha:x.a=size)(hb:yA size x.b=some x.ds.length)(he:e.length<=65536)(hd:Dgs x.ds):
  jFx bs size ⟨p,0⟩=some (e,x,⟨p+(JS e x).length,0⟩):=by
 obtain⟨_,hB,_⟩:=yh _ _ _ hb;unfold JS at h;have h1:=h.fst.ptk hB;have a1:=h.snd' (q:=p+8) (by rw[jG]);have h2:=a1.fst.bytes (most:=65536) (by omega) (by omega);have h3:=(a1.snd' (q:=p+8+(4+e.length)) (by rw[jV])).digs hd;unfold jFx;rw[h1];simp only;rw[jJ6 trivial,hb];simp only;rw[h2];simp only;rw[jJ6 trivial,h3];obtain⟨a,b,ds⟩:=x;simp only at ha;subst ha;simp only[JS,jJ4,jG,jV,hd.flat,Option.some.injEq,Prod.mk.injEq,true_and,Rs.mk.injEq,and_true];omega
theorem QO{size:Int}:∀(es:List LB) (ps:List Way) (p:Nat) (ae:List LB) (ap:List Way),es.length=ps.length->
  (∀r∈List.zipWith ZN es ps,r.n<=65536/\yA r.size r.num=some r.k/\r.size=size)->(∀q∈ps,Dgs q.ds)->At bs p (List.zipWith JS es ps).flatten->
  yj bs size es.length ⟨p,0⟩ ae ap=some (ae++es,ap++ps,⟨p+(List.zipWith JS es ps).flatten.length,0⟩)
 |[],[],p,ae,ap,_,_,_,_=>by simp[yj]
 |[],_::_,_,_,_,h,_,_,_=>by simp at h
 |_::_,[],_,_,_,h,_,_,_=>by simp at h
 |e::es,x::ps,p,ae,ap,hl,hr,hd,h=>by
  rw[List.zipWith_cons_cons,List.flatten_cons]at h;rw[List.zipWith_cons_cons]at hr;obtain⟨r1,r2,r3⟩:=hr _ List.mem_cons_self;simp only[ZN]at r1 r2 r3;have h1:=jHh (size:=size) h.fst r3 (by rw[<-r3];exact r2) r1 (hd x List.mem_cons_self);have ih:=QO (size:=size) es ps (p+(JS e x).length) (ae++[e]) (ap++[x]) (by simpa using hl) (fun r hq=>hr r (List.mem_cons_of_mem _ hq)) (fun q hq=>hd q (List.mem_cons_of_mem _ hq)) (h.snd' rfl);rw[jK6,yj,h1];simp only[jL2];rw[ih];simp[Nat.add_assoc]
theorem Kq{x:Pie}(hb:x.before.length=32)(Pn:∀q∈x.pfs,Dgs q.ds)(h:vR x=some bs):kX bs=some x:=by
 unfold vR at h;split at h
 ·rename_i Hu;injection h with h;obtain⟨h0,hl,hr⟩:=of_decide_eq_true Hu;have LW:(List.zipWith ZN x.evs x.pfs).length=x.evs.length:=by rw[List.length_zipWith];omega
  have Mi:yQ x.case_ x.first x.before (List.zipWith ZN x.evs x.pfs)=(List.zipWith ZN x.evs x.pfs).length:=by rw[LW];exact hr
  obtain⟨M1,hk,GG⟩:=Ki Mi (by rw[LW];exact h0);have SL:=Jq M1;have P0:vp (List.zipWith ZN x.evs x.pfs)=kw x.pfs:=by
   cases he:x.evs with
   |nil=>rw[he]at h0;exact absurd rfl h0
   |cons e es=>
    cases hp:x.pfs with
    |nil=>rw[he,hp]at hl;simp at hl
    |cons q ps=>rfl
  have FM:=Mi;unfold yQ at FM;rw[jJ6 M1]at FM;obtain⟨Lp,TU⟩:=VS _ _ _ _ _ _ (by rw[FM];omega);have O8:=Lp (by omega);have Ff:List.zipWith ZN x.evs x.pfs≠ []:=by
   intro e;rw[e]at LW;exact h0 LW.symm
  have PZ:=TU Ff;have hf0:0<=x.first:=by
   unfold yE at M1;simp only[Bool.and_eq_true,decide_eq_true_eq]at M1;exact M1.2.1
  have FJ:0<=kw x.pfs/\kw x.pfs<=1099511627776:=by
   obtain⟨r,Ba⟩:=List.exists_mem_of_ne_nil _ Ff;obtain⟨_,_,_,b4,b5⟩:=GG r Ba;rw[b5,P0]at b4;exact(yh _ _ _ b4).1
  rw[P0]at PZ GG;have hA:=At.all bs;have M3:At bs 0 (be 1 51++(lp 1 (sb x.case_)++(be8 x.first++(x.before++(be8 (kw x.pfs)++(be 4 x.evs.length++(List.zipWith JS x.evs x.pfs).flatten)))))):=by
   have:At bs 0 (yS x++(List.zipWith JS x.evs x.pfs).flatten):=by rw[h];exact hA
   rw[yS]at this;simpa only[jK1]using this
  have hlen:bs.length=54+x.case_.size+(List.zipWith JS x.evs x.pfs).flatten.length:=by
   rw[<-h,yS];simp only[jJ4,jC,jV,jH,jG,hb];omega
  have Gs:=xY x.evs x.pfs Pn;have a1:=M3.snd' (q:=1) (by rw[jC]);have a2:=a1.snd' (q:=1+(1+x.case_.size)) (by rw[jV,jH]);have a3:=a2.snd' (q:=1+(1+x.case_.size)+8) (by rw[jG]);have a4:=a3.snd' (q:=1+(1+x.case_.size)+8+32) (by rw[hb]);have a5:=a4.snd' (q:=1+(1+x.case_.size)+8+32+8) (by rw[jG]);have a6:=a5.snd' (q:=1+(1+x.case_.size)+8+32+8+4) (by rw[jC]);unfold kX;rw[M3.begun (by decide) (by omega)];simp only[jL2];unfold jHv;rw[a1.fst.pname (by omega)];simp only;rw[a2.fst.ptk (by omega)];unfold jD2;simp only;rw[a3.fst.dig hb];unfold jD1;simp only;rw[a4.fst.ptk FJ];unfold jD0;simp only;rw[a5.fst.tk (by rw[Ju];omega)];unfold Qc;simp only;rw[jJ6 ⟨trivial,trivial,trivial,by omega,by omega⟩,QO (size:=kw x.pfs) x.evs x.pfs _ [] [] hl (fun r hq=>⟨(GG r hq).2.1,(GG r hq).2.2.2.1,(GG r hq).2.2.2.2⟩) Pn a6];simp only[jL2,List.nil_append];unfold qX;simp only;rw[jJ6 ⟨Vb (by omega),hr⟩]
 ·cases h
theorem Jc{e:LB}{p:Nat}(h:At bs p e)(hl:p+e.length=bs.length):jv bs ⟨p,0⟩=(e,⟨p+e.length,0⟩):=by
 unfold jv;simp only;rw[show bs.length-p=e.length by omega];exact h.raw
end
structure RepOk(p:Rep):Prop where
 chain:p.case_.chain.length=32
 head:p.head.Ok
 inc:Dgs p.inc.ds
 con:Dgs p.con.ds
 idx:p.idx.Ok
 before:p.pie.before.length=32
 pfs:∀q∈p.pie.pfs,Dgs q.ds
theorem MReply.Ok.rep{w:World}{X:Nat->Prop}{m:MReply}(h:m.Ok w X):RepOk m.data:=
 ⟨h.case_.chain,h.note.head,h.inc.dgs,h.con.dgs,h.idx,h.pie.before,fun q hq=>by
  obtain⟨x,hx,rfl⟩:=List.mem_map.1 hq;exact(h.pie.pfs x hx).dgs⟩
section
variable{bs:LB}
theorem jIa{op:Nat}{p:Rep}{e:LB}{q:Nat}(Hu:RepOk p)(he:jCr op p=some e)(h:At bs q e)(hl:q+e.length=bs.length):
  ∃x,zw bs op ⟨q,0⟩=some x/\x.2=⟨q+e.length,0⟩:=by
 unfold jCr at he;unfold zw;by_cases h1:op=1\/op=2
 ·rw[jJ6 h1]at he⊢;exact⟨_,rfl,jE5 he h⟩
 rw[jJ5 h1]at he⊢;by_cases h3:op=3
 ·rw[jJ6 h3]at he⊢;exact⟨_,rfl,jFO Hu.chain he h⟩
 rw[jJ5 h3]at he⊢;by_cases h4:op=4
 ·rw[jJ6 h4]at he⊢;injection he with he;subst he;exact⟨_,rfl,by rw[Jc h hl]⟩
 rw[jJ5 h4]at he⊢;by_cases h5:op=5
 ·rw[jJ6 h5]at he⊢;injection he with he;subst he;exact⟨_,rfl,by rw[h.num,jG]⟩
 rw[jJ5 h5]at he⊢;by_cases h6:op=6
 ·rw[jJ6 h6]at he⊢;rw[Jc h hl,Ve Hu.head he];exact⟨_,rfl,rfl⟩
 rw[jJ5 h6]at he⊢;by_cases h7:op=7
 ·rw[jJ6 h7]at he⊢;unfold jFD at he;split at he
  ·cases hb:yU p.head p.signs with
   |none=>rw[hb]at he;cases he
   |some y=>
    rw[hb]at he;simp only[Option.map_some,Option.some.injEq]at he;subst he;have h' :At bs q ([if true=true then 1 else 0]++y):=h;rw[h'.fst.flag];simp only;rw[jJ6 trivial,Jc (h'.snd' (q:=q+1) rfl) (by rw[jK6]at hl;omega),Ve Hu.head hb];exact⟨_,rfl,by simp only[jK6,Rs.mk.injEq,and_true];omega⟩
  ·injection he with he;subst he;have h' :At bs q [if false=true then 1 else 0]:=h;rw[h'.flag];exact⟨_,rfl,rfl⟩
 rw[jJ5 h7]at he⊢;by_cases h8:op=8
 ·rw[jJ6 h8]at he⊢;rw[Jc h hl,uG Hu.inc he];exact⟨_,rfl,rfl⟩
 rw[jJ5 h8]at he⊢;by_cases h9:op=9
 ·rw[jJ6 h9]at he⊢;rw[Jc h hl,uH Hu.con he];exact⟨_,rfl,rfl⟩
 rw[jJ5 h9]at he⊢;by_cases NY:op=10
 ·rw[jJ6 NY]at he⊢;rw[Jc h hl,Kr Hu.idx he];exact⟨_,rfl,rfl⟩
 rw[jJ5 NY]at he⊢;by_cases NX:op=11
 ·rw[jJ6 NX]at he⊢;rw[Jc h hl,Kq Hu.before Hu.pfs he];exact⟨_,rfl,rfl⟩
 rw[jJ5 NX]at he⊢;injection he with he;subst he;exact⟨_,rfl,rfl⟩
theorem UU{op:Int}{p:Rep}(Hu:RepOk p)(h:vr op p=some bs):∃y,yu op bs=some y/\vr op y=some bs/\y.err=p.err:=by
 suffices hs:∃y,yu op bs=some y/\y.err=p.err by
  obtain⟨y,h1,h2⟩:=hs;exact⟨y,h1,qt h1,h2⟩
 unfold vr at h;split at h
 ·rename_i NS;cases hb:YZ op.toNat p with
  |none=>rw[hb]at h;cases h
  |some e=>
   rw[hb]at h;simp only[jL2]at h;split at h
   ·rename_i hlen;injection h with h;have hA:At bs 0 (be 2 p.err.toNat++e):=by rw[h];exact At.all bs
    have hl:bs.length=2+e.length:=(by rw[<-h,jJ4,jC]);have a1:=hA.snd' (q:=2) (by rw[jC]);have ht:=hA.fst.tk (by rw[jAR];omega);rw[Nat.zero_add]at ht;unfold yu;rw[jJ6 ⟨NS.1,NS.2.1,by omega⟩,ht];unfold VE;simp only;rw[jJ5 (by simp)];unfold YZ at hb;by_cases h0:p.err=0
    ·rw[jJ6 h0]at hb;obtain⟨x,hx,EU⟩:=jIa Hu hb a1 (by omega);rw[jJ6 (by omega),hx];simp only[jL2];rw[KG,EU,jJ6 (Vb (by omega))];exact⟨_,rfl,by rw[(XK hx (by rw[EU]) (by simp only;omega)).1,h0]⟩
    ·rw[jJ5 h0]at hb;have Dr:((p.err.toNat:Nat):Int)=p.err:=(by omega);rw[jJ5 (by omega),Dr];by_cases h2:op.toNat<=2/\JD p.err=false
     ·rw[jJ6 h2]at hb⊢;unfold yo at hb;split at hb
      ·rename_i MU;simp only[List.all_cons,List.all_nil,Bool.and_true,Bool.and_eq_true,decide_eq_true_eq]at MU;injection hb with hb;have Nj:be 4 p.pa.toNat++(be 4 p.pb.toNat++be 4 p.pc.toNat)=e:=by rw[<-hb];simp
       rw[<-Nj]at a1;have b1:=a1.snd' (q:=2+4) (by rw[jC]);have b2:=b1.snd' (q:=2+4+4) (by rw[jC]);have Fu:e.length=12:=by rw[<-Nj];simp only[jJ4,jC]
       rw[a1.fst.tk (by rw[Ju];omega)];simp only;rw[b1.fst.tk (by rw[Ju];omega)];simp only;rw[b2.tk (by rw[Ju];omega)];simp only;rw[KG,jJ6 (Vb (by omega))];exact⟨_,rfl,rfl⟩
      ·cases hb
     ·rw[jJ5 h2]at hb⊢;injection hb with hb;subst hb;rw[KG,jJ6 (Vb (by simpa using hl.symm))];exact⟨_,rfl,rfl⟩
   ·cases h
 ·cases h
end
def pnameL(bs:LB)(s:Ls):BA×Ls:=(⟨(jZ bs (lowL bs 1 s).1 (lowL bs 1 s).2).1.toArray⟩,(jZ bs (lowL bs 1 s).1 (lowL bs 1 s).2).2)
def UO(bs:LB)(nm:BA)(f:Bool)(n:Int)(d:LB)(s:Ls):Idx:=⟨nm,f,n,d,(digL bs s).1,(wayL bs (vM (digL bs s).1) (digL bs s).2 []).1⟩
def jGV(bs:LB)(nm:BA)(k:Int)(s:Ls):Idx:=
 if k=1 then UO bs nm true (numL bs 8 s).1 (digL bs (numL bs 8 s).2).1 (digL bs (numL bs 8 s).2).2 else UO bs nm false 0 zD s
def jGW(bs:LB)(x:BA×Ls):Idx:=jGV bs x.1 (numL bs 1 x.2).1 (numL bs 1 x.2).2
def jH7(bs:LB):Idx:=jGW bs (pnameL bs (jZ bs 1 ⟨0,false⟩).2)
theorem jEQ(n:Nat): -9223372036854775808<=i64 n/\i64 n<=9223372036854775807:=by
 unfold i64 wrap64;omega
theorem jGH(bs:LB)(n:Nat)(s:Ls):(jZ bs n s).1.length<=bs.length:=by
 unfold jZ;split
 ·simp
 ·simp only[jK9,jK8];omega
theorem JA(bs:LB)(k:Nat)(s:Ls):(lowL bs k s).1<256^k:=by
 have h1:(jZ bs k s).1.length<=k:=by
  unfold jZ;split
  ·simp
  ·simp only[jK9];omega
 exact jL8 (Yt _) (Nat.pow_le_pow_right (by decide) h1)
theorem zr(bs:LB)(s:Ls):(pnameL bs s).1.size<=255:=by
 have h:=JA bs 1 s;have:(jZ bs (lowL bs 1 s).1 (lowL bs 1 s).2).1.length<=(lowL bs 1 s).1:=by
  unfold jZ;split
  ·simp
  ·simp only[jK9];omega
 show(jZ bs (lowL bs 1 s).1 (lowL bs 1 s).2).1.toArray.size<=255;rw[jJ8];omega
theorem jJX:zD=zC:=rfl
theorem ZW(bs:LB):∀(n:Nat) (s:Ls) (acc:List LB),(wayL bs n s acc).1.length<=acc.length+n
 |0,s,acc=>jL3 _
 |n+1,s,acc=>by
  rw[wayL];split
  ·simp only;omega
  ·have:=ZW bs n (digL bs s).2 (acc++[(digL bs s).1]);rw[jJ4,List.length_singleton]at this;omega
theorem jAj(bs:LB)(nm:BA)(f:Bool)(n:Int)(d:LB)(s:Ls)(hn:nm.size<=255)(hd:d.length=32)(hr: -9223372036854775808<=n/\n<=9223372036854775807):(UO bs nm f n d s).Ok:=
 ⟨hd,vw _ _,ZX _ _ _ _ (fun _ h=>by cases h),hr,by
  have h1:=ZW bs (vM (digL bs s).1) (digL bs s).2 [];have h2:=Jf (digL bs s).1;rw[vw]at h2;rw[List.length_nil]at h1;show(wayL bs (vM (digL bs s).1) (digL bs s).2 []).1.length<=_;omega,by show nm.size<=_;omega⟩
theorem jEP(bs:LB):(jH7 bs).Ok:=by
 unfold jH7 jGW jGV;split
 ·exact jAj _ _ _ _ _ _ (zr _ _) (vw _ _) (jEQ _)
 ·exact jAj _ _ _ _ _ _ (zr _ _) jy (by decide)
theorem XA{bs:LB}{y:Idx}(h:kr bs=some y):y.chain.length=32/\y.bitmap.length=32/\Dgs y.way:=by
 unfold kr at h;cases hb:kH bs 9000 50 with
 |none=>rw[hb]at h;cases h
 |some s=>
  rw[hb]at h;simp only[jL2]at h;unfold jH8 Qk at h;split at h
  ·split at h
   ·unfold VI at h;split at h
    ·obtain rfl:=jL5 h;exact⟨kU _ _,kU _ _,Ko _ _ _⟩
    ·cases h
   ·cases h
  ·unfold VI at h;split at h
   ·obtain rfl:=jL5 h;exact⟨jy,kU _ _,Ko _ _ _⟩
   ·cases h
section
variable{bs:LB}{p:Nat}
theorem At.pnameL{s:BA}(h:At bs p (lp 1 (sb s)))(hs:s.size<=255):pnameL bs ⟨p,false⟩=(s,⟨p+(1+s.size),false⟩):=by
 unfold Go.Proofs.YtnaolhjbapgjgaaGreat.pnameL;have e:lp 1 (sb s)=be 1 s.size++sb s:=(by rw[lp,jH]);rw[e]at h;have h1:=h.fst.lowL (by omega);have h2:=(h.snd' (q:=p+1) (by rw[jC])).next (jH s);rw[h1];simp only;rw[h2];simp only[qf,Nat.add_assoc]
theorem jAi{x:Idx}(hc:x.chain.length=32)(hm:x.bitmap.length=32)(hw:Dgs x.way)(h:qj x=some bs):jH7 bs=x:=by
 unfold qj at h;split at h
 ·rename_i hi;have hA:=At.all bs;injection h with h;have M3:At bs 0 (be 1 50++(lp 1 (sb x.case_)++([if x.found=true then 1 else 0]++vJ x))):=by rw[h];exact hA
  have LQ:=hi;unfold Ji at LQ;simp only[Bool.and_eq_true,decide_eq_true_eq]at LQ;obtain⟨hE,hN,hO⟩:=LQ;have SL:x.case_.size<=64:=by
   unfold kT at hN;simp only[Bool.and_eq_true,decide_eq_true_eq]at hN;exact hN.1
  have h1:=M3.snd' (q:=1) (by rw[jC]);have h2:=h1.snd' (q:=1+(1+x.case_.size)) (by rw[jV,jH]);have h3:=h2.snd' (q:=1+(1+x.case_.size)+1) (by rfl);have Q0:∀q,At bs q (x.bitmap++x.way.flatten)->UO bs x.case_ x.found x.count x.chain ⟨q,false⟩=x:=by
   intro q hq;have d1:=hq.fst.digL hm;have d2:=At.wayL [] (hq.snd' (q:=q+32) (by rw[hm])) hw;unfold UO;rw[d1];simp only;rw[hO,d2];simp
  unfold jH7;rw[M3.fst.next (jC _ _)];simp only[Nat.zero_add];rw[h1.fst.pnameL (by omega)];unfold jGW;simp only;have SU:numL bs 1 ⟨1+(1+x.case_.size),false⟩=(((if x.found=true then 1 else 0:Nat):Int),⟨1+(1+x.case_.size)+1,false⟩):=by
   have h4:At bs (1+(1+x.case_.size)) (be 1 (if x.found=true then 1 else 0)):=by
    have:=h2.fst;cases hf:x.found<;>rw[hf]at this<;>exact this
   exact h4.numL (by split<;>decide) (by split<;>decide)
  rw[SU];unfold jGV;simp only;cases hf:x.found with
  |true=>
   have eT:vJ x=be8 x.count++(x.chain++(x.bitmap++x.way.flatten)):=by rw[vJ,hf];simp
   rw[jJ6 (by simp)];rw[eT]at h3;unfold ze at hE;rw[hf,jJ6 rfl,decide_eq_true_eq]at hE;have h4:=h3.snd' (q:=1+(1+x.case_.size)+1+8) (by rw[jG]);have h5:=h4.snd' (q:=1+(1+x.case_.size)+1+8+32) (by rw[hc]);rw[h3.fst.num8 (by omega)];simp only;rw[h4.fst.digL hc];simp only;rw[<-hf];exact Q0 _ h5
  |false=>
   have eT:vJ x=x.bitmap++x.way.flatten:=by rw[vJ,hf];simp
   rw[jJ5 (by simp)];rw[eT]at h3;unfold ze at hE;rw[hf,jJ5 (by decide),decide_eq_true_eq]at hE;have:=Q0 _ h3;rw[hf,hE.1,hE.2,<-jJX]at this;exact this
 ·cases h
end
theorem jH6(bs:LB):(if qj (jH7 bs)=some bs then some (jH7 bs)else none)=kr bs:=by
 split
 ·rename_i h;exact(Kr (jEP bs) h).symm
 ·rename_i h;cases hd:kr bs with
  |none=>rfl
  |some y=>
   have hb:=Vf hd;obtain⟨h1,h2,h3⟩:=XA hd;rw[jAi h1 h2 h3 hb]at h;exact absurd hb h
end Go.Proofs.YtnaolhjbapgjgaaGreat

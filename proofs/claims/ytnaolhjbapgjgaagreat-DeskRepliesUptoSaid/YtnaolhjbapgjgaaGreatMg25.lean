import Derived.Test.YtnaolhjbapgjgaaGreatMg24
set_option maxRecDepth 100000
set_option maxHeartbeats 6400000
namespace Go.Proofs.YtnaolhjbapgjgaaGreat
open Go.Proofs.Tryz
open Go.RowKit
structure IdxRd(w:World)(g I:Nat)(bs:LB)(s:Ls)(x:Idx)(A:OA)(c:Nat)(W:World):Prop where
 st:RdR 57 zeroIdxL w g bs s W
 blk:Blk W I 57 (x.cells A c).toArray
 ok:x.Ok
 lt:g<I
section
variable{w:World}{g I:Nat}{bs:LB}{s s' :Ls}{x:Idx}{A:OA}{c:Nat}{W W' :World}
theorem IdxRd.step(h:IdxRd w g I bs s x A c W)(hr:Lq W' g bs s')(hk:Kp (RX g) W W'):IdxRd w g I bs s' x A c W' :=
 ⟨h.st.step hr hk,h.blk.kp hk (fun e=>by have:I=g:=e;have:=h.lt;omega),h.ok,h.lt⟩
theorem IdxRd.still(h:IdxRd w g I bs s x A c W)(hk:Old W W'):IdxRd w g I bs s x A c W' :=⟨h.st.still hk,h.blk.old hk,h.ok,h.lt⟩
theorem IdxRd.name(h:IdxRd w g I bs s x A c W)(n:BA)(hn:n.size<=9223372036854775807):IdxRd w g I bs s {x with case_:=n} A c (W.setCell ⟨I,0,none⟩ (.string n)):=
 ⟨h.st.set h.lt _,h.blk.set_ 0 _,⟨h.ok.chain,h.ok.bitmap,h.ok.way,h.ok.count,h.ok.big.1,hn⟩,h.lt⟩
theorem IdxRd.flag(h:IdxRd w g I bs s x A c W)(b:Bool):IdxRd w g I bs s {x with found:=b} A c (W.setCell ⟨I,1,none⟩ (.bool b)):=
 ⟨h.st.set h.lt _,h.blk.set_ 1 _,⟨h.ok.chain,h.ok.bitmap,h.ok.way,h.ok.count,h.ok.big⟩,h.lt⟩
theorem IdxRd.num(h:IdxRd w g I bs s x A c W)(n:Int)(hn: -9223372036854775808<=n/\n<=9223372036854775807):IdxRd w g I bs s {x with count:=n} A c (W.setCell ⟨I,2,none⟩ (.int .i64 n)):=
 ⟨h.st.set h.lt _,h.blk.set_ 2 _,⟨h.ok.chain,h.ok.bitmap,h.ok.way,hn,h.ok.big⟩,h.lt⟩
theorem IdxRd.chn(h:IdxRd w g I bs s x A c W)(d:LB)(hd:d.length=32):IdxRd w g I bs s {x with chain:=d} A c (W.setCells I 3 (jA d)):=
 ⟨h.st.put (Kp.setCells I 3 _ W) (fun b e=>by have:=h.lt;omega),by
  have:=Blk.setCells (pre:=[.string x.case_,.bool x.found,.int .i64 x.count]) (mid:=jA x.chain) (post:=jA x.bitmap++[.slice A x.way.length c]) (by simpa [Idx.cells]using h.blk) (jA d) (by simp[jB,hd,h.ok.chain]);simpa [Idx.cells]using this,⟨hd,h.ok.bitmap,h.ok.way,h.ok.count,h.ok.big⟩,h.lt⟩
theorem IdxRd.bits(h:IdxRd w g I bs s x A c W)(d:LB)(hd:d.length=32):IdxRd w g I bs s {x with bitmap:=d} A c (W.setCells I 35 (jA d)):=
 ⟨h.st.put (Kp.setCells I 35 _ W) (fun b e=>by have:=h.lt;omega),by
  have:=Blk.setCells (pre:=[.string x.case_,.bool x.found,.int .i64 x.count]++jA x.chain) (mid:=jA x.bitmap) (post:=[.slice A x.way.length c]) (by simpa [Idx.cells]using h.blk) (jA d) (by rw[jB,jB,hd,h.ok.bitmap]);rw[jJ4,jB,h.ok.chain]at this;simpa [Idx.cells]using this,⟨h.ok.chain,hd,h.ok.way,h.ok.count,h.ok.big⟩,h.lt⟩
theorem IdxRd.way(h:IdxRd w g I bs s x A c W)(ds:List LB)(A' :OA)(c' :Nat)(hd:Dgs ds)(hl:ds.length<=2147483647):IdxRd w g I bs s {x with way:=ds} A' c' (W.setCell ⟨I,67,none⟩ (.slice A' ds.length c')):=
 ⟨h.st.set h.lt _,by
  have:=Blk.setCells (pre:=[.string x.case_,.bool x.found,.int .i64 x.count]++(jA x.chain++jA x.bitmap)) (mid:=[.slice A x.way.length c]) (post:=[]) (by simpa [Idx.cells]using h.blk) [.slice A' ds.length c'] rfl;rw[jJ4,jJ4,jB,jB,h.ok.chain,h.ok.bitmap]at this;have e:W.setCells I 67 [.slice A' ds.length c']=W.setCell ⟨I,67,none⟩ (.slice A' ds.length c'):=rfl;simp only[jK6,List.length_nil,Nat.reduceAdd,e]at this;simpa [Idx.cells]using this,⟨h.ok.chain,h.ok.bitmap,hd,h.ok.count,hl,h.ok.big.2⟩,h.lt⟩
end
def jJP(w:World)(d:Option Idx)(e:Ending)(w' :World):Prop:=
 ∃(x:Idx) (A:OA) (c:Nat) (er:Int),x=d.getD zeroIdx/\e=.returned (.tuple #[.agg (x.cells A c).toArray,.int .i64 er])/\x.Ok/\Rd w' 32 A x.way.length (x.way.flatMap jA)/\Av (fun k=>k<w.heap.size) x.way.length A/\Old w w'
theorem Yr{w w' :World}{er:Int}(ho:Old w w'):jJP w none (.returned (.tuple #[.agg zeroIdxL.toArray,.int .i64 er])) w' :=
 ⟨zeroIdx,none,0,er,rfl,by rw[JU],vX,Rd.none_,fun h=>absurd h (by simp[zeroIdx]),ho⟩
theorem jGX{x:Idx}{l:LB}(hx:x.Ok)(h:qj x=some l):l.length<=9000:=by
 have h1:=Kr hx h;unfold kr at h1;cases hb:kH l 9000 50 with
 |none=>rw[hb]at h1;cases h1
 |some s=>
  unfold kH at hb;split at hb
  ·cases hb
  ·omega
theorem jDo(w:World)(A:OA)(c:Nat)(bs:LB)(Fa:Rd w 1 A bs.length (bs.map bv))(hc:bs.length<=c):
  Calls prog 131 #[.slice A bs.length c] w (jJP w (kr bs)):=by
 have Hb:=G (show Blk (w.alloc (.cells zeroCells57 57)) w.heap.size 57 zeroIdxL.toArray from by rw[Ka];exact jQ2 w _ _);have HO:=G ((jQ0 NoX w).alloc (.cells zeroCells57 57));have NJ:=G (show(prog.info? 57).map (·.size)=some zeroIdxL.length from jd);have Wk:=G (show zeroIdxL.toArray.all (·.oneCell')=true from jR rfl);have Wj:=G JV;by_cases Fj:9000<bs.length
 ·have hY:=G (show kr bs=none by unfold kr;rw[Jp Fj];rfl);have Nj:(9000:Int)<(bs.length:Int):=(by omega);have hU:=G (Hb.out.there 0 zeroIdxL.toArray.size (by decide));have FI:=G (Hb.out.setWhole zeroIdxL rfl);have FR:=G (HO.out.trans (Kp.setCells w.heap.size 0 zeroIdxL (w.alloc (.cells zeroCells57 57))) (fun b hb e=>by omega));clear Fj Fa;go_enter func131,ntmps131;go_wp2_with (first|((with_reducible refine jM 57 ?_);refine jX rfl 57 rfl _ (Wj.out _) ?_)|((with_reducible refine jF 57 (.tmp 2) (.tmp 9) ?_);refine jQ1 rfl 57 (.tmp 2) (.tmp 9) rfl w.heap.size 0 zeroIdxL.toArray rfl rfl hU.out NJ.out Wk.out ?_)|fail);refine jD (g:=w.heap.size) (cs:=zeroIdxL.toArray) rfl rfl FI.out underlying57 rfl jd rfl ?_;rw[hY.out];exact Yr FR.out
 have Nj:¬(9000:Int)<(bs.length:Int):=(by omega);have EC:=G Fj;have Gh:=G (jH6 bs);have Np:=G (show bs=[]->kr bs=none from fun e=>by rw[e];unfold kr;rw[Kv (by decide)];rfl);have Mp:=G (HO.out.alloc (.cells #[.slice A bs.length c,.bool false] 264));have HG:=G (show Lq ((w.alloc (.cells zeroCells57 57)).alloc (.cells #[.slice A bs.length c,.bool false] 264)) (w.heap.size+1) bs ⟨0,false⟩from
  jAa (by
   have:=jQ2 (w.alloc (.cells zeroCells57 57)) 264 #[.slice A bs.length c,.bool false]
   rwa [show(w.alloc (.cells zeroCells57 57)).heap.size=w.heap.size+1 by simp]at this) (Fa.old Mp.out) (fun hn ad e hx=>by have:=Fa.lt (by decide) hn e;have h2:w.heap.size+1<=ad.block+1:=hx;omega) hc (by omega))
 have HS:=G (show RdR 57 zeroIdxL w (w.heap.size+1) bs ⟨0,false⟩ _ from⟨Hb.out.alloc _,HG.out,Mp.out,by omega⟩);have Fy:=G Fa;clear HG Mp Hb HO Fj Fa;generalize kr bs=D at*;unfold jH7 at Gh;go_enter func131,ntmps131;go_wp2_with fail;generalize (w.alloc _).alloc _=W at*;generalize hg:w.heap.size+1=g at*;have Lj:=G (va W g bs 1 ⟨0,false⟩ HS.out.rr (by decide));refine Lj.out.mono ?_;clear Lj;generalize jZ bs 1 ⟨0,false⟩=t0 at*;obtain⟨l0,s0⟩:=t0;rintro e w1 ⟨A1,c1,rfl,_,_,Fd,Fc⟩;simp only at Gh Fd;have Wg:=G (HS.out.step Fd Fc);have HI:=G (show IdxRd w g w1.heap.size bs s0 zeroIdx none 0 (w1.alloc (.cells zeroCells57 57))from
  ⟨Wg.out.still ((jQ0 NoX w1).alloc _),by rw[JU,Ka];exact jQ2 w1 _ _,vX,Fd.lt⟩)
 clear Fd Fc HS Wg;have Ge:=G (fun W (h:Lq W g bs s0)=>kC W g bs 1 s0 h (by decide));have Tb:=G (JA bs 1 s0);have V0:=G (show numL bs 1 s0=(((lowL bs 1 s0).1:Int),(lowL bs 1 s0).2)by
  rw[numL,<-kW _ (by have:=JA bs 1 s0;omega:(lowL bs 1 s0).1<9223372036854775808)];rfl)
 rw[V0.out]at Ge;have Rf:=G (show pnameL bs s0=(⟨(jZ bs (lowL bs 1 s0).1 (lowL bs 1 s0).2).1.toArray⟩,(jZ bs (lowL bs 1 s0).1 (lowL bs 1 s0).2).2)from rfl);have ME:=G (zr bs s0);generalize pnameL bs s0=PN at*;clear V0;generalize lowL bs 1 s0=t1 at*;obtain⟨nk,s1⟩:=t1;simp only at Ge Tb Rf;go_wp2_with fail;generalize w1.alloc _=W1 at*;generalize w1.heap.size=I at*;refine(Ge.out _ HI.out.st.rr).mono ?_;clear Ge;rintro e w2 ⟨rfl,Fb,hZ⟩;replace HI:=G (HI.out.step Fb hZ);clear Fb hZ;have HX:=G (fun W (h:Lq W g bs s1)=>va W g bs nk s1 h (by have:=Tb.out;omega));go_wp2_with fail;refine(HX.out _ HI.out.st.rr).mono ?_;clear HX;generalize jZ bs nk s1=t2 at*;obtain⟨nl,s2⟩:=t2;rintro e w3 ⟨A3,c3,rfl,FP,_,Gl,Gd⟩;simp only at Rf Gl FP⊢;replace HI:=G (HI.out.step Gl Gd);have Q2:=vO (P:=prog) w3 underlying22 underlying5 underlying9 A3 _ c3 _ FP;have u0:=HI.out.blk.at_ 0 (v:=.string ⟨#[]⟩) rfl;have z0:=HI.out.blk.frozen 0;rw[Rf.out]at ME Gh;simp only at ME;replace HI:=G (HI.out.name ⟨nl.toArray⟩ (by have:=ME.out;omega));unfold jGW at Gh;simp only at Gh;generalize SL:(⟨nl.toArray⟩:BA)=nm at*;clear Gl Gd Rf ME;have Ge:=G (fun W (h:Lq W g bs s2)=>kC W g bs 1 s2 h (by decide));generalize numL bs 1 s2=t3 at*;obtain⟨k,s3⟩:=t3;simp only at Ge Gh;go_wp2_with fail;clear Q2 u0 z0 FP;generalize w3.setCell _ _=W3 at*;refine(Ge.out _ HI.out.st.rr).mono ?_;clear Ge;rintro e w4 ⟨rfl,Fb,hZ⟩;replace HI:=G (HI.out.step Fb hZ);have u1:=HI.out.blk.at_ 1 (v:=.bool false) rfl;have z1:=HI.out.blk.frozen 1;clear Fb hZ;unfold jGV at Gh;by_cases hk:k=1
 case' pos=>
  have TP:(k==1)=true:=(by simpa using hk);rw[jJ6 hk]at Gh;clear hk;have Ge:=G (fun W (h:Lq W g bs s3)=>kC W g bs 8 s3 h (by decide));have Z3:=G (jEQ (jq (jZ bs 8 s3).1));change Hid (-9223372036854775808<=(numL bs 8 s3).1/\(numL bs 8 s3).1<=9223372036854775807)at Z3;replace HI:=G (HI.out.flag true);generalize numL bs 8 s3=t4 at*;obtain⟨n,s4⟩:=t4;simp only at Ge Gh Z3;go_wp2_with fail;clear u1 z1;generalize w4.setCell _ _=W4 at*;refine(Ge.out _ HI.out.st.rr).mono ?_;clear Ge;rintro e w5 ⟨rfl,Fb,hZ⟩;replace HI:=G (HI.out.step Fb hZ);have u2:=HI.out.blk.at_ 2 (v:=.int .i64 0) rfl;have z2:=HI.out.blk.frozen 2;replace HI:=G (HI.out.num n Z3.out);clear Fb hZ;have MJ:=G (fun W (h:Lq W g bs s4)=>yt W g bs s4 h);have GL:=G (vw bs s4);generalize digL bs s4=t5 at*;obtain⟨d,s5⟩:=t5;simp only at MJ Gh GL;go_wp2_with fail;clear u2 z2;generalize w5.setCell _ _=W5 at*;refine(MJ.out _ HI.out.st.rr).mono ?_;clear MJ;rintro e w6 ⟨rfl,Fb,hZ⟩;replace HI:=G (HI.out.step Fb hZ);clear Fb hZ;have hU:=G (HI.out.blk.there 3 (jA d).toArray.size (by rw[jJ8,jJ8,HI.out.ok.len,jB,GL.out];decide));have Fh:=G (show(prog.info? 40).map (·.size)=some (jA d).length by rw[jB,GL.out];exact jO);replace HI:=G (show IdxRd w g I bs s5 ⟨nm,true,n,d,zD,[]⟩ none 0 _ from HI.out.chn d GL.out);have MJ:=G (fun W (h:Lq W g bs s5)=>yt W g bs s5 h);have SD:=G (vw bs s5);unfold UO at Gh;generalize digL bs s5=t6 at*;obtain⟨bm,s6⟩:=t6;simp only at MJ Gh SD;go_wp2_with (first|((with_reducible refine jF 40 (.tmp 34) (.tmp 32) ?_);refine jQ1 rfl 40 (.tmp 34) (.tmp 32) rfl I 3 (jA d).toArray rfl rfl hU.out Fh.out (kV _) ?_)|fail);clear hU Fh;generalize w6.setCells _ _ _=W6 at*;refine(MJ.out _ HI.out.st.rr).mono ?_
 case' neg=>
  have TP:(k==1)=false:=(by simpa using hk);rw[jJ5 hk]at Gh;clear hk;replace HI:=G (show IdxRd w g I bs s3 ⟨nm,false,0,zD,zD,[]⟩ none 0 _ from HI.out.flag false);have MJ:=G (fun W (h:Lq W g bs s3)=>yt W g bs s3 h);have SD:=G (vw bs s3);unfold UO at Gh;generalize digL bs s3=t6 at*;obtain⟨bm,s6⟩:=t6;simp only at MJ Gh SD;go_wp2_with fail;clear u1 z1;generalize w4.setCell _ _=W6 at*;refine(MJ.out _ HI.out.st.rr).mono ?_
 all_goals
  clear MJ;rintro e w7 ⟨rfl,Fb,hZ⟩;replace HI:=G (HI.out.step Fb hZ);clear Fb hZ;have hU:=G (HI.out.blk.there 35 (jA bm).toArray.size (by rw[jJ8,jJ8,HI.out.ok.len,jB,SD.out];decide));have Fh:=G (show(prog.info? 40).map (·.size)=some (jA bm).length by rw[jB,SD.out];exact jO);replace HI:=G (HI.out.bits bm SD.out);have Fn:=G (HI.out.ok.s35.range HI.out.blk);have Tq:=G (fun W=>QR W bm SD.out);have LG:=G (show vM bm<=256 by have:=Jf bm;rw[SD.out]at this;omega);go_wp2_with (first|((with_reducible refine jF 40 (.tmp 37) (.tmp 36) ?_);refine jQ1 rfl 40 (.tmp 37) (.tmp 36) rfl I 35 (jA bm).toArray rfl rfl hU.out Fh.out (kV _) ?_)|((with_reducible refine jT 40 (.tmp 39) ?_);refine jK rfl 40 (.tmp 39) rfl I 35 rfl (jA bm) _ Fn.out underlying40 rfl Fh.out ?_)|fail);generalize w7.setCells I 35 (jA bm)=W7 at*;refine(Tq.out _).mono ?_;clear Tq hU Fn Fh;generalize vM bm=on at*;rintro e w8 ⟨rfl,NF⟩;replace HI:=G (HI.out.still NF);have HW:=G (fun W (h:Lq W g bs s6)=>Vp W g bs (on:Int) s6 h (by have:=LG.out;omega));have Nl:=G (ZW bs on s6 []);clear NF;rw[jL1]at HW;go_wp2_with fail;refine(HW.out _ HI.out.st.rr).mono ?_;clear HW;generalize wayL bs on s6 []=t7 at*;obtain⟨ds,s7⟩:=t7;rintro e w9 ⟨A9,c9,rfl,Tx,Si,TY,Bd,Ow⟩;simp only at Gh Nl Tx Si TY Bd⊢;have PA:=G (show ds.length<=2147483647 by have:=Nl.out;have:=LG.out;rw[List.length_nil]at*;omega);have Em:=G HI.out.blk.lt;replace HI:=G (HI.out.step Bd Ow);have u67:=HI.out.blk.at_ 67 (by rw[jJ7];exact HI.out.ok.s67);have z67:=HI.out.blk.frozen 67;replace HI:=G (HI.out.way ds A9 c9 TY PA.out);have Pu:=G (Tx.kp ((jQ0 (fun k=>k=I) w9).setCell (p:=⟨I,67,none⟩) (fun _=>rfl) (.slice A9 ds.length c9)) (fun hn ad e hx=>Si hn ad e (by have:ad.block=I:=hx;have:=Em.out;omega)));have FW:=G (show Av (fun k=>k<=w.heap.size) ds.length A9 from fun hn ad e hx=>Si hn ad e (by have:=HI.out.lt;have:=Em.out;omega));clear Tx Si TY Bd Ow Nl LG SD;simp only at HI u67;obtain⟨x,hxw,HI,Gh⟩:∃x:Idx,x.way=ds/\Hid (IdxRd w g I bs s7 x A9 c9 (w9.setCell ⟨I,67,none⟩ (.slice A9 ds.length c9)))/\Hid ((if qj x=some bs then some x else none)=D):=⟨_,rfl,HI,Gh⟩;subst hxw;have BY:=G (show w.heap.size<I by have:=HI.out.lt;omega);have WO:=G (fun W (h:IdxRd w g I bs s7 x A9 c9 W)=>h.st.th zeroIdxL rfl);have DH:=G (fun W (h:IdxRd w g I bs s7 x A9 c9 W)=>h.st.told zeroIdxL rfl);by_cases N6:bs=[]
  ·have b0:((bs.length:Int)==0)=true:=(by simp[N6]);have hY:=G (Np.out N6);clear N6 Np;have hU:=G (WO.out _ HI.out);have Ht:=G (DH.out _ HI.out);go_wp2_with (first|((with_reducible refine jM 57 ?_);refine jX rfl 57 rfl _ (Wj.out _) ?_)|((with_reducible refine jF 57 (.tmp 2) (.tmp 54) ?_);refine jQ1 rfl 57 (.tmp 2) (.tmp 54) rfl w.heap.size 0 zeroIdxL.toArray rfl rfl hU.out NJ.out Wk.out ?_)|fail);refine jD (g:=w.heap.size) (cs:=zeroIdxL.toArray) rfl rfl Ht.out.box underlying57 rfl jd rfl ?_;rw[hY.out];exact Yr Ht.out.old
  have b0:((bs.length:Int)==0)=false:=(by simpa using N6);have C3:=G N6;have Fn:=G HI.out.blk.range;have NZ:=G (show(prog.info? 57).map (·.size)=some (x.cells A9 c9).length by rw[HI.out.ok.len];exact jd);have Lc:=G (x.one A9 c9);clear N6 Np;have HC:=G (jAM (w9.setCell ⟨I,67,none⟩ (.slice A9 x.way.length c9)) x A9 c9 HI.out.ok Pu.out);go_wp2_with (first|((with_reducible refine jT 57 (.tmp 5) ?_);refine jK rfl 57 (.tmp 5) rfl I 0 rfl (x.cells A9 c9) _ Fn.out underlying57 rfl NZ.out ?_)|((with_reducible refine ji 57 (.tmp 5) ?_);refine jK rfl 57 (.tmp 5) rfl I 0 rfl (x.cells A9 c9) _ Fn.out underlying57 rfl NZ.out ?_)|fail);clear u67 z67 Fn;generalize w9.setCell _ _=W9 at*;refine HC.out.mono ?_;clear HC;have Q8:=G (fun l (h:qj x=some l)=>jGX HI.out.ok h);generalize qj x=IB at*;have FT:=G (show IB=some bs->D=some x from fun h=>by rw[<-Gh.out];exact jJ6 h);have hY:=G (show IB≠some bs->D=none from fun h=>by rw[<-Gh.out];exact jJ5 h);intro e wA h6;obtain⟨l,A6,c6,he,PP,Wx,Mm,FN⟩:∃(l:LB) (A6:OA) (c6:Nat),e=.returned (.slice A6 l.length c6)/\Rd wA 1 A6 l.length (l.map bv)/\l.length<=1000000000000/\(IB=some bs↔l=bs)/\Old W9 wA:=by
   rcases h6 with⟨l,A6,c6,e1,_,e2,hr,ho⟩|⟨e1,e2,ho⟩
   ·exact⟨l,A6,c6,e2,hr.rd,by have:=Q8.out l e1;omega,by rw[e1];exact⟨fun h=>jL5 h,fun h=>congrArg some h⟩,ho⟩
   ·exact⟨[],none,0,e2,Rd.none_,by simp,by rw[e1];exact⟨fun h=>by(cases h),fun h=>absurd h.symm C3.out⟩,ho⟩
  clear h6;subst he;have HC:=G (Kg wA A6 A c6 c l bs PP ((Fy.out.old HI.out.st.old).old FN) Wx);replace HI:=G (HI.out.still FN);replace Pu:=G (Pu.out.old FN);clear PP Wx FN;go_wp2_with fail;refine HC.out.mono ?_;rintro e wB ⟨rfl,GZ⟩;replace HI:=G (HI.out.still GZ);replace Pu:=G (Pu.out.old GZ);clear GZ HC;by_cases Gw:l=bs
  ·have Hd:=G (FT.out (Mm.2 Gw));rw[jK5 Gw];clear Gw Mm;have hU:=G (HI.out.st.th (x.cells A9 c9) (by rw[HI.out.ok.len];rfl));have Ht:=G (HI.out.st.told (x.cells A9 c9) (by rw[HI.out.ok.len];rfl));have Fn:=G HI.out.blk.range;go_wp2_with (first|((with_reducible refine jT 57 (.tmp 5) ?_);refine jK rfl 57 (.tmp 5) rfl I 0 rfl (x.cells A9 c9) _ Fn.out underlying57 rfl NZ.out ?_)|((with_reducible refine jF 57 (.tmp 2) (.tmp 55) ?_);refine jQ1 rfl 57 (.tmp 2) (.tmp 55) rfl w.heap.size 0 (x.cells A9 c9).toArray rfl rfl hU.out NZ.out Lc.out ?_)|fail);refine jD (g:=w.heap.size) (cs:=(x.cells A9 c9).toArray) rfl rfl Ht.out.box underlying57 rfl (by rw[jJ8];exact NZ.out) rfl ?_;exact⟨x,A9,c9,0,by rw[Hd.out];rfl,rfl,HI.out.ok,Pu.out.told Ht.out FW.out,fun hn ad e hx=>FW.out hn ad e (Nat.le_of_lt hx),Ht.out.old⟩
  ·have Hd:=G (hY.out (fun h=>Gw (Mm.1 h)));rw[jK3 Gw];clear Gw Mm;have hU:=G (WO.out _ HI.out);have Ht:=G (DH.out _ HI.out);go_wp2_with (first|((with_reducible refine jM 57 ?_);refine jX rfl 57 rfl _ (Wj.out _) ?_)|((with_reducible refine jF 57 (.tmp 2) (.tmp 54) ?_);refine jQ1 rfl 57 (.tmp 2) (.tmp 54) rfl w.heap.size 0 zeroIdxL.toArray rfl rfl hU.out NJ.out Wk.out ?_)|fail);refine jD (g:=w.heap.size) (cs:=zeroIdxL.toArray) rfl rfl Ht.out.box underlying57 rfl jd rfl ?_;rw[Hd.out];exact Yr Ht.out.old
def jFu(bs:LB)(size num:Int)(e:LB×Ls):(LB×Way)×Ls:=((e.1,⟨size,num,(wayL bs (jp (yA size num)).toNat e.2 []).1⟩),(wayL bs (jp (yA size num)).toNat e.2 []).2)
def jFv(bs:LB)(size:Int)(q:Int×Ls):(LB×Way)×Ls:=jFu bs size q.1 (jZ bs (lowL bs 4 q.2).1 (lowL bs 4 q.2).2)
def jBN(bs:LB)(size:Int)(s:Ls):(LB×Way)×Ls:=jFv bs size (numL bs 8 s)
def Yo(bs:LB)(size:Int):Nat->Ls->List LB->List Way->List LB×List Way
 |0,_,es,ps=>(es,ps)
 |n+1,s,es,ps=>if s.short=true then(es,ps)else Yo bs size n (jBN bs size s).2 (es++[(jBN bs size s).1.1]) (ps++[(jBN bs size s).1.2])
def jHp(bs:LB)(nm:BA)(f:Int)(d:LB)(size:Int)(n:Nat)(s:Ls):Pie:=⟨nm,f,d,(Yo bs size n s [] []).1,(Yo bs size n s [] []).2⟩
def jHq(bs:LB)(nm:BA)(f:Int)(d:LB)(size:Int×Ls):Pie:=jHp bs nm f d size.1 (lowL bs 4 size.2).1 (lowL bs 4 size.2).2
def jHr(bs:LB)(nm:BA)(f:Int)(d:LB×Ls):Pie:=jHq bs nm f d.1 (numL bs 8 d.2)
def jHs(bs:LB)(nm:BA)(f:Int×Ls):Pie:=jHr bs nm f.1 (digL bs f.2)
def jHt(bs:LB)(nm:BA×Ls):Pie:=jHs bs nm.1 (numL bs 8 nm.2)
def jHu(bs:LB):Pie:=jHt bs (pnameL bs (jZ bs 1 ⟨0,false⟩).2)
theorem QN(bs:LB)(size:Int):∀(n:Nat) (s:Ls) (es:List LB) (ps:List Way),(∀q∈ps,Dgs q.ds)->∀q∈(Yo bs size n s es ps).2,Dgs q.ds
 |0,s,es,ps,h=>h
 |n+1,s,es,ps,h=>by
  rw[Yo];split
  ·exact h
  ·refine QN bs size n _ _ _ (fun q hq=> ?_);rcases List.mem_append.1 hq with h1|h1
   ·exact h q h1
   ·rw[List.mem_singleton.1 h1];exact ZX _ _ _ _ (fun _ h=>by cases h)
theorem UD(bs:LB):(jHu bs).before.length=32/\∀q∈(jHu bs).pfs,Dgs q.ds:=
 ⟨vw _ _,QN _ _ _ _ _ _ (fun _ h=>by cases h)⟩
theorem xZ{bs:LB}{size:Int}:∀(n:Nat) (s:Rs) (es:List LB) (ps:List Way) {t:List LB×List Way×Rs},(∀q∈ps,Dgs q.ds)->yj bs size n s es ps=some t->∀q∈t.2.1,Dgs q.ds
 |0,s,es,ps,t,h,e=>by
  rw[yj]at e;obtain rfl:=jL5 e;exact h
 |n+1,s,es,ps,t,h,e=>by
  rw[yj]at e;cases hr:jFx bs size s with
  |none=>rw[hr]at e;cases e
  |some r=>
   rw[hr]at e;simp only[jL2]at e;refine xZ n _ _ _ (fun q hq=> ?_) e;rcases List.mem_append.1 hq with h1|h1
   ·exact h q h1
   ·rw[List.mem_singleton.1 h1];unfold jFx at hr;split at hr
    ·split at hr
     ·cases hr
     ·split at hr
      ·obtain rfl:=jL5 hr;exact Ko _ _ _
      ·cases hr
    ·cases hr
theorem Qy{bs:LB}{y:Pie}(h:kX bs=some y):y.before.length=32/\∀q∈y.pfs,Dgs q.ds:=by
 unfold kX at h;cases hb:kH bs 2097152 51 with
 |none=>rw[hb]at h;cases h
 |some s=>
  rw[hb]at h;simp only[jL2]at h;unfold jHv jD2 jD1 jD0 Qc at h;split at h
  ·rename_i hc
   revert h
   generalize hg:yj bs _ _ _ [] []=jG9;intro h;cases jG9 with
   |none=>cases h
   |some t=>
    simp only[jL2]at h;unfold qX at h;split at h
    ·obtain rfl:=jL5 h;exact⟨kU _ _,xZ _ _ _ _ (fun _ h=>by cases h) hg⟩
    ·cases h
  ·cases h
section
variable{bs:LB}
theorem jHg{size:Int}{e:LB}{x:Way}{p:Nat}(h:At bs p (JS e x))(ha:x.a=size)(hb:yA size x.b=some x.ds.length)(he:e.length<=65536)(hd:Dgs x.ds):
  jBN bs size ⟨p,false⟩=((e,x),⟨p+(JS e x).length,false⟩):=by
 obtain⟨_,hB,_⟩:=yh _ _ _ hb;unfold JS at h;have a1:=h.snd' (q:=p+8) (by rw[jG]);have a2:At bs (p+8) (be 4 e.length++e):=a1.fst;have h4:=a2.fst.lowL (by rw[Ju];omega);have h5:=(a2.snd' (q:=p+8+4) (by rw[jC])).next rfl;have h3:=At.wayL [] (a1.snd' (q:=p+8+(4+e.length)) (by rw[jV])) hd;unfold jBN;rw[h.fst.num8 (by omega)];unfold jFv;simp only;rw[h4];simp only;rw[h5];unfold jFu;simp only;rw[hb];simp only[jp,jL1];rw[show p+8+4+e.length=p+8+(4+e.length)by omega,h3];obtain⟨a,b,ds⟩:=x;simp only at ha;subst ha;simp only[JS,jJ4,jG,jV,hd.flat,List.nil_append,Prod.mk.injEq,true_and,Ls.mk.injEq,and_true];omega
theorem jAJ{size:Int}:∀(es:List LB) (ps:List Way) (p:Nat) (ae:List LB) (ap:List Way),es.length=ps.length->
  (∀r∈List.zipWith ZN es ps,r.n<=65536/\yA r.size r.num=some r.k/\r.size=size)->(∀q∈ps,Dgs q.ds)->At bs p (List.zipWith JS es ps).flatten->
  Yo bs size es.length ⟨p,false⟩ ae ap=(ae++es,ap++ps)
 |[],[],p,ae,ap,_,_,_,_=>by simp[Yo]
 |[],_::_,_,_,_,h,_,_,_=>by simp at h
 |_::_,[],_,_,_,h,_,_,_=>by simp at h
 |e::es,x::ps,p,ae,ap,hl,hr,hd,h=>by
  rw[List.zipWith_cons_cons,List.flatten_cons]at h;rw[List.zipWith_cons_cons]at hr;obtain⟨r1,r2,r3⟩:=hr _ List.mem_cons_self;simp only[ZN]at r1 r2 r3;have h1:=jHg (size:=size) h.fst r3 (by rw[<-r3];exact r2) r1 (hd x List.mem_cons_self);have ih:=jAJ (size:=size) es ps (p+(JS e x).length) (ae++[e]) (ap++[x]) (by simpa using hl) (fun r hq=>hr r (List.mem_cons_of_mem _ hq)) (fun q hq=>hd q (List.mem_cons_of_mem _ hq)) (h.snd' rfl);rw[jK6,Yo,jJ5 (by simp),h1];simp only;rw[ih];simp
theorem jF8{x:Pie}(hb:x.before.length=32)(Pn:∀q∈x.pfs,Dgs q.ds)(h:vR x=some bs):jHu bs=x:=by
 unfold vR at h;split at h
 ·rename_i Hu;injection h with h;obtain⟨h0,hl,hr⟩:=of_decide_eq_true Hu;have LW:(List.zipWith ZN x.evs x.pfs).length=x.evs.length:=by rw[List.length_zipWith];omega
  have Mi:yQ x.case_ x.first x.before (List.zipWith ZN x.evs x.pfs)=(List.zipWith ZN x.evs x.pfs).length:=by rw[LW];exact hr
  obtain⟨M1,hk,GG⟩:=Ki Mi (by rw[LW];exact h0);have SL:=Jq M1;have P0:vp (List.zipWith ZN x.evs x.pfs)=kw x.pfs:=by
   cases he:x.evs with
   |nil=>rw[he]at h0;exact absurd rfl h0
   |cons e es=>
    cases hp:x.pfs with
    |nil=>rw[he,hp]at hl;simp at hl
    |cons q ps=>rfl
  have FM:=Mi;unfold yQ at FM;rw[jJ6 M1]at FM;obtain⟨_,TU⟩:=VS _ _ _ _ _ _ (by rw[FM];omega);have Ff:List.zipWith ZN x.evs x.pfs≠ []:=by
   intro e;rw[e]at LW;exact h0 LW.symm
  have PZ:=TU Ff;have hf0:0<=x.first:=by
   unfold yE at M1;simp only[Bool.and_eq_true,decide_eq_true_eq]at M1;exact M1.2.1
  have FJ:0<=kw x.pfs/\kw x.pfs<=1099511627776:=by
   obtain⟨r,Ba⟩:=List.exists_mem_of_ne_nil _ Ff;obtain⟨_,_,_,b4,b5⟩:=GG r Ba;rw[b5,P0]at b4;exact(yh _ _ _ b4).1
  rw[P0]at PZ GG;have M3:At bs 0 (be 1 51++(lp 1 (sb x.case_)++(be8 x.first++(x.before++(be8 (kw x.pfs)++(be 4 x.evs.length++(List.zipWith JS x.evs x.pfs).flatten)))))):=by
   have:At bs 0 (yS x++(List.zipWith JS x.evs x.pfs).flatten):=by rw[h];exact At.all bs
   rw[yS]at this;simpa only[jK1]using this
  have a1:=M3.snd' (q:=1) (by rw[jC]);have a2:=a1.snd' (q:=1+(1+x.case_.size)) (by rw[jV,jH]);have a3:=a2.snd' (q:=1+(1+x.case_.size)+8) (by rw[jG]);have a4:=a3.snd' (q:=1+(1+x.case_.size)+8+32) (by rw[hb]);have a5:=a4.snd' (q:=1+(1+x.case_.size)+8+32+8) (by rw[jG]);have a6:=a5.snd' (q:=1+(1+x.case_.size)+8+32+8+4) (by rw[jC]);unfold jHu;rw[M3.fst.next (jC _ _)];simp only[Nat.zero_add];rw[a1.fst.pnameL (by omega)];unfold jHt;simp only;rw[a2.fst.num8 (by omega)];unfold jHs;simp only;rw[a3.fst.digL hb];unfold jHr;simp only;rw[a4.fst.num8 (by omega)];unfold jHq;simp only;rw[a5.fst.lowL (by rw[Ju];omega)];unfold jHp;simp only;rw[jAJ (size:=kw x.pfs) x.evs x.pfs _ [] [] hl (fun r hq=>⟨(GG r hq).2.1,(GG r hq).2.2.2.1,(GG r hq).2.2.2.2⟩) Pn a6];rfl
 ·cases h
end
theorem jHo(bs:LB):(if vR (jHu bs)=some bs then some (jHu bs)else none)=kX bs:=by
 split
 ·rename_i h;exact(Kq (UD bs).1 (UD bs).2 h).symm
 ·rename_i h;cases hd:kX bs with
  |none=>rfl
  |some y=>
   have hb:=Vd hd;obtain⟨h1,h2⟩:=Qy hd;rw[jF8 h1 h2 hb]at h;exact absurd hb h
def QB(size:Int):Nat->Nat->Int->List LB->List Way->Bool
 |i,b,prev,e::es,p::ps=>decide (Jb e.length p.a p.b p.ds.length size=true/\¬(0<i/\p.b<=prev)/\b+(12+e.length+32*p.ds.length)<=2097152)&&QB size (i+1) (b+(12+e.length+32*p.ds.length)) p.b es ps
 |_,_,_,_,_=>true
theorem QX(f sz:Int):∀(es:List LB) (ps:List Way) (i b:Nat) (prev:Int),es.length=ps.length->i<=1000->
  (vH f sz i b prev (List.zipWith ZN es ps)=i+es.length↔QB sz i b prev es ps=true/\(es=[]\/(i+es.length<=1000/\f<=sz-((i+es.length:Nat):Int))))
 |[],[],i,b,prev,_,_=>by simp[vH,QB]
 |e::es,p::ps,i,b,prev,hl,hi=>by
  simp only[jK6,Nat.add_right_cancel_iff]at hl;have ih:=QX f sz es ps (i+1) (b+(12+e.length+32*p.ds.length)) p.b hl;simp only[List.zipWith_cons_cons,vH,QB,ZN,jK6,Bool.and_eq_true,decide_eq_true_eq];have hs:zW f sz i (b+(12+e.length+32*p.ds.length)) prev ⟨none,e.length,0,p.a,p.b,none,p.ds.length,0⟩=true↔(i=1000\/2097152<b+(12+e.length+32*p.ds.length)\/Jb e.length p.a p.b p.ds.length sz=false\/sz-i-1<f\/(0<i/\p.b<=prev)):=by
   rw[zW,decide_eq_true_eq]
  by_cases HU:zW f sz i (b+(12+e.length+32*p.ds.length)) prev ⟨none,e.length,0,p.a,p.b,none,p.ds.length,0⟩=true
  ·rw[jJ6 HU];rw[hs]at HU;constructor
   ·intro h;omega
   ·rintro ⟨⟨⟨h1,h2,h3⟩,h4⟩,h5⟩;exfalso;rcases HU with h|h|h|h|h
    ·rcases h5 with h5|h5
     ·cases h5
     ·omega
    ·omega
    ·rw[h1]at h;cases h
    ·rcases h5 with h5|h5
     ·cases h5
     ·omega
    ·exact h2 h
  ·rw[jJ5 HU];rw[hs]at HU;have PX:i+1<=1000:=by
    rcases Nat.lt_or_ge i 1000 with h|h
    ·omega
    ·exact absurd (.inl (by omega)) HU
   have hr:Jb e.length p.a p.b p.ds.length sz=true:=by
    cases hh:Jb e.length p.a p.b p.ds.length sz with
    |true=>rfl
    |false=>exact absurd (.inr (.inr (.inl hh))) HU
   have hb:b+(12+e.length+32*p.ds.length)<=2097152:=by
    rcases Nat.lt_or_ge 2097152 (b+(12+e.length+32*p.ds.length))with h|h
    ·exact absurd (.inr (.inl h)) HU
    ·exact h
   have hf:¬sz-i-1<f:=fun h=>HU (.inr (.inr (.inr (.inl h))));have hp:¬(0<i/\p.b<=prev):=fun h=>HU (.inr (.inr (.inr (.inr h))));have ih:=ih PX;rw[show i+(es.length+1)=i+1+es.length by omega,ih];constructor
   ·rintro ⟨h1,h2⟩;refine⟨⟨⟨hr,hp,hb⟩,h1⟩,.inr ?_⟩;rcases h2 with h2|h2
    ·subst h2;simp only[List.length_nil]at*;omega
    ·exact h2
   ·rintro ⟨⟨_,h1⟩,h2⟩;refine⟨h1,.inr ?_⟩;rcases h2 with h2|h2
    ·cases h2
    ·exact h2
 |[],_::_,_,_,_,h,_=>by simp at h
 |_::_,[],_,_,_,h,_=>by simp at h
def Je(p:Pie):Bool:=decide (kT p.case_=true/\0<=p.first/\1<=p.evs.length/\p.evs.length<=1000/\p.pfs.length=p.evs.length/\(p.first=0->p.before=zC))
theorem Qb{p:Pie}(h:Je p=false):vR p=none:=by
 rw[vR,jJ5];intro hk;have hk:=of_decide_eq_true hk;have h' :=of_decide_eq_false h;apply h';obtain⟨h1,h2,h3⟩:=hk;have hl:(List.zipWith ZN p.evs p.pfs).length=p.evs.length:=by rw[List.length_zipWith];omega
 have h4:=Ki (by rw[hl];exact h3) (by omega);have hb:=h4.1;unfold yE at hb;simp only[Bool.and_eq_true,decide_eq_true_eq]at hb;refine⟨hb.1,hb.2.1,by omega,by have:=h4.2.1;omega,h2.symm,fun e=> ?_⟩;rcases hb.2.2 with h|h
 ·omega
 ·exact h
theorem UC{p:Pie}(h:Je p=true):vR p=if QB (kw p.pfs) 0 (54+p.case_.size) 0 p.evs p.pfs=true/\p.first<=kw p.pfs-(p.evs.length:Int)then some (yS p++(List.zipWith JS p.evs p.pfs).flatten)else none:=by
 obtain⟨h1,h2,h3,h4,h5,h6⟩:=of_decide_eq_true h;have hr:=QX p.first (kw p.pfs) p.evs p.pfs 0 (54+p.case_.size) 0 h5.symm (by decide);have hz:vp (List.zipWith ZN p.evs p.pfs)=kw p.pfs:=by
  cases he:p.evs with
  |nil=>rw[he]at h3;simp at h3
  |cons e es=>
   cases hp:p.pfs with
   |nil=>rw[he,hp]at h5;simp at h5
   |cons q qs=>rfl
 have hb:yE p.case_ p.first p.before=true:=by
  unfold yE;rw[h1,Bool.true_and,decide_eq_true_eq];refine⟨h2,?_⟩;by_cases h0:p.first=0
  ·exact .inr (h6 h0)
  ·exact .inl (by omega)
 have Ff:p.evs≠ []:=fun e=>by rw[e]at h3;simp at h3
 rw[vR]
 congr 1
 rw[eq_iff_iff,UE,decide_eq_true_eq,yQ,jJ6 hb,hz];rw[Nat.zero_add]at hr;rw[hr];constructor
 ·rintro ⟨_,_,a,b⟩;rcases b with b|b
  ·exact absurd b Ff
  ·exact⟨a,b.2⟩
 ·rintro ⟨a,b⟩;exact⟨by omega,h5.symm,a,.inr ⟨h4,b⟩⟩
end Go.Proofs.YtnaolhjbapgjgaaGreat

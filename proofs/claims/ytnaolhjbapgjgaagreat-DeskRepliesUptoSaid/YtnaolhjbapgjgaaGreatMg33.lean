import Derived.Test.YtnaolhjbapgjgaaGreatMg32
set_option maxRecDepth 100000
set_option maxHeartbeats 6400000
namespace Go.Proofs.YtnaolhjbapgjgaaGreat
open Go.Proofs.Tryz
open Go.RowKit
def ym(op:Nat)(bs:LB)(e:Int×Ls):Rep×Ls:=
 if e.1=0 then yZ op bs e.2
 else if op<=2/\JD e.1=false then({zeroRep with err:=e.1,pa:=(numL bs 4 e.2).1,pb:=(numL bs 4 (numL bs 4 e.2).2).1,pc:=(numL bs 4 (numL bs 4 (numL bs 4 e.2).2).2).1},(numL bs 4 (numL bs 4 (numL bs 4 e.2).2).2).2)
 else({zeroRep with err:=e.1},e.2)
def jBd(op:Int)(bs:LB)(x:Rep×Ls):Option Rep:=if x.2.short=false/\vr op x.1=some bs then some x.1 else none
def xi(op:Int)(bs:LB)(e:Int×Ls):Option Rep:=if e.2.short=true\/op<1\/12<op then none else jBd op bs (ym op.toNat bs e)
def qT(op:Int)(bs:LB):Option Rep:=xi op bs (numL bs 2 ⟨0,false⟩)
def jJW(w:World)(d:Option Rep)(e:Ending)(w' :World):Prop:=
 ∃m:MReply,m.data=d.getD zeroRep/\e=.returned (.tuple #[.agg m.cells.toArray,.bool d.isSome])/\m.Ok w' NoX/\Old w w'
theorem YD{w w' :World}(ho:Old w w'):jJW w none (.returned (.tuple #[.agg zeroMR.cells.toArray,.bool false])) w' :=⟨zeroMR,rfl,rfl,jI _ _,ho⟩
structure RpRd(w:World)(P:Nat)(bs:LB)(m:MReply)(s:Ls)(W:World):Prop where
 box:Blk W w.heap.size 63 zeroMR.cells.toArray
 rr:Lr W (w.heap.size+1) bs s
 blk:Blk W P 63 m.cells.toArray
 ok:m.Ok W (fun k=>w.heap.size<=k/\k<=P)
 old:Old w W
 lt:w.heap.size+1<P
section
variable{w:World}{P:Nat}{bs:LB}{m:MReply}{s s' :Ls}{W W' :World}
theorem RpRd.still(h:RpRd w P bs m s W)(ho:Old W W'):RpRd w P bs m s W' :=
 ⟨h.box.old ho,h.rr.old ho,h.blk.old ho,h.ok.turn ho (fun _ _ f=>f.elim) (fun _ _ e=>e),h.old.old ho,h.lt⟩
theorem RpRd.step(h:RpRd w P bs m s W)(hr:Lr W' (w.heap.size+1) bs s')(hk:Kp (RX (w.heap.size+1)) W W'):RpRd w P bs m s' W' :=
 ⟨h.box.kp hk (fun e=>by have h1:w.heap.size=w.heap.size+1:=e;omega),hr,h.blk.kp hk (fun e=>by have h1:P=w.heap.size+1:=e;have:=h.lt;omega),
  h.ok.turn hk (fun b _ e=>by have h1:b=w.heap.size+1:=e;have:=h.lt;exact⟨by omega,by omega⟩) (fun _ _ e=>e),h.old.trans hk (fun b hb e=>by have h1:b=w.heap.size+1:=e;omega),h.lt⟩
end
theorem uE{op:Int}{p:Rep}{l:LB}(h:vr op p=some l):l.length<=4194304:=by
 unfold vr at h;split at h
 ·cases hb:YZ op.toNat p with
  |none=>rw[hb]at h;cases h
  |some x=>
   rw[hb]at h;simp only[jL2]at h;split at h
   ·obtain rfl:=jL5 h;rw[jJ4,jC];omega
   ·cases h
 ·cases h
theorem jDl(w:World)(op:Int)(A:OA)(c:Nat)(bs:LB)(Fa:Rd w 1 A bs.length (bs.map bv))(hc:bs.length<=c)(hl:bs.length<=2147483647):
  Calls prog 36 #[.int .i64 op,.slice A bs.length c] w (jJW w (qT op bs)):=by
 have Hb:=G (show Blk (w.alloc (.cells zeroCells63 63)) w.heap.size 63 zeroMR.cells.toArray from by rw[JT];exact jQ2 w _ _);have HO:=G ((jQ0 NoX w).alloc (.cells zeroCells63 63));have T5:=G (show zeroMR.cells.length=256 from(jI w NoX).len);have NJ:=G (show(prog.info? 63).map (·.size)=some zeroMR.cells.length by rw[T5.out];exact kj);have Wk:=G (MReply.one zeroMR);have Wj:=G uQ;have WO:=G (fun W (h:Blk W w.heap.size 63 zeroMR.cells.toArray)=>h.there 0 zeroMR.cells.toArray.size (by rw[jJ8];omega));have Lb:=G (fun W (h:Blk W w.heap.size 63 zeroMR.cells.toArray)=>h.setWhole zeroMR.cells rfl);have La:=G (fun W (h:Old w W)=>h.trans (Kp.setCells w.heap.size 0 zeroMR.cells W) (fun b hb e=>by omega));have V9:(prog.info? 63).map (·.size)=some zeroMR.cells.toArray.size:=NJ.out;have Mp:=G (HO.out.alloc (.cells #[.slice A bs.length c,.bool false] 158));have HG:=G (show Lr ((w.alloc (.cells zeroCells63 63)).alloc (.cells #[.slice A bs.length c,.bool false] 158)) (w.heap.size+1) bs ⟨0,false⟩from
  ⟨A,c,by
   have:=jQ2 (w.alloc (.cells zeroCells63 63)) 158 #[.slice A bs.length c,.bool false];rw[show(w.alloc (.cells zeroCells63 63)).heap.size=w.heap.size+1 by simp]at this;simpa using this,by simpa using Fa.old Mp.out,fun hn ad e hx=>by have:=Fa.lt (by decide) (by simpa using hn) e;have h2:w.heap.size+1<=ad.block+1:=hx;omega,by simpa using hc,Nat.zero_le _,by omega⟩)
 have MG:=G (Hb.out.alloc (.cells #[.slice A bs.length c,.bool false] 158));have Fy:=G Fa;have Hl:=G hl;have HN:=G (fun W (h:Lr W (w.heap.size+1) bs ⟨0,false⟩)=>kz W (w.heap.size+1) bs 2 ⟨0,false⟩ h (by decide));have HR:=G (show qT op bs=xi op bs (numL bs 2 ⟨0,false⟩)from rfl);generalize qT op bs=D at*;generalize numL bs 2 ⟨0,false⟩=t0 at*;obtain⟨n,s1⟩:=t0;simp only at HN;unfold xi at HR;simp only at HR;have M6:=G (show s1.short=true\/op<1\/12<op->D=none from fun h=>by rw[HR.out,jJ6 h]);have Fs:=G (show¬(s1.short=true\/op<1\/12<op)->D=jBd op bs (ym op.toNat bs (n,s1))from fun h=>by rw[HR.out,jJ5 h]);clear HR Fa hl hc Hb HO;go_enter func36,ntmps36;go_wp2_with fail;generalize (w.alloc _).alloc _=W at*;refine(HN.out _ HG.out).mono ?_;clear HN;rintro e w2 ⟨rfl,hL,hk⟩;replace MG:=G (MG.out.kp hk (fun e=>by have h1:w.heap.size=w.heap.size+1:=e;omega));have HoO:=G (show Old w w2 from Mp.out.trans hk (fun b hb e=>by have h1:b=w.heap.size+1:=e;omega));have Eo:=G hL.lt;have HEl:=G (show MReply.Ok w2 NoX {zeroMR with err:=n}from ZR w2 NoX n 0 0 0);have HeL:=G (show(MReply.cells {zeroMR with err:=n}).length=256 from HEl.out.len);obtain⟨ML,OK,EW⟩:=ZC 63 zeroCells63 (MReply.cells {zeroMR with err:=n}) (by rw[HeL.out,JT,jJ8,T5.out]) w2 w2.heap.size rfl;have HS:=G (show RpRd w w2.heap.size bs {zeroMR with err:=n} s1 _ from⟨MG.out.old EW,hL.old EW,OK,ZR _ _ n 0 0 0,HoO.out.old EW,Eo.out⟩);have DR:=G ML;have HsP:=G (show(prog.info? 63).map (·.size)=some (MReply.cells {zeroMR with err:=n}).length by rw[HeL.out];exact kj);have HeO:=G (MReply.one {zeroMR with err:=n});have Hbt:=G (XF n);have DT:=G (show((w2.alloc (.cells zeroCells63 63)).setCells w2.heap.size 0 (MReply.cells {zeroMR with err:=n})).heap.size=w2.heap.size+1 by simp);clear hL hk ML OK EW MG HoO HG Mp;generalize Q1:MReply.cells {zeroMR with err:=n}=ec at*;have CE:=G Q1;clear Q1;go_upto_region 3 with(first|((with_reducible refine ZF 63 (.tmp 12) ?_);refine Yf rfl 63 (.tmp 12) rfl _ rfl ec Hbt.out ?_)|((with_reducible refine jF 63 (.tmp 7) (.tmp 13) ?_);refine jQ1 rfl 63 (.tmp 7) (.tmp 13) rfl w2.heap.size 0 ec.toArray rfl rfl DR.out HsP.out HeO.out ?_)|fail);clear DR Hbt;generalize (w2.alloc _).setCells _ _ _=W3 at*;generalize w2.heap.size=P at*;have c1:W3.cell? ⟨w.heap.size+1,1,none⟩=some (.bool s1.short):=by
  obtain⟨A0,c0,hb,_⟩:=HS.out.rr;exact hb.at_ 1 (v:=.bool s1.short) rfl
 have Gy:s1.short=true\/(s1.short=false/\op<1)\/(s1.short=false/\1<=op/\12<op)\/(s1.short=false/\1<=op/\op<=12):=by
  cases h:s1.short with
  |true=>exact .inl rfl
  |false=>
   by_cases h1:op<1
   ·exact .inr (.inl ⟨rfl,h1⟩)
   ·by_cases h2:12<op
    ·exact .inr (.inr (.inl ⟨rfl,by omega,h2⟩))
    ·exact .inr (.inr (.inr ⟨rfl,by omega,by omega⟩))
 rcases Gy with hs|⟨hs,h1⟩|⟨hs,h1,h2⟩|⟨hs,h1,h2⟩
 case' inl=>have hY:=G (M6.out (.inl hs))
 case' inr.inl=>have hY:=G (M6.out (.inr (.inl h1)))
 case' inr.inr.inl=>
  have hY:=G (M6.out (.inr (.inr h2)));have Ns:¬op<1:=by omega
 case inl|inr.inl|inr.inr.inl=>
  rw[hs]at c1;clear M6 Fs hs;have hU:=G (WO.out _ HS.out.box);have FI:=G (Lb.out _ HS.out.box);have FR:=G (La.out _ HS.out.old);go_wp2_with (first|((with_reducible refine jM 63 ?_);refine jX rfl 63 rfl _ (Wj.out _) ?_)|((with_reducible refine jF 63 (.tmp 4) (.tmp 26) ?_);refine jQ1 rfl 63 (.tmp 4) (.tmp 26) rfl w.heap.size 0 zeroMR.cells.toArray rfl rfl hU.out NJ.out Wk.out ?_)|fail);refine jD (g:=w.heap.size) (cs:=zeroMR.cells.toArray) rfl rfl FI.out underlying63 rfl V9 rfl ?_;rw[hY.out];exact YD FR.out
 have HD:=G (Fs.out (by rw[hs];intro h;rcases h with h|h|h;cases h;omega;omega));rw[hs]at c1;have Ns:¬op<1:=(by omega);have Nx:¬(12:Int)<op:=(by omega);clear M6 Fs hs;obtain⟨on,rfl⟩:=Int.eq_ofNat_of_zero_le (show 0<=op by omega);rw[jL1]at HD;have Su:=G (show 1<=on/\on<=12 from⟨by omega,by omega⟩);have c0:=HS.out.blk.at_ 0 (v:=.int .i64 n) rfl;have It:=G HS.out.rr.le;clear h1 h2;have Gy:n=0\/(n≠0/\2<on)\/(n≠0/\on<=2/\JD n=true)\/(n≠0/\on<=2/\JD n=false):=by
  by_cases h:n=0
  ·exact .inl h
  ·by_cases h2:2<on
   ·exact .inr (.inl ⟨h,h2⟩)
   ·cases hb:JD n with
    |true=>exact .inr (.inr (.inl ⟨h,by omega,rfl⟩))
    |false=>exact .inr (.inr (.inr ⟨h,by omega,rfl⟩))
 have HA:=G (show∀W,Calls prog 33 #[.int .i64 n] W fun e w' =>e=.returned (.bool (JD n))/\W=w' from fun W=>xl W n);rcases Gy with h0|⟨h0,h2⟩|⟨h0,h2,NW⟩|⟨h0,h2,NW⟩
 case' inr.inr.inr.inl=>
  have b0:(n !=0)=false:=(by simpa using h0);have Hx:=G (show ym on bs (n,s1)=yZ on bs s1 by unfold ym;rw[jJ6 h0]);have Hm0:=G (show Blk W3 P 63 zeroMR.cells.toArray from by have:=HS.out.blk;rw[h0]at this;exact this);have Sy:=G (jBZ on bs s1 It.out.1 Hl.out);have Wn:=G (jEp W3 (w.heap.size+1) P bs on Su.out s1 (fun k=>w.heap.size<=k/\k<=P) (fun k hk=>⟨by have:=hk.1;omega,by have:=hk.2;have:=DT.out;omega⟩) HS.out.rr Hm0.out HS.out.lt (by rw[DT.out]) Hl.out);rw[Hx.out]at HD;generalize yZ on bs s1=RX at*;obtain⟨rep,s2⟩:=RX;clear h0 Hx HA;go_wp2_with fail;refine Wn.out.mono ?_;clear Wn c0 c1;rintro e Wt ⟨rfl,m,hm,OH,CY,BK,TM⟩;simp only at hm BK HD Sy;have Tl:=G (show RpRd w P bs m s2 Wt from⟨HS.out.box.kp TM (fun e=>by have:=HS.out.lt;rcases e with e|e<;>omega),BK,OH,CY,HS.out.old.trans TM (fun b hb e=>by have:=HS.out.lt;rcases e with e|e<;>omega),HS.out.lt⟩);have Hm:=G hm;clear hm OH CY BK TM HS Hm0
 case' inr.inr.inr.inr.inl=>
  have b0:(n !=0)=true:=(by simpa using h0);have g2:¬(on:Int)<=2:=(by omega);have g2n:¬on<=2:=(by omega);have g2m:2<on:=h2;have Hx:=G (show ym on bs (n,s1)=({zeroRep with err:=n},s1)by unfold ym;rw[jJ5 h0,jJ5 (fun h=>by omega)]);rw[Hx.out]at HD;clear h0 h2 Hx HA;go_upto_region 9 with(fail)
 case' inr.inr.inr.inr.inr.inl=>
  have b0:(n !=0)=true:=(by simpa using h0);have g2:(on:Int)<=2:=(by omega);have g2n:on<=2:=h2;have Hx:=G (show ym on bs (n,s1)=({zeroRep with err:=n},s1)by unfold ym;rw[jJ5 h0,jJ5 (fun h=>by rw[NW]at h;cases h.2)]);rw[Hx.out]at HD;rw[NW]at HA;clear h0 h2 Hx NW;go_wp2_with fail;refine(HA.out _).mono ?_;rintro e Wz ⟨rfl,rfl⟩;clear HA;go_upto_region 9 with(fail)
 case' inr.inr.inr.inr.inl|inr.inr.inr.inr.inr.inl=>
  have Sy:=G (show((({zeroRep with err:=n}:Rep)).hap.flatMap zM).length<=9000000000 by show(([]:List MHap).flatMap zM).length<=_;simp);have Tl:=HS;have Hm:=G (show(({zeroMR with err:=n}:MReply)).data=({zeroRep with err:=n}:Rep)from rfl);generalize (({zeroRep with err:=n}:Rep))=rep at*;generalize (({zeroMR with err:=n}:MReply))=m at*;clear HS c1 c0;generalize W3=Wt at*;generalize s1=s2 at*
 case' inr.inr.inr.inr.inr.inr=>
  have b0:(n !=0)=true:=(by simpa using h0);have g2:(on:Int)<=2:=(by omega);have g2n:on<=2:=h2;have Hx:=G (show ym on bs (n,s1)=({zeroRep with err:=n,pa:=(numL bs 4 s1).1,pb:=(numL bs 4 (numL bs 4 s1).2).1,pc:=(numL bs 4 (numL bs 4 (numL bs 4 s1).2).2).1},(numL bs 4 (numL bs 4 (numL bs 4 s1).2).2).2)by unfold ym;rw[jJ5 h0,jJ6 ⟨h2,NW⟩]);rw[Hx.out]at HD;rw[NW]at HA;clear h0 h2 Hx NW;go_wp2_with fail;refine(HA.out _).mono ?_;rintro e Wz ⟨rfl,rfl⟩;clear HA;have HN:=G (fun W s (h:Lr W (w.heap.size+1) bs s)=>kz W (w.heap.size+1) bs 4 s h (by decide));go_wp2_with fail;refine(HN.out _ _ HS.out.rr).mono ?_;generalize numL bs 4 s1=q1 at*;obtain⟨pa,s3⟩:=q1;rintro e w4 ⟨rfl,hr,hk⟩;simp only at HD hr⊢;replace HS:=G (HS.out.step hr hk);clear hr hk c0 c1;go_wp2_with fail;refine(HN.out _ _ HS.out.rr).mono ?_;generalize numL bs 4 s3=q2 at*;obtain⟨pb,s4⟩:=q2;rintro e w5 ⟨rfl,hr,hk⟩;simp only at HD hr⊢;replace HS:=G (HS.out.step hr hk);clear hr hk;go_wp2_with fail;refine(HN.out _ _ HS.out.rr).mono ?_;generalize numL bs 4 s4=q3 at*;obtain⟨pc,s2⟩:=q3;rintro e w6 ⟨rfl,hr,hk⟩;simp only at HD hr⊢;replace HS:=G (HS.out.step hr hk);clear hr hk HN;have GB:=G (Kp.setCells P 1 [.int .i64 pa,.int .i64 pb,.int .i64 pc] w6);have Tl:=G (show RpRd w P bs {zeroMR with err:=n,pa:=pa,pb:=pb,pc:=pc} s2 (w6.setCells P 1 [.int .i64 pa,.int .i64 pb,.int .i64 pc])from
   ⟨HS.out.box.kp GB.out (fun e=>by have h1:w.heap.size=P:=e;have:=HS.out.lt;omega),HS.out.rr.kp GB.out (fun b hb e=>by have h1:b=P:=e;have:=HS.out.lt;omega),HS.out.blk.rPlace pa pb pc,ZR _ _ n pa pb pc,HS.out.old.trans GB.out (fun b hb e=>by have h1:b=P:=e;have:=HS.out.lt;omega),HS.out.lt⟩)
  have hU:=G (HS.out.blk.there 1 ([.int .i64 pa,.int .i64 pb,.int .i64 pc]:List Value).toArray.size (by rw[jJ8,jJ8,show(MReply.cells {zeroMR with err:=n}).length=256 from(ZR w6 NoX n 0 0 0).len];show 1+3<=256;decide));have Sy:=G (show((({zeroRep with err:=n,pa:=pa,pb:=pb,pc:=pc}:Rep)).hap.flatMap zM).length<=9000000000 by show(([]:List MHap).flatMap zM).length<=_;simp);have Hm:=G (show(({zeroMR with err:=n,pa:=pa,pb:=pb,pc:=pc}:MReply)).data=({zeroRep with err:=n,pa:=pa,pb:=pb,pc:=pc}:Rep)from rfl);generalize (({zeroRep with err:=n,pa:=pa,pb:=pb,pc:=pc}:Rep))=rep at*;generalize (({zeroMR with err:=n,pa:=pa,pb:=pb,pc:=pc}:MReply))=m at*;clear HS GB;go_upto_region 9 with(first|((with_reducible refine jF 37 (.tmp 45) (.tmp 44) ?_);refine jQ1 rfl 37 (.tmp 45) (.tmp 44) rfl P 1 ([.int .i64 pa,.int .i64 pb,.int .i64 pc]:List Value).toArray rfl rfl hU.out (by kernel_rfl) (jR rfl) ?_)|fail);clear hU;generalize w6.setCells _ _ _=Wt at*
 all_goals
  have DL:=G (show m.cells.length=256 from Tl.out.ok.len);have HS:=Tl;have c1:Wt.cell? ⟨w.heap.size+1,1,none⟩=some (.bool s2.short):=by
   obtain⟨A0,c0,hb,_⟩:=Tl.out.rr;exact hb.at_ 1 (v:=.bool s2.short) rfl
  unfold jBd at HD;simp only at HD;cases Nw:s2.short with
  |true=>
   rw[Nw]at c1;have hY:=G (show D=none by rw[HD.out,jJ5 (fun h=>by rw[Nw]at h;cases h.1)]);clear Nw HD;have hU:=G (WO.out _ HS.out.box);have FI:=G (Lb.out _ HS.out.box);have FR:=G (La.out _ HS.out.old);go_wp2_with (first|((with_reducible refine jM 63 ?_);refine jX rfl 63 rfl _ (Wj.out _) ?_)|((with_reducible refine jF 63 (.tmp 4) (.tmp 61) ?_);refine jQ1 rfl 63 (.tmp 4) (.tmp 61) rfl w.heap.size 0 zeroMR.cells.toArray rfl rfl hU.out NJ.out Wk.out ?_)|fail);refine jD (g:=w.heap.size) (cs:=zeroMR.cells.toArray) rfl rfl FI.out underlying63 rfl V9 rfl ?_;rw[hY.out];exact YD FR.out
  |false=>
  rw[Nw]at c1;have FB:=G (show D=if vr (on:Int) rep=some bs then some rep else none by rw[HD.out,Nw];simp only[true_and]);have Fn:=G Tl.out.blk.range;have NZ:=G (show(prog.info? 63).map (·.size)=some m.cells.length by rw[DL.out];exact kj);have IT:=G (jAH Wt (on:Int) m _ Tl.out.ok (by have h:=Sy.out;rw[<-Hm.out]at h;exact h));rw[Hm.out]at IT;clear Nw HD Tl;go_wp2_with (first|((with_reducible refine jT 63 (.tmp 7) ?_);refine jK rfl 63 (.tmp 7) rfl P 0 rfl m.cells _ Fn.out underlying63 rfl NZ.out ?_)|((with_reducible refine ji 63 (.tmp 7) ?_);refine jK rfl 63 (.tmp 7) rfl P 0 rfl m.cells _ Fn.out underlying63 rfl NZ.out ?_)|fail);refine IT.out.mono ?_;clear IT c1 Fn;have Z6:=G (Fy.out.old HS.out.old);rintro e wA (⟨l,A6,c6,e1,Ff,rfl,hr,ho⟩|⟨e1,rfl,ho⟩)
  ·obtain⟨g6,rfl,_⟩:=hr.some_ Ff;have HC:=G (jBJ wA g6 0 A c6 c l bs hr.rd (Z6.out.old ho) (by have:=uE e1;omega));have E1:=G e1;replace HS:=G (HS.out.still ho);clear e1 Ff hr ho Z6;go_wp2_with fail;refine HC.out.mono ?_;clear HC;rintro e wB ⟨rfl,GZ⟩;replace HS:=G (HS.out.still GZ);clear GZ;by_cases Gw:l=bs
   ·have RL:=G (show D=some rep by rw[FB.out,E1.out,Gw,jJ6 rfl]);rw[jK5 Gw];clear Gw E1 FB;have DK:=G (show zeroMR.cells.length=m.cells.length by rw[T5.out,DL.out]);have Lc:=G (MReply.one m);have hU:=G (HS.out.box.there 0 m.cells.toArray.size (by rw[jJ8,jJ8,DK.out];omega));have FI:=G (HS.out.box.setWhole m.cells DK.out);have FR:=G (HS.out.old.trans (Kp.setCells w.heap.size 0 m.cells wB) (fun b hb e=>by omega));have HOf:=G (HS.out.ok.turn (X' :=NoX) (Kp.setCells w.heap.size 0 m.cells wB) (fun b _ e=>by have h1:b=w.heap.size:=e;have:=HS.out.lt;exact⟨by omega,by omega⟩) (fun _ _ f=>f.elim));have Fn:=G HS.out.blk.range;go_wp2_with (first|((with_reducible refine jT 63 (.tmp 7) ?_);refine jK rfl 63 (.tmp 7) rfl P 0 rfl m.cells _ Fn.out underlying63 rfl NZ.out ?_)|((with_reducible refine jF 63 (.tmp 4) (.tmp 62) ?_);refine jQ1 rfl 63 (.tmp 4) (.tmp 62) rfl w.heap.size 0 m.cells.toArray rfl rfl hU.out NZ.out Lc.out ?_)|fail);refine jD (g:=w.heap.size) (cs:=m.cells.toArray) rfl rfl FI.out underlying63 rfl (by rw[jJ8];exact NZ.out) rfl ?_;exact⟨m,by rw[RL.out];exact Hm.out,by rw[RL.out];rfl,HOf.out,FR.out⟩
   ·have hY:=G (show D=none by rw[FB.out,E1.out,jJ5 (fun h=>Gw (jL5 h))]);rw[jK3 Gw];clear Gw E1 FB;have hU:=G (WO.out _ HS.out.box);have FI:=G (Lb.out _ HS.out.box);have FR:=G (La.out _ HS.out.old);go_wp2_with (first|((with_reducible refine jM 63 ?_);refine jX rfl 63 rfl _ (Wj.out _) ?_)|((with_reducible refine jF 63 (.tmp 4) (.tmp 61) ?_);refine jQ1 rfl 63 (.tmp 4) (.tmp 61) rfl w.heap.size 0 zeroMR.cells.toArray rfl rfl hU.out NJ.out Wk.out ?_)|fail);refine jD (g:=w.heap.size) (cs:=zeroMR.cells.toArray) rfl rfl FI.out underlying63 rfl V9 rfl ?_;rw[hY.out];exact YD FR.out
  ·have HC:=G (jDK wA A c bs.length);have hY:=G (show D=none by rw[FB.out,e1];rfl);replace HS:=G (HS.out.still ho);clear e1 ho Z6 FB;go_wp2_with fail;refine HC.out.mono ?_;clear HC;rintro e wB ⟨rfl,GZ⟩;replace HS:=G (HS.out.still GZ);clear GZ;have hU:=G (WO.out _ HS.out.box);have FI:=G (Lb.out _ HS.out.box);have FR:=G (La.out _ HS.out.old);go_wp2_with (first|((with_reducible refine jM 63 ?_);refine jX rfl 63 rfl _ (Wj.out _) ?_)|((with_reducible refine jF 63 (.tmp 4) (.tmp 61) ?_);refine jQ1 rfl 63 (.tmp 4) (.tmp 61) rfl w.heap.size 0 zeroMR.cells.toArray rfl rfl hU.out NJ.out Wk.out ?_)|fail);refine jD (g:=w.heap.size) (cs:=zeroMR.cells.toArray) rfl rfl FI.out underlying63 rfl V9 rfl ?_;rw[hY.out];exact YD FR.out
section
variable{bs:LB}{s:Rs}{l:Ls}
theorem jEm(hb:bs.length<=4194304)(h:Ag bs s l):Ag bs (jt bs 4194304 s).2 (ke bs l).2/\((jt bs 4194304 s).2.why=0->(jt bs 4194304 s).1=sb (ke bs l).1):=by
 rcases h.cases with⟨p,rfl,rfl,hp⟩|⟨hw,hs⟩
 ·by_cases hm:p+4+jq ((bs.drop p).take 4)<=bs.length
  ·have e1:jt bs 4194304 ⟨p,0⟩=((bs.drop (p+4)).take (jq ((bs.drop p).take 4)),⟨p+4+jq ((bs.drop p).take 4),0⟩):=by
    generalize hn:jq ((bs.drop p).take 4)=n at*;have h1:¬bs.length<p+4:=(by omega);have h2:¬min (4194304:Int) 2147483647<(n:Int):=(by omega);have h3:¬bs.length<p+4+n:=(by omega);simp only[jt,hn,jJ5 h1,jJ5 h2,jJ5 h3];simp
   have e4:=jC4 (bs:=bs) p _ rfl hm;rw[e1,e4];exact⟨ZH hm,fun _=>rfl⟩
  ·have e1:=jCW (bs:=bs) p _ rfl (Nat.lt_of_not_le hm);have e4:=jC5 (bs:=bs) p _ rfl (Nat.lt_of_not_le hm);exact⟨zk e1 e4,fun h=>absurd h e1⟩
 ·have e1:(jt bs 4194304 s).2.why≠0:=by
   rw[jt,jJ6 hw];exact hw
  have e2:(lowL bs 4 l).2.short=true:=yb _ hs;have e4:(ke bs l).2.short=true:=by rw[ke];exact yb _ e2
  exact⟨zk e1 e4,fun h=>absurd h e1⟩
theorem ZV(hb:bs.length<=4194304)(h:Ag bs s l):Ag bs (js bs s).2 (ke bs l).2/\((js bs s).2.why=0->(js bs s).1=(ke bs l).1):=by
 have h1:=jEm hb h;refine⟨h1.1,fun hz=> ?_⟩;have:=h1.2 hz;unfold js;simp only;rw[this,qf]
theorem Ag.bad(h:Ag bs s l)(hw:s.why≠0):l.short=true:=by
 cases hs:l.short
 ·exact absurd (h.ok.2 hs) hw
 ·rfl
theorem jIu(h:Ag bs s l):Ag bs (vE bs 32 s).2 (jZ bs 32 l).2/\((vE bs 32 s).2.why=0->(vE bs 32 s).1=(jZ bs 32 l).1):=by
 rcases h.cases with⟨p,rfl,rfl,hp⟩|⟨hw,hs⟩
 ·by_cases hl:p+32<=bs.length
  ·have e1:vE bs 32 ⟨p,0⟩=((bs.drop p).take 32,⟨p+32,0⟩):=by
    simp only[vE];rw[jJ5 (by simp),jJ5 (by omega)];rfl
   have e2:jZ bs 32 ⟨p,false⟩=((bs.drop p).take 32,⟨p+32,false⟩):=(by rw[jZ,jJ5 (by simp only;omega)]);rw[e1,e2];exact⟨ZH hl,fun _=>rfl⟩
  ·have e1:(vE bs 32 ⟨p,0⟩).2.why≠0:=by
    simp only[vE];rw[jJ5 (by simp),jJ6 (by omega)];simp
   have e2:(jZ bs 32 ⟨p,false⟩).2.short=true:=(by rw[jZ,jJ6 (by simp only;omega)]);exact⟨zk e1 e2,fun h=>absurd h e1⟩
 ·have e1:(vE bs 32 s).2.why≠0:=by
   rw[vE,jJ6 hw];exact hw
  exact⟨zk e1 (yb _ hs),fun h=>absurd h e1⟩
theorem ZA(n:Nat):∀(s:Rs) (acc:List MHap),s.why≠0->(vW bs n s acc).2.why≠0:=by
 induction n with
 |zero=>intro s acc h;exact h
 |succ n ih=>
  intro s acc h;refine ih _ _ ?_;have e1:tkN bs 1 s=(0,s):=(by rw[tkN,jJ6 h]);show(jt bs 4194304 (tkN bs 1 s).2).2.why≠0;rw[e1,jt,jJ6 h];exact h
theorem qk(n:Nat):∀(l:Ls) (acc:List MHap),l.short=true->(zl bs n l acc).2.short=true:=by
 cases n with
 |zero=>intro l acc h;exact h
 |succ n=>intro l acc h;rw[zl,jJ6 h];exact h
theorem jHx(h:Ag bs s l):Ag bs (tkN bs 1 s).2 (numL bs 1 l).2/\((tkN bs 1 s).2.why=0->((tkN bs 1 s).1:Int)=(numL bs 1 l).1):=by
 obtain⟨h1,h2,_⟩:=YL 1 h;obtain⟨e,_⟩:=VV bs 1 l (by decide);rw[e];exact⟨h1,fun hz=>by rw[h2 hz]⟩
theorem jIB(hb:bs.length<=4194304)(n:Nat):∀(s:Rs) (l:Ls) (acc:List MHap),Ag bs s l->Ag bs (vW bs n s acc).2 (zl bs n l acc).2/\((vW bs n s acc).2.why=0->(vW bs n s acc).1=(zl bs n l acc).1):=by
 induction n with
 |zero=>intro s l acc h;exact⟨h,fun _=>rfl⟩
 |succ n ih=>
  intro s l acc h;by_cases hw:s.why=0
  ·have hs:=h.ok.1 hw;have h1:=jHx h;have h2:=ZV hb h1.1;rw[vW,zl,jJ5 (by rw[hs];decide)];by_cases hv:(js bs (tkN bs 1 s).2).2.why=0
   ·have RE:(tkN bs 1 s).2.why=0:=Classical.byContradiction fun hn=>by
     have:(js bs (tkN bs 1 s).2).2=(tkN bs 1 s).2:=by show(jt bs 4194304 (tkN bs 1 s).2).2=_;rw[jt,jJ6 hn]
     rw[this]at hv;exact hn hv
    rw[h2.2 hv,h1.2 RE];exact ih _ _ _ h2.1
   ·have b1:=ZA (bs:=bs) n _ (acc++[⟨(tkN bs 1 s).1,(js bs (tkN bs 1 s).2).1⟩]) hv;exact⟨zk b1 (qk n _ _ (h2.1.bad hv)),fun h=>absurd h b1⟩
  ·have b1:=ZA (bs:=bs) (n+1) s acc hw;exact⟨zk b1 (qk _ _ _ (h.bad hw)),fun h=>absurd h b1⟩
theorem QF(h:s.why≠0):(js bs s).2.why≠0:=by
 show(jt bs 4194304 s).2.why≠0;rw[jt,jJ6 h];exact h
theorem JX(n:Nat):∀(s:Rs) (acc:List BA),s.why≠0->(ki bs n s acc).2.why≠0:=by
 induction n with
 |zero=>intro s acc h;exact h
 |succ n ih=>intro s acc h;exact ih _ _ (QF h)
theorem Jx(n:Nat):∀(l:Ls) (acc:List BA),l.short=true->(zU bs n l acc).2.short=true:=by
 cases n with
 |zero=>intro l acc h;exact h
 |succ n=>intro l acc h;rw[zU,jJ6 h];exact h
theorem jFH(hb:bs.length<=4194304)(n:Nat):∀(s:Rs) (l:Ls) (acc:List BA),Ag bs s l->Ag bs (ki bs n s acc).2 (zU bs n l acc).2/\((ki bs n s acc).2.why=0->(ki bs n s acc).1=(zU bs n l acc).1):=by
 induction n with
 |zero=>intro s l acc h;exact⟨h,fun _=>rfl⟩
 |succ n ih=>
  intro s l acc h;by_cases hw:s.why=0
  ·have hs:=h.ok.1 hw;have h2:=ZV hb h;rw[ki,zU,jJ5 (by rw[hs];decide)];by_cases hv:(js bs s).2.why=0
   ·rw[h2.2 hv];exact ih _ _ _ h2.1
   ·have b1:=JX (bs:=bs) n _ (acc++[(js bs s).1]) hv;exact⟨zk b1 (Jx n _ _ (h2.1.bad hv)),fun h=>absurd h b1⟩
  ·have b1:=JX (bs:=bs) (n+1) s acc hw;exact⟨zk b1 (Jx _ _ _ (h.bad hw)),fun h=>absurd h b1⟩
theorem Yh(k:Nat)(h:s.why≠0):(tkN bs k s).2.why≠0:=by rw[tkN,jJ6 h];exact h
theorem qg(hb:bs.length<=4194304)(h:Ag bs s l):Ag bs (jr bs s).2 (YM bs l).2/\((jr bs s).2.why=0->(jr bs s).1=(YM bs l).1):=by
 have h1:=YL 1 h;unfold jr YM;by_cases hv:(tkN bs 1 s).2.why=0
 ·rw[h1.2.1 hv];exact jFH hb _ _ _ _ h1.1
 ·have b1:=JX (bs:=bs) (tkN bs 1 s).1 _ [] hv;exact⟨zk b1 (Jx _ _ _ (h1.1.bad hv)),fun h=>absurd h b1⟩
theorem VY(h:s.why≠0):(jr bs s).2.why≠0:=JX _ _ _ (Yh 1 h)
theorem Vg(n:Nat):∀(s:Rs) (acc:List (BA×Val)),s.why≠0->(kK bs n s acc).2.why≠0:=by
 induction n with
 |zero=>intro s acc h;exact h
 |succ n ih=>intro s acc h;exact ih _ _ (JZ _ (QF h))
theorem ZT(n:Nat):∀(l:Ls) (acc:List (BA×Val)),l.short=true->(zg bs n l acc).2.short=true:=by
 cases n with
 |zero=>intro l acc h;exact h
 |succ n=>intro l acc h;rw[zg,jJ6 h];exact h
theorem jG2(hb:bs.length<=4194304)(n:Nat):∀(s:Rs) (l:Ls) (acc:List (BA×Val)),Ag bs s l->Ag bs (kK bs n s acc).2 (zg bs n l acc).2/\((kK bs n s acc).2.why=0->(kK bs n s acc).1=(zg bs n l acc).1):=by
 induction n with
 |zero=>intro s l acc h;exact⟨h,fun _=>rfl⟩
 |succ n ih=>
  intro s l acc h;by_cases hw:s.why=0
  ·have hs:=h.ok.1 hw;have h1:=ZV hb h;have h2:=jFM h1.1;rw[kK,zg,jJ5 (by rw[hs];decide)];by_cases hv:(jc bs (js bs s).2).2.why=0
   ·have RE:(js bs s).2.why=0:=Classical.byContradiction fun hn=>JZ _ hn hv;rw[h2.2 hv,h1.2 RE];exact ih _ _ _ h2.1
   ·have b1:=Vg (bs:=bs) n _ (acc++[((js bs s).1,(jc bs (js bs s).2).1)]) hv;exact⟨zk b1 (ZT n _ _ (h2.1.bad hv)),fun h=>absurd h b1⟩
  ·have b1:=Vg (bs:=bs) (n+1) s acc hw;exact⟨zk b1 (ZT _ _ _ (h.bad hw)),fun h=>absurd h b1⟩
end
section
variable{bs:LB}{s:Rs}{l:Ls}
theorem jHT(hb:bs.length<=4194304)(h:Ag bs s l)(hz:(Jy bs s).2.why=0):Ag bs (Jy bs s).2 (jEl bs l).2/\(jEl bs l).1={zeroRep with case_:=(Jy bs s).1}:=by
 have a1:=ZV hb h;have a2:=UG a1.1;have a3:=jIu a2.1;have a4:=YL 1 a3.1;have z8:(jr bs (jr bs (jr bs (kK bs (tkN bs 1 (vE bs 32 (yp bs (js bs s).2).2).2).1 (tkN bs 1 (vE bs 32 (yp bs (js bs s).2).2).2).2 []).2).2).2).2.why=0:=hz;have z7:=Classical.byContradiction fun hn=>VY (bs:=bs) hn z8;have z6:=Classical.byContradiction fun hn=>VY (bs:=bs) hn z7;have z5:=Classical.byContradiction fun hn=>VY (bs:=bs) hn z6;have z4:=Classical.byContradiction fun hn=>Vg (bs:=bs) _ _ _ hn z5;have z3:=Classical.byContradiction fun hn=>Yh (bs:=bs) 1 hn z4;have z2:(yp bs (js bs s).2).2.why=0:=Classical.byContradiction fun hn=>by
  have:(vE bs 32 (yp bs (js bs s).2).2).2.why≠0:=by rw[vE,jJ6 hn];exact hn
  exact this z3
 have z1:(js bs s).2.why=0:=Classical.byContradiction fun hn=>Yh (bs:=bs) 8 hn z2;have a5:=jG2 hb (tkN bs 1 (vE bs 32 (yp bs (js bs s).2).2).2).1 _ _ [] a4.1;have a6:=qg hb a5.1;have a7:=qg hb a6.1;have a8:=qg hb a7.1;have e:jEl bs l=jEk (js bs s).1 (yp bs (js bs s).2).1 (kq bs (yp bs (js bs s).2).2).1 (kK bs (tkN bs 1 (vE bs 32 (yp bs (js bs s).2).2).2).1 (tkN bs 1 (vE bs 32 (yp bs (js bs s).2).2).2).2 []).1 (jr bs (kK bs (tkN bs 1 (vE bs 32 (yp bs (js bs s).2).2).2).1 (tkN bs 1 (vE bs 32 (yp bs (js bs s).2).2).2).2 []).2).1
   (jr bs (jr bs (kK bs (tkN bs 1 (vE bs 32 (yp bs (js bs s).2).2).2).1 (tkN bs 1 (vE bs 32 (yp bs (js bs s).2).2).2).2 []).2).2).1
   (jr bs (jr bs (jr bs (kK bs (tkN bs 1 (vE bs 32 (yp bs (js bs s).2).2).2).1 (tkN bs 1 (vE bs 32 (yp bs (js bs s).2).2).2).2 []).2).2).2).1
   (YM bs (YM bs (YM bs (zg bs (tkN bs 1 (vE bs 32 (yp bs (js bs s).2).2).2).1 (lowL bs 1 (jZ bs 32 (numL bs 8 (ke bs l).2).2).2).2 []).2).2).2).2:=by
  rw[a8.2 z8,a7.2 z7,a6.2 z6,a5.2 z5,a2.2.1 z2,a1.2 z1];have e3:(kq bs (yp bs (js bs s).2).2).1=if(jZ bs 32 (numL bs 8 (ke bs l).2).2).1=[]then zD else(jZ bs 32 (numL bs 8 (ke bs l).2).2).1:=by
   unfold kq;rw[a3.2 z3]
  rw[e3,a4.2.1 z4];rfl
 rw[e];exact⟨a8.1,rfl⟩
theorem jDh(h:Ag bs s l)(hz:s.why=0):(jv bs s).1=bs.drop l.at_ /\((jv bs s).2.why=0):=by
 have e:=h.at_ hz;have Fu:=h.le hz;unfold jv vE;rw[jJ5 (by simp[hz]),jJ5 (by omega)];refine⟨?_,rfl⟩;simp only[jL1];rw[<-e];exact jK4 (by rw[jK8];omega)
theorem jEW(h:Ag bs s l)(hz:(jw bs s).2.why=0):Ag bs (jw bs s).2 (numL bs 1 l).2/\(jw bs s).1=decide ((numL bs 1 l).1=1):=by
 rcases h.cases with⟨p,rfl,rfl,hp⟩|⟨hw,hs⟩
 ·unfold jw at hz⊢;rw[jJ5 (by simp)]at hz⊢;by_cases hc:bs.length<p+1\/1<jq ((bs.drop p).take 1)
  ·simp only at hz;rw[jJ6 hc]at hz;cases hz
  ·simp only;rw[jJ5 hc];have e2:jZ bs 1 ⟨p,false⟩=((bs.drop p).take 1,⟨p+1,false⟩):=(by rw[jZ,jJ5 (by simp only;omega)]);have e3:numL bs 1 ⟨p,false⟩=((jq ((bs.drop p).take 1):Int),⟨p+1,false⟩):=by
    rw[(VV bs 1 _ (by decide)).1,lowL,e2]
   rw[e3];refine⟨ZH (by omega),?_⟩;simp only;rw[Bool.eq_iff_iff];simp;omega
 ·rw[jw,jJ6 hw]at hz;exact absurd hz hw
theorem jJG(hb:bs.length<=4194304)(h:Ag bs s l)(hs:s.why=0){op:Nat}{x:Rep×Rs}(hx:zw bs op s=some x)(hz:x.2.why=0):(yZ op bs l).1=x.1/\(yZ op bs l).2.short=false:=by
 have hl:=h.ok.1 hs;obtain⟨r1,r2⟩:=jDh h hs;unfold zw at hx;unfold yZ;by_cases h1:op=1\/op=2
 ·rw[jJ6 h1]at hx⊢;obtain rfl:=jL5 hx;unfold KZ at hz⊢;simp only at hz⊢;have a1:=UG h;have a2:=YL 2 a1.1;have a3:=jIB hb (tkN bs 2 (yp bs s).2).1 _ _ [] a2.1;have z2:(tkN bs 2 (yp bs s).2).2.why=0:=Classical.byContradiction fun hn=>ZA (bs:=bs) _ _ _ hn hz;have z1:(yp bs s).2.why=0:=Classical.byContradiction fun hn=>Yh (bs:=bs) 2 hn z2;unfold jIC jB2;simp only;rw[<-a2.2.1 z2,<-a1.2.1 z1,<-a3.2 hz];exact⟨rfl,a3.1.ok.1 hz⟩
 rw[jJ5 h1]at hx⊢;by_cases h3:op=3
 ·rw[jJ6 h3]at hx⊢;obtain rfl:=jL5 hx;have a:=jHT hb h hz;exact⟨a.2,a.1.ok.1 hz⟩
 rw[jJ5 h3]at hx⊢;by_cases h4:op=4
 ·rw[jJ6 h4]at hx⊢;obtain rfl:=jL5 hx;simp only;rw[r1];exact⟨rfl,hl⟩
 rw[jJ5 h4]at hx⊢;by_cases h5:op=5
 ·rw[jJ6 h5]at hx⊢;obtain rfl:=jL5 hx;have a1:=UG h;simp only at hz⊢;rw[<-a1.2.1 hz];exact⟨rfl,a1.1.ok.1 hz⟩
 rw[jJ5 h5]at hx⊢;by_cases h6:op=6
 ·rw[jJ6 h6,r1]at hx;rw[jJ6 h6];cases hd:jn (bs.drop l.at_)with
  |none=>rw[hd]at hx;cases hx
  |some y=>
   rw[hd]at hx;obtain rfl:=jL5 hx;exact⟨rfl,hl⟩
 rw[jJ5 h6]at hx⊢;by_cases h7:op=7
 ·rw[jJ6 h7]at hx⊢;by_cases hf:(jw bs s).1=true
  ·rw[jJ6 hf]at hx;have AR:(jw bs s).2.why=0:=by
    unfold jw at hf⊢;rw[jJ5 (by simp[hs])]at hf⊢;by_cases hc:bs.length<s.at_ +1\/1<jq ((bs.drop s.at_).take 1)
    ·rw[jJ6 hc]at hf;cases hf
    ·rw[jJ5 hc]
   have a:=jEW h AR;obtain⟨q1,q2⟩:=jDh a.1 AR;rw[q1]at hx;rw[a.2]at hf;rw[jJ6 (of_decide_eq_true hf)];cases hd:jn (bs.drop (numL bs 1 l).2.at_)with
   |none=>rw[hd]at hx;cases hx
   |some y=>
    rw[hd]at hx;obtain rfl:=jL5 hx;exact⟨rfl,a.1.ok.1 AR⟩
  ·rw[jJ5 hf]at hx;obtain rfl:=jL5 hx;have a:=jEW h hz;rw[a.2]at hf;rw[jJ5 (fun h=>hf (jK5 h))];exact⟨rfl,a.1.ok.1 hz⟩
 rw[jJ5 h7]at hx⊢;by_cases h8:op=8
 ·rw[jJ6 h8,r1]at hx;rw[jJ6 h8];cases hd:ve (bs.drop l.at_)with
  |none=>rw[hd]at hx;cases hx
  |some y=>
   rw[hd]at hx;obtain rfl:=jL5 hx;exact⟨rfl,hl⟩
 rw[jJ5 h8]at hx⊢;by_cases h9:op=9
 ·rw[jJ6 h9,r1]at hx;rw[jJ6 h9];cases hd:vf (bs.drop l.at_)with
  |none=>rw[hd]at hx;cases hx
  |some y=>
   rw[hd]at hx;obtain rfl:=jL5 hx;exact⟨rfl,hl⟩
 rw[jJ5 h9]at hx⊢;by_cases NY:op=10
 ·rw[jJ6 NY,r1]at hx;rw[jJ6 NY];cases hd:kr (bs.drop l.at_)with
  |none=>rw[hd]at hx;cases hx
  |some y=>
   rw[hd]at hx;obtain rfl:=jL5 hx;exact⟨rfl,hl⟩
 rw[jJ5 NY]at hx⊢;by_cases NX:op=11
 ·rw[jJ6 NX,r1]at hx;rw[jJ6 NX];cases hd:kX (bs.drop l.at_)with
  |none=>rw[hd]at hx;cases hx
  |some y=>
   rw[hd]at hx;obtain rfl:=jL5 hx;exact⟨rfl,hl⟩
 rw[jJ5 NX]at hx⊢;obtain rfl:=jL5 hx;exact⟨rfl,hl⟩
end
theorem Qx{bs:LB}{s:Rs}(h:vi bs s=0):s.why=0:=UV h
theorem jHi{op:Int}{bs:LB}{y:Rep}(h:yu op bs=some y):qT op bs=some y:=by
 have Dw:=qt h;unfold yu at h;by_cases hc:1<=op/\op<=12/\bs.length<=4194304
 case neg=>rw[jJ5 hc]at h;cases h
 rw[jJ6 hc]at h;obtain⟨h1,h2,hb⟩:=hc;have a:=YL 2 (ZH (bs:=bs) (Nat.zero_le _));obtain⟨e,_⟩:=VV bs 2 ⟨0,false⟩ (by decide);unfold qT;rw[e];generalize tkN bs 2 ⟨0,0⟩=t at*;generalize lowL bs 2 ⟨0,false⟩=u at*;obtain⟨a1,a2,_⟩:=a;unfold VE at h;by_cases hw:t.2.why=0
 case neg=>rw[jJ6 hw]at h;cases h
 rw[jJ5 (fun hn=>hn hw)]at h;have hu:=a1.ok.1 hw;have key:(ym op.toNat bs ((u.1:Int),u.2)).1=y/\(ym op.toNat bs ((u.1:Int),u.2)).2.short=false:=by
  rw[<-a2 hw];unfold ym;by_cases h0:t.1=0
  ·rw[jJ6 h0]at h;rw[jJ6 (by simp[h0])];cases hx:zw bs op.toNat t.2 with
   |none=>rw[hx]at h;cases h
   |some x=>
    rw[hx]at h;simp only[jL2]at h;unfold KG at h;split at h
    ·rename_i hd;obtain rfl:=jL5 h;exact jJG hb a1 hw hx (Qx hd)
    ·cases h
  ·rw[jJ5 h0]at h;rw[jJ5 (by simpa using h0)];by_cases hp:op.toNat<=2/\JD t.1=false
   ·rw[jJ6 hp]at h;rw[jJ6 hp];unfold KG at h;split at h
    ·rename_i hd;have z3:=Qx hd;have z2:=Classical.byContradiction fun hn=>Yh (bs:=bs) 4 hn z3;have z1:=Classical.byContradiction fun hn=>Yh (bs:=bs) 4 hn z2;have b1:=YL 4 a1;have b2:=YL 4 b1.1;have b3:=YL 4 b2.1;simp only[(VV bs 4 _ (by decide)).1];obtain rfl:=jL5 h;refine⟨?_,b3.1.ok.1 z3⟩;rw[b1.2.1 z1,b2.2.1 z2,b3.2.1 z3]
    ·cases h
   ·rw[jJ5 hp]at h;rw[jJ5 hp];unfold KG at h;split at h
    ·obtain rfl:=jL5 h;exact⟨rfl,hu⟩
    ·cases h
 unfold xi;rw[jJ5 (by intro hn;rcases hn with hn|hn|hn;rw[hu]at hn;cases hn;omega;omega)];unfold jBd;rw[key.1,jJ6 ⟨key.2,Dw⟩]
theorem zeroRep_ok:RepOk zeroRep:=(jI default NoX).rep
theorem jJj(n:Int)(h:List MHap):RepOk {zeroRep with number:=n,hap:=h}:=⟨zeroRep_ok.chain,zeroRep_ok.head,zeroRep_ok.inc,zeroRep_ok.con,zeroRep_ok.idx,zeroRep_ok.before,zeroRep_ok.pfs⟩
theorem jJm(c:Cas)(h:c.chain.length=32):RepOk {zeroRep with case_:=c}:=⟨h,zeroRep_ok.head,zeroRep_ok.inc,zeroRep_ok.con,zeroRep_ok.idx,zeroRep_ok.before,zeroRep_ok.pfs⟩
theorem jJf(r:LB):RepOk {zeroRep with raw:=r}:=⟨zeroRep_ok.chain,zeroRep_ok.head,zeroRep_ok.inc,zeroRep_ok.con,zeroRep_ok.idx,zeroRep_ok.before,zeroRep_ok.pfs⟩
theorem jI1(n:Int):RepOk {zeroRep with size:=n}:=⟨zeroRep_ok.chain,zeroRep_ok.head,zeroRep_ok.inc,zeroRep_ok.con,zeroRep_ok.idx,zeroRep_ok.before,zeroRep_ok.pfs⟩
theorem jJk(n a b c:Int):RepOk {zeroRep with err:=n,pa:=a,pb:=b,pc:=c}:=⟨zeroRep_ok.chain,zeroRep_ok.head,zeroRep_ok.inc,zeroRep_ok.con,zeroRep_ok.idx,zeroRep_ok.before,zeroRep_ok.pfs⟩
theorem jI2(n:Int):RepOk {zeroRep with err:=n}:=⟨zeroRep_ok.chain,zeroRep_ok.head,zeroRep_ok.inc,zeroRep_ok.con,zeroRep_ok.idx,zeroRep_ok.before,zeroRep_ok.pfs⟩
theorem jHG(h:Hd)(s:List Sgn)(hk:h.Ok):RepOk {zeroRep with head:=h,signs:=s}:=⟨zeroRep_ok.chain,hk,zeroRep_ok.inc,zeroRep_ok.con,zeroRep_ok.idx,zeroRep_ok.before,zeroRep_ok.pfs⟩
theorem jJh(x:Way)(h:Dgs x.ds):RepOk {zeroRep with inc:=x}:=⟨zeroRep_ok.chain,zeroRep_ok.head,h,zeroRep_ok.con,zeroRep_ok.idx,zeroRep_ok.before,zeroRep_ok.pfs⟩
theorem jJl(x:Way)(h:Dgs x.ds):RepOk {zeroRep with con:=x}:=⟨zeroRep_ok.chain,zeroRep_ok.head,zeroRep_ok.inc,h,zeroRep_ok.idx,zeroRep_ok.before,zeroRep_ok.pfs⟩
theorem jJi(x:Idx)(h:x.Ok):RepOk {zeroRep with idx:=x}:=⟨zeroRep_ok.chain,zeroRep_ok.head,zeroRep_ok.inc,zeroRep_ok.con,h,zeroRep_ok.before,zeroRep_ok.pfs⟩
theorem jJg(x:Pie)(h:x.before.length=32/\∀q∈x.pfs,Dgs q.ds):RepOk {zeroRep with pie:=x}:=⟨zeroRep_ok.chain,zeroRep_ok.head,zeroRep_ok.inc,zeroRep_ok.con,zeroRep_ok.idx,h.1,h.2⟩
theorem jIJ(bs:LB)(l:Ls):RepOk (jEl bs l).1:=by
 unfold jEl jEi jGq jGs jGr jGw jGv jGu jGt jEk;exact jJm _ (vw bs (numL bs 8 (ke bs l).2).2)
theorem jAW(b:LB):((jn b).getD (zeroHd,[])).1.Ok:=by
 cases hd:jn b with
 |none=>exact zeroHd_ok
 |some x=>exact(uF hd).1
theorem jH4(b:LB):Dgs ((ve b).getD ⟨0,0,[]⟩).ds:=by
 cases hd:ve b with
 |none=>intro d hd;cases hd
 |some x=>exact uT hd
theorem jIG(b:LB):Dgs ((vf b).getD ⟨0,0,[]⟩).ds:=by
 cases hd:vf b with
 |none=>intro d hd;cases hd
 |some x=>exact uT hd
theorem jH9(b:LB):((kr b).getD zeroIdx).Ok:=by
 cases hd:kr b with
 |none=>exact vX
 |some x=>
  have h1:=XA hd;have h2:=jAi h1.1 h1.2.1 h1.2.2 (Vf hd);rw[Option.getD_some,<-h2];exact jEP b
theorem jHw(b:LB):((kX b).getD ⟨⟨#[]⟩,0,zD,[],[]⟩).before.length=32/\∀q∈((kX b).getD ⟨⟨#[]⟩,0,zD,[],[]⟩).pfs,Dgs q.ds:=by
 cases hd:kX b with
 |none=>exact⟨jy,fun q hq=>(by cases hq)⟩
 |some x=>exact Qy hd
theorem jF1(op:Nat)(bs:LB)(l:Ls):RepOk (yZ op bs l).1:=by
 unfold yZ;by_cases h1:op=1\/op=2
 ·rw[jJ6 h1];unfold jIC jB2;exact jJj _ _
 rw[jJ5 h1];by_cases h3:op=3
 ·rw[jJ6 h3];exact jIJ _ _
 rw[jJ5 h3];by_cases h4:op=4
 ·rw[jJ6 h4];exact jJf _
 rw[jJ5 h4];by_cases h5:op=5
 ·rw[jJ6 h5];exact jI1 _
 rw[jJ5 h5];by_cases h6:op=6
 ·rw[jJ6 h6];exact jHG _ _ (jAW _)
 rw[jJ5 h6];by_cases h7:op=7
 ·rw[jJ6 h7];by_cases hk:(numL bs 1 l).1=1
  ·rw[jJ6 hk];exact jHG _ _ (jAW _)
  ·rw[jJ5 hk];exact zeroRep_ok
 rw[jJ5 h7];by_cases h8:op=8
 ·rw[jJ6 h8];exact jJh _ (jH4 _)
 rw[jJ5 h8];by_cases h9:op=9
 ·rw[jJ6 h9];exact jJl _ (jIG _)
 rw[jJ5 h9];by_cases NY:op=10
 ·rw[jJ6 NY];exact jJi _ (jH9 _)
 rw[jJ5 NY];by_cases NX:op=11
 ·rw[jJ6 NX];exact jJg _ (jHw _)
 rw[jJ5 NX];exact zeroRep_ok
theorem jDq(op:Nat)(bs:LB)(e:Int×Ls):RepOk (ym op bs e).1:=by
 unfold ym;by_cases h0:e.1=0
 ·rw[jJ6 h0];exact jF1 _ _ _
 rw[jJ5 h0];by_cases hp:op<=2/\JD e.1=false
 ·rw[jJ6 hp];exact jJk _ _ _ _
 ·rw[jJ5 hp];exact jI2 _
theorem jDj(op:Int)(bs:LB):qT op bs=yu op bs:=by
 cases hd:yu op bs with
 |some y=>exact jHi hd
 |none=>
  cases hr:qT op bs with
  |none=>rfl
  |some x=>
   exfalso;unfold qT xi at hr;split at hr
   ·cases hr
   ·unfold jBd at hr;split at hr
    ·rename_i hc;obtain⟨y,hy,_⟩:=UU (jDq _ _ _) hc.2;rw[hd]at hy;cases hy
    ·cases hr
theorem UY{bs:LB}{x:Pie}(h:kX bs=some x):x.evs.length<=x.pfs.length:=by
 have h1:=Vd h;unfold vR at h1;split at h1
 ·rename_i hk;have h2:=of_decide_eq_true hk;omega
 ·cases h1
theorem jD3(b:LB):((kX b).getD ⟨⟨#[]⟩,0,zD,[],[]⟩).evs.length<=((kX b).getD ⟨⟨#[]⟩,0,zD,[],[]⟩).pfs.length:=by
 cases hd:kX b with
 |none=>exact jL3 _
 |some x=>exact UY hd
def vL(p:Rep):Prop:=p.pie.evs.length<=p.pie.pfs.length
theorem Us:zeroRep.pie.evs=[]:=rfl
theorem QC:vL zeroRep:=by
 unfold vL;rw[Us];exact Nat.zero_le _
theorem JC{p:Rep}(h:p.pie=zeroRep.pie):vL p:=by
 unfold vL;rw[h,Us];exact Nat.zero_le _
theorem jKG(n:Int)(h:List MHap):vL {zeroRep with number:=n,hap:=h}:=JC rfl
theorem jKJ(c:Cas):vL {zeroRep with case_:=c}:=JC rfl
theorem jKC(r:LB):vL {zeroRep with raw:=r}:=JC rfl
theorem jJn(n:Int):vL {zeroRep with size:=n}:=JC rfl
theorem jKH(n a b c:Int):vL {zeroRep with err:=n,pa:=a,pb:=b,pc:=c}:=JC rfl
theorem jJo(n:Int):vL {zeroRep with err:=n}:=JC rfl
theorem jI7(h:Hd)(s:List Sgn):vL {zeroRep with head:=h,signs:=s}:=JC rfl
theorem jKE(x:Way):vL {zeroRep with inc:=x}:=JC rfl
theorem jKI(x:Way):vL {zeroRep with con:=x}:=JC rfl
theorem jKF(x:Idx):vL {zeroRep with idx:=x}:=JC rfl
theorem jKD(x:Pie)(h:x.evs.length<=x.pfs.length):vL {zeroRep with pie:=x}:=h
theorem jEj(bs:LB)(l:Ls):vL (jEl bs l).1:=by
 unfold jEl jEi jGq jGs jGr jGw jGv jGu jGt jEk;exact jKJ _
theorem jBa(op:Nat)(bs:LB)(l:Ls):vL (yZ op bs l).1:=by
 unfold yZ;by_cases h1:op=1\/op=2
 ·rw[jJ6 h1];unfold jIC jB2;exact jKG _ _
 rw[jJ5 h1];by_cases h3:op=3
 ·rw[jJ6 h3];exact jEj _ _
 rw[jJ5 h3];by_cases h4:op=4
 ·rw[jJ6 h4];exact jKC _
 rw[jJ5 h4];by_cases h5:op=5
 ·rw[jJ6 h5];exact jJn _
 rw[jJ5 h5];by_cases h6:op=6
 ·rw[jJ6 h6];exact jI7 _ _
 rw[jJ5 h6];by_cases h7:op=7
 ·rw[jJ6 h7];by_cases hk:(numL bs 1 l).1=1
  ·rw[jJ6 hk];exact jI7 _ _
  ·rw[jJ5 hk];exact QC
 rw[jJ5 h7];by_cases h8:op=8
 ·rw[jJ6 h8];exact jKE _
 rw[jJ5 h8];by_cases h9:op=9
 ·rw[jJ6 h9];exact jKI _
 rw[jJ5 h9];by_cases NY:op=10
 ·rw[jJ6 NY];exact jKF _
 rw[jJ5 NY];by_cases NX:op=11
 ·rw[jJ6 NX];exact jKD _ (jD3 _)
 rw[jJ5 NX];exact QC
theorem Xy(op:Nat)(bs:LB)(e:Int×Ls):vL (ym op bs e).1:=by
 unfold ym;by_cases h0:e.1=0
 ·rw[jJ6 h0];exact jBa _ _ _
 rw[jJ5 h0];by_cases hp:op<=2/\JD e.1=false
 ·rw[jJ6 hp];exact jKH _ _ _ _
 ·rw[jJ5 hp];exact jJo _
theorem UX{op:Int}{bs:LB}{x:Rep}(h:yu op bs=some x):x.pie.evs.length<=x.pie.pfs.length:=by
 rw[<-jDj]at h;unfold qT xi at h;split at h
 ·cases h
 ·unfold jBd at h;split at h
  ·obtain rfl:=jL5 h;exact Xy _ _ _
  ·cases h
theorem jAl:∀l:List MHap,(l.flatMap zM).length<=5*l.length+(l.map (fun v:MHap=>v.name.size)).sum
 |[]=>jL3 _
 |h::r=>by
  have ih:=jAl r;rw[jL9,jJ4,List.map_cons,List.sum_cons,jK6];have:(zM h).length=5+h.name.size:=by
   unfold zM lp;simp only[jJ4,jC,jH];omega
  omega
theorem jA8(m1:MReply){w3 w4:World}{op:Int}{bs:LB}{e:Ending}{b1:Bool}{y1:Int}(Wp:jJW w3 (qT op bs) e w4)(SU:(yu op bs=some m1.data/\y1=0/\b1=true)\/(yu op bs=none/\m1=zeroMR/\y1=240/\b1=false)):
  ∃m2:MReply,e=.returned (.tuple #[.agg m2.cells.toArray,.bool b1])/\m2.Ok w4 NoX/\Old w3 w4/\m1.data=m2.data/\m1.pie.evs.length<=m1.pie.pfs.length:=by
 rw[jDj]at Wp;obtain⟨m2,hd,he,Hu,ho⟩:=Wp;rcases SU with⟨h1,_,rfl⟩|⟨h1,rfl,_,rfl⟩
 ·rw[h1]at hd he;have hl:=UX h1;simp only[MReply.data,MPiece.data,jK7]at hl;exact⟨m2,he,Hu,ho,hd.symm,hl⟩
 ·rw[h1]at hd he;exact⟨m2,he,Hu,ho,hd.symm,jL3 _⟩
theorem qH(w:World)(op:Int)(A:OA)(c:Nat)(bs:LB)(Fa:Rd w 1 A bs.length (bs.map bv))(hc:bs.length<=c)(hl:bs.length<=2147483647):
  Calls prog 14 #[.int .i64 op,.slice A bs.length c] w fun e w' =>e=.returned (.bool true)/\Old w w' :=by
 have HR:=G (jDU w A c bs Fa (by omega));have Fy:=G Fa;have Hc:=G hc;have Hl:=G hl;have Gi:=fun(g:Nat) (W:World)=>jCO (P:=prog) kE kA (some ⟨g,0,none⟩) (bs.length+80) (bs.length+80) bs.length .i64 (bs.length:Int) rfl (by omega) W;have T5:=G (show zeroMR.cells.length=256 from(jI w NoX).len);clear Fa hc hl;go_enter func14,ntmps14;go_wp2_with fail;refine HR.out.mono ?_;rintro e w1 ⟨g,rfl,hg,hb,F0⟩;have Hb:=G hb;have FE:=G F0;have Gc:=(Rd.of_blk hb).take_ (k:=bs.length) (by rw[jK7,KD];omega);rw[Nat.mul_one,<-List.map_take,show(Jv bs).take bs.length=bs by simp[Jv]]at Gc;have HD:=G (jCJ w1 op (some ⟨g,0,none⟩) (bs.length+80) bs Gc);clear hb F0 Gc HR hg;go_wp2_with fail;refine HD.out.mono ?_;intro e w2 Dp;obtain⟨m1,y1,b1,he1,PS,FL,SU⟩:∃(m1:MReply) (y1:Int) (b1:Bool),e=.returned (.tuple #[.agg m1.cells.toArray,.int .i64 y1])/\m1.Ok w2 NoX/\Old w1 w2/\((yu op bs=some m1.data/\y1=0/\b1=true)\/(yu op bs=none/\m1=zeroMR/\y1=240/\b1=false)):=by
  rcases Dp with⟨m,hm,rfl,Hu,FL⟩|⟨GH,rfl,FL⟩
  ·exact⟨m,0,true,rfl,Hu.turn (jQ0 NoX _) (fun _ _ f=>f.elim) (fun _ _ f=>f.elim),FL,.inl ⟨hm,rfl,rfl⟩⟩
  ·exact⟨zeroMR,240,false,rfl,jI _ _,FL,.inr ⟨GH,rfl,rfl,rfl⟩⟩
 subst he1;clear Dp HD;have Pb:=G PS;have IF:=G SU;have FH:=G (FE.out.old FL);have PC:=G (Hb.out.old FL);clear PS SU FL Hb FE;have SF:=G (Pb.out.len);have Lf:=G (show Blk (w2.alloc (.cells zeroCells63 63)) w2.heap.size 63 zeroMR.cells.toArray from by rw[JT];exact jQ2 w2 _ _);have WR:=G (Lf.out.setWhole m1.cells (by rw[T5.out,SF.out]));have Gq:=G (show Old w2 ((w2.alloc (.cells zeroCells63 63)).setCells w2.heap.size 0 m1.cells)from((jQ0 NoX w2).alloc _).trans (Kp.setCells _ _ _ _) (fun b hb e=>by omega));have Wf:=G (MReply.one m1);have hU:=G (show(w2.alloc (.cells zeroCells63 63)).there w2.heap.size 0 m1.cells.toArray.size from Lf.out.there 0 _ (by rw[jJ8,jJ8,SF.out,T5.out];decide));have Fh:=G (show(prog.info? 63).map (·.size)=some m1.cells.toArray.size from by rw[jJ8,SF.out];exact kj);have EM:=G (fun(W W' :World) (m2:MReply) (ho:Old w2 W) (MO:m2.Ok W NoX) (hd:m1.data=m2.data) (MM:m1.pie.evs.length<=m1.pie.pfs.length) (TA:Old W W')=>jBF W' m1 m2 NoX NoX ((Pb.out.turn (ho.old TA) (fun _ _ f=>f.elim) (fun _ _ f=>f))) (MO.turn TA (fun _ _ f=>f.elim) (fun _ _ f=>f)) hd MM);have Lj:=G (fun(W W' :World) (e:Ending) (Wp:jJW W (qT op bs) e W')=>jA8 m1 Wp IF.out);have IE:=G (show(y1=0/\b1=true)\/(y1=240/\b1=false)by
  rcases IF.out with⟨_,h1,h2⟩|⟨_,_,h1,h2⟩
  ·exact .inl ⟨h1,h2⟩
  ·exact .inr ⟨h1,h2⟩)
 clear Pb IF;generalize m1.data=d1 at EM Lj;generalize (m1.pie.evs.length<=m1.pie.pfs.length)=pl1 at EM Lj;generalize m1.cells=cs1 at WR Gq Wf hU Fh SF EM⊢;go_wp2_with (first|refine jQ1 rfl 63 (.tmp 6) (.tmp 19) rfl w2.heap.size 0 cs1.toArray rfl rfl hU.out Fh.out Wf.out ?_ |fail);generalize (w2.alloc _).setCells _ _ _=w3 at*;generalize w2.heap.size=B1 at*;refine(jDl w3 op A c bs (Fy.out.old (FH.out.old Gq.out)) Hc.out Hl.out).mono ?_;intro e w4 Wp;obtain⟨m2,he2,MO,Gv,hd,MM⟩:=Lj.out _ _ _ Wp;subst he2;have SE:=G MO.len;have HSR:=G (fun W (ho:Old w4 W)=>EM.out w4 W m2 (Gq.out.old Gv) MO hd MM ho);have WR:=G (WR.out.old Gv);have Wl:=G ((FH.out.old Gq.out).old Gv);have Ne:=G ((PC.out.old Gq.out).old Gv);have Ip:=G (show(prog.info? 63).map (·.size)=some cs1.length by rw[SF.out];exact kj);clear Wp MO Gv hd MM Lj EM Wf hU Fh Lf Gq;have Lf:=G (show Blk (w4.alloc (.cells zeroCells63 63)) w4.heap.size 63 zeroMR.cells.toArray from by rw[JT];exact jQ2 w4 _ _);have GW:=G (Lf.out.setWhole m2.cells (by rw[T5.out,SE.out]));have NM:=G (show Old w4 ((w4.alloc (.cells zeroCells63 63)).setCells w4.heap.size 0 m2.cells)from((jQ0 NoX w4).alloc _).trans (Kp.setCells _ _ _ _) (fun b hb e=>by omega));have Wf:=G (MReply.one m2);have hU:=G (show(w4.alloc (.cells zeroCells63 63)).there w4.heap.size 0 m2.cells.toArray.size from Lf.out.there 0 _ (by rw[jJ8,jJ8,SE.out,T5.out];decide));have Fh:=G (show(prog.info? 63).map (·.size)=some m2.cells.toArray.size from by rw[jJ8,SE.out];exact kj);have Hn2:=G (show(prog.info? 63).map (·.size)=some m2.cells.length from by rw[SE.out];exact kj);generalize m2.cells=cs2 at GW NM Wf hU Fh Hn2 HSR SE⊢;go_upto_region 4 with(first|refine jQ1 rfl 63 (.tmp 8) (.tmp 25) rfl w4.heap.size 0 cs2.toArray rfl rfl hU.out Fh.out Wf.out ?_ |fail);generalize (w4.alloc _).setCells _ _ _=w5 at*;generalize w4.heap.size=B2 at*;have WR:=G (WR.out.old NM.out);have Cz:=G (Wl.out.old NM.out);have Tj:=G (Ne.out.old NM.out);have HIN:=G (fun W (ho:Old w5 W)=>jBu W g A c bs (Tj.out.old ho) (Fy.out.old (Cz.out.old ho)) (by have:=Hl.out;omega));have Tn:=G (HSR.out w5 NM.out);rcases IE.out with⟨rfl,rfl⟩|⟨rfl,rfl⟩
 all_goals
  go_wp2_with (first
   |refine jK rfl 63 (.tmp 6) rfl B1 0 rfl cs1 _ WR.out.range underlying63 rfl Ip.out ?_
   |refine jK rfl 63 (.tmp 8) rfl B2 0 rfl cs2 _ GW.out.range underlying63 rfl Hn2.out ?_
   |fail)
  refine Tn.out.mono ?_;rintro e w6 ⟨rfl,FN⟩;have HI6:=G (HIN.out w6 FN);have Ho7:=G (Cz.out.old FN);clear FN;go_wp2_with fail;refine HI6.out.mono ?_;rintro e w7 ⟨rfl,GZ⟩;go_wp2;go_ret;exact⟨rfl,Ho7.out.old GZ⟩
theorem jGQ(w:World):Calls prog 13 #[.slice none 0 0,.int .i64 240,.slice none 0 0] w fun e w' =>e=.returned (.bool true)/\Old w w' :=by
 have NU:=fun(W:World) (a:OA) (n c:Nat)=>Lib.run_eql_slice_nil (P:=prog) W 22 5 a n c 0 0 underlying22;go_enter func13,ntmps13;go_wp2;go_ret;exact⟨rfl,jQ0 _ _⟩
theorem jEM(w:World)(A:OA)(c g d:Nat)(l:LB)(hx:Rd w 1 A l.length (l.map bv))(hy:Rd w 1 (some ⟨g,0,none⟩) l.length (l.map bv))(hl:l.length<=1000000000000):
  Calls prog 13 #[.slice A l.length c,.int .i64 0,.slice (some ⟨g,0,none⟩) l.length d] w fun e w' =>e=.returned (.bool true)/\Old w w' :=by
 have NU:=fun(W:World) (a:OA) (n c:Nat)=>Lib.run_eql_slice_nil (P:=prog) W 22 5 a n c 0 0 underlying22;have HS:=G (qK w A (some ⟨g,0,none⟩) c d l l hx hy hl);clear hx hy hl;go_enter func13,ntmps13;go_wp2_with fail;refine HS.out.mono ?_;rintro e w1 ⟨rfl,F0⟩;go_wp2;go_ret;exact⟨by simp,F0⟩
theorem jEI(w:World)(left:Int)(v:Val)(A:OA)(c:Nat)(h1: -1<=left)(h2:left<=2147483647)(hr:Rd w 1 A v.s.length (v.s.map sv))(ht:v.t.size<=2147483647)(hx:∀x∈v.s,x.size<=9223372036854775807):
  Calls prog 29 #[.int .i64 left,vV v A c] w fun e w' =>e=.returned (.int .i64 (vN (yJ left (100+(v.t.size:Int))) v.s))/\Old w w' :=by
 obtain⟨k,n,t,s⟩:=v;simp only[vV]at*;have OT:=zG (n:=100+(t.size:Int)) h2 (by omega);have HR:=G (fun W=>YA W left (100+(t.size:Int)) h1 h2 (by omega));have HT:=G (fun W (ho:Old w W)=>Vs W (yJ left (100+(t.size:Int))) A c s.length s OT.2 OT.1 (hr.old ho) rfl hx);have e100:IntKind.i64.wrap (100+(t.size:Int))=100+(t.size:Int):=jQ3 _ (by omega);have hb:=jQ2 w 29 #[.int .i64 k,.int .i64 n,.string t,.slice A s.length c];have c2:=hb.at_ 2 (v:=.string t) rfl;have c3:=hb.at_ 3 (v:=.slice A s.length c) rfl;have Ho:=G ((jQ0 NoX w).alloc (.cells #[.int .i64 k,.int .i64 n,.string t,.slice A s.length c] 29));clear hb hr hx;go_enter func29,ntmps29;go_wp2_with fail;generalize w.alloc _=W at*;go_quiet (first|(go_at_call 10;refine Calls.quiet_of_same ((HR.out _).mono (fun _ _ h=>⟨h.1,h.2.symm⟩)))|(go_at_call 30;refine Calls.quiet_of_same ((HT.out _ (Ho.out.drewN _)).mono (fun _ _ h=>⟨h.1,h.2.symm⟩)))|fail);go_wp2;go_ret;exact⟨rfl,Ho.out.drewN _⟩
def Vx(v:Val):Prop:=v.t.size<=2147483647/\∀x∈v.s,x.size<=9223372036854775807
theorem jEJ{left:Int}{v:Val}(h2:left<=2147483647): -1<=vN (yJ left (100+(v.t.size:Int))) v.s/\vN (yJ left (100+(v.t.size:Int))) v.s<=2147483647:=by
 have a:=zG (n:=100+(v.t.size:Int)) h2 (by omega);exact Jz _ _ a.2 a.1
def jFA(w:World)(e:Ending)(w' :World):Prop:=∃r:Int,e=.returned (.int .i64 r)/\ -1<=r/\r<=2147483647/\Old w w'
theorem UJ(w:World)(left:Int)(v:Val)(A:OA)(c:Nat)(h1: -1<=left)(h2:left<=2147483647)(hr:Rd w 1 A v.s.length (v.s.map sv))(hs:Vx v):
  Calls prog 29 #[.int .i64 left,vV v A c] w (jFA w):=by
 refine(jEI w left v A c h1 h2 hr hs.1 hs.2).mono ?_;rintro e w' ⟨rfl,ho⟩;exact⟨_,rfl,(jEJ h2).1,(jEJ h2).2,ho⟩
theorem yP(w:World)(left n:Int)(h1: -1<=left)(h2:left<=2147483647)(hn:0<=n):Calls prog 10 #[.int .i64 left,.int .i64 n] w fun e w' =>∃r:Int,e=.returned (.int .i64 r)/\ -1<=r/\r<=2147483647/\w=w' :=by
 refine(YA w left n h1 h2 hn).mono ?_;rintro e w' ⟨rfl,rfl⟩;exact⟨_,rfl,(zG h2 hn).2,(zG h2 hn).1,rfl⟩
def jG7(w:World)(e:Ending)(w' :World):Prop:=∃r:Int,e=.returned (.int .i64 r)/\ -1<=r/\r<=2147483647/\w=w'
theorem Rd.partL{w:World}{A:OA}{n:Nat}{l:List Part}(h:Rd w 1 A n (l.map Part.sl)){k:Nat}(hk:k<n):∃b o p,A=some ⟨b,o,none⟩/\p∈l/\w.cell? ⟨b,o+k,none⟩=some (.slice p.A p.l.length p.c):=by
 obtain⟨b,o,u,rfl,hu,hc⟩:=h.at_ hk;rw[jM1,Option.map_eq_some_iff]at hu;obtain⟨p,hp,rfl⟩:=hu;exact⟨b,o,p,rfl,List.mem_of_getElem? hp,hc⟩
theorem jBt(w:World)(left:Int)(A:OA)(c n:Nat)(l:List Part)(h1: -1<=left)(h2:left<=2147483647)(hr:Rd w 1 A n (l.map Part.sl))(hx:∀p∈l,p.l.length<=2147483647)(Fj:n<=1000000000000):
  Calls prog 31 #[.int .i64 left,.slice A n c] w (jG7 w):=by
 have Hx:=G hx;clear hx;go_enter func31,ntmps31;go_wp2_with fail;go_loop [0,5] (fun x i=>∃(j:Nat) (lf:Int),j<=n/\i=.int .i64 j/\x=.int .i64 lf/\ -1<=lf/\lf<=2147483647) (fun _ i=>n-(intOf i).toNat)
 case atStart=>exact⟨0,left,Nat.zero_le _,rfl,rfl,h1,h2⟩
 case round=>
  obtain⟨j,lf,hj,rfl,rfl,TL,S9⟩:=hrel;by_cases hM:j<n
  ·have S7:(j:Int)<(n:Int):=(by omega);by_cases Mj:lf<0
   ·have N0:¬(0:Int)<=lf:=(by omega);go_wp2;go_ret;exact⟨lf,rfl,TL,S9,rfl⟩
   ·have N0:(0:Int)<=lf:=(by omega);obtain⟨b,o,p,rfl,hp,Fw⟩:=hr.partL (k:=j) hM;have Hp:=G (Hx.out p hp);obtain⟨pA,pl,pc⟩:=p;simp only at Fw Hp;clear hp;go_wp2_with fail;refine(yP w lf 1 TL S9 (by decide)).mono ?_;rintro e w' ⟨r1,rfl,a1,a2,rfl⟩;go_wp2_with fail;refine(yP w r1 pl.length a1 a2 (by omega)).mono ?_;rintro e w' ⟨r2,rfl,b1,b2,rfl⟩;have hj1:IntKind.i64.wrap ((j:Int)+1)=(j:Int)+1:=jQ3 _ (by omega);go_wp2;go_round
    case rel=>exact⟨j+1,r2,by omega,by go_num,rfl,b1,b2⟩
    case measure=>simp[intOf];omega
  ·obtain rfl:j=n:=(by omega);go_wp2;go_ret;exact⟨lf,rfl,TL,S9,rfl⟩
end Go.Proofs.YtnaolhjbapgjgaaGreat

import Derived.Test.YtnaolhjbapgjgaaGreatMg09
set_option maxRecDepth 100000
set_option maxHeartbeats 6400000
namespace Go.Proofs.YtnaolhjbapgjgaaGreat
open Go.Proofs.Tryz
open Go.RowKit
def zeroIdxL:List Value:=[.string ⟨#[]⟩,.bool false,.int .i64 0,.int .u8 0,.int .u8 0,.int .u8 0,.int .u8 0,.int .u8 0,.int .u8 0,.int .u8 0,.int .u8 0,.int .u8 0,.int .u8 0,.int .u8 0,.int .u8 0,.int .u8 0,.int .u8 0,.int .u8 0,.int .u8 0,.int .u8 0,.int .u8 0,.int .u8 0,.int .u8 0,.int .u8 0,.int .u8 0,.int .u8 0,.int .u8 0,.int .u8 0,.int .u8 0,.int .u8 0,.int .u8 0,.int .u8 0,.int .u8 0,.int .u8 0,.int .u8 0,.int .u8 0,.int .u8 0,.int .u8 0,.int .u8 0,.int .u8 0,.int .u8 0,.int .u8 0,.int .u8 0,.int .u8 0,.int .u8 0,.int .u8 0,.int .u8 0,.int .u8 0,.int .u8 0,.int .u8 0,.int .u8 0,.int .u8 0,.int .u8 0,.int .u8 0,.int .u8 0,.int .u8 0,.int .u8 0,.int .u8 0,.int .u8 0,.int .u8 0,.int .u8 0,.int .u8 0,.int .u8 0,.int .u8 0,.int .u8 0,.int .u8 0,.int .u8 0,.slice none 0 0]
def zeroIdx:Idx:=⟨⟨#[]⟩,false,0,zD,zD,[]⟩
theorem JU:zeroIdx.cells none 0=zeroIdxL:=by
 simp only[zeroIdx,Idx.cells,JW];rfl
theorem vX:zeroIdx.Ok:=⟨jy,jy,fun d hd=>(by cases hd),by decide,by decide⟩
theorem Ka:zeroCells57=zeroIdxL.toArray:=by kernel_rfl
theorem JV(w:World):(Instr.build 57 #[]).run prog w=.ok (.agg zeroIdxL.toArray) w:=by kernel_rfl
theorem Idx.one(x:Idx)(A:OA)(c:Nat):(x.cells A c).toArray.all (·.oneCell')=true:=by
 refine all_oneCell_toArray (fun v hv=> ?_);simp only[Idx.cells,List.mem_append,List.mem_cons,List.not_mem_nil,or_false]at hv;rcases hv with(rfl|rfl|rfl)|hv|hv|rfl
 ·rfl
 ·rfl
 ·rfl
 ·exact jf _ v hv
 ·exact jf _ v hv
 ·rfl
structure IdxSt(w:World)(g I:Nat)(bs:LB)(s:Rs)(x:Idx)(A:OA)(c:Nat)(W:World):Prop where
 st:DecR 57 zeroIdxL w g bs s W
 blk:Blk W I 57 (x.cells A c).toArray
 ok:x.Ok
 lt:g<I
section
variable{w:World}{g I:Nat}{bs:LB}{s s' :Rs}{x:Idx}{A:OA}{c:Nat}{W W' :World}
theorem IdxSt.step(h:IdxSt w g I bs s x A c W)(hr:Rr W' g bs s')(hk:Kp (RX g) W W'):IdxSt w g I bs s' x A c W' :=
 ⟨h.st.step hr hk,h.blk.kp hk (fun e=>by have:I=g:=e;have:=h.lt;omega),h.ok,h.lt⟩
theorem IdxSt.still(h:IdxSt w g I bs s x A c W)(hk:Old W W'):IdxSt w g I bs s x A c W' :=⟨h.st.still hk,h.blk.old hk,h.ok,h.lt⟩
theorem IdxSt.name(h:IdxSt w g I bs s x A c W)(n:BA)(hn:n.size<=9223372036854775807):IdxSt w g I bs s {x with case_:=n} A c (W.setCell ⟨I,0,none⟩ (.string n)):=
 ⟨h.st.put ((jQ0 (fun k=>k=I) W).setCell (p:=⟨I,0,none⟩) (fun _=>rfl) _) (fun b e=>by have:=h.lt;omega),h.blk.set_ 0 _,⟨h.ok.chain,h.ok.bitmap,h.ok.way,h.ok.count,h.ok.big.1,hn⟩,h.lt⟩
theorem IdxSt.flag(h:IdxSt w g I bs s x A c W)(b:Bool):IdxSt w g I bs s {x with found:=b} A c (W.setCell ⟨I,1,none⟩ (.bool b)):=
 ⟨h.st.put ((jQ0 (fun k=>k=I) W).setCell (p:=⟨I,1,none⟩) (fun _=>rfl) _) (fun b e=>by have:=h.lt;omega),h.blk.set_ 1 _,⟨h.ok.chain,h.ok.bitmap,h.ok.way,h.ok.count,h.ok.big⟩,h.lt⟩
theorem IdxSt.entry(h:IdxSt w g I bs s x A c W)(n:Int)(d:LB)(hn: -9223372036854775808<=n/\n<=9223372036854775807)(hd:d.length=32):IdxSt w g I bs s {x with count:=n,chain:=d} A c (W.setCells I 2 (.int .i64 n::jA d)):=
 ⟨h.st.put (Kp.setCells I 2 _ W) (fun b e=>by have:=h.lt;omega),by
  have:=Blk.setCells (pre:=[.string x.case_,.bool x.found]) (mid:=.int .i64 x.count::jA x.chain) (post:=jA x.bitmap++[.slice A x.way.length c]) (by simpa [Idx.cells]using h.blk) (.int .i64 n::jA d) (by simp[jB,hd,h.ok.chain]);simpa [Idx.cells]using this,⟨hd,h.ok.bitmap,h.ok.way,hn,h.ok.big⟩,h.lt⟩
theorem IdxSt.bits(h:IdxSt w g I bs s x A c W)(d:LB)(hd:d.length=32):IdxSt w g I bs s {x with bitmap:=d} A c (W.setCells I 35 (jA d)):=
 ⟨h.st.put (Kp.setCells I 35 _ W) (fun b e=>by have:=h.lt;omega),by
  have:=Blk.setCells (pre:=[.string x.case_,.bool x.found,.int .i64 x.count]++jA x.chain) (mid:=jA x.bitmap) (post:=[.slice A x.way.length c]) (by simpa [Idx.cells]using h.blk) (jA d) (by rw[jB,jB,hd,h.ok.bitmap]);rw[jJ4,jB,h.ok.chain]at this;simpa [Idx.cells]using this,⟨h.ok.chain,hd,h.ok.way,h.ok.count,h.ok.big⟩,h.lt⟩
theorem IdxSt.way(h:IdxSt w g I bs s x A c W)(ds:List LB)(A' :OA)(c' :Nat)(hd:Dgs ds)(hl:ds.length<=2147483647):IdxSt w g I bs s {x with way:=ds} A' c' (W.setCell ⟨I,67,none⟩ (.slice A' ds.length c')):=
 ⟨h.st.put ((jQ0 (fun k=>k=I) W).setCell (p:=⟨I,67,none⟩) (fun _=>rfl) _) (fun b e=>by have:=h.lt;omega),by
  have:=Blk.setCells (pre:=[.string x.case_,.bool x.found,.int .i64 x.count]++(jA x.chain++jA x.bitmap)) (mid:=[.slice A x.way.length c]) (post:=[]) (by simpa [Idx.cells]using h.blk) [.slice A' ds.length c'] rfl;rw[jJ4,jJ4,jB,jB,h.ok.chain,h.ok.bitmap]at this;have e:W.setCells I 67 [.slice A' ds.length c']=W.setCell ⟨I,67,none⟩ (.slice A' ds.length c'):=rfl;simp only[jK6,List.length_nil,Nat.reduceAdd,e]at this;simpa [Idx.cells]using this,⟨h.ok.chain,h.ok.bitmap,hd,h.ok.count,hl,h.ok.big.2⟩,h.lt⟩
end
def VI(bs:LB)(nm:BA)(f:Bool)(n:Int)(d:LB)(s:Rs):Option Idx:=
 if vi bs (yC bs (vM (kq bs s).1) (kq bs s).2).2=0/\Ji ⟨nm,f,n,d,(kq bs s).1,(yC bs (vM (kq bs s).1) (kq bs s).2).1⟩=true then
  some ⟨nm,f,n,d,(kq bs s).1,(yC bs (vM (kq bs s).1) (kq bs s).2).1⟩else none
def Qk(bs:LB)(nm:BA)(f:Bool×Rs):Option Idx:=
 if f.1=true then
  if(yy bs f.2).2.1=true then VI bs nm true (yy bs f.2).1 (kq bs (yy bs f.2).2.2).1 (kq bs (yy bs f.2).2.2).2 else none
 else VI bs nm false 0 zD f.2
def zb(bs:LB)(s:Rs):BA×Rs:=(⟨(vE bs (tkN bs 1 s).1 (tkN bs 1 s).2).1.toArray⟩,(vE bs (tkN bs 1 s).1 (tkN bs 1 s).2).2)
def jH8(bs:LB)(s:Rs):Option Idx:=Qk bs (zb bs s).1 (jw bs (zb bs s).2)
def kr(bs:LB):Option Idx:=(kH bs 9000 50).bind (jH8 bs)
def jIe(w:World)(d:Option Idx)(e:Ending)(w' :World):Prop:=
 (∃(x:Idx) (A:OA) (c:Nat),d=some x/\e=.returned (.tuple #[.agg (x.cells A c).toArray,.int .i64 0])/\x.Ok/\Rd w' 32 A x.way.length (x.way.flatMap jA)/\Av (fun k=>k<w.heap.size) x.way.length A/\Old w w')\/
 (∃er:Int,d=none/\er≠0/\e=.returned (.tuple #[.agg zeroIdxL.toArray,.int .i64 er])/\Old w w')
theorem vZ(bs:LB)(n:Int)(s:Rs):(vE bs n s).1.length<=bs.length:=by
 unfold vE;split
 ·simp
 ·split
  ·simp
  ·simp only[jK9,jK8];omega
theorem jER(n:Nat): -9223372036854775808<=i64 n/\i64 n<=9223372036854775807:=by
 unfold i64 wrap64;omega
theorem jBe(bs:LB)(s:Rs): -9223372036854775808<=(yy bs s).1/\(yy bs s).1<=9223372036854775807:=jER _
theorem jCM(w:World)(A:OA)(c:Nat)(bs:LB)(Fa:Rd w 1 A bs.length (bs.map bv)):
  Calls prog 95 #[.slice A bs.length c] w (jIe w (kr bs)):=by
 have HD:=G (show kr bs=(kH bs 9000 50).bind (jH8 bs)from rfl);have Hb:=G (show Blk (w.alloc (.cells zeroCells57 57)) w.heap.size 57 zeroIdxL.toArray from by rw[Ka];exact jQ2 w _ _);have HO:=G ((jQ0 NoX w).alloc (.cells zeroCells57 57));have LL:=G (fun W (h:Old w W)=>Yc W A c bs 9000 50 (Fa.old h) (by omega));generalize kr bs=D at*;clear Fa;go_enter func95,ntmps95;go_wp2_with fail;generalize w.alloc _=W at*;refine(LL.out W HO.out).mono ?_;generalize kH bs 9000 50=B at*;rintro e w1 (⟨g,s,rfl,rfl,hg,Fd,F0⟩|⟨er,rfl,FZ,rfl,F0⟩)
 ·have Wg:=G (show DecR 57 zeroIdxL w g bs s w1 from⟨Hb.out.old F0,Fd,HO.out.old F0,by have:=Hb.out.lt;omega⟩);have HS:=G (show IdxSt w g w1.heap.size bs s zeroIdx none 0 (w1.alloc (.cells zeroCells57 57))from
   ⟨Wg.out.still ((jQ0 NoX w1).alloc _),by rw[JU,Ka];exact jQ2 w1 _ _,vX,Wg.out.rr.lt⟩)
  clear Fd F0 hg Hb HO LL Wg;have FB:=G (show D=jH8 bs s by rw[HD.out];rfl);unfold jH8 at FB;have GK:=G (fun W (hR:Rr W g bs s)=>vm W g bs s hR);have SC:=G (show zb bs s=(⟨(vE bs (tkN bs 1 s).1 (tkN bs 1 s).2).1.toArray⟩,(vE bs (tkN bs 1 s).1 (tkN bs 1 s).2).2)from rfl);have HN:=G (ku bs 1 s);clear HD;go_wp2_with fail;generalize w1.alloc _=W1 at*;generalize w1.heap.size=I at*;refine(GK.out _ HS.out.st.rr).mono ?_;clear GK;generalize tkN bs 1 s=t1 at*;obtain⟨k,s1⟩:=t1;simp only at SC HN⊢;rintro e w2 ⟨rfl,Fb,hZ⟩;replace HS:=G (HS.out.step Fb hZ);have PV:k<256:=by have:=HN.out;omega
  have RT:IntKind.i64.wrap (k:Int)=k:=jQ3 _ (by omega);have RS:wrap64 (k:Int)=(k:Int):=by unfold wrap64;omega
  clear Fb hZ HN;have GK:=G (fun W (hR:Rr W g bs s1)=>za W g bs (k:Int) s1 hR (by omega));have MC:=G (vZ bs (k:Int) s1);have GP:=HS.out.st.rr.fits.2;go_wp2_with fail;refine(GK.out _ HS.out.st.rr).mono ?_;clear GK;generalize vE bs (k:Int) s1=t2 at*;obtain⟨l,s2⟩:=t2;simp only at SC MC⊢;rintro e w3 ⟨A3,c3,rfl,FP,GD,Gb,Gl,Gd⟩;have Q2:=vO (P:=prog) w3 underlying22 underlying5 underlying9 A3 _ c3 _ FP;replace HS:=G (HS.out.step Gl Gd);have u0:=HS.out.blk.at_ 0 (v:=.string ⟨#[]⟩) rfl;have z0:=HS.out.blk.frozen 0;have Hl:=G (show ByteArray.size ⟨l.toArray⟩<=9223372036854775807 by rw[<-jH];have:=MC.out;show l.length<=_;omega);have Lh:=G (HS.out.name ⟨l.toArray⟩ Hl.out);clear Gl Gd FP GD Gb RT RS PV MC;rw[SC.out]at FB;simp only at FB;generalize (⟨l.toArray⟩:BA)=nm at*;have GK:=G (fun W (hR:Rr W g bs s2)=>qQ W g bs s2 hR);clear SC;go_wp2_with fail;replace HS:=Lh;clear Lh u0 z0 Q2;generalize w3.setCell _ _=W3 at*;refine(GK.out _ HS.out.st.rr).mono ?_;clear GK;generalize jw bs s2=t3 at*;obtain⟨f,s3⟩:=t3;unfold Qk at FB;simp only at FB⊢;rintro e w4 ⟨rfl,Fb,hZ⟩;replace HS:=G (HS.out.step Fb hZ);have u1:=HS.out.blk.at_ 1 (v:=.bool false) rfl;have z1:=HS.out.blk.frozen 1;have Lh:=G (HS.out.flag f);clear Fb hZ;cases f with
  |true=>
   rw[jJ6 rfl]at FB;have GK:=G (fun W (hR:Rr W g bs s3)=>yn W g bs s3 hR);have HRn:=G (jBe bs s3);go_wp2_with fail;replace HS:=Lh;clear Lh u1 z1;generalize w4.setCell _ _=W4 at*;refine(GK.out _ HS.out.st.rr).mono ?_;clear GK;generalize yy bs s3=t4 at*;obtain⟨cnt,f4,s4⟩:=t4;simp only at FB HRn⊢;rintro e w5 ⟨rfl,Fb,hZ⟩;replace HS:=G (HS.out.step Fb hZ);clear Fb hZ;cases f4 with
   |false=>
    have hY:=G (show D=none by rw[FB.out,jJ5 (by simp)]);have hU:=G (HS.out.st.th zeroIdxL rfl);have Ht:=G (HS.out.st.told zeroIdxL rfl);go_wp2_with (first|((with_reducible refine jM 57 ?_);refine jX rfl 57 rfl _ (JV _) ?_)|((with_reducible refine jF 57 (.tmp 2) (.tmp 37) ?_);refine jQ1 rfl 57 (.tmp 2) (.tmp 37) rfl w.heap.size 0 zeroIdxL.toArray rfl rfl hU.out jd (jR rfl) ?_)|fail);refine jD (g:=w.heap.size) (cs:=zeroIdxL.toArray) rfl rfl Ht.out.box underlying57 rfl jd rfl ?_;exact .inr ⟨8,hY.out,by decide,rfl,Ht.out.old⟩
   |true=>
    rw[jJ6 rfl]at FB;have HG:=G (fun W' (hR:Rr W' g bs s4)=>yR W' g bs s4 hR);have Ll:=G (kU bs s4);go_wp2_with fail;refine(HG.out _ HS.out.st.rr).mono ?_;clear HG;generalize kq bs s4=t5 at*;obtain⟨chain,s5⟩:=t5;simp only at FB Ll⊢;rintro e w5b ⟨rfl,Fb,hZ⟩;replace HS:=G (HS.out.step Fb hZ);have HB:=G (Ug cnt chain Ll.out);have hU:=G (HS.out.blk.there 2 (.int .i64 cnt::jA chain).toArray.size (by rw[jJ8,jJ8,HS.out.ok.len,jK6,jB,Ll.out];decide));have Fh:=G (show(prog.info? 55).map (·.size)=some (.int .i64 cnt::jA chain).length by rw[jK6,jB,Ll.out];exact JH);have FD:=G (show(Value.int .i64 cnt::jA chain).toArray.all (·.oneCell')=true from all_oneCell_toArray (fun v hv=>by
     rcases List.mem_cons.1 hv with rfl|hv
     ·rfl
     ·exact jf _ v hv))
    replace HS:=G (HS.out.entry cnt chain HRn.out Ll.out);clear Fb hZ;generalize Q1:Value.int .i64 cnt::jA chain=ec at*;clear Q1;go_wp2_with (first|((with_reducible refine jE1 55 (.tmp 38) (.tmp 40) ?_);refine jCu rfl 55 (.tmp 38) (.tmp 40) rfl _ _ rfl rfl ec HB.out ?_)|((with_reducible refine jF 55 (.tmp 42) (.tmp 41) ?_);refine jQ1 rfl 55 (.tmp 42) (.tmp 41) rfl I 2 ec.toArray rfl rfl hU.out Fh.out FD.out ?_)|fail);generalize w5b.setCells _ _ _=W5 at*;clear HB hU Fh FD;have HG:=G (fun W' (hR:Rr W' g bs s5)=>yR W' g bs s5 hR);have HL:=G (kU bs s5);unfold VI at FB;go_wp2_with fail;refine(HG.out _ HS.out.st.rr).mono ?_;clear HG;generalize kq bs s5=t6 at*;obtain⟨bm,s6⟩:=t6;simp only at FB HL⊢;rintro e w6 ⟨rfl,Fb,hZ⟩;replace HS:=G (HS.out.step Fb hZ);have hU:=G (HS.out.blk.there 35 (jA bm).toArray.size (by rw[jJ8,jJ8,HS.out.ok.len,jB,HL.out];decide));have Fh:=G (show(prog.info? 40).map (·.size)=some (jA bm).length by rw[jB,HL.out];exact jO);replace HS:=G (HS.out.bits bm HL.out);have Fn:=G (HS.out.ok.s35.range HS.out.blk);have Tq:=G (fun W=>Zc W bm HL.out);have LG:=G (Jf bm);clear Fb hZ;go_wp2_with (first|((with_reducible refine jF 40 (.tmp 45) (.tmp 44) ?_);refine jQ1 rfl 40 (.tmp 45) (.tmp 44) rfl I 35 (jA bm).toArray rfl rfl hU.out Fh.out (kV _) ?_)|((with_reducible refine jT 40 (.tmp 47) ?_);refine jK rfl 40 (.tmp 47) rfl I 35 rfl (jA bm) _ Fn.out underlying40 rfl Fh.out ?_)|fail);generalize w6.setCells I 35 (jA bm)=W6 at*;refine(Tq.out _).mono ?_;clear Tq hU Fn;generalize vM bm=on at*;rintro e w7 ⟨rfl,GZ⟩;replace HS:=G (HS.out.still GZ);have HG:=G (fun W (hR:Rr W g bs s6)=>KH W g bs (on:Int) s6 hR (by have:=LG.out;have:=HL.out;omega));have Mq:=G (KS bs (on:Int) s6 HS.out.st.rr.fits.1);have Nl:=G (KR bs (on:Int) s6);have GP:=HS.out.st.rr.fits.2;clear GZ;go_wp2_with fail;refine(HG.out _ HS.out.st.rr).mono ?_;clear HG;generalize yC bs (on:Int) s6=t7 at*;obtain⟨ds,s7⟩:=t7;simp only at FB Mq Nl⊢;rintro e w8 ⟨A8,c8,rfl,PQ,LA,Q3,CS,TQ⟩;have Rk:=G HS.out.blk.lt;replace HS:=G (HS.out.step CS TQ);have u67:=HS.out.blk.at_ 67 (by rw[jJ7];exact HS.out.ok.s67);have z67:=HS.out.blk.frozen 67;have EL:=G (HS.out.way ds A8 c8 Mq.out (by have:=Nl.out;omega));have Fy:=G (PQ.kp ((jQ0 (fun k=>k=I) w8).setCell (p:=⟨I,67,none⟩) (fun _=>rfl) (.slice A8 ds.length c8)) (fun hn ad e hx=>LA hn ad e (by have:ad.block=I:=hx;have:=Rk.out;omega)));have FW:=G (show Av (fun k=>k<=w.heap.size) ds.length A8 from fun hn ad e hx=>LA hn ad e (by have:=HS.out.lt;have:=HS.out.st.lt;have:=Rk.out;omega));have Mh:=G (fun W (hR:Rr W g bs s7)=>Jj W g bs s7 hR);clear PQ LA Q3 CS TQ;go_wp2_with fail;replace HS:=EL;clear EL u67 z67;generalize w8.setCell _ _=W8 at*;refine(Mh.out _ HS.out.st.rr).mono ?_;clear Mh;generalize vi bs s7=dn at*;rintro e w9 ⟨rfl,MP⟩;replace HS:=G (HS.out.still MP);replace Fy:=G (Fy.out.old MP);clear MP;by_cases hd:dn=0
    case neg=>
     have hY:=G (show D=none by rw[FB.out,jJ5 (fun h=>hd h.1)]);have Po:(dn !=0)=true:=(by simpa using hd);clear hd;have hU:=G (HS.out.st.th zeroIdxL rfl);have Ht:=G (HS.out.st.told zeroIdxL rfl);go_wp2_with (first|((with_reducible refine jM 57 ?_);refine jX rfl 57 rfl _ (JV _) ?_)|((with_reducible refine jF 57 (.tmp 2) (.tmp 60) ?_);refine jQ1 rfl 57 (.tmp 2) (.tmp 60) rfl w.heap.size 0 zeroIdxL.toArray rfl rfl hU.out jd (jR rfl) ?_)|fail);refine jD (g:=w.heap.size) (cs:=zeroIdxL.toArray) rfl rfl Ht.out.box underlying57 rfl jd rfl ?_;exact .inr ⟨8,hY.out,by decide,rfl,Ht.out.old⟩
    subst hd;have Rt:=G HS.out.blk;have HX:=G (fun W=>Va W _ A8 c8 HS.out.ok);have Fn:=G HS.out.blk.range;have Wm:=G (show(Idx.cells ⟨nm,true,cnt,chain,bm,ds⟩ A8 c8).length=68 from HS.out.ok.len);have FD:=G (Idx.one ⟨nm,true,cnt,chain,bm,ds⟩ A8 c8);have HZ:=G (fun(hy:D=some ⟨nm,true,cnt,chain,bm,ds⟩) w9' (ho:Old w9 w9') w' (ht:Told 57 (Idx.cells ⟨nm,true,cnt,chain,bm,ds⟩ A8 c8) w w9' w')=>show jIe w D (.returned (.tuple #[.agg (Idx.cells ⟨nm,true,cnt,chain,bm,ds⟩ A8 c8).toArray,.int .i64 0])) w' from
     .inl ⟨_,A8,c8,hy,rfl,HS.out.ok,(Fy.out.old ho).told ht FW.out,fun hn ad e hx=>FW.out hn ad e (by omega),ht.old⟩)
    generalize hxx:(⟨nm,true,cnt,chain,bm,ds⟩:Idx)=xx at*;clear hxx;generalize xx.cells A8 c8=cl at*;have GV:=G (show(prog.info? 57).map (·.size)=some cl.length by rw[Wm.out];exact jd);go_wp2_with (first|((with_reducible refine jT 57 (.tmp 6) ?_);refine jK rfl 57 (.tmp 6) rfl I 0 rfl cl _ Fn.out underlying57 rfl GV.out ?_)|fail);refine(HX.out _).mono ?_;rintro e w10 ⟨rfl,MP⟩;have Wd:=G MP;replace HS:=G (HS.out.st.still MP);have MY:=G (Rt.out.old MP).range;clear MP HX Fn;cases Hu:Ji xx with
    |false=>
     have hY:=G (show D=none by rw[FB.out,jJ5 (fun h=>by rw[Hu]at h;cases h.2)]);clear Hu;have hU:=G (HS.out.th zeroIdxL rfl);have Ht:=G (HS.out.told zeroIdxL rfl);go_wp2_with (first|((with_reducible refine jM 57 ?_);refine jX rfl 57 rfl _ (JV _) ?_)|((with_reducible refine jF 57 (.tmp 2) (.tmp 60) ?_);refine jQ1 rfl 57 (.tmp 2) (.tmp 60) rfl w.heap.size 0 zeroIdxL.toArray rfl rfl hU.out jd (jR rfl) ?_)|fail);refine jD (g:=w.heap.size) (cs:=zeroIdxL.toArray) rfl rfl Ht.out.box underlying57 rfl jd rfl ?_;exact .inr ⟨8,hY.out,by decide,rfl,Ht.out.old⟩
    |true=>
     have Hy:=G (show D=some xx by rw[FB.out,jJ6 (by simp[Hu])]);have hU:=G (HS.out.th cl (by rw[Wm.out];rfl));have Ht:=G (HS.out.told cl (by rw[Wm.out];rfl));clear Hu;go_wp2_with (first|((with_reducible refine jT 57 (.tmp 6) ?_);refine jK rfl 57 (.tmp 6) rfl I 0 rfl cl _ MY.out underlying57 rfl GV.out ?_)|((with_reducible refine jF 57 (.tmp 2) (.tmp 61) ?_);refine jQ1 rfl 57 (.tmp 2) (.tmp 61) rfl w.heap.size 0 cl.toArray rfl rfl hU.out GV.out FD.out ?_)|fail);refine jD (g:=w.heap.size) (cs:=cl.toArray) rfl rfl Ht.out.box underlying57 rfl (by rw[jJ8];exact GV.out) rfl ?_;exact HZ.out Hy.out _ Wd.out _ Ht.out
  |false=>
   rw[jJ5 (by simp)]at FB;obtain⟨s5,rfl⟩:∃s5,s5=s3:=⟨_,rfl⟩;go_wp2_with fail;replace HS:=G (show IdxSt w g I bs s5 ⟨nm,false,0,zD,zD,[]⟩ none 0 _ from Lh.out);clear Lh u1 z1;generalize w4.setCell _ _=W5 at*;have HG:=G (fun W' (hR:Rr W' g bs s5)=>yR W' g bs s5 hR);have HL:=G (kU bs s5);unfold VI at FB;go_wp2_with fail;refine(HG.out _ HS.out.st.rr).mono ?_;clear HG;generalize kq bs s5=t6 at*;obtain⟨bm,s6⟩:=t6;simp only at FB HL⊢;rintro e w6 ⟨rfl,Fb,hZ⟩;replace HS:=G (HS.out.step Fb hZ);have hU:=G (HS.out.blk.there 35 (jA bm).toArray.size (by rw[jJ8,jJ8,HS.out.ok.len,jB,HL.out];decide));have Fh:=G (show(prog.info? 40).map (·.size)=some (jA bm).length by rw[jB,HL.out];exact jO);replace HS:=G (HS.out.bits bm HL.out);have Fn:=G (HS.out.ok.s35.range HS.out.blk);have Tq:=G (fun W=>Zc W bm HL.out);have LG:=G (Jf bm);clear Fb hZ;go_wp2_with (first|((with_reducible refine jF 40 (.tmp 45) (.tmp 44) ?_);refine jQ1 rfl 40 (.tmp 45) (.tmp 44) rfl I 35 (jA bm).toArray rfl rfl hU.out Fh.out (kV _) ?_)|((with_reducible refine jT 40 (.tmp 47) ?_);refine jK rfl 40 (.tmp 47) rfl I 35 rfl (jA bm) _ Fn.out underlying40 rfl Fh.out ?_)|fail);generalize w6.setCells I 35 (jA bm)=W6 at*;refine(Tq.out _).mono ?_;clear Tq hU Fn;generalize vM bm=on at*;rintro e w7 ⟨rfl,GZ⟩;replace HS:=G (HS.out.still GZ);have HG:=G (fun W (hR:Rr W g bs s6)=>KH W g bs (on:Int) s6 hR (by have:=LG.out;have:=HL.out;omega));have Mq:=G (KS bs (on:Int) s6 HS.out.st.rr.fits.1);have Nl:=G (KR bs (on:Int) s6);have GP:=HS.out.st.rr.fits.2;clear GZ;go_wp2_with fail;refine(HG.out _ HS.out.st.rr).mono ?_;clear HG;generalize yC bs (on:Int) s6=t7 at*;obtain⟨ds,s7⟩:=t7;simp only at FB Mq Nl⊢;rintro e w8 ⟨A8,c8,rfl,PQ,LA,Q3,CS,TQ⟩;have Rk:=G HS.out.blk.lt;replace HS:=G (HS.out.step CS TQ);have u67:=HS.out.blk.at_ 67 (by rw[jJ7];exact HS.out.ok.s67);have z67:=HS.out.blk.frozen 67;have EL:=G (HS.out.way ds A8 c8 Mq.out (by have:=Nl.out;omega));have Fy:=G (PQ.kp ((jQ0 (fun k=>k=I) w8).setCell (p:=⟨I,67,none⟩) (fun _=>rfl) (.slice A8 ds.length c8)) (fun hn ad e hx=>LA hn ad e (by have:ad.block=I:=hx;have:=Rk.out;omega)));have FW:=G (show Av (fun k=>k<=w.heap.size) ds.length A8 from fun hn ad e hx=>LA hn ad e (by have:=HS.out.lt;have:=HS.out.st.lt;have:=Rk.out;omega));have Mh:=G (fun W (hR:Rr W g bs s7)=>Jj W g bs s7 hR);clear PQ LA Q3 CS TQ;go_wp2_with fail;replace HS:=EL;clear EL u67 z67;generalize w8.setCell _ _=W8 at*;refine(Mh.out _ HS.out.st.rr).mono ?_;clear Mh;generalize vi bs s7=dn at*;rintro e w9 ⟨rfl,MP⟩;replace HS:=G (HS.out.still MP);replace Fy:=G (Fy.out.old MP);clear MP;by_cases hd:dn=0
   case neg=>
    have hY:=G (show D=none by rw[FB.out,jJ5 (fun h=>hd h.1)]);have Po:(dn !=0)=true:=(by simpa using hd);clear hd;have hU:=G (HS.out.st.th zeroIdxL rfl);have Ht:=G (HS.out.st.told zeroIdxL rfl);go_wp2_with (first|((with_reducible refine jM 57 ?_);refine jX rfl 57 rfl _ (JV _) ?_)|((with_reducible refine jF 57 (.tmp 2) (.tmp 60) ?_);refine jQ1 rfl 57 (.tmp 2) (.tmp 60) rfl w.heap.size 0 zeroIdxL.toArray rfl rfl hU.out jd (jR rfl) ?_)|fail);refine jD (g:=w.heap.size) (cs:=zeroIdxL.toArray) rfl rfl Ht.out.box underlying57 rfl jd rfl ?_;exact .inr ⟨8,hY.out,by decide,rfl,Ht.out.old⟩
   subst hd;have Rt:=G HS.out.blk;have HX:=G (fun W=>Va W _ A8 c8 HS.out.ok);have Fn:=G HS.out.blk.range;have Wm:=G (show(Idx.cells ⟨nm,false,0,zD,bm,ds⟩ A8 c8).length=68 from HS.out.ok.len);have FD:=G (Idx.one ⟨nm,false,0,zD,bm,ds⟩ A8 c8);have HZ:=G (fun(hy:D=some ⟨nm,false,0,zD,bm,ds⟩) w9' (ho:Old w9 w9') w' (ht:Told 57 (Idx.cells ⟨nm,false,0,zD,bm,ds⟩ A8 c8) w w9' w')=>show jIe w D (.returned (.tuple #[.agg (Idx.cells ⟨nm,false,0,zD,bm,ds⟩ A8 c8).toArray,.int .i64 0])) w' from
    .inl ⟨_,A8,c8,hy,rfl,HS.out.ok,(Fy.out.old ho).told ht FW.out,fun hn ad e hx=>FW.out hn ad e (by omega),ht.old⟩)
   generalize hxx:(⟨nm,false,0,zD,bm,ds⟩:Idx)=xx at*;clear hxx;generalize xx.cells A8 c8=cl at*;have GV:=G (show(prog.info? 57).map (·.size)=some cl.length by rw[Wm.out];exact jd);go_wp2_with (first|((with_reducible refine jT 57 (.tmp 6) ?_);refine jK rfl 57 (.tmp 6) rfl I 0 rfl cl _ Fn.out underlying57 rfl GV.out ?_)|fail);refine(HX.out _).mono ?_;rintro e w10 ⟨rfl,MP⟩;have Wd:=G MP;replace HS:=G (HS.out.st.still MP);have MY:=G (Rt.out.old MP).range;clear MP HX Fn;cases Hu:Ji xx with
   |false=>
    have hY:=G (show D=none by rw[FB.out,jJ5 (fun h=>by rw[Hu]at h;cases h.2)]);clear Hu;have hU:=G (HS.out.th zeroIdxL rfl);have Ht:=G (HS.out.told zeroIdxL rfl);go_wp2_with (first|((with_reducible refine jM 57 ?_);refine jX rfl 57 rfl _ (JV _) ?_)|((with_reducible refine jF 57 (.tmp 2) (.tmp 60) ?_);refine jQ1 rfl 57 (.tmp 2) (.tmp 60) rfl w.heap.size 0 zeroIdxL.toArray rfl rfl hU.out jd (jR rfl) ?_)|fail);refine jD (g:=w.heap.size) (cs:=zeroIdxL.toArray) rfl rfl Ht.out.box underlying57 rfl jd rfl ?_;exact .inr ⟨8,hY.out,by decide,rfl,Ht.out.old⟩
   |true=>
    have Hy:=G (show D=some xx by rw[FB.out,jJ6 (by simp[Hu])]);have hU:=G (HS.out.th cl (by rw[Wm.out];rfl));have Ht:=G (HS.out.told cl (by rw[Wm.out];rfl));clear Hu;go_wp2_with (first|((with_reducible refine jT 57 (.tmp 6) ?_);refine jK rfl 57 (.tmp 6) rfl I 0 rfl cl _ MY.out underlying57 rfl GV.out ?_)|((with_reducible refine jF 57 (.tmp 2) (.tmp 61) ?_);refine jQ1 rfl 57 (.tmp 2) (.tmp 61) rfl w.heap.size 0 cl.toArray rfl rfl hU.out GV.out FD.out ?_)|fail);refine jD (g:=w.heap.size) (cs:=cl.toArray) rfl rfl Ht.out.box underlying57 rfl (by rw[jJ8];exact GV.out) rfl ?_;exact HZ.out Hy.out _ Wd.out _ Ht.out
 ·have hY:=G (show D=none by rw[HD.out];rfl);have HS:=G (Hb.out.old F0);have NP:=G (HO.out.old F0);have P4:(er !=0)=true:=(by simpa using FZ);have hU:=G (HS.out.there 0 68 (by decide));have Ht:=G (Blk.setWhole (cs:=zeroIdxL) HS.out zeroIdxL rfl);have FR:=G (show Old w (w1.setCells w.heap.size 0 zeroIdxL)from NP.out.trans (Kp.setCells _ 0 _ _) (fun b hb e=>by omega));clear F0 LL Hb HO;go_wp2_with (first|((with_reducible refine jM 57 ?_);refine jX rfl 57 rfl _ (JV _) ?_)|((with_reducible refine jF 57 (.tmp 2) (.tmp 16) ?_);refine jQ1 rfl 57 (.tmp 2) (.tmp 16) rfl w.heap.size 0 zeroIdxL.toArray rfl rfl hU.out jd (jR rfl) ?_)|fail);refine jD (g:=w.heap.size) (cs:=zeroIdxL.toArray) rfl rfl Ht.out underlying57 rfl jd rfl ?_;exact .inr ⟨er,hY.out,FZ,rfl,FR.out⟩
theorem Grew.refl_{w:World}{base:Nat}{l:LB}{A:OA}{c:Nat}(h:BRow w base l A c):Grew w base A w l A c:=⟨h,jQ0 _ _,.inl rfl⟩
theorem Dgs.flat_len{ds:List LB}(h:Dgs ds):ds.flatten.length=ds.length*32:=by
 induction ds with
 |nil=>rfl
 |cons d r ih=>
  rw[List.flatten_cons,jJ4,ih (fun x hx=>h x (List.mem_cons_of_mem _ hx)),h d List.mem_cons_self,jK6];omega
theorem zp(w:World)(base:Nat)(l:LB)(A:OA)(c:Nat)(h:BRow w base l A c)(hl:l.length<=4000000000000)(B:OA)(n d:Nat)(ds:List LB)(hn:ds.length=n)(hd:Dgs ds)(Fa:Rd w 32 B n (ds.flatMap jA))(FA:Av (From base) n B)(Fu:n<=2147483647):
  Calls prog 120 #[.slice A l.length c,.slice B n d] w (jG8 w base A (l++ds.flatten)):=by
 have Hl:=G hl;have Hd:=G hd;have Hn:=G hn;have H0:=G h;have Fy:=G Fa;have FW:=G FA;have Pe:=G (fun k=>show(l++(ds.take k).flatten).length<=4100000000000 by
  rw[jJ4,Dgs.flat_len (fun x hx=>hd x (List.mem_of_mem_take hx)),jK9];omega)
 clear hl hd hn h Fa FA;go_enter func120,ntmps120;go_wp2;go_loopw [0,5] (fun b i wr=>∃(k:Nat) (out:LB) (A' :OA) (c' :Nat),k<=n/\i=.int .i64 k/\b=.slice A' out.length c' /\out=l++(ds.take k).flatten/\Grew w base A wr out A' c') (fun _ i _=>n-(intOf i).toNat)
 case atStart=>exact⟨0,l,A,c,by omega,rfl,rfl,by simp,Grew.refl_ H0.out⟩
 case round=>
  obtain⟨k,out,A',c',hk,rfl,rfl,G0,hg⟩:=hrel;have Hg:=G hg;have GF:=G G0;have P9:=G (show out.length<=4100000000000 by rw[G0];exact Pe.out k);clear hg G0;by_cases hM:k<n
  ·have GY:k<ds.length:=by have:=Hn.out;omega
   have FQ:=Hg.out.from_ H0.out;obtain⟨b,o,hBe,FK⟩:=(Fy.out.kp FQ FW.out).elem Hd.out.cells Hn.out (k:=k) GY;subst hBe;have WZ:=Hd.out ds[k] (jL6 GY);have Fl:=G (show∀out2,out2=out++ds[k]->out2=l++(ds.take (k+1)).flatten from fun out2 e=>by
    rw[e,GF.out,yc ds k GY];simp)
   generalize ds[k]=x at*;have Wn:=G (show Rd wr 1 (some ⟨b,o+k*32,none⟩) 32 (x.map bv)from⟨by rw[jK7,WZ],fun _=>⟨_,_,rfl,FK⟩⟩);rw[<-WZ]at Wn;have Hx:=G WZ;clear FK FQ WZ GY;have b5:(k:Int)<=2147483647:=(by omega);have b1:(0:Int)<=(k:Int):=(by omega);have b2:(k:Int)<(n:Int):=(by omega);have b3:(k:Int).toNat=k:=(by omega);go_wp2_with (first|(at_builtin;refine ja (.tmp 12) (.tmp 16) Hg.out.row (d:=32) Wn.out (by have:=P9.out;rw[Hx.out];omega) rfl rfl rfl (by rw[Hx.out];rfl) ?_;intro l2 A2 c2 w2 e2 h2;have HE:=G (Fl.out l2 e2.out);have H2:=G (Hg.out.trans h2);clear e2 h2)|fail);go_roundw
   case rel=>exact⟨k+1,l2,A2,c2,by omega,by go_num,rfl,HE.out,H2.out⟩
   case measure=>simp[intOf];omega
  ·obtain rfl:k=n:=(by omega);have Fm:=G (show out=l++ds.flatten by rw[GF.out,jK4 (by rw[Hn.out];omega)]);go_wp2;go_ret;exact⟨out,A',c',Fm,rfl,Hg.out⟩
theorem Rd.from_{w:World}{base n s:Nat}{B:OA}{xs:List Value}(h:Rd w s B n xs)(hs:0<s)(hb:w.heap.size<=base):Av (From base) n B:=fun hn ad e hx=>by
 have:=h.lt hs hn e;have h2:base<=ad.block:=hx;omega
theorem yr(w:World)(n:Int):Calls prog 64 #[.int .i64 n] w (jId w (be8 n)):=by
 refine(YS w n).mono ?_;rintro e w' ⟨g,rfl,hg,hb,ho⟩;have hr:=Rd.of_blk hb;rw[jK7]at hr;exact⟨_,8,by rw[jG],hr,fun _ ad e h=>by injection e with e;subst e;exact absurd h (by simp;omega),ho⟩
theorem BRow.one(w:World)(b:UInt8)(v:Value)(hv:v=bv b):BRow (w.alloc (.cells #[v] 5)) w.heap.size [b] (some ⟨w.heap.size,0,none⟩) 1:=by
 subst hv;exact BRow.new w [b] (by simp[maxLen])
theorem jAL(w:World)(m:MWay)(Hu:m.Ok w NoX):Calls prog 69 #[.agg m.cells.toArray] w (MaybeB w (jAh m.a m.b m.ds)):=by
 obtain⟨a,b,ds,A,c⟩:=m;obtain⟨hd,Fa,_,Fj⟩:=Hu;simp only at hd Fa Fj;simp only[MWay.cells];have LJ:=G (show jAh a b ds=if yA a b=some ds.length then some (((be 1 48++be8 a)++be8 b)++ds.flatten)else none by rw[jAh,jA2];simp only[jK1]);have Rv:=G (fun(h:jp (yA a b)=(ds.length:Int))=>show yA a b=some ds.length by
  cases hb:yA a b with
  |none=>rw[hb]at h;simp only[jp]at h;omega
  |some n=>rw[hb]at h;simp only[jp]at h;rw[show n=ds.length by omega])
 have Ej:=G (fun(h:jp (yA a b)≠(ds.length:Int))=>show yA a b≠some ds.length from fun e=>h (by rw[e];rfl));generalize jAh a b ds=R at*;have HB:=G (jQ2 w 51 #[.int .i64 a,.int .i64 b,.slice A ds.length c]);have Ho:=G ((jQ0 NoX w).alloc (.cells #[.int .i64 a,.int .i64 b,.slice A ds.length c] 51));have HF:=G (fun W=>Jd W a b);generalize jp (yA a b)=z at*;have Hd:=G hd;have Fy:=G Fa;have GS:=G Fj;clear hd Fa Fj;go_enter func69,ntmps69;go_upto_region 1 with(fail);have Fh:=G (show w.heap.size+1=(w.alloc (.cells #[.int .i64 a,.int .i64 b,.slice A ds.length c] 51)).heap.size by simp);generalize w.alloc _=W at*;have c0:=HB.out.at_ 0 (v:=.int .i64 a) rfl;have c1:=HB.out.at_ 1 (v:=.int .i64 b) rfl;have c2:=HB.out.at_ 2 (v:=.slice A ds.length c) rfl;by_cases hz:z=(ds.length:Int)
 ·have FT:=G (show R=some (((be 1 48++be8 a)++be8 b)++ds.flatten)by rw[LJ.out,jJ6 (Rv.out hz)]);have AS:(z !=(ds.length:Int))=false:=(by simp[hz]);clear hz;go_quiet (first|(go_at_call 119;refine Calls.quiet_of_same ((HF.out _).mono (fun _ _ h=>⟨h.1,h.2.symm⟩)))|fail);have HB:=G (HB.out.drewN nq);have Ho:=G (Ho.out.drewN nq);have Fh:=G (show w.heap.size+1=(W.drewN nq).heap.size from Fh.out);clear c0 c1 c2 HF LJ Rv Ej;generalize W.drewN nq=W2 at*;have HR:=G (BRow.one W2 48 (.int .u8 48) rfl);have HB:=G (HB.out.alloc (.cells #[.int .u8 48] 5));have Ho:=G (Ho.out.alloc (.cells #[.int .u8 48] 5));have c0:=HB.out.at_ 0 (v:=.int .i64 a) rfl;go_wp2_with fail;generalize G8:W2.alloc _=W3 at*;refine(yr W3 a).mono ?_;rintro e w4 ⟨B4,d4,rfl,Mu,Y0,Gv⟩;have Pv:=G Mu;have Li:=G (HR.out.old Gv);have ES:=G (HB.out.old Gv);have Wl:=G (Ho.out.old Gv);clear Mu Y0 Gv HR HB Ho c0 G8;have MQ:=jG a;go_upto_region 4 with(first|(at_builtin;refine ja (.tmp 13) (.tmp 16) Li.out Pv.out (by rw[MQ];decide) rfl rfl rfl rfl ?_;intro l5 A5 c5 w5 e5 h5)|fail);have Fg:=h5.row;have SS:=Wl.out.trans (h5.from_ Li.out) (fun b hb hx=>by have:W2.heap.size<=b:=hx;have:=Fh.out;omega);have bb:=ES.out.kp (h5.from_ Li.out) (fun hx=>by have:W2.heap.size<=w.heap.size:=hx;have:=Fh.out;omega);have Ev:=G SS;have RD:=G bb;have Fg:=Fg.drew;have IK:=G e5.out;have kk:=(jQ0 (From W2.heap.size) w5).drew;have d1:=RD.out.drew.at_ 1 (v:=.int .i64 b) rfl;have d2:=RD.out.drew.at_ 2 (v:=.slice A ds.length c) rfl;have C4:=G (show¬From W2.heap.size w.heap.size from fun hx=>by have:W2.heap.size<=w.heap.size:=hx;have:=Fh.out;omega);have FW:=G (Fy.out.from_ (base:=W2.heap.size) (by decide) (by have:=Fh.out;omega));have Gw:=jG b;have Le:=G (show l5.length=9 by rw[e5.out,jJ4,MQ];rfl);clear bb h5 SS Li Wl ES e5 Pv
  go_region_held3 (fun w' =>w'.cell? ⟨w.heap.size,1,none⟩=some (.int .i64 b)/\w'.cell? ⟨w.heap.size,2,none⟩=some (.slice A ds.length c)) (first|exact⟨d1,d2⟩|fail)
   (first
    |(go_at_call 64;refine(yr _ b).mono ?_;rintro e w6 ⟨B6,d6,rfl,r6,a6,o6⟩;have Fg:=Fg.old o6;have kk:=kk.old o6;have bb:=RD.out.kp kk C4.out;have d1:=bb.at_ 1 (v:=.int .i64 b) rfl;have d2:=bb.at_ 2 (v:=.slice A ds.length c) rfl)
    |(refine kv (.tmp 18) (.tmp 21) Fg r6 ?_ rfl rfl rfl rfl ?_;(rw[Gw,Le.out];decide);intro l7 A7 c7 w7 e7 h7;have kk:=kk.trans (h7.from_ Fg) (fun _ _ h=>h);have Fg:=h7.row;have bb:=RD.out.kp kk C4.out;have d1:=bb.at_ 1 (v:=.int .i64 b) rfl;have d2:=bb.at_ 2 (v:=.slice A ds.length c) rfl)
    |(go_at_call 120;refine(zp _ W2.heap.size l7 A7 c7 Fg ?_ A ds.length c ds rfl Hd.out ?_ FW.out GS.out).mono ?_;(rw[e7.out,jJ4,Gw,Le.out];decide);(exact(Fy.out.kp Ev.out (Av.no _ _)).kp kk FW.out);rintro e w8 ⟨l8,A8,c8,e8,rfl,h8⟩;have kk:=kk.trans (h8.from_ Fg) (fun _ _ h=>h);have Fg:=h8.row;have bb:=RD.out.kp kk C4.out;have d1:=bb.at_ 1 (v:=.int .i64 b) rfl;have d2:=bb.at_ 2 (v:=.slice A ds.length c) rfl)
    |fail)
  all_goals
   have Fm:=G (MaybeB.some_ FT.out (l:=l8) (by rw[e8.out,e7.out,IK.out];rfl) (by simp[be]) Fg (by have:=Fh.out;omega) (Ev.out.trans kk (fun b hb hx=>by have:W2.heap.size<=b:=hx;have:=Fh.out;omega)));clear kk Fg bb d1 d2;go_wp2;go_ret;exact Fm.out
 ·have hY:=G (show R=none by rw[LJ.out,jJ5 (Ej.out hz)]);have AS:(z !=(ds.length:Int))=true:=(by simpa using hz);clear hz;go_quiet (first|(go_at_call 119;refine Calls.quiet_of_same ((HF.out _).mono (fun _ _ h=>⟨h.1,h.2.symm⟩)))|fail);go_wp2;go_ret;exact .inr ⟨hY.out,rfl,Ho.out.drewN _⟩
theorem jAN(w:World)(m:MWay)(Hu:m.Ok w NoX):Calls prog 70 #[.agg m.cells.toArray] w (MaybeB w (jAr m.a m.b m.ds)):=by
 obtain⟨a,b,ds,A,c⟩:=m;obtain⟨hd,Fa,_,Fj⟩:=Hu;simp only at hd Fa Fj;simp only[MWay.cells];have LJ:=G (show jAr a b ds=if JR a b=some ds.length then some (((be 1 49++be8 a)++be8 b)++ds.flatten)else none by rw[jAr,jA2];simp only[jK1]);have Rv:=G (fun(h:jp (JR a b)=(ds.length:Int))=>show JR a b=some ds.length by
  cases hb:JR a b with
  |none=>rw[hb]at h;simp only[jp]at h;omega
  |some n=>rw[hb]at h;simp only[jp]at h;rw[show n=ds.length by omega])
 have Ej:=G (fun(h:jp (JR a b)≠(ds.length:Int))=>show JR a b≠some ds.length from fun e=>h (by rw[e];rfl));generalize jAr a b ds=R at*;have HB:=G (jQ2 w 53 #[.int .i64 a,.int .i64 b,.slice A ds.length c]);have Ho:=G ((jQ0 NoX w).alloc (.cells #[.int .i64 a,.int .i64 b,.slice A ds.length c] 53));have HF:=G (fun W=>ZM W a b);generalize jp (JR a b)=z at*;have Hd:=G hd;have Fy:=G Fa;have GS:=G Fj;clear hd Fa Fj;go_enter func70,ntmps70;go_upto_region 1 with(fail);have Fh:=G (show w.heap.size+1=(w.alloc (.cells #[.int .i64 a,.int .i64 b,.slice A ds.length c] 53)).heap.size by simp);generalize w.alloc _=W at*;have c0:=HB.out.at_ 0 (v:=.int .i64 a) rfl;have c1:=HB.out.at_ 1 (v:=.int .i64 b) rfl;have c2:=HB.out.at_ 2 (v:=.slice A ds.length c) rfl;by_cases hz:z=(ds.length:Int)
 ·have FT:=G (show R=some (((be 1 49++be8 a)++be8 b)++ds.flatten)by rw[LJ.out,jJ6 (Rv.out hz)]);have AS:(z !=(ds.length:Int))=false:=(by simp[hz]);clear hz;go_quiet (first|(go_at_call 121;refine Calls.quiet_of_same ((HF.out _).mono (fun _ _ h=>⟨h.1,h.2.symm⟩)))|fail);have HB:=G (HB.out.drewN nq);have Ho:=G (Ho.out.drewN nq);have Fh:=G (show w.heap.size+1=(W.drewN nq).heap.size from Fh.out);clear c0 c1 c2 HF LJ Rv Ej;generalize W.drewN nq=W2 at*;have HR:=G (BRow.one W2 49 (.int .u8 49) rfl);have HB:=G (HB.out.alloc (.cells #[.int .u8 49] 5));have Ho:=G (Ho.out.alloc (.cells #[.int .u8 49] 5));have c0:=HB.out.at_ 0 (v:=.int .i64 a) rfl;go_wp2_with fail;generalize G8:W2.alloc _=W3 at*;refine(yr W3 a).mono ?_;rintro e w4 ⟨B4,d4,rfl,Mu,Y0,Gv⟩;have Pv:=G Mu;have Li:=G (HR.out.old Gv);have ES:=G (HB.out.old Gv);have Wl:=G (Ho.out.old Gv);clear Mu Y0 Gv HR HB Ho c0 G8;have MQ:=jG a;go_upto_region 4 with(first|(at_builtin;refine ja (.tmp 13) (.tmp 16) Li.out Pv.out (by rw[MQ];decide) rfl rfl rfl rfl ?_;intro l5 A5 c5 w5 e5 h5)|fail);have Fg:=h5.row;have SS:=Wl.out.trans (h5.from_ Li.out) (fun b hb hx=>by have:W2.heap.size<=b:=hx;have:=Fh.out;omega);have bb:=ES.out.kp (h5.from_ Li.out) (fun hx=>by have:W2.heap.size<=w.heap.size:=hx;have:=Fh.out;omega);have Ev:=G SS;have RD:=G bb;have Fg:=Fg.drew;have IK:=G e5.out;have kk:=(jQ0 (From W2.heap.size) w5).drew;have d1:=RD.out.drew.at_ 1 (v:=.int .i64 b) rfl;have d2:=RD.out.drew.at_ 2 (v:=.slice A ds.length c) rfl;have C4:=G (show¬From W2.heap.size w.heap.size from fun hx=>by have:W2.heap.size<=w.heap.size:=hx;have:=Fh.out;omega);have FW:=G (Fy.out.from_ (base:=W2.heap.size) (by decide) (by have:=Fh.out;omega));have Gw:=jG b;have Le:=G (show l5.length=9 by rw[e5.out,jJ4,MQ];rfl);clear bb h5 SS Li Wl ES e5 Pv
  go_region_held3 (fun w' =>w'.cell? ⟨w.heap.size,1,none⟩=some (.int .i64 b)/\w'.cell? ⟨w.heap.size,2,none⟩=some (.slice A ds.length c)) (first|exact⟨d1,d2⟩|fail)
   (first
    |(go_at_call 64;refine(yr _ b).mono ?_;rintro e w6 ⟨B6,d6,rfl,r6,a6,o6⟩;have Fg:=Fg.old o6;have kk:=kk.old o6;have bb:=RD.out.kp kk C4.out;have d1:=bb.at_ 1 (v:=.int .i64 b) rfl;have d2:=bb.at_ 2 (v:=.slice A ds.length c) rfl)
    |(refine kv (.tmp 18) (.tmp 21) Fg r6 ?_ rfl rfl rfl rfl ?_;(rw[Gw,Le.out];decide);intro l7 A7 c7 w7 e7 h7;have kk:=kk.trans (h7.from_ Fg) (fun _ _ h=>h);have Fg:=h7.row;have bb:=RD.out.kp kk C4.out;have d1:=bb.at_ 1 (v:=.int .i64 b) rfl;have d2:=bb.at_ 2 (v:=.slice A ds.length c) rfl)
    |(go_at_call 120;refine(zp _ W2.heap.size l7 A7 c7 Fg ?_ A ds.length c ds rfl Hd.out ?_ FW.out GS.out).mono ?_;(rw[e7.out,jJ4,Gw,Le.out];decide);(exact(Fy.out.kp Ev.out (Av.no _ _)).kp kk FW.out);rintro e w8 ⟨l8,A8,c8,e8,rfl,h8⟩;have kk:=kk.trans (h8.from_ Fg) (fun _ _ h=>h);have Fg:=h8.row;have bb:=RD.out.kp kk C4.out;have d1:=bb.at_ 1 (v:=.int .i64 b) rfl;have d2:=bb.at_ 2 (v:=.slice A ds.length c) rfl)
    |fail)
  all_goals
   have Fm:=G (MaybeB.some_ FT.out (l:=l8) (by rw[e8.out,e7.out,IK.out];rfl) (by simp[be]) Fg (by have:=Fh.out;omega) (Ev.out.trans kk (fun b hb hx=>by have:W2.heap.size<=b:=hx;have:=Fh.out;omega)));clear kk Fg bb d1 d2;go_wp2;go_ret;exact Fm.out
 ·have hY:=G (show R=none by rw[LJ.out,jJ5 (Ej.out hz)]);have AS:(z !=(ds.length:Int))=true:=(by simpa using hz);clear hz;go_quiet (first|(go_at_call 121;refine Calls.quiet_of_same ((HF.out _).mono (fun _ _ h=>⟨h.1,h.2.symm⟩)))|fail);go_wp2;go_ret;exact .inr ⟨hY.out,rfl,Ho.out.drewN _⟩
def jKK(w:World)(l:LB)(e:Ending)(w' :World):Prop:=∃out A c,Hid (out=l)/\e=.returned (.slice A out.length c)/\BRow w' w.heap.size out A c/\Old w w'
theorem jIV(n:Int)(j:Nat)(hj:j<8):(be8 n).getD j 0=UInt8.ofNat ((n% 18446744073709551616).toNat/256^(7-j)):=by
 rw[be8,List.getD,jEv _ _ _ hj];rfl
theorem jGL(n:Int)(j:Nat)(hj:j<8)(z:Int)(hz:z=n/2^(8*(7-j))% 256):Value.int .u8 z=bv ((be8 n).getD j 0):=by
 rw[jIV n j hj,zO,hz];have Dj:j=0\/j=1\/j=2\/j=3\/j=4\/j=5\/j=6\/j=7:=(by omega);rcases Dj with rfl|rfl|rfl|rfl|rfl|rfl|rfl|rfl<;>simp<;>omega
theorem xf(w:World)(n:Int):Calls prog 182 #[.int .i64 n] w (jKK w (be8 n)):=by
 have Hb:=G (fun j (hj:j<8) z hz=>jGL n j hj z hz);have Hl:=G (jG n);have Hs:=G (fun j (hj:j<8)=>show(be8 n).take (j+1)=(be8 n).take j++[(be8 n).getD j 0]by
  rw[jK2 (by rw[jG];exact hj)];simp[List.getD,jG,hj])
 generalize be8 n=B at*;go_enter func182,ntmps182;go_wp2;go_loopw [3,4] (fun b i wr=>∃(j:Nat) (out:LB) (A:OA) (c:Nat),j<=8/\i=.int .i64 (7-(j:Int))/\b=.slice A out.length c/\out=B.take j/\BRow wr w.heap.size out A c/\Kp (From w.heap.size) w wr) (fun _ i _=>(intOf i+1).toNat)
 case atStart=>exact⟨0,[],none,0,by omega,rfl,rfl,by simp,BRow.nil_ _ _ (jL3 _),jQ0 _ _⟩
 case round=>
  obtain⟨j,out,A,c,hj,rfl,rfl,G0,Fg,FQ⟩:=hrel;have GF:=G G0;have M4:=G Fg;have MF:=G FQ;have P9:=G (show out.length<=8 by rw[G0,jK9];omega);clear G0 Fg FQ;by_cases hM:j<8
  ·have h0:(0:Int)<=7-(j:Int):=(by omega);have Hn:=G (Hs.out j hM);have Hz:=G (fun z hz=>Hb.out j hM z hz);generalize B.getD j 0=y at*;have e1:IntKind.i64.wrap (8*(7-(j:Int)))=8*(7-(j:Int)):=jQ3 _ (by omega);have e2:IntKind.i64.wrap (7-(j:Int)-1)=7-(j:Int)-1:=jQ3 _ (by omega);have e3:(8*(7-(j:Int))).toNat=8*(7-j):=(by omega);have e4:(0:Int)<=8*(7-(j:Int)):=(by omega);have e5:8*(7-(j:Int))<=63:=(by omega);have Wn:=G (show Rd (wr.alloc (.cells #[.int .u8 (n/2^(8*(7-j))% 256)] 5)) 1 (some ⟨wr.heap.size,0,none⟩) ([y]:LB).length (([y]:LB).map bv)by
    have h:=Rd.one_new wr 5 (.int .u8 (n/2^(8*(7-j))% 256));rw[Hz.out _ rfl]at h⊢;exact h)
   go_wp2_with (first|(at_builtin;refine ja (.tmp 9) (.tmp 15) (M4.out.alloc _) (d:=1) Wn.out (by have:=P9.out;simp;omega) rfl rfl rfl rfl ?_;intro l2 A2 c2 w2 e2 h2;have HO:=G (show l2=B.take (j+1)by rw[e2.out,Hn.out,GF.out]);have HR:=G h2.row;have HK:=G ((MF.out.alloc _).trans (h2.from_ (M4.out.alloc _)) (fun _ _ h=>h));clear e2 h2)|fail);go_roundw
   case rel=>exact⟨j+1,l2,A2,c2,by omega,by go_num,rfl,HO.out,HR.out,HK.out⟩
   case measure=>simp[intOf];omega
  ·obtain rfl:j=8:=(by omega);have Hf:=G (show out=B by rw[GF.out,jK4 (by rw[Hl.out];omega)]);go_wp2;go_ret;exact⟨out,A,c,Hf,rfl,M4.out,From.old (jQ0 NoX w) MF.out (jL3 _)⟩
theorem BRow.lower{w:World}{base b0:Nat}{l:LB}{A:OA}{c:Nat}(h:BRow w base l A c)(hb:b0<=base):BRow w b0 l A c:=by
 refine⟨⟨h.own.1,?_⟩,jL4 hb h.le⟩;rcases h.own.2 with hn|⟨g,cap,cur,e,hg,rest⟩
 ·exact .inl hn
 ·exact .inr ⟨g,cap,cur,e,jL4 hb hg,rest⟩
def jJR(w:World)(h:Hd)(e:Ending)(w' :World):Prop:=
 (vU h=true/\∃out A c,Hid (out=vh h)/\e=.returned (.tuple #[.slice A out.length c,.bool true])/\BRow w' w.heap.size out A c/\Old w w')\/(vU h=false/\e=.returned (.tuple #[.slice none 0 0,.bool false])/\Old w w')
theorem Sub.rd32{w:World}{g:Nat}{T:TypeId}{cs:List Value}{d:LB}{o:Nat}(h:Sub cs o (jA d))(hb:Blk w g T cs.toArray):Rd w 1 (some ⟨g,o,none⟩) d.length (d.map bv):=⟨by simp,fun _=>⟨_,_,rfl,h.range hb⟩⟩
theorem jDZ(w:World)(h:Hd)(hk:h.Ok):Calls prog 161 #[.agg h.cells.toArray] w (jJR w h):=by
 have hb:=jQ2 w 45 h.cells.toArray;have Ho:=G ((jQ0 NoX w).alloc (.cells h.cells.toArray 45));have HR:=G (show vU h=decide (0<=h.size/\h.size<=1099511627776/\0<=h.clock/\h.clock<=4611686018427387904)from rfl);have HB:=G hb;have DY:=G hk.s32;have DX:=G hk.s97;have H0:=G (show Sub h.cells 0 (jA h.log)from Hd.s0);have H33:=G hk.s33;have H65:=G hk.s65;have Hk:=G hk;have HD:=G (show vh h=((([32]++h.log)++be8 h.size)++h.root)++h.index++be8 h.clock by simp[vh,be]);unfold jJR;generalize vU h=R at*;generalize vh h=D at*;clear hb hk;generalize h.cells=cs at*;have Fh:=G (show w.heap.size+1=(w.alloc (.cells cs.toArray 45)).heap.size by simp);go_enter func161,ntmps161;go_upto_region 1 with(fail);generalize w.alloc _=W at*;have c32:=HB.out.at_ 32 (by rw[jJ7];exact DY.out);have c97:=HB.out.at_ 97 (by rw[jJ7];exact DX.out);by_cases h1:0<=h.size
 ·by_cases h2:h.size<=1099511627776
  ·by_cases h3:0<=h.clock
   ·by_cases h4:h.clock<=4611686018427387904
    ·have Hv:=G (show R=true by rw[HR.out,jK5 ⟨h1,h2,h3,h4⟩]);have HX:=G (fun W' (Na:Kp (From (w.heap.size+1)) W W')=>show Blk W' w.heap.size 45 cs.toArray from HB.out.kp Na (fun hx=>absurd hx (Nat.not_succ_le_self _)));have SB:=G (show BRow (W.alloc (.cells #[.int .u8 32] 5)) (w.heap.size+1) [32] (some ⟨W.heap.size,0,none⟩) 1 from(BRow.one W 32 (.int .u8 32) rfl).lower (by have:=Fh.out;omega));have K0:=G ((jQ0 (From (w.heap.size+1)) W).alloc (.cells #[.int .u8 32] 5));go_upto_region 4 with(first|(at_builtin;refine ja (.tmp 23) (.tmp 25) SB.out (d:=32) (H0.out.rd32 (HX.out _ K0.out)) (by rw[Hk.out.log];decide) rfl rfl rfl (by rw[Hk.out.log];rfl) ?_;intro l1 A1 c1 w1 e1 Ns)|fail);have K1:=G (K0.out.trans (Ns.from_ SB.out) (fun _ _ h=>h));have R1:=G Ns.row;have E1:=G e1.out;have L1:=G (show l1.length=33 by rw[e1.out,jJ4,Hk.out.log];rfl);clear c32 c97 h1 h2 h3 h4 Ns e1;have c32:=(HX.out w1 K1.out).at_ 32 (by rw[jJ7];exact DY.out);go_wp2_with fail;refine(xf _ h.size).mono ?_;rintro e w2 ⟨o2,B2,d2,e2,rfl,b2,FL⟩;have K2:=G (K1.out.old FL);have R2:=G (R1.out.old FL);have Ss:=G b2.rd;have E2:=G e2.out;have L2:=G (show o2.length=8 by rw[e2.out,jG]);clear b2 FL e2 c32;go_upto_region 7 with(first
      |(at_builtin;refine ja (.tmp 27) (.tmp 30) R2.out Ss.out (by rw[L2.out,L1.out];decide) rfl rfl rfl rfl ?_;intro l3 A3 c3 w3 e3 LD;have K3:=G (K2.out.trans (LD.from_ R2.out) (fun _ _ h=>h));have R3:=G LD.row;have E3:=G e3.out;have L3:=G (show l3.length=41 by rw[e3.out,jJ4,L1.out,L2.out]);clear LD e3)
      |(at_builtin;refine ja (.tmp 32) (.tmp 34) R3.out (d:=32) (H33.out.rd32 (HX.out _ K3.out)) (by rw[Hk.out.root,L3.out];decide) rfl rfl rfl (by rw[Hk.out.root];rfl) ?_;intro l4 A4 c4 w4 e4 Sm;have K4:=G (K3.out.trans (Sm.from_ R3.out) (fun _ _ h=>h));have R4:=G Sm.row;have E4:=G e4.out;have L4:=G (show l4.length=73 by rw[e4.out,jJ4,L3.out,Hk.out.root]);clear Sm e4)
      |(at_builtin;refine ja (.tmp 36) (.tmp 38) R4.out (d:=32) (H65.out.rd32 (HX.out _ K4.out)) (by rw[Hk.out.index,L4.out];decide) rfl rfl rfl (by rw[Hk.out.index];rfl) ?_;intro l5 A5 c5 w5 e5 DF;have K5:=G (K4.out.trans (DF.from_ R4.out) (fun _ _ h=>h));have R5:=G DF.row;have E5:=G e5.out;have L5:=G (show l5.length=105 by rw[e5.out,jJ4,L4.out,Hk.out.index]);clear DF e5)
      |fail)
     have c97:=(HX.out w5 K5.out).at_ 97 (by rw[jJ7];exact DX.out);go_wp2_with fail;refine(xf _ h.clock).mono ?_;rintro e w6 ⟨o6,B6,d6,e6,rfl,b6,FN⟩;have K6:=G (K5.out.old FN);have R6:=G (R5.out.old FN);have Aq:=G b6.rd;have E6:=G e6.out;have L6:=G (show o6.length=8 by rw[e6.out,jG]);clear b6 FN e6 c97;go_wp2_with (first|(at_builtin;refine ja (.tmp 40) (.tmp 43) R6.out Aq.out (by rw[L6.out,L5.out];decide) rfl rfl rfl rfl ?_;intro l7 A7 c7 w7 e7 BO;have K7:=G (K6.out.trans (BO.from_ R6.out) (fun _ _ h=>h));have R7:=G BO.row;have E7:=G e7.out;clear BO e7)|fail)
     go_ret2
     exact .inl ⟨Hv.out,l7,A7,c7,G (by rw[E7.out,E6.out,E5.out,E4.out,E3.out,E2.out,E1.out,HD.out]),rfl,R7.out.lower (Nat.le_succ _),From.old Ho.out K7.out (Nat.le_succ _)⟩
    ·have Hv:=G (show R=false by rw[HR.out,jK3 (fun h=>h4 h.2.2.2)]);go_wp2
     go_ret2
     exact .inr ⟨Hv.out,rfl,Ho.out⟩
   ·have Hv:=G (show R=false by rw[HR.out,jK3 (fun h=>h3 h.2.2.1)]);go_wp2
    go_ret2
    exact .inr ⟨Hv.out,rfl,Ho.out⟩
  ·have Hv:=G (show R=false by rw[HR.out,jK3 (fun h=>h2 h.2.1)]);go_wp2
   go_ret2
   exact .inr ⟨Hv.out,rfl,Ho.out⟩
 ·have Hv:=G (show R=false by rw[HR.out,jK3 (fun h=>h1 h.1)]);go_wp2
  go_ret2
  exact .inr ⟨Hv.out,rfl,Ho.out⟩
def Kw(i n:Nat):List Bool:=List.replicate i true++List.replicate (n-i) false
theorem Yj{i n:Nat}(h:i<n):(Kw i n).set i true=Kw (i+1) n:=by
 obtain⟨k,hk⟩:∃k,n-i=k+1:=⟨n-i-1,by omega⟩;rw[Kw,Kw,hk,show n-(i+1)=k by omega,List.set_append_right _ _ (by simp),List.length_replicate,Nat.sub_self,List.replicate_succ,jJ2,List.replicate_succ',jK1];rfl
section
variable{P:Program}{l:List Oper}{Q:Exit->Act->World->Prop}{S:World->Prop}{md:Region.Mode}{i n fuel:Nat}{oi:Oper}{d:Option Tmp}{v:Value}{a:Act}{w:World}
theorem je{id:Nat}(n:Nat)(hn:l.length=n)(hm:P.follows .mixedOrders=true)(hS:S w.drew)(h:S w.drew->wpAnyH P .any l.toArray Q S n (Kw 0 n).toArray a w.drew):(Code.region id l.toArray true).wp P Q a w:=by
 refine wp_region_held_drew hm hS (fun hs=> ?_);have:=h hs;subst hn;simpa [Kw]using this
theorem tOn(hi:nth l i=some oi)(hd:oi.dst=d)(hk:(decide (i<n)&&chk md l (Kw i n).toArray i)=true)
  (hQ:∀c a w,Q (.panic c) (a.put oi.dst v) w->Q (.panic c) a w) (hw:Region.wanted oi (yielded l.toArray a.tmps)=true) (hS:S w) (hy:∀w,S w->(execOp a.eval oi).run P w=.ok (.value v) w)
  (h:wpAnyH P md l.toArray Q S fuel (Kw (i+1) n).toArray (a.put d v) w):wpAnyH P md l.toArray Q S (fuel+1) (Kw i n).toArray a w:=by
 obtain⟨RJ,hk⟩:=Bool.and_eq_true _ _ ▸hk;refine jP i hi hd hk hQ hw hS hy ?_;rw[jJ1,Yj (of_decide_eq_true RJ)];exact h
theorem qI(hi:nth l i=some oi)(hd:oi.dst=d)(hk:(decide (i<n)&&chk md l (Kw i n).toArray i)=true)
  (hQ:∀c a w,Q (.panic c) (a.put oi.dst undef) w->Q (.panic c) a w) (hw:Region.wanted oi (yielded l.toArray a.tmps)=false) (hS:S w)
  (h:wpAnyH P md l.toArray Q S fuel (Kw (i+1) n).toArray (a.put d undef) w):wpAnyH P md l.toArray Q S (fuel+1) (Kw i n).toArray a w:=by
 obtain⟨RJ,hk⟩:=Bool.and_eq_true _ _ ▸hk;refine jFT i hi hd hk hQ hw hS ?_;rw[jJ1,Yj (of_decide_eq_true RJ)];exact h
theorem VP(hi:nth l i=some oi)(hr:Region.ready md l.toArray (Kw i n).toArray=[i])(RJ:i<n)
  (h:∀K' :Act->World->Prop,Shut (∀a w,S w->(S w->wpAnyH P md l.toArray Q S fuel (Kw (i+1) n).toArray a w)->K' a w)->if Region.wanted oi (yielded l.toArray a.tmps)=true then Oper.wp P oi a w K' Q else K' (a.put oi.dst undef) w):
  wpAnyH P md l.toArray Q S (fuel+1) (Kw i n).toArray a w:=by
 refine jU i hi hr (fun K' hK=>h K' (fun a w hS k=>hK.out a w hS (fun hs=> ?_)));rw[jJ1,Yj RJ];exact k hs
theorem jFS{ls ls' :Array Bool}(e:ls=ls')(h:wpAnyH P md l.toArray Q S fuel ls' a w):wpAnyH P md l.toArray Q S fuel ls a w:=e▸h
end
theorem ZC(T:TypeId)(zc:Array Value)(cs:List Value)(hl:zc.size=cs.length)(W:World)(g:Nat)(hg:W.heap.size=g):
  (W.alloc (.cells zc T)).there g 0 cs.toArray.size/\Blk ((W.alloc (.cells zc T)).setCells g 0 cs) g T cs.toArray/\Old W ((W.alloc (.cells zc T)).setCells g 0 cs):=by
 subst hg;have hb:=jQ2 W T zc;refine⟨hb.there 0 _ (by rw[jJ8];omega),Blk.setWhole (cs:=zc.toList) (by simpa using hb) cs (by simpa using hl),?_⟩;exact((jQ0 NoX W).alloc _).trans (Kp.setCells _ _ _ _) (fun b hb e=>by omega)
end Go.Proofs.YtnaolhjbapgjgaaGreat

import Derived.Test.YtnaolhjbapgjgaaGreatMg13
set_option maxRecDepth 100000
set_option maxHeartbeats 6400000
namespace Go.Proofs.YtnaolhjbapgjgaaGreat
open Go.Proofs.Tryz
open Go.RowKit
structure TkR(T:TypeId)(z:List Value)(w:World)(g:Nat)(bs:LB)(s:Rs)(W:World):Prop where
 box:Blk W w.heap.size T z.toArray
 rr:Rr W g bs s
 kp:Kp (RX g) w W
 lt:g<w.heap.size
section
variable{T:TypeId}{z:List Value}{w:World}{g:Nat}{bs:LB}{s s' :Rs}{W W' :World}
theorem TkR.step(h:TkR T z w g bs s W)(hr:Rr W' g bs s')(hk:Kp (RX g) W W'):TkR T z w g bs s' W' :=
 ⟨h.box.kp hk (fun e=>by have:w.heap.size=g:=e;have:=h.lt;omega),hr,h.kp.trans hk (fun b hb e=>e),h.lt⟩
theorem TkR.still(h:TkR T z w g bs s W)(hk:Old W W'):TkR T z w g bs s W' :=⟨h.box.old hk,h.rr.old hk,h.kp.old hk,h.lt⟩
theorem TkR.put(h:TkR T z w g bs s W){X:Nat->Prop}(hk:Kp X W W')(hx:∀b,X b->w.heap.size<b):TkR T z w g bs s W' :=
 ⟨h.box.kp hk (fun e=>by have:=hx _ e;omega),h.rr.kp hk (fun b hb e=>by have:=hx _ e;have:=h.lt;omega),h.kp.trans hk (fun b hb e=>by have:=hx _ e;omega),h.lt⟩
theorem TkR.th(h:TkR T z w g bs s W)(vs:List Value)(hl:z.length=vs.length):W.there w.heap.size 0 vs.toArray.size:=h.box.there 0 _ (by rw[jJ8,jJ8];omega)
structure ToldR(T:TypeId)(vs:List Value)(w:World)(g:Nat)(bs:LB)(s:Rs)(W W' :World):Prop where
 box:Blk W' w.heap.size T vs.toArray
 rr:Rr W' g bs s
 kp:Kp (RX g) w W'
 st:Kp (fun k=>k=w.heap.size) W W'
theorem TkR.told(h:TkR T z w g bs s W)(vs:List Value)(hl:z.length=vs.length):ToldR T vs w g bs s W (W.setCells w.heap.size 0 vs):=
 ⟨h.box.setWhole vs hl,h.rr.kp (Kp.setCells _ 0 vs W) (fun b hb e=>by have:=h.lt;omega),h.kp.trans (Kp.setCells _ 0 vs W) (fun b hb e=>by omega),Kp.setCells _ 0 vs W⟩
end
def zeroHdL:List Value:=[.int .u8 0,.int .u8 0,.int .u8 0,.int .u8 0,.int .u8 0,.int .u8 0,.int .u8 0,.int .u8 0,.int .u8 0,.int .u8 0,.int .u8 0,.int .u8 0,.int .u8 0,.int .u8 0,.int .u8 0,.int .u8 0,.int .u8 0,.int .u8 0,.int .u8 0,.int .u8 0,.int .u8 0,.int .u8 0,.int .u8 0,.int .u8 0,.int .u8 0,.int .u8 0,.int .u8 0,.int .u8 0,.int .u8 0,.int .u8 0,.int .u8 0,.int .u8 0,.int .i64 0,.int .u8 0,.int .u8 0,.int .u8 0,.int .u8 0,.int .u8 0,.int .u8 0,.int .u8 0,.int .u8 0,.int .u8 0,.int .u8 0,.int .u8 0,.int .u8 0,.int .u8 0,.int .u8 0,.int .u8 0,.int .u8 0,.int .u8 0,.int .u8 0,.int .u8 0,.int .u8 0,.int .u8 0,.int .u8 0,.int .u8 0,.int .u8 0,.int .u8 0,.int .u8 0,.int .u8 0,.int .u8 0,.int .u8 0,.int .u8 0,.int .u8 0,.int .u8 0,.int .u8 0,.int .u8 0,.int .u8 0,.int .u8 0,.int .u8 0,.int .u8 0,.int .u8 0,.int .u8 0,.int .u8 0,.int .u8 0,.int .u8 0,.int .u8 0,.int .u8 0,.int .u8 0,.int .u8 0,.int .u8 0,.int .u8 0,.int .u8 0,.int .u8 0,.int .u8 0,.int .u8 0,.int .u8 0,.int .u8 0,.int .u8 0,.int .u8 0,.int .u8 0,.int .u8 0,.int .u8 0,.int .u8 0,.int .u8 0,.int .u8 0,.int .u8 0,.int .i64 0]
def zeroHd:Hd:=⟨zD,0,zD,zD,0⟩
theorem zeroHd_ok:zeroHd.Ok:=⟨jy,jy,jy⟩
theorem yF:zeroHd.cells=zeroHdL:=by
 simp only[zeroHd,Hd.cells,JW];rfl
theorem Blk.hlog{w:World}{H:Nat}{T:TypeId}{h:Hd}(k:h.Ok)(hb:Blk w H T h.cells.toArray)(d:LB)(hd:d.length=32):Blk (w.setCells H 0 (jA d)) H T (Hd.cells {h with log:=d}).toArray:=by
 have:=Blk.setCells (pre:=[]) (mid:=jA h.log) (post:=[.int .i64 h.size]++(jA h.root++(jA h.index++[.int .i64 h.clock]))) (by simpa [Hd.cells]using hb) (jA d) (by rw[jB,jB,hd,k.log]);simpa [Hd.cells]using this
theorem Blk.hroot{w:World}{H:Nat}{T:TypeId}{h:Hd}(k:h.Ok)(hb:Blk w H T h.cells.toArray)(d:LB)(hd:d.length=32):Blk (w.setCells H 33 (jA d)) H T (Hd.cells {h with root:=d}).toArray:=by
 have:=Blk.setCells (pre:=jA h.log++[.int .i64 h.size]) (mid:=jA h.root) (post:=jA h.index++[.int .i64 h.clock]) (by simpa [Hd.cells]using hb) (jA d) (by rw[jB,jB,hd,k.root]);rw[jJ4,jB,k.log]at this;simpa [Hd.cells]using this
theorem Blk.hindex{w:World}{H:Nat}{T:TypeId}{h:Hd}(k:h.Ok)(hb:Blk w H T h.cells.toArray)(d:LB)(hd:d.length=32):Blk (w.setCells H 65 (jA d)) H T (Hd.cells {h with index:=d}).toArray:=by
 have:=Blk.setCells (pre:=jA h.log++([.int .i64 h.size]++jA h.root)) (mid:=jA h.index) (post:=[.int .i64 h.clock]) (by simpa [Hd.cells]using hb) (jA d) (by rw[jB,jB,hd,k.index]);rw[jJ4,jJ4,jB,jB,k.log,k.root]at this;simpa [Hd.cells]using this
theorem Blk.hsize{w:World}{H:Nat}{T:TypeId}{h:Hd}(k:h.Ok)(hb:Blk w H T h.cells.toArray)(n:Int):Blk (w.setCell ⟨H,32,none⟩ (.int .i64 n)) H T (Hd.cells {h with size:=n}).toArray:=by
 have:=Blk.setCells (pre:=jA h.log) (mid:=[.int .i64 h.size]) (post:=jA h.root++(jA h.index++[.int .i64 h.clock])) (by simpa [Hd.cells]using hb) [.int .i64 n] rfl;rw[jB,k.log]at this;have e:w.setCells H 32 [.int .i64 n]=w.setCell ⟨H,32,none⟩ (.int .i64 n):=rfl;rw[e]at this;simpa [Hd.cells]using this
theorem Blk.hclock{w:World}{H:Nat}{T:TypeId}{h:Hd}(k:h.Ok)(hb:Blk w H T h.cells.toArray)(n:Int):Blk (w.setCell ⟨H,97,none⟩ (.int .i64 n)) H T (Hd.cells {h with clock:=n}).toArray:=by
 have:=Blk.setCells (pre:=jA h.log++([.int .i64 h.size]++(jA h.root++jA h.index))) (mid:=[.int .i64 h.clock]) (post:=[]) (by simpa [Hd.cells]using hb) [.int .i64 n] rfl;rw[jJ4,jJ4,jJ4,jB,jB,jB,k.log,k.root,k.index]at this;have e:w.setCells H 97 [.int .i64 n]=w.setCell ⟨H,97,none⟩ (.int .i64 n):=rfl;simp only[Nat.reduceAdd,List.length_singleton,e]at this;simpa [Hd.cells]using this
def jHH(bs:LB)(k:Nat)(s:Rs):Option Hd×Rs:=
 (if(tkN bs 8 (kq bs (kq bs (tkN bs 8 (kq bs s).2).2).2).2).2.why=0/\k=32/\(tkN bs 8 (kq bs s).2).1<=1099511627776/\(tkN bs 8 (kq bs (kq bs (tkN bs 8 (kq bs s).2).2).2).2).1<=4611686018427387904 then
  some ⟨(kq bs s).1,(tkN bs 8 (kq bs s).2).1,(kq bs (tkN bs 8 (kq bs s).2).2).1,(kq bs (kq bs (tkN bs 8 (kq bs s).2).2).2).1,(tkN bs 8 (kq bs (kq bs (tkN bs 8 (kq bs s).2).2).2).2).1⟩else none,
  (tkN bs 8 (kq bs (kq bs (tkN bs 8 (kq bs s).2).2).2).2).2)
def JM(bs:LB)(s:Rs):Option Hd×Rs:=jHH bs (tkN bs 1 s).1 (tkN bs 1 s).2
def HtP(w:World)(g:Nat)(bs:LB)(o:Option Hd×Rs)(e:Ending)(w' :World):Prop:=
 ((∃h:Hd,o.1=some h/\h.Ok/\vU h=true/\e=.returned (.tuple #[.agg h.cells.toArray,.bool true]))\/(o.1=none/\e=.returned (.tuple #[.agg zeroHdL.toArray,.bool false])))/\Rr w' g bs o.2/\Kp (RX g) w w'
theorem zn:zeroCells45=zeroHdL.toArray:=by kernel_rfl
theorem jET{h:Hd}(h1:0<=h.size)(h2:h.size<=1099511627776)(h3:0<=h.clock)(h4:h.clock<=4611686018427387904):vU h=true:=by
 unfold vU;rw[decide_eq_true_iff];exact⟨h1,h2,h3,h4⟩
theorem jBz{log root index:LB}{n c:Nat}(hn:n<=1099511627776)(hc:c<=4611686018427387904):vU ⟨log,n,root,index,c⟩=true:=
 jET (Int.natCast_nonneg n) (Int.ofNat_le.2 hn) (Int.natCast_nonneg c) (Int.ofNat_le.2 hc)
theorem vj(w:World):(Instr.build 45 #[]).run prog w=.ok (.agg zeroHdL.toArray) w:=by kernel_rfl
theorem Hd.one(h:Hd):h.cells.toArray.all (·.oneCell')=true:=by
 refine all_oneCell_toArray (fun v hv=> ?_);simp only[Hd.cells,List.mem_append,jL7]at hv;rcases hv with hv|rfl|hv|hv|rfl
 ·exact jf _ v hv
 ·rfl
 ·exact jf _ v hv
 ·exact jf _ v hv
 ·rfl
theorem yi:(prog.info? 45).map (·.size)=some zeroHdL.toArray.size:=by kernel_rfl
theorem jES(w:World)(g:Nat)(bs:LB)(s:Rs)(h:Rr w g bs s):
  Calls prog 140 #[.pointer (some ⟨g,0,none⟩)] w (HtP w g bs (JM bs s)):=by
 have HT:=G (show JM bs s=jHH bs (tkN bs 1 s).1 (tkN bs 1 s).2 from rfl);have NV:=h.lt;have HS:=G (show TkR 45 zeroHdL w g bs s (w.alloc (.cells zeroCells45 45))from⟨by rw[zn];exact jQ2 w _ _,h.old ((jQ0 NoX w).alloc _),(jQ0 _ w).alloc _,h.lt⟩);generalize JM bs s=TV at*;clear h;go_enter func140,ntmps140;go_wp2_with fail;generalize w.alloc _=W at*;have HP:=G (fun W' (hR:Rr W' g bs s)=>vm W' g bs s hR);refine(HP.out _ HS.out.rr).mono ?_;clear HP;generalize tkN bs 1 s=t at*;obtain⟨k,s1⟩:=t;simp only at HT⊢;rintro e w1 ⟨rfl,Fd,Fc⟩;have Wg:=G (HS.out.step Fd Fc);have hwg:w.heap.size<w1.heap.size:=Wg.out.box.lt;replace HS:=G (Wg.out.still ((jQ0 NoX w1).alloc (.cells zeroCells45 45)));have HH:=G (show Blk (w1.alloc (.cells zeroCells45 45)) w1.heap.size 45 zeroHd.cells.toArray from by rw[yF,<-zn];exact jQ2 w1 _ _);clear Fd Fc Wg;unfold jHH at HT;have HG:=G (fun W' (hR:Rr W' g bs s1)=>yR W' g bs s1 hR);have HL:=G (kU bs s1);go_wp2_with fail;generalize w1.alloc _=W1 at*;generalize w1.heap.size=H at*;refine(HG.out _ HS.out.rr).mono ?_;clear HG;generalize kq bs s1=t2 at*;obtain⟨log,s2⟩:=t2;simp only at HT HL⊢;rintro e w2 ⟨rfl,Fb,hZ⟩;have hx:¬RX g H:=fun e=>by have:H=g:=e;omega
 have Hx:=G hx;have Tm:=G (HS.out.step Fb hZ);have Ry:=G (HH.out.kp hZ hx);have hU:=G (Ry.out.there 0 (jA log).toArray.size (by rw[jJ8,jJ8,zeroHd_ok.len,jB,HL.out];decide));have Fh:=G (show(prog.info? 40).map (·.size)=some (jA log).length by rw[jB,HL.out];exact jO);replace HS:=G (Tm.out.put (Kp.setCells H 0 (jA log) w2) (fun b e=>by omega));have NP:=G (show Hd.Ok {zeroHd with log:=log}from⟨HL.out,jy,jy⟩);replace HH:=G (Ry.out.hlog zeroHd_ok log HL.out);clear Fb hZ Tm Ry hx;have HG:=G (fun W' (hR:Rr W' g bs s2)=>yY W' g bs s2 hR);go_wp2_with (first|((with_reducible refine jF 40 (.tmp 12) (.tmp 11) ?_);refine jQ1 rfl 40 (.tmp 12) (.tmp 11) rfl H 0 (jA log).toArray rfl rfl hU.out Fh.out (kV _) ?_)|fail);generalize w2.setCells H 0 (jA log)=W2 at*;refine(HG.out _ HS.out.rr).mono ?_;clear HG;have IX:=G (ku bs 8 s2);generalize tkN bs 8 s2=tn at*;obtain⟨n,s3⟩:=tn;simp only at HT IX⊢;rintro e w3 ⟨rfl,Fb,hZ⟩;replace HS:=G (HS.out.step Fb hZ);replace HH:=G (HH.out.kp hZ Hx.out);clear Fb hZ;have HG:=G (fun W' (hR:Rr W' g bs s3)=>yR W' g bs s3 hR);have HL:=G (kU bs s3);go_wp2_with fail;refine(HG.out _ HS.out.rr).mono ?_;clear HG;generalize kq bs s3=troot at*;obtain⟨root,s4⟩:=troot;simp only at HT HL⊢;rintro e w4 ⟨rfl,Fb,hZ⟩;have Tm:=G (HS.out.step Fb hZ);have Ry:=G (HH.out.kp hZ Hx.out);have hU:=G (Ry.out.there 33 (jA root).toArray.size (by rw[jJ8,jJ8,NP.out.len,jB,HL.out];decide));have Fh:=G (show(prog.info? 40).map (·.size)=some (jA root).length by rw[jB,HL.out];exact jO);replace HS:=G (Tm.out.put (Kp.setCells H 33 (jA root) w4) (fun b e=>by omega));replace HH:=G (Ry.out.hroot NP.out root HL.out);have MH:=G (show Hd.Ok {zeroHd with log:=log,root:=root}from⟨NP.out.log,HL.out,NP.out.index⟩);clear Fb hZ Tm Ry NP;have HG:=G (fun W' (hR:Rr W' g bs s4)=>yY W' g bs s4 hR);go_wp2_with (first|((with_reducible refine jF 40 (.tmp 17) (.tmp 16) ?_);refine jQ1 rfl 40 (.tmp 17) (.tmp 16) rfl H 33 (jA root).toArray rfl rfl hU.out Fh.out (kV _) ?_)|fail);generalize w4.setCells H 33 (jA root)=W4 at*;have HG:=G (fun W' (hR:Rr W' g bs s4)=>yR W' g bs s4 hR);have HL:=G (kU bs s4);go_wp2_with fail;refine(HG.out _ HS.out.rr).mono ?_;clear HG;generalize kq bs s4=tindex at*;obtain⟨index,s5⟩:=tindex;simp only at HT HL⊢;rintro e w5 ⟨rfl,Fb,hZ⟩;have Tm:=G (HS.out.step Fb hZ);have Ry:=G (HH.out.kp hZ Hx.out);have hU:=G (Ry.out.there 65 (jA index).toArray.size (by rw[jJ8,jJ8,MH.out.len,jB,HL.out];decide));have Fh:=G (show(prog.info? 40).map (·.size)=some (jA index).length by rw[jB,HL.out];exact jO);replace HS:=G (Tm.out.put (Kp.setCells H 65 (jA index) w5) (fun b e=>by omega));replace HH:=G (Ry.out.hindex MH.out index HL.out);have Lk:=G (show Hd.Ok {zeroHd with log:=log,root:=root,index:=index}from⟨MH.out.log,MH.out.root,HL.out⟩);clear Fb hZ Tm Ry MH;have HG:=G (fun W' (hR:Rr W' g bs s5)=>yY W' g bs s5 hR);go_wp2_with (first|((with_reducible refine jF 40 (.tmp 20) (.tmp 19) ?_);refine jQ1 rfl 40 (.tmp 20) (.tmp 19) rfl H 65 (jA index).toArray rfl rfl hU.out Fh.out (kV _) ?_)|fail);generalize w5.setCells H 65 (jA index)=W5 at*;refine(HG.out _ HS.out.rr).mono ?_;clear HG;have IY:=G (ku bs 8 s5);generalize tkN bs 8 s5=tc at*;obtain⟨c,s6⟩:=tc;simp only at HT IY⊢;rintro e w6 ⟨rfl,Fb,hZ⟩;replace HS:=G (HS.out.step Fb hZ);replace HH:=G (HH.out.kp hZ Hx.out);clear Fb hZ;have HW:=G (fun W' (hR:Rr W' g bs s6)=>yL W' g bs s6 hR);have AC:=IY.out;have Pc:=IX.out;go_wp2_with fail;refine(HW.out _ HS.out.rr).mono ?_;rintro e w7 ⟨rfl,rfl⟩;clear HW;by_cases hy:s6.why=0
 case neg=>
  have NO:=G (show TV=(none,s6)by rw[HT.out,jJ5 (fun h=>hy h.1)]);have MK:(s6.why !=0)=true:=(by simpa using hy);clear hy HT;have hU:=G (HS.out.th zeroHdL rfl);have Ht:=G (HS.out.told zeroHdL rfl);clear HH;go_wp2_with (first|((with_reducible refine jM 45 ?_);refine jX rfl 45 rfl _ (vj _) ?_)|((with_reducible refine jF 45 (.tmp 2) (.tmp 38) ?_);refine jQ1 rfl 45 (.tmp 2) (.tmp 38) rfl w.heap.size 0 zeroHdL.toArray rfl rfl hU.out yi (jR rfl) ?_)|fail);refine jD (g:=w.heap.size) (cs:=zeroHdL.toArray) rfl rfl Ht.out.box underlying45 rfl yi rfl ?_;rw[NO.out];exact⟨.inr ⟨rfl,rfl⟩,Ht.out.rr,Ht.out.kp⟩
 rw[hy];by_cases hk:k=32
 case neg=>
  have NO:=G (show TV=(none,s6)by rw[HT.out,jJ5 (fun h=>hk h.2.1)]);have Na:((k:Int) !=32)=true:=by simp;omega
  clear hy HT hk;have hU:=G (HS.out.th zeroHdL rfl);have Ht:=G (HS.out.told zeroHdL rfl);clear HH;go_wp2_with (first|((with_reducible refine jM 45 ?_);refine jX rfl 45 rfl _ (vj _) ?_)|((with_reducible refine jF 45 (.tmp 2) (.tmp 38) ?_);refine jQ1 rfl 45 (.tmp 2) (.tmp 38) rfl w.heap.size 0 zeroHdL.toArray rfl rfl hU.out yi (jR rfl) ?_)|fail);refine jD (g:=w.heap.size) (cs:=zeroHdL.toArray) rfl rfl Ht.out.box underlying45 rfl yi rfl ?_;rw[NO.out];exact⟨.inr ⟨rfl,rfl⟩,Ht.out.rr,Ht.out.kp⟩
 have Na:((k:Int) !=32)=false:=by simp;omega
 by_cases hn:n<=1099511627776
 case neg=>
  have NO:=G (show TV=(none,s6)by rw[HT.out,jJ5 (fun h=>hn h.2.2.1)]);have Wu:(1099511627776:Int)<(n:Int):=(by omega);clear hy HT hn hk;have hU:=G (HS.out.th zeroHdL rfl);have Ht:=G (HS.out.told zeroHdL rfl);clear HH;go_wp2_with (first|((with_reducible refine jM 45 ?_);refine jX rfl 45 rfl _ (vj _) ?_)|((with_reducible refine jF 45 (.tmp 2) (.tmp 38) ?_);refine jQ1 rfl 45 (.tmp 2) (.tmp 38) rfl w.heap.size 0 zeroHdL.toArray rfl rfl hU.out yi (jR rfl) ?_)|fail);refine jD (g:=w.heap.size) (cs:=zeroHdL.toArray) rfl rfl Ht.out.box underlying45 rfl yi rfl ?_;rw[NO.out];exact⟨.inr ⟨rfl,rfl⟩,Ht.out.rr,Ht.out.kp⟩
 have Wu:¬(1099511627776:Int)<(n:Int):=(by omega);by_cases hc:c<=4611686018427387904
 case neg=>
  have NO:=G (show TV=(none,s6)by rw[HT.out,jJ5 (fun h=>hc h.2.2.2)]);have Ae:(4611686018427387904:Int)<(c:Int):=(by omega);clear hy HT hn hk hc;have hU:=G (HS.out.th zeroHdL rfl);have Ht:=G (HS.out.told zeroHdL rfl);clear HH;go_wp2_with (first|((with_reducible refine jM 45 ?_);refine jX rfl 45 rfl _ (vj _) ?_)|((with_reducible refine jF 45 (.tmp 2) (.tmp 38) ?_);refine jQ1 rfl 45 (.tmp 2) (.tmp 38) rfl w.heap.size 0 zeroHdL.toArray rfl rfl hU.out yi (jR rfl) ?_)|fail);refine jD (g:=w.heap.size) (cs:=zeroHdL.toArray) rfl rfl Ht.out.box underlying45 rfl yi rfl ?_;rw[NO.out];exact⟨.inr ⟨rfl,rfl⟩,Ht.out.rr,Ht.out.kp⟩
 have Ae:¬(4611686018427387904:Int)<(c:Int):=(by omega);have NO:=G (show TV=(some ⟨log,n,root,index,c⟩,s6)by rw[HT.out,jJ6 ⟨hy,hk,hn,hc⟩]);have O3:IntKind.i64.wrap (n:Int)=n:=jQ3 _ (by omega);have AX:IntKind.i64.wrap (c:Int)=c:=jQ3 _ (by omega);have CK:wrap64 (n:Int)=(n:Int):=by unfold wrap64;omega
 have hwc2:wrap64 (c:Int)=(c:Int):=by unfold wrap64;omega
 have Fe:=G (show vU ⟨log,n,root,index,c⟩=true from jBz hn hc);clear hy HT hn hk hc AC Pc IY IX;have u1:=HH.out.at_ 32 (by rw[jJ7];exact Lk.out.s32);have u2:=HH.out.at_ 97 (by rw[jJ7];exact Lk.out.s97);have z1:=HH.out.frozen 32;have z2:=HH.out.frozen 97;have HH2:=G ((HH.out.hsize Lk.out (n:Int)).hclock (h:={zeroHd with log:=log,root:=root,index:=index,size:=(n:Int)}) ⟨Lk.out.log,Lk.out.root,Lk.out.index⟩ (c:Int));have AM:=G (show Hd.Ok ⟨log,n,root,index,c⟩from⟨Lk.out.log,Lk.out.root,Lk.out.index⟩);have Fn:=G HH2.out.range;have Cf:=G (HS.out.put (((jQ0 (fun k=>k=H) w6).setCell (p:=⟨H,32,none⟩) (fun _=>rfl) (.int .i64 (n:Int))).setCell (p:=⟨H,97,none⟩) (fun _=>rfl) (.int .i64 (c:Int))) (fun b e=>by omega));have Fh:=G (show(prog.info? 45).map (·.size)=some (Hd.cells ⟨log,n,root,index,c⟩).length by rw[AM.out.len];kernel_rfl);have hU:=G (Cf.out.th (Hd.cells ⟨log,n,root,index,c⟩) (by rw[AM.out.len];rfl));have Ht:=G (Cf.out.told (Hd.cells ⟨log,n,root,index,c⟩) (by rw[AM.out.len];rfl));have FD:=G (show(Hd.cells ⟨log,n,root,index,c⟩).toArray.all (·.oneCell')=true from Hd.one _);clear HH HS HH2;go_wp2_with (first|((with_reducible refine jT 45 (.tmp 5) ?_);refine jK rfl 45 (.tmp 5) rfl H 0 rfl (Hd.cells ⟨log,n,root,index,c⟩) _ Fn.out underlying45 rfl Fh.out ?_)|((with_reducible refine jF 45 (.tmp 2) (.tmp 45) ?_);refine jQ1 rfl 45 (.tmp 2) (.tmp 45) rfl w.heap.size 0 (Hd.cells ⟨log,n,root,index,c⟩).toArray rfl rfl hU.out Fh.out FD.out ?_)|fail);refine jD (g:=w.heap.size) (cs:=(Hd.cells ⟨log,n,root,index,c⟩).toArray) rfl rfl Ht.out.box underlying45 rfl (by rw[jJ8];exact Fh.out) rfl ?_;rw[NO.out];exact⟨.inl ⟨⟨log,n,root,index,c⟩,rfl,AM.out,Fe.out,rfl⟩,Ht.out.rr,Ht.out.kp⟩
def zeroNote:List Value:=[.int .u8 0,.int .u8 0,.int .u8 0,.int .u8 0,.int .u8 0,.int .u8 0,.int .u8 0,.int .u8 0,.int .u8 0,.int .u8 0,.int .u8 0,.int .u8 0,.int .u8 0,.int .u8 0,.int .u8 0,.int .u8 0,.int .u8 0,.int .u8 0,.int .u8 0,.int .u8 0,.int .u8 0,.int .u8 0,.int .u8 0,.int .u8 0,.int .u8 0,.int .u8 0,.int .u8 0,.int .u8 0,.int .u8 0,.int .u8 0,.int .u8 0,.int .u8 0,.int .i64 0,.int .u8 0,.int .u8 0,.int .u8 0,.int .u8 0,.int .u8 0,.int .u8 0,.int .u8 0,.int .u8 0,.int .u8 0,.int .u8 0,.int .u8 0,.int .u8 0,.int .u8 0,.int .u8 0,.int .u8 0,.int .u8 0,.int .u8 0,.int .u8 0,.int .u8 0,.int .u8 0,.int .u8 0,.int .u8 0,.int .u8 0,.int .u8 0,.int .u8 0,.int .u8 0,.int .u8 0,.int .u8 0,.int .u8 0,.int .u8 0,.int .u8 0,.int .u8 0,.int .u8 0,.int .u8 0,.int .u8 0,.int .u8 0,.int .u8 0,.int .u8 0,.int .u8 0,.int .u8 0,.int .u8 0,.int .u8 0,.int .u8 0,.int .u8 0,.int .u8 0,.int .u8 0,.int .u8 0,.int .u8 0,.int .u8 0,.int .u8 0,.int .u8 0,.int .u8 0,.int .u8 0,.int .u8 0,.int .u8 0,.int .u8 0,.int .u8 0,.int .u8 0,.int .u8 0,.int .u8 0,.int .u8 0,.int .u8 0,.int .u8 0,.int .u8 0,.int .i64 0,.slice none 0 0]
theorem Zw:zeroCells48=zeroNote.toArray:=by kernel_rfl
theorem zT(w:World):(Instr.build 48 #[]).run prog w=.ok (.agg zeroNote.toArray) w:=by kernel_rfl
theorem kN:(prog.info? 48).map (·.size)=some 99:=by kernel_rfl
def zeroSgn:Sgn:=⟨zD,zD,jy,jy⟩
theorem Vl:zeroSgn.cells=zero32++zero32:=by simp[zeroSgn,Sgn.cells,JW]
theorem jHE:∀n,(List.replicate n zeroSgn).flatMap Sgn.cells=List.replicate (n*64) (Value.int .u8 0)
 |0=>rfl
 |n+1=>by
  rw[List.replicate_succ,jL9,jHE n,Vl,show(n+1)*64=64+n*64 by omega,<-List.replicate_append_replicate];rfl
theorem jGU:(prog.info? 165).map (fun i=>(i.zero,i.size,i.bytes))=some (some (.agg (zero32++zero32).toArray),64,64):=by kernel_rfl
theorem XV(i:Nat)(h:i<64):(zero32++zero32).toArray[i]! =Value.int .u8 0:=by
 rcases Nat.lt_or_ge i 32 with h' |h'
 ·have:=Zt i h';simp only[List.getElem!_toArray]at this⊢;rw[<-this];simp[List.getElem!_eq_getElem?_getD,List.getElem?_append_left (show i<zero32.length from h')]
 ·have:=Zt (i-32) (by omega);simp only[List.getElem!_toArray]at this⊢;rw[<-this];simp[List.getElem!_eq_getElem?_getD,List.getElem?_append_right (show zero32.length<=i from h'),show zero32.length=32 from rfl]
theorem jBs(n:Nat)(hn:n<=1000000000)(W:World):
  (Instr.makeSlice 46 (.int .i64 (n:Int)) (.int .i64 (n:Int))).run prog W=.ok (.slice (some ⟨W.heap.size,0,none⟩) n n) (W.alloc (.cells ((List.replicate n zeroSgn).flatMap Sgn.cells).toArray 165)):=by
 obtain⟨i,hi,Fz,Ft,FC⟩:=info_parts jGU;have hr:=run_make (P:=prog) W 46 165 i _ underlying46 hi Fz .i64 .i64 n n (by omega) (by omega) (by rw[FC];omega) (by omega);simp only[jL1,Ft]at hr;rw[hr,jHE];have e:(Value.agg (zero32++zero32).toArray).cells=(zero32++zero32).toArray:=rfl;rw[e,Qg _ (.int .u8 0) (by decide) (fun i h=>XV i h)]
theorem MNote.one(m:MNote):m.cells.toArray.all (·.oneCell')=true:=by
 refine all_oneCell_toArray (fun v hv=> ?_);rcases List.mem_append.1 hv with hv|hv
 ·have:=Array.all_eq_true_iff_forall_mem.1 (Hd.one m.head) v (by simpa using hv);exact this
 ·rw[List.mem_singleton.1 hv];rfl
def XS(bs:LB)(s:Rs):Sgn×Rs:=(⟨(kq bs s).1,(kq bs (kq bs s).2).1,kU _ _,kU _ _⟩,(kq bs (kq bs s).2).2)
def vg(bs:LB):Nat->Rs->List Sgn->List Sgn×Rs
 |0,s,acc=>(acc,s)
 |n+1,s,acc=>vg bs n (XS bs s).2 (acc++[(XS bs s).1])
def KK(bs:LB)(h:Hd)(t:List Sgn×Rs):Option (Hd×List Sgn):=if vi bs t.2=0/\vP (t.1.map (·.key))=true then some (h,t.1)else none
def UH(bs:LB)(k:Nat)(h:Option Hd×Rs):Option (Hd×List Sgn):=
 match h.1 with
 |none=>none
 |some hd=>if k=33/\1<=(tkN bs 1 h.2).1/\(tkN bs 1 h.2).1<=16 then KK bs hd (vg bs (tkN bs 1 h.2).1 (tkN bs 1 h.2).2 [])else none
def jn(bs:LB):Option (Hd×List Sgn):=UH bs (tkN bs 1 ⟨0,0⟩).1 (JM bs (tkN bs 1 ⟨0,0⟩).2)
def jJT(w:World)(d:Option (Hd×List Sgn))(e:Ending)(w' :World):Prop:=
 (∃m:MNote,d=some (m.head,m.signs)/\e=.returned (.tuple #[.agg m.cells.toArray,.int .i64 0])/\m.Ok w' (fun k=>k<w.heap.size)/\Old w w')\/
 (∃er:Int,d=none/\er≠0/\e=.returned (.tuple #[.agg zeroNote.toArray,.int .i64 er])/\Old w w')
def fillS(acc:List Sgn)(n:Nat):List Value:=(acc++List.replicate n zeroSgn).flatMap Sgn.cells
theorem Blk.fillS{w:World}{L:Nat}{acc:List Sgn}{n:Nat}(x:Sgn)(h:Blk w L 165 (Go.Proofs.YtnaolhjbapgjgaaGreat.fillS acc (n+1)).toArray):
  Blk (w.setCells L (acc.length*64) x.cells) L 165 (Go.Proofs.YtnaolhjbapgjgaaGreat.fillS (acc++[x]) n).toArray:=by
 have e1:Go.Proofs.YtnaolhjbapgjgaaGreat.fillS acc (n+1)=acc.flatMap Sgn.cells++(zeroSgn.cells++(List.replicate n zeroSgn).flatMap Sgn.cells):=by
  rw[Go.Proofs.YtnaolhjbapgjgaaGreat.fillS,List.replicate_succ,List.flatMap_append,jL9]
 have e2:Go.Proofs.YtnaolhjbapgjgaaGreat.fillS (acc++[x]) n=acc.flatMap Sgn.cells++(x.cells++(List.replicate n zeroSgn).flatMap Sgn.cells):=by
  rw[Go.Proofs.YtnaolhjbapgjgaaGreat.fillS,List.flatMap_append,List.flatMap_append,jK1,List.flatMap_singleton]
 rw[e1]at h;have h2:=Blk.setCells h x.cells (by rw[Sgn.len,Sgn.len]);rw[flat_len Sgn.cells 64 acc (fun s _=>s.len)]at h2;rw[e2];exact h2
theorem jEX(acc:List Sgn)(n:Nat):(fillS acc n).length=(acc.length+n)*64:=by
 rw[fillS,flat_len Sgn.cells 64 _ (fun s _=>s.len),jJ4,List.length_replicate]
structure SignsAt(w:World)(g H L:Nat)(bs:LB)(h:Hd)(n:Nat)(acc:List Sgn)(s:Rs)(wr:World):Prop where
 le:acc.length<=n
 blk:Blk wr L 165 (fillS acc (n-acc.length)).toArray
 hd:Blk wr H 45 h.cells.toArray
 st:DecR 48 zeroNote w g bs s wr
 lt:g<H/\H<L
theorem qr(w:World)(A:OA)(c:Nat)(bs:LB)(Fa:Rd w 1 A bs.length (bs.map bv))(GP:bs.length<=100000000):
  Calls prog 91 #[.slice A bs.length c] w (jJT w (jn bs)):=by
 have HD:=G (show jn bs=UH bs (tkN bs 1 ⟨0,0⟩).1 (JM bs (tkN bs 1 ⟨0,0⟩).2)from rfl);have Hb:=G (show Blk (w.alloc (.cells zeroCells48 48)) w.heap.size 48 zeroNote.toArray from by rw[Zw];exact jQ2 w _ _);have HO:=G ((jQ0 NoX w).alloc (.cells zeroCells48 48));have HR:=G (fun W (h:Old w W)=>uZ W A bs.length c bs (Fa.old h) GP);generalize jn bs=D at*;clear Fa;go_enter func91,ntmps91;go_wp2_with fail;generalize w.alloc _=W at*;refine(HR.out W HO.out).mono ?_;rintro e w1 ⟨g,rfl,hg,Fd,F0⟩;have HS:=G (show DecR 48 zeroNote w g bs ⟨0,0⟩ w1 from⟨Hb.out.old F0,Fd,HO.out.old F0,by have:=Hb.out.lt;omega⟩);clear Fd F0 hg Hb HO HR;have HP:=G (fun W (hR:Rr W g bs ⟨0,0⟩)=>vm W g bs ⟨0,0⟩ hR);go_wp2_with fail;refine(HP.out _ HS.out.rr).mono ?_;clear HP;generalize tkN bs 1 ⟨0,0⟩=t1 at*;obtain⟨k,s1⟩:=t1;simp only at HD⊢;rintro e w2 ⟨rfl,Fb,hZ⟩;replace HS:=G (HS.out.step Fb hZ);clear Fb hZ;have HP:=G (fun W (hR:Rr W g bs s1)=>jES W g bs s1 hR);go_wp2_with fail;refine(HP.out _ HS.out.rr).mono ?_;clear HP;generalize JM bs s1=t2 at*;obtain⟨oh,s2⟩:=t2;unfold UH at HD;simp only at HD;rintro e w3 ⟨M9,Fb,hZ⟩;simp only at M9 Fb;replace HS:=G (HS.out.step Fb hZ);clear Fb hZ;have HP:=G (fun W (hR:Rr W g bs s2)=>vm W g bs s2 hR);have HN:=G (ku bs 1 s2);generalize tkN bs 1 s2=t3 at*;obtain⟨n,s3⟩:=t3;simp only at HD HP HN;have N6:n<256:=by have:=HN.out;omega
 have O3:IntKind.i64.wrap (n:Int)=n:=jQ3 _ (by omega);have CK:wrap64 (n:Int)=(n:Int):=by unfold wrap64;omega
 clear HN;rcases M9 with⟨h,rfl,OV,DE,rfl⟩|⟨rfl,rfl⟩
 ·have M7:=G OV;clear OV DE;simp only at HD;have RP:=G (show Blk (w3.alloc (.cells zeroCells45 45)) w3.heap.size 45 zeroHdL.toArray from by rw[zn];exact jQ2 w3 _ _);have To:=G (HS.out.still ((jQ0 NoX w3).alloc (.cells zeroCells45 45)));have OC:g<w3.heap.size:=HS.out.rr.lt;have LE:=G (show(prog.info? 45).map (·.size)=some h.cells.length by rw[M7.out.len];kernel_rfl);have MW:=G (RP.out.there 0 h.cells.toArray.size (by rw[jJ8,M7.out.len];decide));have HH:=G (RP.out.setWhole h.cells (by rw[M7.out.len];rfl));replace HS:=G (To.out.put (Kp.setCells w3.heap.size 0 h.cells _) (fun b e=>by omega));clear To RP;go_wp2_with (first|((with_reducible refine jF 45 (.tmp 6) (.tmp 18) ?_);refine jQ1 rfl 45 (.tmp 6) (.tmp 18) rfl w3.heap.size 0 h.cells.toArray rfl rfl MW.out LE.out (Hd.one h) ?_)|fail);generalize (w3.alloc _).setCells _ _ _=W3 at*;generalize w3.heap.size=H at*;refine(HP.out _ HS.out.rr).mono ?_;clear HP MW LE;rintro e w4 ⟨rfl,Fb,hZ⟩;replace HS:=G (HS.out.step Fb hZ);replace HH:=G (HH.out.kp hZ (show¬RX g H from fun e=>by have:H=g:=e;omega));clear Fb hZ;by_cases hk:k=33
  case neg=>
   have hY:=G (show D=none by rw[HD.out,jJ5 (fun h=>hk h.1)]);have Na:((k:Int) !=33)=true:=by simp;omega
   clear hk;have hU:=G (HS.out.th zeroNote rfl);have Ht:=G (HS.out.told zeroNote rfl);go_wp2_with (first|((with_reducible refine jM 48 ?_);refine jX rfl 48 rfl _ (zT _) ?_)|((with_reducible refine jF 48 (.tmp 2) (.tmp 37) ?_);refine jQ1 rfl 48 (.tmp 2) (.tmp 37) rfl w.heap.size 0 zeroNote.toArray rfl rfl hU.out kN (jR rfl) ?_)|fail);refine jD (g:=w.heap.size) (cs:=zeroNote.toArray) rfl rfl Ht.out.box underlying48 rfl kN rfl ?_;exact .inr ⟨8,hY.out,by decide,rfl,Ht.out.old⟩
  have Na:((k:Int) !=33)=false:=by simp;omega
  by_cases h0:n=0
  ·have hY:=G (show D=none by rw[HD.out,jJ5 (fun h=>by omega)]);have Al:((n:Int)==0)=true:=by simp;omega
   clear hk;have hU:=G (HS.out.th zeroNote rfl);have Ht:=G (HS.out.told zeroNote rfl);go_wp2_with (first|((with_reducible refine jM 48 ?_);refine jX rfl 48 rfl _ (zT _) ?_)|((with_reducible refine jF 48 (.tmp 2) (.tmp 37) ?_);refine jQ1 rfl 48 (.tmp 2) (.tmp 37) rfl w.heap.size 0 zeroNote.toArray rfl rfl hU.out kN (jR rfl) ?_)|fail);refine jD (g:=w.heap.size) (cs:=zeroNote.toArray) rfl rfl Ht.out.box underlying48 rfl kN rfl ?_;exact .inr ⟨8,hY.out,by decide,rfl,Ht.out.old⟩
  have Al:((n:Int)==0)=false:=by simp;omega
  by_cases h16:n<=16
  case neg=>
   have hY:=G (show D=none by rw[HD.out,jJ5 (fun h=>h16 h.2.2)]);have BQ:(16:Int)<(n:Int):=(by omega);clear hk h0 h16;have hU:=G (HS.out.th zeroNote rfl);have Ht:=G (HS.out.told zeroNote rfl);go_wp2_with (first|((with_reducible refine jM 48 ?_);refine jX rfl 48 rfl _ (zT _) ?_)|((with_reducible refine jF 48 (.tmp 2) (.tmp 37) ?_);refine jQ1 rfl 48 (.tmp 2) (.tmp 37) rfl w.heap.size 0 zeroNote.toArray rfl rfl hU.out kN (jR rfl) ?_)|fail);refine jD (g:=w.heap.size) (cs:=zeroNote.toArray) rfl rfl Ht.out.box underlying48 rfl kN rfl ?_;exact .inr ⟨8,hY.out,by decide,rfl,Ht.out.old⟩
  have BQ:¬(16:Int)<(n:Int):=(by omega);have FB:=G (show D=KK bs h (vg bs n s3 [])by rw[HD.out,jJ6 ⟨hk,by omega,h16⟩]);have Ek:=G (jBs n (by omega));have Cy:=G (fun W A' c' (l:List Sgn) hrd' Wu=>jAK W A' c' l hrd' Wu);clear hk h0 HD O3 CK;have Cv:=Ek.out;go_wp2_with fail;have hHl:=HH.out.lt;have Me:=G (show SignsAt w g H w4.heap.size bs h n [] s3 (w4.alloc (.cells ((List.replicate n zeroSgn).flatMap Sgn.cells).toArray 165))from
   ⟨by simp,by simpa [fillS]using jQ2 w4 165 ((List.replicate n zeroSgn).flatMap Sgn.cells).toArray,HH.out.alloc _,HS.out.still ((jQ0 NoX w4).alloc _),OC,hHl⟩)
  generalize (w4.alloc _)=W4 at*;generalize w4.heap.size=L at*;clear HH HS Cv Ek;go_loopw [42,10] (fun i _ wr=>∃(acc:List Sgn) (s:Rs),i=.int .i64 acc.length/\SignsAt w g H L bs h n acc s wr/\vg bs n s3 []=vg bs (n-acc.length) s acc) (fun i _ _=>n-(intOf i).toNat)
  case atStart=>exact⟨[],s3,rfl,Me.out,rfl⟩
  case round=>
   obtain⟨acc,s,rfl,Fo,FM⟩:=hrel;have HA:=G Fo;have TM:=Fo.le;have Fs:=G FM;clear Fo Me FM;by_cases hM:acc.length<n
   ·obtain⟨m,hm⟩:∃m,n-acc.length=m+1:=⟨n-acc.length-1,by omega⟩;rw[hm,vg]at Fs;have Gt:=G HA.out.blk;rw[hm]at Gt;have J1:=G (fun W' (hR:Rr W' g bs s)=>yR W' g bs s hR);have Cl:=G (fun W' (hR:Rr W' g bs (kq bs s).2)=>yR W' g bs (kq bs s).2 hR);have HX:=G (show(XS bs s).1.cells=jA (kq bs s).1++jA (kq bs (kq bs s).2).1 from rfl);have Ce:=G (show(XS bs s).2=(kq bs (kq bs s).2).2 from rfl);have HB:=G (jCZ (kq bs s).1 (kq bs (kq bs s).2).1 (kU _ _) (kU _ _));rw[<-HX.out]at HB;rw[Ce.out]at Fs;generalize (XS bs s).1=x at*;generalize kq bs (kq bs s).2=d2 at*;generalize kq bs s=d1 at*;obtain⟨b1,s5⟩:=d1;obtain⟨b2,s6⟩:=d2;simp only at J1 Cl HB Fs;clear HX Ce;generalize hq:acc.length=q at*;have Hq:=G hq;clear hq;have i1:(0:Int)<=(q:Int):=(by omega);have i2:(q:Int)<(n:Int):=(by omega);have i3:(q:Int).toNat=q:=(by omega);have NV:=HA.out.lt;have Og:¬RX g L:=fun e=>by have:L=g:=e;omega
    have Oh:¬RX g H:=fun e=>by have:H=g:=e;omega
    have HnL:=G Og;have HnH:=G Oh;have Hm:=G hm;clear Og Oh hm;go_wp2_with fail;refine(J1.out _ HA.out.st.rr).mono ?_;rintro e w5 ⟨rfl,WM,Nu⟩;have Tn:=G (HA.out.st.step WM Nu);have Md:=G (Gt.out.kp Nu HnL.out);have HH5:=G (HA.out.hd.kp Nu HnH.out);clear WM Nu Gt J1;go_wp2_with fail;refine(Cl.out _ Tn.out.rr).mono ?_;rintro e w6 ⟨rfl,WM,Nu⟩;have HS6:=G (Tn.out.step WM Nu);have Tj:=G (Md.out.kp Nu HnL.out);have HH6:=G (HH5.out.kp Nu HnH.out);clear WM Nu Tn Md HH5 Cl;have hU:=G (Tj.out.there (q*64) x.cells.toArray.size (by rw[jJ8,jJ8,Sgn.len,jEX,Hq.out];omega));have Fh:=G (show(prog.info? 165).map (·.size)=some x.cells.length by rw[Sgn.len];kernel_rfl);have FD:=G (show x.cells.toArray.all (·.oneCell')=true from all_oneCell_toArray x.one);have Fl:=G (show SignsAt w g H L bs h n (acc++[x]) s6 (w6.setCells L (q*64) x.cells)from
     ⟨by rw[jJ4,List.length_singleton,Hq.out];omega,by
      have:=Tj.out.fillS x;rw[Hq.out]at this;rw[jJ4,List.length_singleton,Hq.out,show n-(q+1)=m by have:=Hm.out;omega];exact this,HH6.out.kp (Kp.setCells L _ _ _) (fun e=>by omega),HS6.out.put (Kp.setCells L _ _ _) (fun b e=>by omega),NV⟩)
    go_wp2_with (first|((with_reducible refine jE1 165 (.tmp 48) (.tmp 50) ?_);refine jCu rfl 165 (.tmp 48) (.tmp 50) rfl _ _ rfl rfl x.cells HB.out ?_)|((with_reducible refine jF 165 (.tmp 52) (.tmp 51) ?_);refine jQ1 rfl 165 (.tmp 52) (.tmp 51) rfl L (q*64) x.cells.toArray rfl rfl hU.out Fh.out FD.out ?_)|fail);go_roundw
    case rel=>exact⟨acc++[x],s6,by rw[jJ4,List.length_singleton,Hq.out];go_num,Fl.out,by rw[Fs.out,jJ4,List.length_singleton,Hq.out,show n-(q+1)=m by have:=Hm.out;omega]⟩
    case measure=>simp[intOf];omega
   ·obtain rfl:n=acc.length:=(by omega);have RA:=G (show D=KK bs h (acc,s)by rw[FB.out,Fs.out,Nat.sub_self];rfl);unfold KK at RA;simp only at RA;have Mh:=G (fun W (hR:Rr W g bs s)=>Jj W g bs s hR);have NV:=HA.out.lt;have Fy:=G (show Rd wr 64 (some ⟨L,0,none⟩) acc.length (acc.flatMap Sgn.cells)from by
     have hb:=HA.out.blk;rw[Nat.sub_self]at hb;simp only[fillS,List.replicate_zero,List.append_nil]at hb;exact⟨by rw[flat_len Sgn.cells 64 _ (fun s _=>s.len)],fun _=>⟨L,0,rfl,hb.range⟩⟩)
    have HS:=G HA.out.st;have HH:=G HA.out.hd;clear FB Fs HA;go_wp2_with fail;refine(Mh.out _ HS.out.rr).mono ?_;clear Mh;generalize vi bs s=dn at*;rintro e w6 ⟨rfl,FN⟩;replace HS:=G (HS.out.still FN);replace HH:=G (HH.out.old FN);replace Fy:=G (Fy.out.old FN);clear FN;by_cases hd:dn=0
    case neg=>
     have hY:=G (show D=none by rw[RA.out,jJ5 (fun h=>hd h.1)]);have Po:(dn !=0)=true:=(by simpa using hd);clear hd;have hU:=G (HS.out.th zeroNote rfl);have Ht:=G (HS.out.told zeroNote rfl);go_wp2_with (first|((with_reducible refine jM 48 ?_);refine jX rfl 48 rfl _ (zT _) ?_)|((with_reducible refine jF 48 (.tmp 2) (.tmp 62) ?_);refine jQ1 rfl 48 (.tmp 2) (.tmp 62) rfl w.heap.size 0 zeroNote.toArray rfl rfl hU.out kN (jR rfl) ?_)|fail);refine jD (g:=w.heap.size) (cs:=zeroNote.toArray) rfl rfl Ht.out.box underlying48 rfl kN rfl ?_;exact .inr ⟨8,hY.out,by decide,rfl,Ht.out.old⟩
    subst hd;go_wp2_with fail;refine(Cy.out w6 _ _ acc Fy.out (by omega)).mono ?_;generalize vP (acc.map (·.key))=rk at*;rintro e w7 ⟨rfl,FN⟩;replace HS:=G (HS.out.still FN);replace HH:=G (HH.out.old FN);replace Fy:=G (Fy.out.old FN);clear FN Cy;cases rk with
    |false=>
     have hY:=G (show D=none by rw[RA.out,jJ5 (fun h=>by cases h.2)]);have hU:=G (HS.out.th zeroNote rfl);have Ht:=G (HS.out.told zeroNote rfl);go_wp2_with (first|((with_reducible refine jM 48 ?_);refine jX rfl 48 rfl _ (zT _) ?_)|((with_reducible refine jF 48 (.tmp 2) (.tmp 62) ?_);refine jQ1 rfl 48 (.tmp 2) (.tmp 62) rfl w.heap.size 0 zeroNote.toArray rfl rfl hU.out kN (jR rfl) ?_)|fail);refine jD (g:=w.heap.size) (cs:=zeroNote.toArray) rfl rfl Ht.out.box underlying48 rfl kN rfl ?_;exact .inr ⟨8,hY.out,by decide,rfl,Ht.out.old⟩
    |true=>
     have FT:=G (show D=some (h,acc)by rw[RA.out,jJ6 (by simp)]);have Fn:=G HH.out.range;have LE:=G (show(prog.info? 45).map (·.size)=some h.cells.length by rw[M7.out.len];kernel_rfl);have HB:=G (jCa h.cells M7.out.len (.slice (some ⟨L,0,none⟩) acc.length acc.length) rfl);have El:=G (show h.cells++[.slice (some ⟨L,0,none⟩) acc.length acc.length]=MNote.cells ⟨h,acc,some ⟨L,0,none⟩,acc.length⟩from rfl);have Fi:=G (show(MNote.cells ⟨h,acc,some ⟨L,0,none⟩,acc.length⟩).length=99 by rw[MNote.cells,jJ4,M7.out.len];rfl);rw[El.out]at HB;have FD:=G (show(MNote.cells ⟨h,acc,some ⟨L,0,none⟩,acc.length⟩).toArray.all (·.oneCell')=true from MNote.one _);have HZ:=G (fun w' (ht:Told 48 (MNote.cells ⟨h,acc,some ⟨L,0,none⟩,acc.length⟩) w w7 w')=>show jJT w D (.returned (.tuple #[.agg (MNote.cells ⟨h,acc,some ⟨L,0,none⟩,acc.length⟩).toArray,.int .i64 0])) w' from
      .inl ⟨⟨h,acc,some ⟨L,0,none⟩,acc.length⟩,FT.out,rfl,⟨M7.out,Fy.out.told ht (fun _ ad e hx=>by
       injection e with e;subst e;have:=HS.out.lt;simp only at hx;omega),fun _ ad e hx=>by
       injection e with e;subst e;have:=HS.out.lt;simp only at hx;omega,by simp only;omega⟩,ht.old⟩)
     generalize MNote.cells ⟨h,acc,some ⟨L,0,none⟩,acc.length⟩=mc at*;have Fh:=G (show(prog.info? 48).map (·.size)=some mc.length by rw[Fi.out];exact kN);have hU:=G (HS.out.th mc (by rw[Fi.out];rfl));have Ht:=G (HS.out.told mc (by rw[Fi.out];rfl));clear El HH;go_wp2_with (first|((with_reducible refine jT 45 (.tmp 6) ?_);refine jK rfl 45 (.tmp 6) rfl H 0 rfl h.cells _ Fn.out underlying45 rfl LE.out ?_)|((with_reducible refine jE1 48 (.tmp 63) (.tmp 64) ?_);refine jCu rfl 48 (.tmp 63) (.tmp 64) rfl _ _ rfl rfl mc HB.out ?_)|((with_reducible refine jF 48 (.tmp 2) (.tmp 65) ?_);refine jQ1 rfl 48 (.tmp 2) (.tmp 65) rfl w.heap.size 0 mc.toArray rfl rfl hU.out Fh.out FD.out ?_)|fail);refine jD (g:=w.heap.size) (cs:=mc.toArray) rfl rfl Ht.out.box underlying48 rfl (by rw[jJ8];exact Fh.out) rfl ?_;exact HZ.out _ Ht.out
 ·have hY:=G (show D=none by rw[HD.out]);have RP:=G (show Blk (w3.alloc (.cells zeroCells45 45)) w3.heap.size 45 zeroHdL.toArray from by rw[zn];exact jQ2 w3 _ _);have To:=G (HS.out.still ((jQ0 NoX w3).alloc (.cells zeroCells45 45)));have OC:g<w3.heap.size:=HS.out.rr.lt;have LE:=G (show(prog.info? 45).map (·.size)=some zeroHdL.length by kernel_rfl);have MW:=G (RP.out.there 0 zeroHdL.toArray.size (by decide));have HH:=G (RP.out.setWhole zeroHdL rfl);replace HS:=G (To.out.put (Kp.setCells w3.heap.size 0 zeroHdL _) (fun b e=>by omega));clear To RP;go_wp2_with (first|((with_reducible refine jF 45 (.tmp 6) (.tmp 18) ?_);refine jQ1 rfl 45 (.tmp 6) (.tmp 18) rfl w3.heap.size 0 zeroHdL.toArray rfl rfl MW.out LE.out (jR rfl) ?_)|fail);generalize (w3.alloc _).setCells _ _ _=W3 at*;generalize w3.heap.size=H at*;refine(HP.out _ HS.out.rr).mono ?_;clear HP MW LE;rintro e w4 ⟨rfl,Fb,hZ⟩;replace HS:=G (HS.out.step Fb hZ);replace HH:=G (HH.out.kp hZ (show¬RX g H from fun e=>by have:H=g:=e;omega));clear Fb hZ;have hU:=G (HS.out.th zeroNote rfl);have Ht:=G (HS.out.told zeroNote rfl);go_wp2_with (first|((with_reducible refine jM 48 ?_);refine jX rfl 48 rfl _ (zT _) ?_)|((with_reducible refine jF 48 (.tmp 2) (.tmp 37) ?_);refine jQ1 rfl 48 (.tmp 2) (.tmp 37) rfl w.heap.size 0 zeroNote.toArray rfl rfl hU.out kN (jR rfl) ?_)|fail);refine jD (g:=w.heap.size) (cs:=zeroNote.toArray) rfl rfl Ht.out.box underlying48 rfl kN rfl ?_;exact .inr ⟨8,hY.out,by decide,rfl,Ht.out.old⟩
theorem LayP.after{w W w' :World}{g:Nat}{r:Option Nat}{bs:LB}{o:Option LB}{m:Nat}{e:Ending}(ho:Old w W)(h:LayP W g r bs o m e w'):LayP w g r bs o m e w' :=by
 rcases h with⟨l,h1,h2,h3,h4⟩|⟨h1,h2,l,h3⟩
 ·exact .inl ⟨l,h1,h2,h3,WStep.after ho h4⟩
 ·exact .inr ⟨h1,h2,l,WStep.after ho h3⟩
theorem jCh(w:World)(g:Nat)(r:Option Nat)(bs:LB)(cs xs:List Value)(o:Option LB)(m:Nat)(hW:Wr w g r bs)(hl:bs.length<=900000000)(hm:m<=300000000000)(hs:Sub cs 47 xs)
  (hz:(prog.info? 48).map (·.size)=some xs.length) (HE:∀W,Old w W->Calls prog 56 #[.agg xs.toArray] W (XU W o m)):
  Calls prog 26 #[.pointer (some ⟨g,0,none⟩),.int .i64 6,.agg cs.toArray] w (LayP w g r bs o m):=by
 have Fn:=G (hs.range (jQ2 w 63 cs.toArray));have Ho:=G ((jQ0 NoX w).alloc (.cells cs.toArray 63));have LV:=G (fun W h=>HE W h);have Hz:=G hz;clear hs hz HE;go_enter func26,ntmps26;go_wp2_with (first|((with_reducible refine jT 48 (.tmp 43) ?_);refine jK rfl 48 (.tmp 43) rfl w.heap.size 47 rfl xs _ Fn.out underlying48 rfl Hz.out ?_)|fail);generalize w.alloc _=W at*;refine(LV.out W Ho.out).mono ?_;clear LV Fn;rintro e w1 (⟨l,A,c,rfl,WV,rfl,Fa,FA,F0⟩|⟨er,rfl,FZ,rfl,F0⟩)
 ·have FF:=(hW.old Ho.out).old F0;have HD:=G (kd w1 g r bs A c l 0 FF (by omega) Fa (fun hn ad e hx=>FA hn ad e (by
   have:=(hW.old Ho.out).lt;rcases hx with hx|hx
   ·omega
   ·exact this.2 _ hx.symm)))
  have FE:=G (Ho.out.old F0);clear Fa FA F0 FF;go_wp2_with fail;refine HD.out.mono ?_;rintro e w2 ⟨rfl,HU⟩;have Fq:=G (WStep.after FE.out HU);clear HU;go_wp2;go_ret;exact .inl ⟨l,rfl,WV,rfl,Fq.out⟩
 ·have FF:=(hW.old Ho.out).old F0;have HD:=G (kd w1 g r bs none 0 [] er FF (by simp;omega) Rd.none_ (fun h=>absurd h (by simp)));have FE:=G (Ho.out.old F0);rw[show decide (er=0)=false from jK3 FZ]at HD;clear F0 FF;go_wp2_with fail;refine HD.out.mono ?_;rintro e w2 ⟨rfl,HU⟩;have Fq:=G (WStep.after FE.out HU);clear HU;go_wp2;go_ret;exact .inr ⟨rfl,rfl,[],Fq.out⟩
theorem jCf(w:World)(g:Nat)(r:Option Nat)(bs:LB)(cs xs:List Value)(o:Option LB)(m:Nat)(hW:Wr w g r bs)(hl:bs.length<=900000000)(hm:m<=300000000000)(hs:Sub cs 146 xs)
  (hz:(prog.info? 51).map (·.size)=some xs.length) (HE:∀W,Old w W->Calls prog 58 #[.agg xs.toArray] W (XU W o m)):
  Calls prog 26 #[.pointer (some ⟨g,0,none⟩),.int .i64 8,.agg cs.toArray] w (LayP w g r bs o m):=by
 have Fn:=G (hs.range (jQ2 w 63 cs.toArray));have Ho:=G ((jQ0 NoX w).alloc (.cells cs.toArray 63));have LV:=G (fun W h=>HE W h);have Hz:=G hz;clear hs hz HE;go_enter func26,ntmps26;go_wp2_with (first|((with_reducible refine jT 51 (.tmp 75) ?_);refine jK rfl 51 (.tmp 75) rfl w.heap.size 146 rfl xs _ Fn.out underlying51 rfl Hz.out ?_)|fail);generalize w.alloc _=W at*;refine(LV.out W Ho.out).mono ?_;clear LV Fn;rintro e w1 (⟨l,A,c,rfl,WV,rfl,Fa,FA,F0⟩|⟨er,rfl,FZ,rfl,F0⟩)
 ·have FF:=(hW.old Ho.out).old F0;have HD:=G (kd w1 g r bs A c l 0 FF (by omega) Fa (fun hn ad e hx=>FA hn ad e (by
   have:=(hW.old Ho.out).lt;rcases hx with hx|hx
   ·omega
   ·exact this.2 _ hx.symm)))
  have FE:=G (Ho.out.old F0);clear Fa FA F0 FF;go_wp2_with fail;refine HD.out.mono ?_;rintro e w2 ⟨rfl,HU⟩;have Fq:=G (WStep.after FE.out HU);clear HU;go_wp2;go_ret;exact .inl ⟨l,rfl,WV,rfl,Fq.out⟩
 ·have FF:=(hW.old Ho.out).old F0;have HD:=G (kd w1 g r bs none 0 [] er FF (by simp;omega) Rd.none_ (fun h=>absurd h (by simp)));have FE:=G (Ho.out.old F0);rw[show decide (er=0)=false from jK3 FZ]at HD;clear F0 FF;go_wp2_with fail;refine HD.out.mono ?_;rintro e w2 ⟨rfl,HU⟩;have Fq:=G (WStep.after FE.out HU);clear HU;go_wp2;go_ret;exact .inr ⟨rfl,rfl,[],Fq.out⟩
theorem jCe(w:World)(g:Nat)(r:Option Nat)(bs:LB)(cs xs:List Value)(o:Option LB)(m:Nat)(hW:Wr w g r bs)(hl:bs.length<=900000000)(hm:m<=300000000000)(hs:Sub cs 149 xs)
  (hz:(prog.info? 53).map (·.size)=some xs.length) (HE:∀W,Old w W->Calls prog 59 #[.agg xs.toArray] W (XU W o m)):
  Calls prog 26 #[.pointer (some ⟨g,0,none⟩),.int .i64 9,.agg cs.toArray] w (LayP w g r bs o m):=by
 have Fn:=G (hs.range (jQ2 w 63 cs.toArray));have Ho:=G ((jQ0 NoX w).alloc (.cells cs.toArray 63));have LV:=G (fun W h=>HE W h);have Hz:=G hz;clear hs hz HE;go_enter func26,ntmps26;go_wp2_with (first|((with_reducible refine jT 53 (.tmp 83) ?_);refine jK rfl 53 (.tmp 83) rfl w.heap.size 149 rfl xs _ Fn.out underlying53 rfl Hz.out ?_)|fail);generalize w.alloc _=W at*;refine(LV.out W Ho.out).mono ?_;clear LV Fn;rintro e w1 (⟨l,A,c,rfl,WV,rfl,Fa,FA,F0⟩|⟨er,rfl,FZ,rfl,F0⟩)
 ·have FF:=(hW.old Ho.out).old F0;have HD:=G (kd w1 g r bs A c l 0 FF (by omega) Fa (fun hn ad e hx=>FA hn ad e (by
   have:=(hW.old Ho.out).lt;rcases hx with hx|hx
   ·omega
   ·exact this.2 _ hx.symm)))
  have FE:=G (Ho.out.old F0);clear Fa FA F0 FF;go_wp2_with fail;refine HD.out.mono ?_;rintro e w2 ⟨rfl,HU⟩;have Fq:=G (WStep.after FE.out HU);clear HU;go_wp2;go_ret;exact .inl ⟨l,rfl,WV,rfl,Fq.out⟩
 ·have FF:=(hW.old Ho.out).old F0;have HD:=G (kd w1 g r bs none 0 [] er FF (by simp;omega) Rd.none_ (fun h=>absurd h (by simp)));have FE:=G (Ho.out.old F0);rw[show decide (er=0)=false from jK3 FZ]at HD;clear F0 FF;go_wp2_with fail;refine HD.out.mono ?_;rintro e w2 ⟨rfl,HU⟩;have Fq:=G (WStep.after FE.out HU);clear HU;go_wp2;go_ret;exact .inr ⟨rfl,rfl,[],Fq.out⟩
theorem Uq(w:World)(g:Nat)(r:Option Nat)(bs:LB)(cs xs:List Value)(o:Option LB)(m:Nat)(hW:Wr w g r bs)(hl:bs.length<=900000000)(hm:m<=300000000000)(hs:Sub cs 152 xs)
  (hz:(prog.info? 57).map (·.size)=some xs.length) (HE:∀W,Old w W->Calls prog 60 #[.agg xs.toArray] W (XU W o m)):
  Calls prog 26 #[.pointer (some ⟨g,0,none⟩),.int .i64 10,.agg cs.toArray] w (LayP w g r bs o m):=by
 have Fn:=G (hs.range (jQ2 w 63 cs.toArray));have Ho:=G ((jQ0 NoX w).alloc (.cells cs.toArray 63));have LV:=G (fun W h=>HE W h);have Hz:=G hz;clear hs hz HE;go_enter func26,ntmps26;go_wp2_with (first|((with_reducible refine jT 57 (.tmp 91) ?_);refine jK rfl 57 (.tmp 91) rfl w.heap.size 152 rfl xs _ Fn.out underlying57 rfl Hz.out ?_)|fail);generalize w.alloc _=W at*;refine(LV.out W Ho.out).mono ?_;clear LV Fn;rintro e w1 (⟨l,A,c,rfl,WV,rfl,Fa,FA,F0⟩|⟨er,rfl,FZ,rfl,F0⟩)
 ·have FF:=(hW.old Ho.out).old F0;have HD:=G (kd w1 g r bs A c l 0 FF (by omega) Fa (fun hn ad e hx=>FA hn ad e (by
   have:=(hW.old Ho.out).lt;rcases hx with hx|hx
   ·omega
   ·exact this.2 _ hx.symm)))
  have FE:=G (Ho.out.old F0);clear Fa FA F0 FF;go_wp2_with fail;refine HD.out.mono ?_;rintro e w2 ⟨rfl,HU⟩;have Fq:=G (WStep.after FE.out HU);clear HU;go_wp2;go_ret;exact .inl ⟨l,rfl,WV,rfl,Fq.out⟩
 ·have FF:=(hW.old Ho.out).old F0;have HD:=G (kd w1 g r bs none 0 [] er FF (by simp;omega) Rd.none_ (fun h=>absurd h (by simp)));have FE:=G (Ho.out.old F0);rw[show decide (er=0)=false from jK3 FZ]at HD;clear F0 FF;go_wp2_with fail;refine HD.out.mono ?_;rintro e w2 ⟨rfl,HU⟩;have Fq:=G (WStep.after FE.out HU);clear HU;go_wp2;go_ret;exact .inr ⟨rfl,rfl,[],Fq.out⟩
theorem Up(w:World)(g:Nat)(r:Option Nat)(bs:LB)(cs xs:List Value)(o:Option LB)(m:Nat)(hW:Wr w g r bs)(hl:bs.length<=900000000)(hm:m<=300000000000)(hs:Sub cs 220 xs)
  (hz:(prog.info? 61).map (·.size)=some xs.length) (HE:∀W,Old w W->Calls prog 61 #[.agg xs.toArray] W (XU W o m)):
  Calls prog 26 #[.pointer (some ⟨g,0,none⟩),.int .i64 11,.agg cs.toArray] w (LayP w g r bs o m):=by
 have Fn:=G (hs.range (jQ2 w 63 cs.toArray));have Ho:=G ((jQ0 NoX w).alloc (.cells cs.toArray 63));have LV:=G (fun W h=>HE W h);have Hz:=G hz;clear hs hz HE;go_enter func26,ntmps26;go_wp2_with (first|((with_reducible refine jT 61 (.tmp 99) ?_);refine jK rfl 61 (.tmp 99) rfl w.heap.size 220 rfl xs _ Fn.out underlying61 rfl Hz.out ?_)|fail);generalize w.alloc _=W at*;refine(LV.out W Ho.out).mono ?_;clear LV Fn;rintro e w1 (⟨l,A,c,rfl,WV,rfl,Fa,FA,F0⟩|⟨er,rfl,FZ,rfl,F0⟩)
 ·have FF:=(hW.old Ho.out).old F0;have HD:=G (kd w1 g r bs A c l 0 FF (by omega) Fa (fun hn ad e hx=>FA hn ad e (by
   have:=(hW.old Ho.out).lt;rcases hx with hx|hx
   ·omega
   ·exact this.2 _ hx.symm)))
  have FE:=G (Ho.out.old F0);clear Fa FA F0 FF;go_wp2_with fail;refine HD.out.mono ?_;rintro e w2 ⟨rfl,HU⟩;have Fq:=G (WStep.after FE.out HU);clear HU;go_wp2;go_ret;exact .inl ⟨l,rfl,WV,rfl,Fq.out⟩
 ·have FF:=(hW.old Ho.out).old F0;have HD:=G (kd w1 g r bs none 0 [] er FF (by simp;omega) Rd.none_ (fun h=>absurd h (by simp)));have FE:=G (Ho.out.old F0);rw[show decide (er=0)=false from jK3 FZ]at HD;clear F0 FF;go_wp2_with fail;refine HD.out.mono ?_;rintro e w2 ⟨rfl,HU⟩;have Fq:=G (WStep.after FE.out HU);clear HU;go_wp2;go_ret;exact .inr ⟨rfl,rfl,[],Fq.out⟩
theorem jCj(w:World)(g:Nat)(r:Option Nat)(bs:LB)(cs:List Value)(m:MCase)(hW:Wr w g r bs)(hl:bs.length<=900000000)(hs:Sub cs 6 m.cells)(hz:m.cells.length=39)(Hu:m.Ok w (WX g r)):
  Calls prog 26 #[.pointer (some ⟨g,0,none⟩),.int .i64 3,.agg cs.toArray] w (LayP w g r bs (YX m.data) 6000000000):=by
 have Fn:=G (hs.range (jQ2 w 63 cs.toArray));have Ho:=G ((jQ0 NoX w).alloc (.cells cs.toArray 63));have Hz:=G (show(prog.info? 43).map (·.size)=some m.cells.length by rw[hz];kernel_rfl);have HC:=G (fun W (h:Old w W)=>jCT W g r bs m (hW.old h) (by omega) ((KF.of h).case_ Hu));clear hs hz Hu;go_enter func26,ntmps26;go_wp2_with (first|((with_reducible refine jT 43 (.tmp 26) ?_);refine jK rfl 43 (.tmp 26) rfl w.heap.size 6 rfl m.cells _ Fn.out underlying43 rfl Hz.out ?_)|fail);generalize w.alloc _=W at*;refine(HC.out W Ho.out).mono ?_;clear HC Fn;intro e w1 h1;have HZ:=G (fun b (he:e=.returned (.bool b))=>LayP.after Ho.out (he▸h1));have hb:∃b,e=.returned (.bool b):=by
  rcases h1 with⟨l,_,_,h3,_⟩|⟨_,h2,_⟩
  ·exact⟨true,h3⟩
  ·exact⟨false,h2⟩
 obtain⟨b,rfl⟩:=hb;clear h1;go_wp2;go_ret;exact HZ.out b rfl
theorem jCi(w:World)(g:Nat)(r:Option Nat)(bs:LB)(cs:List Value)(p:Part)(hW:Wr w g r bs)(hl:bs.length<=900000000)(OZ:cs[45]? =some p.sl)(Hu:p.Ok w (WX g r)):
  Calls prog 26 #[.pointer (some ⟨g,0,none⟩),.int .i64 4,.agg cs.toArray] w (LayP w g r bs (some p.l) 2147483647):=by
 have Hb:=G (jQ2 w 63 cs.toArray);have c45:=Hb.out.at_ 45 (v:=.slice p.A p.l.length p.c) (by rw[jJ7];exact OZ);have Ho:=G ((jQ0 NoX w).alloc (.cells cs.toArray 63));have M1:=Hu.big;have HD:=G (fun W (h:Old w W)=>kd W g r bs p.A p.c p.l 0 (hW.old h) (by omega) (Hu.rd.old h) Hu.av);clear Hu OZ;go_enter func26,ntmps26;go_wp2_with fail;generalize w.alloc _=W at*;refine(HD.out W Ho.out).mono ?_;rintro e w2 ⟨rfl,HU⟩;have Fq:=G (WStep.after Ho.out HU);clear HU c45;go_wp2;go_ret;exact .inl ⟨p.l,rfl,M1,rfl,Fq.out⟩
theorem Uo(w:World)(g:Nat)(r:Option Nat)(bs:LB)(cs:List Value)(hW:Wr w g r bs)(hl:bs.length<=900000000):
  Calls prog 26 #[.pointer (some ⟨g,0,none⟩),.int .i64 12,.agg cs.toArray] w (LayP w g r bs (some []) 0):=by
 have Ho:=G ((jQ0 NoX w).alloc (.cells cs.toArray 63));have HD:=G (fun W (h:Old w W)=>kd W g r bs none 0 [] 0 (hW.old h) (by simp;omega) Rd.none_ (fun h=>absurd h (by simp)));go_enter func26,ntmps26;go_wp2_with fail;generalize w.alloc _=W at*;refine(HD.out W Ho.out).mono ?_;rintro e w2 ⟨rfl,HU⟩;have Fq:=G (WStep.after Ho.out HU);clear HU;go_wp2;go_ret;exact .inl ⟨[],rfl,jL3 _,rfl,Fq.out⟩
end Go.Proofs.YtnaolhjbapgjgaaGreat

import Derived.Test.YtnaolhjbapgjgaaGreatMg19
set_option maxRecDepth 100000
set_option maxHeartbeats 6400000
namespace Go.Proofs.YtnaolhjbapgjgaaGreat
open Go.Proofs.Tryz
open Go.RowKit
theorem jIZ(w:World)(g P:Nat)(bs:LB)(op:Nat)(s:Rs)(NS:1<=op/\op<=12)(h:Rr w g bs s)(hb:Blk w P 63 zeroMR.cells.toArray)(hP:g<P):
  Calls prog 47 #[.pointer (some ⟨g,0,none⟩),.int .i64 (op:Int),.pointer (some ⟨P,0,none⟩)] w (xH w g P bs (zw bs op s)):=by
 have Y5:op=1\/op=2\/op=3\/op=4\/op=5\/op=6\/op=7\/op=8\/op=9\/op=10\/op=11\/op=12:=(by omega);rcases Y5 with rfl|rfl|rfl|rfl|rfl|rfl|rfl|rfl|rfl|rfl|rfl|rfl
 ·exact jJH 1 1 (.inl ⟨rfl,rfl⟩) w g P bs s h hb hP
 ·exact jJH 2 2 (.inr ⟨rfl,rfl⟩) w g P bs s h hb hP
 ·exact jJw w g P bs s h hb hP
 ·exact jJv w g P bs s h hb hP
 ·exact jJu w g P bs s h hb hP
 ·exact jJt w g P bs s h hb hP
 ·exact jJs w g P bs s h hb hP
 ·exact jJr w g P bs s h hb hP
 ·exact jJq w g P bs s h hb hP
 ·exact jJK w g P bs s h hb hP
 ·exact jJJ w g P bs s h hb hP
 ·exact jJI w g P bs s h hb hP
def KG(bs:LB)(p:Rep)(s:Rs):Option Rep:=if vi bs s=0 then some p else none
def VE(bs:LB)(op:Nat)(t:Nat×Rs):Option Rep:=
 if t.2.why≠0 then none
 else if t.1=0 then(zw bs op t.2).bind fun x=>KG bs x.1 x.2
 else if op<=2/\JD t.1=false then KG bs {zeroRep with err:=t.1,pa:=(tkN bs 4 t.2).1,pb:=(tkN bs 4 (tkN bs 4 t.2).2).1,pc:=(tkN bs 4 (tkN bs 4 (tkN bs 4 t.2).2).2).1} (tkN bs 4 (tkN bs 4 (tkN bs 4 t.2).2).2).2
 else KG bs {zeroRep with err:=t.1} t.2
def yu(op:Int)(bs:LB):Option Rep:=if 1<=op/\op<=12/\bs.length<=4194304 then VE bs op.toNat (tkN bs 2 ⟨0,0⟩)else none
def jHA(w:World)(d:Option Rep)(e:Ending)(w' :World):Prop:=
 (∃m:MReply,d=some m.data/\e=.returned (.tuple #[.agg m.cells.toArray,.int .i64 0])/\m.Ok w' (fun k=>k<w.heap.size)/\Old w w')\/
 (d=none/\e=.returned (.tuple #[.agg zeroMR.cells.toArray,.int .i64 240])/\Old w w')
theorem JT:zeroCells63=zeroMR.cells.toArray:=by kernel_rfl
theorem uQ(w:World):(Instr.build 63 #[]).run prog w=.ok (.agg zeroMR.cells.toArray) w:=by kernel_rfl
theorem MReply.one(m:MReply):m.cells.toArray.all (·.oneCell')=true:=by
 have hm:∀{cs:List Value},cs.toArray.all (·.oneCell')=true->∀v∈cs,v.oneCell' =true:=fun h v hv=>Array.all_eq_true_iff_forall_mem.1 h v (by simpa using hv);refine all_oneCell_toArray (fun v hv=> ?_);simp only[MReply.cells,List.mem_append,List.mem_cons,List.not_mem_nil,or_false]at hv;rcases hv with(rfl|rfl|rfl|rfl|rfl|rfl)|hv|(rfl|rfl)|hv|hv|hv|hv|hv
 ·rfl
 ·rfl
 ·rfl
 ·rfl
 ·rfl
 ·rfl
 ·exact hm (MCase.one _) v hv
 ·rfl
 ·rfl
 ·exact hm (MNote.one _) v hv
 ·exact hm (MWay.one _) v hv
 ·exact hm (MWay.one _) v hv
 ·exact hm (Idx.one _ _ _) v hv
 ·exact hm (MPiece.one _) v hv
structure BoxOld(w:World)(zc:List Value)(W:World):Prop where
 box:Blk W w.heap.size 63 zc.toArray
 old:Old w W
structure RepSt(w:World)(g P:Nat)(bs:LB)(s:Rs)(m:MReply)(W:World):Prop where
 st:DecR 63 zeroMR.cells w g bs s W
 blk:Blk W P 63 m.cells.toArray
 ok:m.Ok W (fun k=>k<=w.heap.size)
 lt:g<P
theorem RepSt.old{w:World}{g P:Nat}{bs:LB}{s:Rs}{m:MReply}{W W' :World}(h:RepSt w g P bs s m W)(hk:Old W W'):RepSt w g P bs s m W' :=
 ⟨h.st.still hk,h.blk.old hk,h.ok.turn hk (fun _ _ f=>f.elim) (fun _ _ e=>e),h.lt⟩
theorem RepSt.step{w:World}{g P:Nat}{bs:LB}{s s' :Rs}{m:MReply}{W W' :World}(h:RepSt w g P bs s m W)(hr:Rr W' g bs s')(hk:Kp (RX g) W W')(hm:m.Ok W' (fun k=>k<=w.heap.size)):RepSt w g P bs s' m W' :=
 ⟨h.st.step hr hk,h.blk.kp hk (fun e=>by have:P=g:=e;have:=h.lt;omega),hm,h.lt⟩
theorem ZR(w:World)(X:Nat->Prop)(n a b c:Int):MReply.Ok w X {zeroMR with err:=n,pa:=a,pb:=b,pc:=c}:=by
 have Z:=jI w X;exact⟨Z.rdH,Z.avH,Z.bigH,Z.case_,Z.raw,Z.note,Z.hd,Z.inc,Z.con,Z.idx,Z.rdI,Z.avI,Z.pie⟩
theorem RepSt.place{w:World}{g P:Nat}{bs:LB}{s:Rs}{n:Int}{W:World}(h:RepSt w g P bs s {zeroMR with err:=n} W)(a b c:Int):RepSt w g P bs s {zeroMR with err:=n,pa:=a,pb:=b,pc:=c} (W.setCells P 1 [.int .i64 a,.int .i64 b,.int .i64 c]):=
 ⟨h.st.put (Kp.setCells P 1 _ W) (fun k e=>by have:=h.lt;omega),h.blk.rPlace a b c,ZR _ _ _ _ _ _,h.lt⟩
theorem XF(n:Int):prog.built 63 [(0,.int .i64 n)]=some (MReply.cells {zeroMR with err:=n}).toArray:=by
 have hz:((prog.info? 63).bind (·.zero)).map (·.cells)=some zeroMR.cells.toArray:=(by kernel_rfl);have hf:∃fs,prog.underlying 63=some (.struct fs)/\∃pl,fs.toList.mapM (fun f=>(prog.info? f.type).map fun i=>(f.offset,i.size))=some ((0,1)::pl):=⟨_,underlying63,[(1,3),(4,1),(5,1),(6,39),(45,1),(46,1),(47,99),(146,3),(149,3),(152,68),(220,36)],by kernel_rfl⟩;obtain⟨fs,hu,pl,hp⟩:=hf;unfold Program.built;cases hi:prog.info? 63 with
 |none=>rw[hi]at hz;cases hz
 |some it=>
  cases Wo:it.zero with
  |none=>rw[hi]at hz;simp[Wo]at hz
  |some z=>
   rw[hi]at hz;simp only[jL2,Wo,Option.map_some,Option.some.injEq]at hz;simp only[hu,Wo,hp];obtain⟨r,e1,s1,k1⟩:=Zo (((0,1)::pl).toArray[·]?) 0 0 1 (.int .i64 n) rfl rfl z.cells (by rw[hz,jJ8,(jI (default) NoX).len];decide) [];rw[e1];simp only[Instr.fill,Option.some.injEq];apply Array.ext_getElem?;intro k;rw[k1 k,hz];cases k with
   |zero=>rfl
   |succ k=>rw[jJ5 (by omega)];rfl
theorem ZF{P:Program}{ops:Array Oper}{rest:List Oper}{d:Option Tmp}{ty:TypeId}{pos:String}{after:Array Edge}{gd:Option (Nat×Bool)}{a:Act}{w:World}{Q:Exit->Act->World->Prop}(t:TypeId)(x:Operand)
  (h:wpList P ops Q (⟨d,.build t #[(0,x)],ty,pos,after,gd⟩::rest) a w):wpList P ops Q (⟨d,.build t #[(0,x)],ty,pos,after,gd⟩::rest) a w:=h
theorem Yf{ops:Array Oper}{rest:List Oper}{o:Oper}{a:Act}{w:World}{Q:Exit->Act->World->Prop}(hg:o.guard=none)(t:TypeId)(x:Operand)(ho:o.op=.build t #[(0,x)])
  (vx:Value) (hx:a.eval x=vx) (cs:List Value) (hb:prog.built t [(0,vx)]=some cs.toArray)
  (h:wpList prog ops Q rest (a.put o.dst (.agg cs.toArray)) w):wpList prog ops Q (o::rest) a w:=
 wpList_buildTo hg t _ ho o.dst rfl cs.toArray (by simp only[List.map_toArray,List.map_cons,List.map_nil,hx];exact hb) h
theorem jCI(w:World)(op:Int)(A:OA)(c:Nat)(bs:LB)(GH:¬(1<=op/\op<=12/\bs.length<=4194304))(D:Option Rep)(hD:D=none):
  Calls prog 17 #[.int .i64 op,.slice A bs.length c] w (jHA w D):=by
 have HX:=G (show BoxOld w zeroMR.cells (w.alloc (.cells zeroCells63 63))from⟨by rw[JT];exact jQ2 w _ _,(jQ0 NoX w).alloc _⟩);have Pt:=G (show(prog.info? 63).map (·.size)=some zeroMR.cells.length by rw[(jI w NoX).len];exact kj);have Y7:=G (MReply.one zeroMR);have hY:=G hD;clear hD;have Y6:=G (fun W=>uQ W);generalize Co:zeroMR.cells=zc at*;have Sn:=G Co;clear Co;by_cases h1:1<=op
 ·have Ns:¬op<1:=(by omega);by_cases h2:op<=12
  ·have Nx:¬(12:Int)<op:=(by omega);have LD:(4194304:Int)<(bs.length:Int):=(by omega);clear GH;go_enter func17,ntmps17;have hU:=G (HX.out.box.there 0 zc.toArray.size (by rw[jJ8];omega));have Ht:=G (HX.out.box.setWhole zc rfl);have FR:=G (show Old w ((w.alloc (.cells zeroCells63 63)).setCells w.heap.size 0 zc)from HX.out.old.trans (Kp.setCells _ 0 _ _) (fun b hb e=>by omega));go_wp2_with (first|((with_reducible refine jM 63 ?_);refine jX rfl 63 rfl _ (Y6.out _) ?_)|((with_reducible refine jF 63 (.tmp 4) (.tmp 23) ?_);refine jQ1 rfl 63 (.tmp 4) (.tmp 23) rfl w.heap.size 0 zc.toArray rfl rfl hU.out Pt.out Y7.out ?_)|fail);refine jD (g:=w.heap.size) (cs:=zc.toArray) rfl rfl Ht.out underlying63 rfl (by rw[jJ8];exact Pt.out) rfl ?_;exact .inr ⟨hY.out,by rw[Sn.out];rfl,FR.out⟩
  ·have Nx:(12:Int)<op:=(by omega);clear GH;go_enter func17,ntmps17;have hU:=G (HX.out.box.there 0 zc.toArray.size (by rw[jJ8];omega));have Ht:=G (HX.out.box.setWhole zc rfl);have FR:=G (show Old w ((w.alloc (.cells zeroCells63 63)).setCells w.heap.size 0 zc)from HX.out.old.trans (Kp.setCells _ 0 _ _) (fun b hb e=>by omega));go_wp2_with (first|((with_reducible refine jM 63 ?_);refine jX rfl 63 rfl _ (Y6.out _) ?_)|((with_reducible refine jF 63 (.tmp 4) (.tmp 23) ?_);refine jQ1 rfl 63 (.tmp 4) (.tmp 23) rfl w.heap.size 0 zc.toArray rfl rfl hU.out Pt.out Y7.out ?_)|fail);refine jD (g:=w.heap.size) (cs:=zc.toArray) rfl rfl Ht.out underlying63 rfl (by rw[jJ8];exact Pt.out) rfl ?_;exact .inr ⟨hY.out,by rw[Sn.out];rfl,FR.out⟩
 ·have Ns:op<1:=(by omega);clear GH;go_enter func17,ntmps17;have hU:=G (HX.out.box.there 0 zc.toArray.size (by rw[jJ8];omega));have Ht:=G (HX.out.box.setWhole zc rfl);have FR:=G (show Old w ((w.alloc (.cells zeroCells63 63)).setCells w.heap.size 0 zc)from HX.out.old.trans (Kp.setCells _ 0 _ _) (fun b hb e=>by omega));go_wp2_with (first|((with_reducible refine jM 63 ?_);refine jX rfl 63 rfl _ (Y6.out _) ?_)|((with_reducible refine jF 63 (.tmp 4) (.tmp 23) ?_);refine jQ1 rfl 63 (.tmp 4) (.tmp 23) rfl w.heap.size 0 zc.toArray rfl rfl hU.out Pt.out Y7.out ?_)|fail);refine jD (g:=w.heap.size) (cs:=zc.toArray) rfl rfl Ht.out underlying63 rfl (by rw[jJ8];exact Pt.out) rfl ?_;exact .inr ⟨hY.out,by rw[Sn.out];rfl,FR.out⟩
theorem UW(w:World)(op:Nat)(A:OA)(c:Nat)(bs:LB)(NS:1<=op/\op<=12)(hl:bs.length<=4194304)(Fa:Rd w 1 A bs.length (bs.map bv)):
  Calls prog 17 #[.int .i64 (op:Int),.slice A bs.length c] w (jHA w (VE bs op (tkN bs 2 ⟨0,0⟩))):=by
 have HD:=G (show VE bs op (tkN bs 2 ⟨0,0⟩)=VE bs op (tkN bs 2 ⟨0,0⟩)from rfl);have EI:=G (show BoxOld w zeroMR.cells (w.alloc (.cells zeroCells63 63))from⟨by rw[JT];exact jQ2 w _ _,(jQ0 NoX w).alloc _⟩);have Pt:=G (show(prog.info? 63).map (·.size)=some zeroMR.cells.length by rw[(jI w NoX).len];exact kj);have Y7:=G (MReply.one zeroMR);have Y6:=G (fun W=>uQ W);have DI:=G (show∃zc,zeroMR.cells=zc from⟨_,rfl⟩);obtain⟨zc,Co⟩:=DI.out;have Sn:=G Co;rw[Co]at Pt Y7 Y6;clear Co DI;have Wn:=G (fun W (h:Old w W)=>uZ W A bs.length c bs (Fa.old h) (by omega));have Ts:=G (fun W g P s (hR:Rr W g bs s) hb hP=>jIZ W g P bs op s NS hR hb hP)
 revert HD
 generalize hDD:VE bs op (tkN bs 2 ⟨0,0⟩)=D;intro _;have HD:=G hDD.symm;clear hDD Fa;obtain⟨o0,o1⟩:=NS;have n1:¬(op:Int)<1:=(by omega);have n2:¬(12:Int)<(op:Int):=(by omega);have n3:¬(4194304:Int)<(bs.length:Int):=(by omega);go_enter func17,ntmps17;go_wp2_with fail;generalize w.alloc _=W0 at*;refine(Wn.out W0 EI.out.old).mono ?_;rintro e w1 ⟨g,rfl,hg,Fd,F0⟩;have Wg:=G (show DecR 63 zeroMR.cells w g bs ⟨0,0⟩ w1 from⟨EI.out.box.old F0,Fd,EI.out.old.old F0,by have:=EI.out.box.lt;omega⟩);have HP:=G (fun W (hR:Rr W g bs ⟨0,0⟩)=>xS W g bs ⟨0,0⟩ hR);have HN:=G (ku bs 2 ⟨0,0⟩);clear Fd F0 hg EI Wn;go_wp2_with fail;refine(HP.out _ Wg.out.rr).mono ?_;clear HP;generalize tkN bs 2 ⟨0,0⟩=t1 at*;obtain⟨n,s1⟩:=t1;simp only at HN⊢;rintro e w2 ⟨rfl,Fb,hZ⟩;replace Wg:=G (Wg.out.step Fb hZ);have hn:n<65536:=by have:=HN.out;omega
 have RT:IntKind.i64.wrap (n:Int)=n:=jQ3 _ (by omega);have RS:wrap64 (n:Int)=(n:Int):=by unfold wrap64;omega
 clear Fb hZ HN;have HB:=G (XF (n:Int));have Fi:=G (show(MReply.cells {zeroMR with err:=(n:Int)}).length=256 from(jI w NoX).len);have PC:=G (show Blk (w2.alloc (.cells zeroCells63 63)) w2.heap.size 63 zeroMR.cells.toArray from by rw[JT];exact jQ2 w2 _ _);have hU:=G (PC.out.there 0 (MReply.cells {zeroMR with err:=(n:Int)}).toArray.size (by rw[jJ8,jJ8,Fi.out,(jI w NoX).len];decide));have Q9:=G (show(prog.info? 63).map (·.size)=some (MReply.cells {zeroMR with err:=(n:Int)}).length by rw[Fi.out];exact kj);have T9:=G (MReply.one {zeroMR with err:=(n:Int)});have HS:=G (show RepSt w g w2.heap.size bs s1 {zeroMR with err:=(n:Int)} ((w2.alloc (.cells zeroCells63 63)).setCells w2.heap.size 0 (MReply.cells {zeroMR with err:=(n:Int)}))from
  ⟨(Wg.out.still ((jQ0 NoX w2).alloc _)).put (Kp.setCells w2.heap.size 0 _ _) (fun b e=>by have:=Wg.out.rr.lt;omega),PC.out.setWhole _ (by rw[Fi.out,(jI w NoX).len]),by
   have Z:=jI ((w2.alloc (.cells zeroCells63 63)).setCells w2.heap.size 0 (MReply.cells {zeroMR with err:=(n:Int)})) (fun k=>k<=w.heap.size);exact⟨Z.rdH,Z.avH,Z.bigH,Z.case_,Z.raw,Z.note,Z.hd,Z.inc,Z.con,Z.idx,Z.rdI,Z.avI,Z.pie⟩,Wg.out.rr.lt⟩)
 clear Wg PC;generalize Q1:MReply.cells {zeroMR with err:=(n:Int)}=ec at*;have HW:=G (fun W (hR:Rr W g bs s1)=>yL W g bs s1 hR);go_upto_block 0 with(first|((with_reducible refine ZF 63 (.tmp 28) ?_);refine Yf rfl 63 (.tmp 28) rfl _ rfl ec HB.out ?_)|((with_reducible refine jF 63 (.tmp 7) (.tmp 29) ?_);refine jQ1 rfl 63 (.tmp 7) (.tmp 29) rfl w2.heap.size 0 ec.toArray rfl rfl hU.out Q9.out T9.out ?_)|fail);generalize (w2.alloc _).setCells _ _ _=W2 at*;generalize w2.heap.size=P at*;have CE:=G Q1;clear Q1 hU HB Q9 T9 RT RS Fi;unfold VE at HD;simp only at HD;go_cut [8] (fun x wx=>(∃(s:Rs) (m:MReply),x=.int .i64 0/\RepSt w g P bs s m wx/\D=if vi bs s=0 then some m.data else none)\/(∃er:Int,x=.int .i64 er/\er≠0/\BoxOld w zc wx/\D=none))
 case first=>
  go_wp2_with fail;refine(HW.out _ HS.out.st.rr).mono ?_;rintro e w3 ⟨rfl,rfl⟩;clear HW;by_cases hy:s1.why=0
  case neg=>
   have MK:(s1.why !=0)=true:=(by simpa using hy);have FB:=G (show D=if vi bs s1=0 then some (MReply.data {zeroMR with err:=(n:Int)})else none by
    rw[HD.out,jJ6 hy,jJ5 (fun h=>hy (by
     unfold vi at h;split at h
     ·cases h
     ·exact h))])
   clear hy Ts CE;go_wp2_with fail;go_meet
   case rel=>exact .inl ⟨_,_,rfl,HS.out,FB.out⟩
  rw[jJ5 (by simpa using hy)]at HD;rw[hy];have c0:=HS.out.blk.at_ 0 (v:=.int .i64 (n:Int)) rfl;by_cases LP:n=0
  ·subst LP;rw[jJ6 rfl]at HD;have GW:=G (show Blk W2 P 63 zeroMR.cells.toArray from HS.out.blk);have N1:=HS.out.lt;have HA:=G (Ts.out W2 g P s1 HS.out.st.rr GW.out N1);clear Ts hy CE;go_wp2_with fail;refine HA.out.mono ?_;clear HA GW c0;generalize zw bs op s1=an at*;rintro e w4 ⟨hc,Mw⟩;have Am:=G HS.out.st.lt;have AF:=G (show BoxOld w zc w4 from⟨Sn.out▸HS.out.st.box.kp Mw (fun e=>by have:=Am.out;omega),HS.out.st.old.trans Mw (fun b hb e=>by have:=Am.out;omega)⟩);rcases hc with⟨m,s4,rfl,rfl,Q4,D8,Mu⟩|⟨er,rfl,FZ,rfl⟩
   ·have Lh:=G (show RepSt w g P bs s4 m w4 from⟨⟨Sn.out▸AF.out.box,Mu,AF.out.old,Am.out⟩,Q4,D8.turn (jQ0 NoX w4) (fun _ _ f=>f.elim) (fun b _ e=>by have:=HS.out.st.box.lt;have:b<=w.heap.size:=e;show b<W2.heap.size;omega),N1⟩);have FB:=G (show D=if vi bs s4=0 then some m.data else none by rw[HD.out];rfl);clear Mw Q4 D8 Mu HS HD AF;have HS:=G Lh.out;clear Lh;go_wp2_with fail;go_meet
    case rel=>exact .inl ⟨_,_,rfl,HS.out,FB.out⟩
   ·have hY:=G (show D=none by rw[HD.out];rfl);have II:=G FZ;clear Mw FZ;go_wp2_with fail;go_meet
    case rel=>exact .inr ⟨er,rfl,II.out,AF.out,hY.out⟩
  ·rw[jJ5 LP]at HD;have b0:((n:Int)==0)=false:=beq_eq_false_iff_ne.2 (by omega);clear Ts hy;by_cases h2:op<=2
   ·have g2:(op:Int)<=2:=(by omega);have AQ:=G (fun W=>jAv W (n:Int));go_wp2_with fail;refine(AQ.out _).mono ?_;rintro e w2b ⟨rfl,rfl⟩;clear c0 AQ;cases NW:JD (n:Int)with
    |false=>
     rw[jJ6 ⟨h2,NW⟩]at HD;have HP:=G (fun W (hR:Rr W g bs s1)=>Kd W g bs s1 hR);have Ge:=G (ku bs 4 s1);clear NW CE LP;go_wp2_with fail;refine(HP.out _ HS.out.st.rr).mono ?_;clear HP;generalize tkN bs 4 s1=t2 at*;obtain⟨a,s2⟩:=t2;simp only at HD Ge⊢;rintro e w4 ⟨rfl,Fb,hZ⟩;replace HS:=G (HS.out.step Fb hZ (ZR _ _ _ 0 0 0));clear Fb hZ;have HP:=G (fun W (hR:Rr W g bs s2)=>Kd W g bs s2 hR);have EP:=G (ku bs 4 s2);go_wp2_with fail;refine(HP.out _ HS.out.st.rr).mono ?_;clear HP;generalize tkN bs 4 s2=t3 at*;obtain⟨b,s3⟩:=t3;simp only at HD EP⊢;rintro e w5 ⟨rfl,Fb,hZ⟩;replace HS:=G (HS.out.step Fb hZ (ZR _ _ _ 0 0 0));clear Fb hZ;have HP:=G (fun W (hR:Rr W g bs s3)=>Kd W g bs s3 hR);have EO:=G (ku bs 4 s3);go_wp2_with fail;refine(HP.out _ HS.out.st.rr).mono ?_;clear HP;generalize tkN bs 4 s3=t4 at*;obtain⟨d,s4⟩:=t4;simp only at HD EO⊢;rintro e w6 ⟨rfl,Fb,hZ⟩;replace HS:=G (HS.out.step Fb hZ (ZR _ _ _ 0 0 0));clear Fb hZ;have ha:=Ge.out;have hb:=EP.out;have hd4:=EO.out;rw[show(256:Nat)^4=4294967296 from rfl]at ha hb hd4;have wa:IntKind.i64.wrap (a:Int)=a:=jQ3 _ (by omega);have wb:IntKind.i64.wrap (b:Int)=b:=jQ3 _ (by omega);have wd:IntKind.i64.wrap (d:Int)=d:=jQ3 _ (by omega);have wa2:wrap64 (a:Int)=(a:Int):=by unfold wrap64;omega
     have wb2:wrap64 (b:Int)=(b:Int):=by unfold wrap64;omega
     have wd2:wrap64 (d:Int)=(d:Int):=by unfold wrap64;omega
     clear Ge EP EO;have I0:=G (HS.out.blk.there 1 #[Value.int .i64 (a:Int),.int .i64 (b:Int),.int .i64 (d:Int)].size (by rw[jJ8,jJ8,HS.out.ok.len];simp));have Hpz:=G (show(prog.info? 37).map (·.size)=some #[Value.int .i64 (a:Int),.int .i64 (b:Int),.int .i64 (d:Int)].size by kernel_rfl);have Tn:=G (HS.out.place (a:Int) (b:Int) (d:Int));have FB:=G (show D=if vi bs s4=0 then some (MReply.data {zeroMR with err:=(n:Int),pa:=(a:Int),pb:=(b:Int),pc:=(d:Int)})else none by rw[HD.out];rfl);clear HS HD;have HS:=G (show RepSt w g P bs s4 {zeroMR with err:=(n:Int),pa:=(a:Int),pb:=(b:Int),pc:=(d:Int)} _ from Tn.out);clear Tn;go_wp2_with (first|((with_reducible refine jF 37 (.tmp 63) (.tmp 62) ?_);refine jQ1 rfl 37 (.tmp 63) (.tmp 62) rfl P 1 #[Value.int .i64 (a:Int),.int .i64 (b:Int),.int .i64 (d:Int)] rfl rfl I0.out Hpz.out (jR rfl) ?_)|fail);go_meet
     case rel=>exact .inl ⟨_,_,rfl,HS.out,FB.out⟩
    |true=>
     rw[jJ5 (fun h=>by rw[NW]at h;cases h.2)]at HD;have FB:=G (show D=if vi bs s1=0 then some (MReply.data {zeroMR with err:=(n:Int)})else none by rw[HD.out];rfl);clear NW CE LP HD;go_wp2_with fail;go_meet
     case rel=>exact .inl ⟨_,_,rfl,HS.out,FB.out⟩
   ·have g2:¬(op:Int)<=2:=(by omega);rw[jJ5 (fun h=>h2 h.1)]at HD;have FB:=G (show D=if vi bs s1=0 then some (MReply.data {zeroMR with err:=(n:Int)})else none by rw[HD.out];rfl);clear CE LP HD;go_wp2_with fail;go_meet
    case rel=>exact .inl ⟨_,_,rfl,HS.out,FB.out⟩
 case rest=>
  rcases hcut with⟨s,m,rfl,hs,Bu⟩|⟨er,rfl,FZ,hx,GH⟩
  ·have HS:=G hs;have FB:=G Bu;clear hs Bu;have Mh:=G (fun W (hR:Rr W g bs s)=>Jj W g bs s hR);go_wp2_with fail;refine(Mh.out _ HS.out.st.rr).mono ?_;clear Mh;generalize vi bs s=dn at*;rintro e wE ⟨rfl,FN⟩;replace HS:=G (HS.out.old FN);clear FN;by_cases hd:dn=0
   case neg=>
    have hY:=G (show D=none by rw[FB.out,jJ5 hd]);have Po:(dn !=0)=true:=(by simpa using hd);have HX:=G (show BoxOld w zc wE from⟨Sn.out▸HS.out.st.box,HS.out.st.old⟩);clear hd;have hU:=G (HX.out.box.there 0 zc.toArray.size (by rw[jJ8];omega));have Ht:=G (HX.out.box.setWhole zc rfl);have FR:=G (show Old w (wE.setCells w.heap.size 0 zc)from HX.out.old.trans (Kp.setCells _ 0 _ _) (fun b hb e=>by omega));go_wp2_with (first|((with_reducible refine jM 63 ?_);refine jX rfl 63 rfl _ (Y6.out _) ?_)|((with_reducible refine jF 63 (.tmp 4) (.tmp 71) ?_);refine jQ1 rfl 63 (.tmp 4) (.tmp 71) rfl w.heap.size 0 zc.toArray rfl rfl hU.out Pt.out Y7.out ?_)|fail);refine jD (g:=w.heap.size) (cs:=zc.toArray) rfl rfl Ht.out underlying63 rfl (by rw[jJ8];exact Pt.out) rfl ?_;exact .inr ⟨hY.out,by rw[Sn.out];rfl,FR.out⟩
   subst hd;have FT:=G (show D=some m.data by rw[FB.out,jJ6 rfl]);have Fi:=G (show m.cells.length=256 from HS.out.ok.len);have Fh:=G (show(prog.info? 63).map (·.size)=some m.cells.length by rw[Fi.out];exact kj);have hU:=G (HS.out.st.th m.cells (by rw[Fi.out,(jI w NoX).len]));have Ht:=G (HS.out.st.told m.cells (by rw[Fi.out,(jI w NoX).len]));have Fn:=G HS.out.blk.range;have FD:=G (MReply.one m);have HZ:=G (show jHA w D (.returned (.tuple #[.agg m.cells.toArray,.int .i64 0])) (wE.setCells w.heap.size 0 m.cells)from
    .inl ⟨m,FT.out,rfl,HS.out.ok.turn Ht.out.kp (fun b _ e=>by have:b=w.heap.size:=e;show b<=w.heap.size;omega) (fun b _ e=>by show b<=w.heap.size;omega),Ht.out.old⟩)
   generalize m.cells=mc at*;go_wp2_with (first|((with_reducible refine jT 63 (.tmp 7) ?_);refine jK rfl 63 (.tmp 7) rfl P 0 rfl mc _ Fn.out underlying63 rfl Fh.out ?_)|((with_reducible refine jF 63 (.tmp 4) (.tmp 72) ?_);refine jQ1 rfl 63 (.tmp 4) (.tmp 72) rfl w.heap.size 0 mc.toArray rfl rfl hU.out Fh.out FD.out ?_)|fail);refine jD (g:=w.heap.size) (cs:=mc.toArray) rfl rfl Ht.out.box underlying63 rfl (by rw[jJ8];exact Fh.out) rfl ?_;exact HZ.out
  ·have HX:=G hx;have hY:=G GH;have P4:(er !=0)=true:=(by simpa using FZ);clear hx GH;clear FZ;have hU:=G (HX.out.box.there 0 zc.toArray.size (by rw[jJ8];omega));have Ht:=G (HX.out.box.setWhole zc rfl);have FR:=G (show Old w (wc.setCells w.heap.size 0 zc)from HX.out.old.trans (Kp.setCells _ 0 _ _) (fun b hb e=>by omega));go_wp2_with (first|((with_reducible refine jM 63 ?_);refine jX rfl 63 rfl _ (Y6.out _) ?_)|((with_reducible refine jF 63 (.tmp 4) (.tmp 71) ?_);refine jQ1 rfl 63 (.tmp 4) (.tmp 71) rfl w.heap.size 0 zc.toArray rfl rfl hU.out Pt.out Y7.out ?_)|fail);refine jD (g:=w.heap.size) (cs:=zc.toArray) rfl rfl Ht.out underlying63 rfl (by rw[jJ8];exact Pt.out) rfl ?_;exact .inr ⟨hY.out,by rw[Sn.out];rfl,FR.out⟩
theorem jCJ(w:World)(op:Int)(A:OA)(c:Nat)(bs:LB)(Fa:Rd w 1 A bs.length (bs.map bv)):
  Calls prog 17 #[.int .i64 op,.slice A bs.length c] w (jHA w (yu op bs)):=by
 by_cases h:1<=op/\op<=12/\bs.length<=4194304
 ·obtain⟨n,rfl⟩:=Int.eq_ofNat_of_zero_le (show 0<=op by omega);rw[show yu (n:Int) bs=VE bs n (tkN bs 2 ⟨0,0⟩)from jJ6 h];exact UW w n A c bs (by omega) h.2.2 Fa
 ·rw[show yu op bs=none from jJ5 h];exact jCI w op A c bs h none rfl
structure RepH(W:World)(B:Nat)(er pa pb pc nu:Int)(hs:Value)(cas:List Value)(rs:Value)(sz:Int)(hd:List Value)(ss:Value)(inc:List Value)(ca cb:Int)(cw:Value)(ix pie:List Value):Prop where
 c0:W.cell? ⟨B,0,none⟩=some (.int .i64 er)
 r1:W.rangeAt B 1 [.int .i64 pa,.int .i64 pb,.int .i64 pc]
 c4:W.cell? ⟨B,4,none⟩=some (.int .i64 nu)
 c5:W.cell? ⟨B,5,none⟩=some hs
 r6:W.rangeAt B 6 cas
 c45:W.cell? ⟨B,45,none⟩=some rs
 c46:W.cell? ⟨B,46,none⟩=some (.int .i64 sz)
 r47:W.rangeAt B 47 hd
 c145:W.cell? ⟨B,145,none⟩=some ss
 r146:W.rangeAt B 146 inc
 c149:W.cell? ⟨B,149,none⟩=some (.int .i64 ca)
 c150:W.cell? ⟨B,150,none⟩=some (.int .i64 cb)
 c151:W.cell? ⟨B,151,none⟩=some cw
 r152:W.rangeAt B 152 ix
 r220:W.rangeAt B 220 pie
theorem RepH.of{W w:World}{X:Nat->Prop}{B:Nat}{m:MReply}(hb:Blk W B 63 m.cells.toArray)(h:m.Ok w X):RepH W B m.err m.pa m.pb m.pc m.number (.slice m.hA m.hap.length m.hC) m.case_.cells (.slice m.raw.A m.raw.l.length m.raw.c) m.size m.note.head.cells (.slice m.note.A m.note.signs.length m.note.c) m.inc.cells m.con.a m.con.b (.slice m.con.A m.con.ds.length m.con.c) (m.idx.cells m.iA m.iC) m.pie.cells:=by
 have hc:∀(i:Nat) (v:Value),m.cells[i]? =some v->W.cell? ⟨B,i,none⟩=some v:=fun i v e=>hb.at_ i (by rw[jJ7];exact e);have S1:Sub m.cells 1 [.int .i64 m.pa,.int .i64 m.pb,.int .i64 m.pc]:=by
  intro j v hv
  match j,hv with
  |0,hv=>exact hv
  |1,hv=>exact hv
  |2,hv=>exact hv
  |n+3,hv=>simp at hv
 have Sh:Sub m.note.cells 0 m.note.head.cells:=by
  have:=Sub.mid_ [] m.note.head.cells [.slice m.note.A m.note.signs.length m.note.c] 0 rfl;simpa [MNote.cells]using this
 have n98:m.note.cells[98]? =some (.slice m.note.A m.note.signs.length m.note.c):=(Sub.end_ m.note.head.cells [.slice m.note.A m.note.signs.length m.note.c] 98 h.note.head.len) 0 _ rfl;exact⟨hc 0 _ rfl,S1.range hb,hc 4 _ rfl,hc 5 _ rfl,MReply.c6.range hb,hc 45 _ (h.r45 0 _ rfl),hc 46 _ (h.r45 1 _ rfl),(Sub.trans h.n47 Sh).range hb,hc 145 _ (h.n47 98 _ n98),h.i146.range hb,hc 149 _ (h.c149 0 _ rfl),hc 150 _ (h.c149 1 _ rfl),hc 151 _ (h.c149 2 _ rfl),h.x152.range hb,h.p220.range hb⟩
section
variable{W W' :World}{B:Nat}{er pa pb pc nu sz ca cb:Int}{hs rs ss cw:Value}{cas hd inc ix pie:List Value}
theorem RepH.old(h:RepH W B er pa pb pc nu hs cas rs sz hd ss inc ca cb cw ix pie)(ho:Old W W'):RepH W' B er pa pb pc nu hs cas rs sz hd ss inc ca cb cw ix pie:=
 ⟨jW h.c0 ho,jo h.r1 ho,jW h.c4 ho,jW h.c5 ho,jo h.r6 ho,jW h.c45 ho,jW h.c46 ho,jo h.r47 ho,jW h.c145 ho,jo h.r146 ho,jW h.c149 ho,jW h.c150 ho,jW h.c151 ho,jo h.r152 ho,jo h.r220 ho⟩
end
structure IdxH(W:World)(B:Nat)(nm:BA)(f:Bool)(en bm:List Value)(ws:Value):Prop where
 c0:W.cell? ⟨B,0,none⟩=some (.string nm)
 c1:W.cell? ⟨B,1,none⟩=some (.bool f)
 r2:W.rangeAt B 2 en
 r35:W.rangeAt B 35 bm
 c67:W.cell? ⟨B,67,none⟩=some ws
theorem IdxH.of{W:World}{B:Nat}{x:Idx}{A:OA}{c:Nat}(hb:Blk W B 57 (x.cells A c).toArray)(Hu:x.Ok):IdxH W B x.case_ x.found (.int .i64 x.count::jA x.chain) (jA x.bitmap) (.slice A x.way.length c):=by
 have hc:∀(i:Nat) (v:Value),(x.cells A c)[i]? =some v->W.cell? ⟨B,i,none⟩=some v:=fun i v e=>hb.at_ i (by rw[jJ7];exact e);exact⟨hc 0 _ rfl,hc 1 _ rfl,(x.s2 A c).range hb,Hu.s35.range hb,hc 67 _ Hu.s67⟩
structure OneB(W wx:World)(B:Nat)(L:List Value):Prop where
 blk:Blk wx B 57 L.toArray
 lo:W.heap.size<=B
 old:Old W wx
structure TwoB(W wx:World)(B C:Nat)(L M:List Value):Prop where
 b:Blk wx B 57 L.toArray
 c:Blk wx C 57 M.toArray
 ne:B≠C
 lo:W.heap.size<=B/\W.heap.size<=C
 old:Old W wx
section
variable{W wx:World}{B C:Nat}{L M:List Value}
theorem OneB.new(ho:Old W wx):OneB W (wx.alloc (.cells zeroCells57 57)) wx.heap.size zeroIdxL:=
 ⟨by rw[Ka];exact jQ2 wx _ _,ho.size,ho.alloc _⟩
theorem OneB.more(h:OneB W wx B L):TwoB W (wx.alloc (.cells zeroCells57 57)) B wx.heap.size L zeroIdxL:=
 ⟨h.blk.alloc _,by rw[Ka];exact jQ2 wx _ _,Nat.ne_of_lt h.blk.lt,⟨h.lo,h.old.size⟩,h.old.alloc _⟩
theorem TwoB.swap(h:TwoB W wx B C L M):TwoB W wx C B M L:=⟨h.c,h.b,h.ne.symm,⟨h.lo.2,h.lo.1⟩,h.old⟩
theorem TwoB.put(h:TwoB W wx B C zeroIdxL M)(hl:68=L.length):TwoB W (wx.setCells B 0 L) B C L M:=
 ⟨h.b.setWhole L hl,h.c.kp (Kp.setCells B 0 L wx) (fun e=>h.ne e.symm),h.ne,h.lo,h.old.trans (Kp.setCells _ _ _ _) (fun b hb e=>by have:=h.lo;omega)⟩
theorem Vr(h:Blk wx B 57 zeroIdxL.toArray)(hl:68=L.length):wx.there B 0 L.toArray.size:=h.there 0 _ (by rw[jJ8,<-hl];decide)
end
theorem ZZ{P:Program}{ops:Array Oper}{o:Oper}{a:Act}{w:World}{K:Act->World->Prop}{Q:Exit->Act->World->Prop}{E:Prop}(hg:o.guard=none)(ty:TypeId)(x y:Operand)(ho:o.op=.store ty x y)
  (b:Nat) (L:List Value) (hx:a.eval x=.pointer (some ⟨b,0,none⟩)) (hy:a.eval y=.agg L.toArray)
  (ht:w.there b 0 L.toArray.size) (hi:(P.info? ty).map (·.size)=some L.length) (h1:L.toArray.all (·.oneCell')=true)
  (h:K (a.put o.dst undef) (w.setCells b 0 L)):if Region.wanted o (yielded ops a.tmps)=true then Oper.wp P o a w K Q else E:=by
 have hw:Region.wanted o (yielded ops a.tmps)=true:=(by simp[Region.wanted,hg]);rw[jJ6 hw];exact wp_store_mid ty x y ho b 0 L.toArray hx hy ht (by rw[hi,jJ8]) h1 h
theorem jJp(h:Hd)(hk:h.Ok)(hs: -9223372036854775808<=h.size/\h.size<=9223372036854775807)(hc: -9223372036854775808<=h.clock/\h.clock<=9223372036854775807)(w:World):
  (Op.equalIn 10000 45 (.agg h.cells.toArray) (.agg h.cells.toArray)).run prog w=.ok true w:=by
 obtain⟨r,h1,h2⟩:=Qu 45 3 (by decide) (by kernel_rfl) h.cells h.cells 3 3 _ _ (zt h hk hs hc) (zt h hk hs hc) (vq underlying45 rfl KW hk.len) (vq underlying45 rfl KW hk.len) w;rw[h1,h2.2 rfl]
theorem jJA(n:Int)(hn: -9223372036854775808<=n/\n<=9223372036854775807)(d:LB)(hd:d.length=32)(w:World):
  (Op.equalIn 10000 55 (.agg (.int .i64 n::jA d).toArray) (.agg (.int .i64 n::jA d).toArray)).run prog w=.ok true w:=by
 rw[jAp w n n hn hn d d hd hd,jK5 ⟨rfl,rfl⟩]
theorem jGk(a b c:Int)(w:World):(Op.equalIn 10000 37 (.agg [.int .i64 a,.int .i64 b,.int .i64 c].toArray) (.agg [.int .i64 a,.int .i64 b,.int .i64 c].toArray)).run prog w=.ok true w:=by
 go_simp
theorem jB3:prog.eqGuardType prog.depth 37=false:=by kernel_rfl
theorem jBF(w:World)(m1 m2:MReply)(X Y:Nat->Prop)(h1:m1.Ok w X)(h2:m2.Ok w Y)(hd:m1.data=m2.data)(MM:m1.pie.evs.length<=m1.pie.pfs.length):
  Calls prog 37 #[.agg m1.cells.toArray,.agg m2.cells.toArray] w fun e w' =>e=.returned (.bool true)/\Old w w' :=by
 have SX:=(jQ2 w 63 m1.cells.toArray).alloc (.cells m2.cells.toArray 63);have P5:=jQ2 (w.alloc (.cells m1.cells.toArray 63)) 63 m2.cells.toArray;rw[show(w.alloc (.cells m1.cells.toArray 63)).heap.size=w.heap.size+1 by simp]at P5;have Ho:=G (((jQ0 NoX w).alloc (.cells m1.cells.toArray 63)).alloc (.cells m2.cells.toArray 63));have P1:=G (RepH.of SX h1);have P2:=G (RepH.of P5 h2);clear SX P5;generalize FS:m1.cells=cs1 at*;generalize Gz:m2.cells=cs2 at*;clear FS Gz;obtain⟨er,pa,pb,pc,nu,hp,hA,hC,cas,⟨rA,rl,rC⟩,sz,⟨Bv,sg,sA,sC⟩,inc,⟨ca,cb,cw,cA,cC⟩,ix,iA,iC,pie⟩:=m1;obtain⟨er2,pa2,pb2,pc2,nu2,hp2,hB,hD,cas2,⟨rB,rl2,rD⟩,sz2,⟨Bu,sg2,sB,sD⟩,inc2,⟨ca2,cb2,cw2,cB,cD⟩,ix2,iB,iD,pie2⟩:=m2;simp only[MReply.data,Rep.mk.injEq]at hd;obtain⟨rfl,rfl,rfl,rfl,rfl,rfl,Ds,rfl,rfl,rfl,rfl,Dk,Dq,rfl,CU⟩:=hd;simp only[MWay.data,Way.mk.injEq]at Dq;obtain⟨rfl,rfl,rfl⟩:=Dq;have Eh:=G (jJp Bv h1.note.head h1.hd.1 h1.hd.2);have Ep:=G (jGk pa pb pc);have Ee:=G (jJA ix.count h1.idx.count ix.chain h1.idx.chain);have Ed:=G (uu ix.bitmap h1.idx.bitmap);have Zp:=G (show(prog.info? 37).map (·.size)=some [Value.int .i64 pa,.int .i64 pb,.int .i64 pc].length by kernel_rfl);have Zc1:=G (show(prog.info? 43).map (·.size)=some cas.cells.length by rw[MCase.len h1.case_.chain];kernel_rfl);have Zc2:=G (show(prog.info? 43).map (·.size)=some cas2.cells.length by rw[MCase.len h2.case_.chain];kernel_rfl);have Zh:=G (show(prog.info? 45).map (·.size)=some Bv.cells.length by rw[h1.note.head.len];kernel_rfl);have Zi1:=G (show(prog.info? 51).map (·.size)=some inc.cells.length by kernel_rfl);have Zi2:=G (show(prog.info? 51).map (·.size)=some inc2.cells.length by kernel_rfl);have Zp1:=G (show(prog.info? 61).map (·.size)=some pie.cells.length by rw[MPiece.len h1.pie.before];kernel_rfl);have Zp2:=G (show(prog.info? 61).map (·.size)=some pie2.cells.length by rw[MPiece.len h2.pie.before];kernel_rfl);have l68:=G (show 68=(ix.cells iA iC).length by rw[h1.idx.len]);have m68:=G (show 68=(ix.cells iB iD).length by rw[h1.idx.len]);have Zx1:=G (show(prog.info? 57).map (·.size)=some (ix.cells iA iC).length by rw[h1.idx.len];exact jd);have Zx2:=G (show(prog.info? 57).map (·.size)=some (ix.cells iB iD).length by rw[h1.idx.len];exact jd);have O1:=G (show(ix.cells iA iC).toArray.all (·.oneCell')=true from Idx.one ix iA iC);have O2:=G (show(ix.cells iB iD).toArray.all (·.oneCell')=true from Idx.one ix iB iD);have Ze:=G (show(prog.info? 55).map (·.size)=some (Value.int .i64 ix.count::jA ix.chain).length by rw[jK6,jB,h1.idx.chain];exact JH);have Zd:=G (show(prog.info? 40).map (·.size)=some (jA ix.bitmap).length by rw[jB,h1.idx.bitmap];exact jO);have IX1:=G (fun(W:World) (B:Nat) (hb:Blk W B 57 (ix.cells iA iC).toArray)=>IdxH.of hb h1.idx);have IX2:=G (fun(W:World) (B:Nat) (hb:Blk W B 57 (ix.cells iB iD).toArray)=>IdxH.of hb h1.idx);have HSh:=G (fun W (ho:Old w W)=>jFd W hA hB hC hD hp (h1.rdH.old ho) (h2.rdH.old ho) h1.bigH.2 (fun e _=>jI9 e) (fun _ _=>rfl));have CJ:=G (fun W (ho:Old w W)=>jAF W rA rB rC rD rl (h1.raw.rd.old ho) (h2.raw.rd.old ho) (by have:=h1.raw.big;simp only at this;omega));have HSc:=G (fun W (ho:Old w W)=>jFb W cas cas2 NoX NoX (h1.case_.old3 ho) (h2.case_.old3 ho) Ds);have HSs:=G (fun W (ho:Old w W)=>jFc W sA sB sC sD sg (h1.note.rd.old ho) (h2.note.rd.old ho) h1.note.big (fun e _=>jI8 e) (fun e _=>e.len));have AJ:=G (fun W (ho:Old w W)=>jAE W inc inc2 X Y (h1.inc.old3 ho) (h2.inc.old3 ho) Dk);have HSp:=G (fun W (ho:Old w W)=>jFa W pie pie2 NoX NoX (h1.pie.turn ho (fun _ _ f=>f.elim) (fun _ _ f=>f.elim)) (h2.pie.turn ho (fun _ _ f=>f.elim) (fun _ _ f=>f.elim)) CU MM);have HSw:=G (fun W (ho:Old w W)=>uX W cA cB cC cD cw (h1.con.rd.old ho) (h2.con.rd.old ho) (by have:=h1.con.big;simp only at this;omega) h1.con.dgs);have HSx:=G (fun W (ho:Old w W)=>uX W iA iB iC iD ix.way (h1.rdI.old ho) (h2.rdI.old ho) (by have:=h1.idx.big.1;simp only at this;omega) h1.idx.way);have g0:(er !=er)=false:=(by simp);have g1:(nu !=nu)=false:=(by simp);have g2:(sz !=sz)=false:=(by simp);have g3:(ca !=ca)=false:=(by simp);have g4:(cb !=cb)=false:=(by simp);clear h1 h2 Ds Dk CU MM;obtain⟨inm,ifd,ict,ich,ibm,iwy⟩:=ix;simp only at P1 P2 Ee Ed l68 m68 Zx1 Zx2 O1 O2 Ze Zd IX1 IX2 HSx;generalize cas.cells=casL at*;generalize cas2.cells=casM at*;generalize Bv.cells=hdL at*;generalize inc.cells=incL at*;generalize inc2.cells=incM at*;generalize pie.cells=pieL at*;generalize pie2.cells=pieM at*;generalize Idx.cells _ iA iC=ixL at*;generalize Idx.cells _ iB iD=ixM at*;generalize (Value.int .i64 ict::jA ich)=enL at*;generalize jA ibm=bmL at*;go_enter func37,ntmps37;go_upto_region 1 with(fail);generalize (w.alloc _).alloc _=W0 at*;have ac0:=P1.out.c0;have ac4:=P1.out.c4;have ac46:=P1.out.c46;have ac5:=P1.out.c5;have bc0:=P2.out.c0;have bc4:=P2.out.c4;have bc46:=P2.out.c46;have bc5:=P2.out.c5;go_wp2_with (first
  |((with_reducible refine ji 37 (.tmp 13) ?_);refine jK rfl 37 (.tmp 13) rfl w.heap.size 1 rfl [.int .i64 pa,.int .i64 pb,.int .i64 pc] _ P1.out.r1 underlying37 rfl Zp.out ?_)
  |((with_reducible refine ji 37 (.tmp 15) ?_);refine jK rfl 37 (.tmp 15) rfl (w.heap.size+1) 1 rfl [.int .i64 pa,.int .i64 pb,.int .i64 pc] _ P2.out.r1 underlying37 rfl Zp.out ?_)
  |((with_reducible refine zi .neq 37 37 (.tmp 14) (.tmp 16) ?_);refine Vo rfl 37 37 (.tmp 14) (.tmp 16) rfl _ _ rfl rfl jB3 true (Ep.out _) ?_)
  |fail)
 refine(HSh.out _ Ho.out).mono ?_;rintro e W1 ⟨rfl,ho⟩;have Ho:=G (Ho.out.old ho);have P1:=G (P1.out.old ho);have P2:=G (P2.out.old ho);clear ac0 ac4 ac46 ac5 bc0 bc4 bc46 bc5;clear ho HSh;have ac45:=P1.out.c45;have bc45:=P2.out.c45;go_wp2_with fail;refine(CJ.out _ Ho.out).mono ?_;rintro e W2 ⟨rfl,ho⟩;have Ho:=G (Ho.out.old ho);have P1:=G (P1.out.old ho);have P2:=G (P2.out.old ho);clear ac45 bc45;clear ho CJ;go_wp2_with (first
  |((with_reducible refine ji 43 (.tmp 50) ?_);refine jK rfl 43 (.tmp 50) rfl w.heap.size 6 rfl casL _ P1.out.r6 underlying43 rfl Zc1.out ?_)
  |((with_reducible refine ji 43 (.tmp 52) ?_);refine jK rfl 43 (.tmp 52) rfl (w.heap.size+1) 6 rfl casM _ P2.out.r6 underlying43 rfl Zc2.out ?_)
  |fail)
 refine(HSc.out _ Ho.out).mono ?_;rintro e W3 ⟨rfl,ho⟩;have Ho:=G (Ho.out.old ho);have P1:=G (P1.out.old ho);have P2:=G (P2.out.old ho);clear ho HSc;have ac145:=P1.out.c145;have bc145:=P2.out.c145;go_wp2_with (first
  |((with_reducible refine ji 45 (.tmp 58) ?_);refine jK rfl 45 (.tmp 58) rfl w.heap.size 47 rfl hdL _ P1.out.r47 underlying45 rfl Zh.out ?_)
  |((with_reducible refine ji 45 (.tmp 61) ?_);refine jK rfl 45 (.tmp 61) rfl (w.heap.size+1) 47 rfl hdL _ P2.out.r47 underlying45 rfl Zh.out ?_)
  |((with_reducible refine zi .neq 45 45 (.tmp 59) (.tmp 62) ?_);refine Vo rfl 45 45 (.tmp 59) (.tmp 62) rfl _ _ rfl rfl JO true (Eh.out _) ?_)
  |fail)
 refine(HSs.out _ Ho.out).mono ?_;rintro e W4 ⟨rfl,ho⟩;have Ho:=G (Ho.out.old ho);have P1:=G (P1.out.old ho);have P2:=G (P2.out.old ho);clear ac145 bc145;clear ho HSs;go_wp2_with (first
  |((with_reducible refine ji 51 (.tmp 75) ?_);refine jK rfl 51 (.tmp 75) rfl w.heap.size 146 rfl incL _ P1.out.r146 underlying51 rfl Zi1.out ?_)
  |((with_reducible refine ji 51 (.tmp 77) ?_);refine jK rfl 51 (.tmp 77) rfl (w.heap.size+1) 146 rfl incM _ P2.out.r146 underlying51 rfl Zi2.out ?_)
  |fail)
 refine(AJ.out _ Ho.out).mono ?_;rintro e W5 ⟨rfl,ho⟩;have Ho:=G (Ho.out.old ho);have P1:=G (P1.out.old ho);have P2:=G (P2.out.old ho);clear ho AJ;go_wp2_with (first
  |((with_reducible refine ji 61 (.tmp 83) ?_);refine jK rfl 61 (.tmp 83) rfl w.heap.size 220 rfl pieL _ P1.out.r220 underlying61 rfl Zp1.out ?_)
  |((with_reducible refine ji 61 (.tmp 85) ?_);refine jK rfl 61 (.tmp 85) rfl (w.heap.size+1) 220 rfl pieM _ P2.out.r220 underlying61 rfl Zp2.out ?_)
  |fail)
 refine(HSp.out _ Ho.out).mono ?_;rintro e W6 ⟨rfl,ho⟩;have Ho:=G (Ho.out.old ho);have P1:=G (P1.out.old ho);have P2:=G (P2.out.old ho);clear ho HSp;have ac149:=P1.out.c149;have ac150:=P1.out.c150;have ac151:=P1.out.c151;have bc149:=P2.out.c149;have bc150:=P2.out.c150;have bc151:=P2.out.c151;go_wp2_with fail;refine(HSw.out _ Ho.out).mono ?_;rintro e W7 ⟨rfl,ho⟩;have Ho:=G (Ho.out.old ho);have P1:=G (P1.out.old ho);have P2:=G (P2.out.old ho);clear ac149 ac150 ac151 bc149 bc150 bc151;clear ho HSw;go_upto_region 7 with(fail);go_cut [5,6] (fun x y wx=>∃B5 B6:Nat,x=.pointer (some ⟨B5,0,none⟩)/\y=.pointer (some ⟨B6,0,none⟩)/\TwoB W7 wx B5 B6 ixL ixM)
 case first=>
  refine je (S:=fun w' =>Old W7 w') 8 rfl (by kernel_rfl) (jQ0 NoX W7).drew (fun H9=> ?_)
  iterate 1 (refine' tOn rfl rfl (by kernel_rfl) (fun _ _ _ h=>h) rfl H9 (fun w' hJ=> ?_) ?_;rotate_left;(clear hJ;go_simp<;>with_reducible rfl);simp only[Act.put,jJ1,jJ2,jJ3])
  refine' tOn rfl rfl (by kernel_rfl) (fun _ _ _ h=>h) rfl H9 (fun w' hJ=>jl 57 (.tmp 116) rfl w.heap.size 152 rfl ixL _ (jo P1.out.r152 hJ) underlying57 rfl Zx1.out) ?_;simp only[Act.put,jJ1,jJ2,jJ3]
  iterate 1 (refine' tOn rfl rfl (by kernel_rfl) (fun _ _ _ h=>h) rfl H9 (fun w' hJ=> ?_) ?_;rotate_left;(clear hJ;go_simp<;>with_reducible rfl);simp only[Act.put,jJ1,jJ2,jJ3])
  refine' tOn rfl rfl (by kernel_rfl) (fun _ _ _ h=>h) rfl H9 (fun w' hJ=>jl 57 (.tmp 118) rfl (w.heap.size+1) 152 rfl ixM _ (jo P2.out.r152 hJ) underlying57 rfl Zx2.out) ?_;simp only[Act.put,jJ1,jJ2,jJ3];have HD:=G ((jQ0 NoX W7).drew);generalize W7.drew=WD at*;refine JY 4 5 rfl rfl (by kernel_rfl) (fun K hK=> ?_) (fun K hK=> ?_)
  ·go_simp;have T1:=G (OneB.new HD.out);refine hK.out _ _ T1.out.old (fun H9=> ?_);clear hK K;generalize World.alloc _ _=VT1 at*;generalize Array.size (World.heap _)=NT1 at*;refine jU 5 rfl (by kernel_rfl) (fun K hK=> ?_);go_simp;have T2:=G T1.out.more;refine hK.out _ _ T2.out.old (fun H9=> ?_);clear hK K;generalize World.alloc _ _=VT2 at*;generalize Array.size (World.heap _)=NT2 at*;refine jU 6 rfl (by kernel_rfl) (fun K hK=> ?_);refine ZZ rfl 57 (.tmp 5) (.tmp 117) rfl _ ixL rfl rfl (Vr (T2.out).b l68.out) Zx1.out O1.out ?_;have T3:=G ((T2.out).put l68.out);refine hK.out _ _ T3.out.old (fun H9=> ?_);clear hK K;generalize World.setCells _ _ _ _=VT3 at*;refine jU 7 rfl (by kernel_rfl) (fun K hK=> ?_);refine ZZ rfl 57 (.tmp 6) (.tmp 119) rfl _ ixM rfl rfl (Vr (T3.out.swap).b m68.out) Zx2.out O2.out ?_;have T4:=G (((T3.out.swap).put m68.out).swap);refine hK.out _ _ T4.out.old (fun H9=> ?_);clear hK K;generalize World.setCells _ _ _ _=VT4 at*;refine wpAnyH_done (by kernel_rfl) ?_ _;go_wp2_with fail;go_meet
   case rel=>exact⟨_,_,rfl,rfl,T4.out⟩
  ·go_simp;have T1:=G (OneB.new HD.out);refine hK.out _ _ T1.out.old (fun H9=> ?_);clear hK K;generalize World.alloc _ _=VT1 at*;generalize Array.size (World.heap _)=NT1 at*;refine jU 4 rfl (by kernel_rfl) (fun K hK=> ?_);go_simp;have T2:=G T1.out.more;refine hK.out _ _ T2.out.old (fun H9=> ?_);clear hK K;generalize World.alloc _ _=VT2 at*;generalize Array.size (World.heap _)=NT2 at*;refine jU 6 rfl (by kernel_rfl) (fun K hK=> ?_);refine ZZ rfl 57 (.tmp 5) (.tmp 117) rfl _ ixL rfl rfl (Vr (T2.out.swap).b l68.out) Zx1.out O1.out ?_;have T3:=G (((T2.out.swap).put l68.out).swap);refine hK.out _ _ T3.out.old (fun H9=> ?_);clear hK K;generalize World.setCells _ _ _ _=VT3 at*;refine jU 7 rfl (by kernel_rfl) (fun K hK=> ?_);refine ZZ rfl 57 (.tmp 6) (.tmp 119) rfl _ ixM rfl rfl (Vr (T3.out).b m68.out) Zx2.out O2.out ?_;have T4:=G ((T3.out).put m68.out);refine hK.out _ _ T4.out.old (fun H9=> ?_);clear hK K;generalize World.setCells _ _ _ _=VT4 at*;refine wpAnyH_done (by kernel_rfl) ?_ _;go_wp2_with fail;go_meet
   case rel=>exact⟨_,_,rfl,rfl,T4.out.swap⟩
 case rest=>
  obtain⟨B5,B6,rfl,rfl,T⟩:=hcut;have Ho:=G (Ho.out.old T.old);have P1:=G (IX1.out _ _ T.b);have P2:=G (IX2.out _ _ T.c);clear T IX1 IX2;have j1:(inm.toList==inm.toList)=true:=(by simp);have j2:(ifd==ifd)=true:=(by simp);have ac0:=P1.out.c0;have ac1:=P1.out.c1;have ac67:=P1.out.c67;have bc0:=P2.out.c0;have bc1:=P2.out.c1;have bc67:=P2.out.c67;go_wp2_with (first
   |((with_reducible refine ji 55 (.tmp 133) ?_);refine jK rfl 55 (.tmp 133) rfl B5 2 rfl enL _ P1.out.r2 underlying55 rfl Ze.out ?_)
   |((with_reducible refine ji 55 (.tmp 135) ?_);refine jK rfl 55 (.tmp 135) rfl B6 2 rfl enL _ P2.out.r2 underlying55 rfl Ze.out ?_)
   |((with_reducible refine zi .eql 55 55 (.tmp 134) (.tmp 136) ?_);refine xL rfl 55 55 (.tmp 134) (.tmp 136) rfl _ _ rfl rfl Kl true (Ee.out _) ?_)
   |((with_reducible refine ji 40 (.tmp 140) ?_);refine jK rfl 40 (.tmp 140) rfl B5 35 rfl bmL _ P1.out.r35 underlying40 rfl Zd.out ?_)
   |((with_reducible refine ji 40 (.tmp 142) ?_);refine jK rfl 40 (.tmp 142) rfl B6 35 rfl bmL _ P2.out.r35 underlying40 rfl Zd.out ?_)
   |((with_reducible refine zi .eql 40 40 (.tmp 141) (.tmp 143) ?_);refine xL rfl 40 40 (.tmp 141) (.tmp 143) rfl _ _ rfl rfl yB true (Ed.out _) ?_)
   |fail)
  refine(HSx.out _ Ho.out).mono ?_;rintro e W9 ⟨rfl,ho⟩;go_wp2;go_ret;exact⟨by simp,Ho.out.old ho⟩
theorem jBJ(w:World)(g o:Nat)(B:OA)(c d:Nat)(x y:LB)(hx:Rd w 1 (some ⟨g,o,none⟩) x.length (x.map bv))(hy:Rd w 1 B y.length (y.map bv))(Cp:x.length<=1000000000000):
  Calls prog 75 #[Value.slice (some ⟨g,o,none⟩) x.length c,.slice B y.length d] w fun e w' =>e=.returned (.bool (decide (x=y)))/\Old w w' :=by
 have NU:=fun(W:World) (a:OA) (n c:Nat)=>Lib.run_eql_slice_nil (P:=prog) W 22 5 a n c 0 0 underlying22;by_cases hl:x.length=y.length
 case neg=>
  have Ff:x≠y:=fun e=>hl (by rw[e]);have h1:((x.length:Int) !=(y.length:Int))=true:=bne_iff_ne.2 (by omega);rw[jK3 Ff];go_enter func75,ntmps75;go_wp2;go_ret;exact⟨rfl,jQ0 _ _⟩
 have h1:((x.length:Int) !=(y.length:Int))=false:=bne_eq_false_iff_eq.2 (by omega);have Q7:=G hl;rw[<-hl]at hy⊢;clear hl;go_enter func75,ntmps75;go_wp2;go_loopw [5] (fun i wr=>∃k:Nat,k<=x.length/\i=.int .i64 k/\x.take k=y.take k/\Old w wr) (fun i _=>x.length-(intOf i).toNat)
 case atStart=>exact⟨0,by omega,rfl,rfl,jQ0 _ _⟩
 case round=>
  obtain⟨k,hk,rfl,Gc,Fk⟩:=hrel;by_cases hM:k<x.length
  ·have PT:k<y.length:=by have:=Q7.out;omega
   obtain⟨b1,o1,u1,N7,Lo,FS⟩:=(hx.old Fk).at_ hM;injection N7 with N7;injection N7 with hAe1 hAe2;subst hAe1 hAe2;obtain⟨b2,o2,u2,rfl,Ln,Gz⟩:=(hy.old Fk).at_ hM;rw[jM1,jJ9 hM]at Lo;rw[jM1,jJ9 PT]at Ln;simp only[Option.map_some,Option.some.injEq,bv]at Lo Ln;subst Lo Ln;have SM:(x[k].toNat:Int)<=255:=by have:=x[k].toNat_lt;omega
   have Pm:(y[k].toNat:Int)<=255:=by have:=y[k].toNat_lt;omega
   have b5:(k:Int)<=1000000000000:=(by omega);have b6:(0:Int)<=(k:Int):=(by omega);have b7:(k:Int)<(x.length:Int):=(by omega);have b8:(k:Int).toNat=k:=(by omega);have Hp:=G Gc;have Ho:=G Fk;clear Gc Fk;by_cases he:x[k]=y[k]
   ·have hq:((x[k].toNat:Int) !=(y[k].toNat:Int))=false:=(by simp[he]);have Fl:=G (show x.take (k+1)=y.take (k+1)by rw[jK2 hM,jK2 PT,Hp.out,he]);clear he;generalize (x[k].toNat:Int)=xa at*;generalize (y[k].toNat:Int)=ya at*;go_wp2;go_quiet (fail);go_wp2;go_roundw
    case rel=>exact⟨k+1,by omega,by go_num,Fl.out,Ho.out.drewN _⟩
    case measure=>simp[intOf];omega
   ·have hq:((x[k].toNat:Int) !=(y[k].toNat:Int))=true:=by
     simp only[bne_iff_ne,ne_eq];intro h;exact he (UInt8.toNat_inj.1 (by omega))
    have Ff:x≠y:=fun e=>he (by subst e;rfl);clear he;generalize (x[k].toNat:Int)=xa at*;generalize (y[k].toNat:Int)=ya at*;go_wp2;go_quiet (fail);go_wp2;go_ret;exact⟨kL (kZ (jK3 Ff).symm),Ho.out.drewN _⟩
  ·obtain rfl:k=x.length:=(by omega);have he:x=y:=by
    rw[List.take_length,Q7.out,List.take_length]at Gc;exact Gc
   have Ho:=G Fk;clear Fk;go_wp2;go_ret;exact⟨kL (kZ (jK5 he).symm),Ho.out⟩
theorem jDK(w:World)(B:OA)(d n:Nat):
  Calls prog 75 #[.slice none 0 0,.slice B n d] w fun e w' =>e=.returned (.bool false)/\Old w w' :=by
 have NU:=fun(W:World) (a:OA) (n c:Nat)=>Lib.run_eql_slice_nil (P:=prog) W 22 5 a n c 0 0 underlying22;go_enter func75,ntmps75;go_wp2;go_ret;exact⟨rfl,jQ0 _ _⟩
theorem Kg(w:World)(A B:OA)(c d:Nat)(x y:LB)(hx:Rd w 1 A x.length (x.map bv))(hy:Rd w 1 B y.length (y.map bv))(Cp:x.length<=1000000000000):
  Calls prog 171 #[Value.slice A x.length c,.slice B y.length d] w fun e w' =>e=.returned (.bool (decide (x=y)))/\Old w w' :=by
 by_cases hl:x.length=y.length
 case neg=>
  have Ff:x≠y:=fun e=>hl (by rw[e]);have h1:((x.length:Int) !=(y.length:Int))=true:=bne_iff_ne.2 (by omega);rw[jK3 Ff];go_enter func171,ntmps171;go_wp2;go_ret;exact⟨rfl,jQ0 _ _⟩
 have h1:((x.length:Int) !=(y.length:Int))=false:=bne_eq_false_iff_eq.2 (by omega);have Q7:=G hl;rw[<-hl]at hy⊢;clear hl;go_enter func171,ntmps171;go_wp2;go_loopw [5] (fun i wr=>∃k:Nat,k<=x.length/\i=.int .i64 k/\x.take k=y.take k/\Old w wr) (fun i _=>x.length-(intOf i).toNat)
 case atStart=>exact⟨0,by omega,rfl,rfl,jQ0 _ _⟩
 case round=>
  obtain⟨k,hk,rfl,Gc,Fk⟩:=hrel;by_cases hM:k<x.length
  ·have PT:k<y.length:=by have:=Q7.out;omega
   obtain⟨b1,o1,u1,rfl,Lo,FS⟩:=(hx.old Fk).at_ hM;obtain⟨b2,o2,u2,rfl,Ln,Gz⟩:=(hy.old Fk).at_ hM;rw[jM1,jJ9 hM]at Lo;rw[jM1,jJ9 PT]at Ln;simp only[Option.map_some,Option.some.injEq,bv]at Lo Ln;subst Lo Ln;have SM:(x[k].toNat:Int)<=255:=by have:=x[k].toNat_lt;omega
   have Pm:(y[k].toNat:Int)<=255:=by have:=y[k].toNat_lt;omega
   have b5:(k:Int)<=1000000000000:=(by omega);have b6:(0:Int)<=(k:Int):=(by omega);have b7:(k:Int)<(x.length:Int):=(by omega);have b8:(k:Int).toNat=k:=(by omega);have Hp:=G Gc;have Ho:=G Fk;clear Gc Fk;by_cases he:x[k]=y[k]
   ·have hq:((x[k].toNat:Int) !=(y[k].toNat:Int))=false:=(by simp[he]);have Fl:=G (show x.take (k+1)=y.take (k+1)by rw[jK2 hM,jK2 PT,Hp.out,he]);clear he;generalize (x[k].toNat:Int)=xa at*;generalize (y[k].toNat:Int)=ya at*;go_wp2;go_quiet (fail);go_wp2;go_roundw
    case rel=>exact⟨k+1,by omega,by go_num,Fl.out,Ho.out.drewN _⟩
    case measure=>simp[intOf];omega
   ·have hq:((x[k].toNat:Int) !=(y[k].toNat:Int))=true:=by
     simp only[bne_iff_ne,ne_eq];intro h;exact he (UInt8.toNat_inj.1 (by omega))
    have Ff:x≠y:=fun e=>he (by subst e;rfl);clear he;generalize (x[k].toNat:Int)=xa at*;generalize (y[k].toNat:Int)=ya at*;go_wp2;go_quiet (fail);go_wp2;go_ret;exact⟨kL (kZ (jK3 Ff).symm),Ho.out.drewN _⟩
  ·obtain rfl:k=x.length:=(by omega);have he:x=y:=by
    rw[List.take_length,Q7.out,List.take_length]at Gc;exact Gc
   have Ho:=G Fk;clear Fk;go_wp2;go_ret;exact⟨kL (kZ (jK5 he).symm),Ho.out⟩
theorem jAV(b:LB)(h:0<b.length):jq (b.take 1)=(b.getD 0 0).toNat:=by
 cases b with
 |nil=>simp at h
 |cons x l=>simp[jq]
theorem jIh(w:World)(A:OA)(c:Nat):
  Calls prog 184 #[.slice A 0 c] w fun e w' =>e=.returned (.tuple #[.bool false,.int .i64 0,.int .i64 8])/\w=w' :=by
 go_enter func184,ntmps184;go_wp2
 go_ret3
 exact⟨rfl,rfl⟩
theorem jHb(w:World)(b o c n:Nat)(y:Int)(hc:w.cell? ⟨b,o,none⟩=some (.int .u8 y))(hy:1<y):
  Calls prog 184 #[.slice (some ⟨b,o,none⟩) (n+1) c] w fun e w' =>e=.returned (.tuple #[.bool false,.int .i64 0,.int .i64 8])/\w=w' :=by
 have h1:(((n+1:Nat):Int)==0)=false:=beq_eq_false_iff_ne.2 (by omega);have h2:(((n:Int)+1)==0)=false:=beq_eq_false_iff_ne.2 (by omega);have h3:(0:Int)<(n:Int)+1:=(by omega);go_enter func184,ntmps184;go_wp2
 go_ret3
 exact⟨rfl,rfl⟩
theorem jJZ(w:World)(b o c n:Nat)(hc:w.cell? ⟨b,o,none⟩=some (.int .u8 0)):
  Calls prog 184 #[.slice (some ⟨b,o,none⟩) (n+1) c] w fun e w' =>e=.returned (.tuple #[.bool false,.int .i64 1,.int .i64 0])/\w=w' :=by
 have h1:(((n+1:Nat):Int)==0)=false:=beq_eq_false_iff_ne.2 (by omega);have h2:(((n:Int)+1)==0)=false:=beq_eq_false_iff_ne.2 (by omega);have h3:(0:Int)<(n:Int)+1:=(by omega);go_enter func184,ntmps184;go_wp2
 go_ret3
 exact⟨rfl,rfl⟩
theorem jJY(w:World)(b o c n:Nat)(hc:w.cell? ⟨b,o,none⟩=some (.int .u8 1)):
  Calls prog 184 #[.slice (some ⟨b,o,none⟩) (n+1) c] w fun e w' =>e=.returned (.tuple #[.bool true,.int .i64 1,.int .i64 0])/\w=w' :=by
 have h1:(((n+1:Nat):Int)==0)=false:=beq_eq_false_iff_ne.2 (by omega);have h2:(((n:Int)+1)==0)=false:=beq_eq_false_iff_ne.2 (by omega);have h3:(0:Int)<(n:Int)+1:=(by omega);go_enter func184,ntmps184;go_wp2
 go_ret3
 exact⟨rfl,rfl⟩
theorem jHc(w:World)(A:OA)(c n:Nat)(b:LB)(hr:Rd w 1 A n (b.map bv))(hn:n=b.length):
  Calls prog 184 #[.slice A n c] w fun e w' =>e=.returned (.tuple #[.bool (jw b ⟨0,0⟩).1,.int .i64 ((jw b ⟨0,0⟩).2.at_:Int),.int .i64 (jw b ⟨0,0⟩).2.why])/\w=w' :=by
 cases n with
 |zero=>
  have MT:b.length<0+1:=(by omega);have e:jw b ⟨0,0⟩=(false,⟨0,8⟩):=by
   simp only[jw,List.drop_zero];rw[jJ5 (by simp),jJ6 (.inl MT)]
  rw[e];exact jIh w A c
 |succ n=>
  obtain⟨bb,o,rfl,hc⟩:=hr.byte (k:=0) (by omega);have hb:=jAV b (by omega);simp only[Nat.add_zero]at hc;by_cases h1:1<(b.getD 0 0).toNat
  ·have e:jw b ⟨0,0⟩=(false,⟨0,8⟩):=by
    simp only[jw,List.drop_zero,hb];rw[jJ5 (by simp),jJ6 (.inr h1)]
   rw[e];exact jHb w bb o c n _ hc (by omega)
  ·have e:jw b ⟨0,0⟩=((b.getD 0 0).toNat==1,⟨1,0⟩):=by
    simp only[jw,List.drop_zero,hb];rw[jJ5 (by simp),jJ5 (by omega)]
   rw[e];have hy:(b.getD 0 0).toNat=0\/(b.getD 0 0).toNat=1:=(by omega);rcases hy with h|h
   ·rw[h]at hc⊢;exact jJZ w bb o c n hc
   ·rw[h]at hc⊢;exact jJY w bb o c n hc
def zeroReqC:List Value:=[.int .i64 0,.int .i64 0,.string ⟨#[]⟩,.string ⟨#[]⟩,.string ⟨#[]⟩,.int .i64 0,.int .i64 0,.string ⟨#[]⟩,.slice none 0 0,.slice none 0 0,.slice none 0 0,.int .i64 0,.string ⟨#[]⟩,.int .i64 0,.int .i64 0,.int .i64 0,.int .i64 0,.int .i64 0]
structure DecSt(w:World)(R g Q:Nat)(bs:LB)(cs:List Value)(s:Rs)(W:World):Prop where
 boxQ:Blk W Q 34 cs.toArray
 boxR:Blk W R 34 zeroReqC.toArray
 rr:Rr W g bs s
 old:Old w W
 le:w.heap.size<=R
 lt:R<g
 gt:g<Q
section
variable{w:World}{R g Q:Nat}{bs:LB}{cs:List Value}{s s' :Rs}{W W' :World}
end
end Go.Proofs.YtnaolhjbapgjgaaGreat

import Derived.Test.YtnaolhjbapgjgaaGreatMg29
set_option maxRecDepth 100000
set_option maxHeartbeats 6400000
namespace Go.Proofs.YtnaolhjbapgjgaaGreat
open Go.Proofs.Tryz
open Go.RowKit
def jCS(B:Nat)(A:OA):Nat->Prop:=fun b=>b<B\/A.map (·.block)=some b
def yK(c:MCase):MReply:={zeroMR with case_:=c}
abbrev caseTail(_:MCase):List Value:=[zeroMR.raw.sl,.int .i64 zeroMR.size]++(zeroMR.note.cells++(zeroMR.inc.cells++(zeroMR.con.cells++(zeroMR.idx.cells zeroMR.iA zeroMR.iC++zeroMR.pie.cells))))
section
variable{W:World}{P:Nat}{T:TypeId}{c:MCase}
theorem Blk.ck(h:Blk W P T (yK c).cells.toArray)(i:Nat)(pre mid post:List Value)(v:Value)(c' :MCase)(e1:c.cells=pre++(mid++post))(hm:mid.length=1)(hp:pre.length=i)(e2:c'.cells=pre++([v]++post)):Blk (W.setCell ⟨P,6+i,none⟩ v) P T (yK c').cells.toArray:=by
 have:=Blk.setCells (pre:=pre6 zeroMR++pre) (mid:=mid) (post:=post++caseTail c) (by simpa [yK,MReply.cells,e1]using h) [v] (by rw[hm];rfl);have e:(pre6 zeroMR++pre).length=6+i:=by rw[jJ4,hp];rfl
 rw[e]at this;have e3:W.setCells P (6+i) [v]=W.setCell ⟨P,6+i,none⟩ v:=rfl;rw[e3]at this;simpa [yK,MReply.cells,e2]using this
theorem Blk.cAt(h:Blk W P T (yK c).cells.toArray)(i:Nat)(v:Value)(hv:c.cells[i]? =some v):W.cell? ⟨P,6+i,none⟩=some v:=by
 have hs:Sub (yK c).cells 6 c.cells:=Sub.mid_ _ _ _ 6 rfl;exact h.at_ (6+i) (by rw[jJ7];exact hs i v hv)
theorem Blk.cType(h:Blk W P T (yK c).cells.toArray)(t:BA):Blk (W.setCell ⟨P,7,none⟩ (.string t)) P T (yK {c with type_:=t}).cells.toArray:=
 h.ck 1 [.string c.name] [.string c.type_] ([.int .i64 c.count]++(jA c.chain++[.slice c.vA c.values.length c.vC,c.open_.sl,c.closed.sl,c.reached.sl])) _ {c with type_:=t} rfl rfl rfl rfl
theorem Blk.cCount(h:Blk W P T (yK c).cells.toArray)(n:Int):Blk (W.setCell ⟨P,8,none⟩ (.int .i64 n)) P T (yK {c with count:=n}).cells.toArray:=
 h.ck 2 [.string c.name,.string c.type_] [.int .i64 c.count] (jA c.chain++[.slice c.vA c.values.length c.vC,c.open_.sl,c.closed.sl,c.reached.sl]) _ {c with count:=n} rfl rfl rfl rfl
theorem Blk.cVals(h:Blk W P T (yK c).cells.toArray)(hl:c.chain.length=32)(vs:List MBind)(A:OA)(k:Nat):Blk (W.setCell ⟨P,41,none⟩ (.slice A vs.length k)) P T (yK {c with values:=vs,vA:=A,vC:=k}).cells.toArray:=
 h.ck 35 ([.string c.name,.string c.type_,.int .i64 c.count]++jA c.chain) [.slice c.vA c.values.length c.vC] [c.open_.sl,c.closed.sl,c.reached.sl] _ {c with values:=vs,vA:=A,vC:=k} (by simp[MCase.cells]) rfl (by rw[jJ4,jB,hl];rfl) (by simp[MCase.cells])
theorem Blk.cOpen(h:Blk W P T (yK c).cells.toArray)(hl:c.chain.length=32)(a:MTexts):Blk (W.setCell ⟨P,42,none⟩ a.sl) P T (yK {c with open_:=a}).cells.toArray:=
 h.ck 36 ([.string c.name,.string c.type_,.int .i64 c.count]++(jA c.chain++[.slice c.vA c.values.length c.vC])) [c.open_.sl] [c.closed.sl,c.reached.sl] _ {c with open_:=a} (by simp[MCase.cells]) rfl (by rw[jJ4,jJ4,jB,hl];rfl) (by simp[MCase.cells])
theorem Blk.cClosed(h:Blk W P T (yK c).cells.toArray)(hl:c.chain.length=32)(a:MTexts):Blk (W.setCell ⟨P,43,none⟩ a.sl) P T (yK {c with closed:=a}).cells.toArray:=
 h.ck 37 ([.string c.name,.string c.type_,.int .i64 c.count]++(jA c.chain++[.slice c.vA c.values.length c.vC,c.open_.sl])) [c.closed.sl] [c.reached.sl] _ {c with closed:=a} (by simp[MCase.cells]) rfl (by rw[jJ4,jJ4,jB,hl];rfl) (by simp[MCase.cells])
theorem Blk.cReached(h:Blk W P T (yK c).cells.toArray)(hl:c.chain.length=32)(a:MTexts):Blk (W.setCell ⟨P,44,none⟩ a.sl) P T (yK {c with reached:=a}).cells.toArray:=
 h.ck 38 ([.string c.name,.string c.type_,.int .i64 c.count]++(jA c.chain++[.slice c.vA c.values.length c.vC,c.open_.sl,c.closed.sl])) [c.reached.sl] [] _ {c with reached:=a} (by simp[MCase.cells]) rfl (by rw[jJ4,jJ4,jB,hl];rfl) (by simp[MCase.cells])
theorem MCase.at36(hl:c.chain.length=32):c.cells[36]? =some c.open_.sl/\c.cells[37]? =some c.closed.sl/\c.cells[38]? =some c.reached.sl:=
 ⟨jh [.string c.name,.string c.type_,.int .i64 c.count] _ c.chain hl 35 1 rfl,jh [.string c.name,.string c.type_,.int .i64 c.count] _ c.chain hl 35 2 rfl,jh [.string c.name,.string c.type_,.int .i64 c.count] _ c.chain hl 35 3 rfl⟩
theorem Ud(c:MCase)(hl:c.chain=zD)(l:LB)(h:l=[]\/l.length=32):splice (yK c).cells 9 (l.map bv)=(yK {c with chain:=if l=[]then zD else l}).cells:=by
 have e:(yK c).cells=(pre6 zeroMR++[.string c.name,.string c.type_,.int .i64 c.count])++(jA c.chain++([.slice c.vA c.values.length c.vC,c.open_.sl,c.closed.sl,c.reached.sl]++caseTail c)):=(by simp[yK,MReply.cells,MCase.cells]);rcases h with rfl|h
 ·rw[jJ6 rfl,<-hl];simp[splice]
 ·rw[jJ5 (by rintro rfl;simp at h),e];have:=zP (pre6 zeroMR++[.string c.name,.string c.type_,.int .i64 c.count]) (jA c.chain) ([.slice c.vA c.values.length c.vC,c.open_.sl,c.closed.sl,c.reached.sl]++caseTail c) (l.map bv) (by rw[jB,hl,jy,jK7,h]);rw[show(pre6 zeroMR++([.string c.name,.string c.type_,.int .i64 c.count]:List Value)).length=9 from rfl]at this;rw[this];simp[yK,MReply.cells,MCase.cells,jA]
end
theorem uV{ops:Array Oper}{o:Oper}{a:Act}{w:World}{K:Act->World->Prop}{Q:Exit->Act->World->Prop}{E:Prop}(hg:o.guard=none)(x:Operand)(ho:o.op=.buildSlice 41 1 #[(0,x)])(p:MBind)
  (hx:a.eval x=.agg p.cells.toArray) (h:K (a.put o.dst (.slice (some ⟨w.heap.size,0,none⟩) 1 1)) (w.alloc (.cells p.cells.toArray 108))):if Region.wanted o (yielded ops a.tmps)=true then Oper.wp prog o a w K Q else E:=by
 have hw:Region.wanted o (yielded ops a.tmps)=true:=(by simp[Region.wanted,hg]);rw[jJ6 hw];have hr:(Instr.buildSlice 41 1 #[(0,.agg p.cells.toArray)]).run prog w=.ok (.slice (some ⟨w.heap.size,0,none⟩) 1 1) (w.alloc (.cells p.cells.toArray 108)):=by
  obtain⟨i,hi,hz,hs,hb⟩:=info_parts Zn;refine run_buildSlice w 41 108 1 _ _ i _ underlying41 hi hz (by rw[hs];simp) (by rw[hs];omega) ?_;rw[hs];have:=Great.fill_whole (s:=5) (by decide) [.agg p.cells.toArray] ((Array.range (1*5)).map ((Value.agg #[.string ⟨#[]⟩,.int .i64 0,.int .i64 0,.string ⟨#[]⟩,.slice none 0 0]).cells[· % (Value.agg #[.string ⟨#[]⟩,.int .i64 0,.int .i64 0,.string ⟨#[]⟩,.slice none 0 0]).cells.size]!)) (fun v hv=>by rw[List.mem_singleton.1 hv];rfl) (by simp);simpa [Value.cells]using this
 unfold Oper.wp execOp;simp only[ho,Sem.run_bind,List.map_toArray,List.map_cons,List.map_nil,hx,hr,Result.andThen_ok];exact h
structure CasRd(w:World)(g P:Nat)(bs:LB)(t:BA)(n:Int)(d:LB)(acc:List MBind)(A:OA)(c:Nat)(s:Ls)(wr:World):Prop where
 blk:Blk wr P 63 (yK ⟨⟨#[]⟩,t,n,d,acc,A,c,zeroMT,zeroMT,zeroMT⟩).cells.toArray
 own:wr.ownsRow w.heap.size 108 5 (.slice A acc.length c) acc.length (acc.flatMap MBind.cells)
 vals:∀v∈acc,v.Ok wr (jCS w.heap.size A)
 rr:Lr wr g bs s
 kp:Kp (fun k=>k=g\/k=P) w wr
 lt:g<P/\P<w.heap.size
 d32:d.length=32
section
variable{w:World}{g P:Nat}{bs:LB}{t:BA}{n:Int}{d:LB}{acc:List MBind}{A:OA}{c:Nat}{s s' :Ls}{wr w' :World}
theorem CasRd.step(h:CasRd w g P bs t n d acc A c s wr)(hr:Lr w' g bs s')(hk:Kp (RX g) wr w'):CasRd w g P bs t n d acc A c s' w' :=
 ⟨h.blk.kp hk (fun e=>by have:P=g:=e;have:=h.lt;omega),kG h.own hk (fun b e e' =>by
  have:=(jY h.own (by rw[<-jE];exact e)).1;have:b=g:=e';have:=h.lt;omega),fun v hv=>(h.vals v hv).turn hk (fun b _ e=>.inl (by have:b=g:=e;have:=h.lt;omega)) (fun _ _ e=>e),hr,h.kp.trans hk (fun b _ e=>.inl e),h.lt,h.d32⟩
theorem CasRd.old(h:CasRd w g P bs t n d acc A c s wr)(hk:Old wr w'):CasRd w g P bs t n d acc A c s w' :=h.step (h.rr.old hk) (hk.mono (fun _ _ f=>f.elim))
theorem CasRd.c41(h:CasRd w g P bs t n d acc A c s wr):wr.cell? ⟨P,41,none⟩=some (.slice A acc.length c):=
 h.blk.cAt 35 _ (jh [.string ⟨#[]⟩,.string t,.int .i64 n] _ d h.d32 35 0 rfl)
theorem CasRd.grow{x:MBind}{A' :OA}{c' k:Nat}{W:World}(h:CasRd w g P bs t n d acc A c s wr)(hk:acc.length=k)(hW:Old wr W)(hx:x.Ok wr (jCS w.heap.size A))
  (ho:w'.ownsRow w.heap.size 108 5 (.slice A' (k+1) c') (k+1) (acc.flatMap MBind.cells++x.cells)) (hg:W.grownBy w' (Value.slice A k c).ownBlock) (Fo:A'.map (·.block)=(Value.slice A k c).ownBlock\/A'.map (·.block)=some W.heap.size):
  (w'.cell? ⟨P,41,none⟩=some (.slice A k c)/\w'.frozen? ⟨P,41,none⟩=false)/\CasRd w g P bs t n d (acc++[x]) A' c' s (w'.setCell ⟨P,41,none⟩ (.slice A' (k+1) c')):=by
 subst hk;rw[jE]at hg Fo;have hS:=h.old hW;have N0:∀b,A.map (·.block)=some b->w.heap.size<=b:=fun b e=>(jY h.own e).1;have k1:=kM hg;have hb:=hS.blk.kp k1 (fun e=>by have:=N0 _ e;have:=h.lt;omega);have hl:(acc++[x]).length=acc.length+1:=(by simp);have k2:=(jQ0 (fun k=>k=P) w').setCell (p:=⟨P,41,none⟩) (fun _=>rfl) (.slice A' (acc.length+1) c');have k3:Kp (jCS w.heap.size A) W (w'.setCell ⟨P,41,none⟩ (.slice A' (acc.length+1) c')):=((kM hg).mono (fun b _ e=>.inr e)).setCell (p:=⟨P,41,none⟩) (fun _=>.inl h.lt.2) _;refine⟨⟨hb.cAt 35 _ (jh [.string ⟨#[]⟩,.string t,.int .i64 n] _ d h.d32 35 0 rfl),hb.frozen 41⟩,?_,?_,?_,?_,?_,h.lt,h.d32⟩
 ·have:=hb.cVals h.d32 (acc++[x]) A' c';rw[hl]at this;exact this
 ·rw[hl,List.flatMap_append,List.flatMap_singleton];exact kG ho k2 (fun b e e' =>by
   have:=(jY ho (by rw[<-jE];exact e)).1;have:=h.lt;omega)
 ·intro u hu;have hh:u.Ok W (jCS w.heap.size A):=by
   rcases List.mem_append.1 hu with hu|hu
   ·exact(h.vals u hu).turn hW (fun _ _ f=>f.elim) (fun _ _ e=>e)
   ·rw[List.mem_singleton.1 hu];exact hx.turn hW (fun _ _ f=>f.elim) (fun _ _ e=>e)
  exact hh.turn k3 (fun _ _ e=>e) (fun b hb e=>by
   rcases e with e|e
   ·exact .inl e
   ·exact .inr (Jt Fo hb e))
 ·exact(hS.rr.kp k1 (fun b hb e=>by have:=N0 b e;have:=h.lt;omega)).kp k2 (fun b hb e=>by have:=h.lt;omega)
 ·exact(hS.kp.trans k1 (fun b hb e=>by have:=N0 b e;omega)).setCell (p:=⟨P,41,none⟩) (fun _=>.inr rfl) _
end
def zg(bs:LB):Nat->Ls->List (BA×Val)->List (BA×Val)×Ls
 |0,s,acc=>(acc,s)
 |n+1,s,acc=>if s.short=true then(acc,s)else zg bs n (Js bs (ke bs s).2).2 (acc++[((ke bs s).1,(Js bs (ke bs s).2).1)])
def jEk(t:BA)(n:Int)(d:LB)(b:List (BA×Val))(o c r:List BA)(s:Ls):Rep×Ls:=({zeroRep with case_:=⟨⟨#[]⟩,t,n,d,b,o,c,r⟩},s)
def jGt(t:BA)(n:Int)(d:LB)(b:List (BA×Val))(o c:List BA)(x:List BA×Ls):Rep×Ls:=jEk t n d b o c x.1 x.2
def jGu(bs:LB)(t:BA)(n:Int)(d:LB)(b:List (BA×Val))(o:List BA)(x:List BA×Ls):Rep×Ls:=jGt t n d b o x.1 (YM bs x.2)
def jGv(bs:LB)(t:BA)(n:Int)(d:LB)(b:List (BA×Val))(x:List BA×Ls):Rep×Ls:=jGu bs t n d b x.1 (YM bs x.2)
def jGw(bs:LB)(t:BA)(n:Int)(d:LB)(b:List (BA×Val)×Ls):Rep×Ls:=jGv bs t n d b.1 (YM bs b.2)
def jGr(bs:LB)(t:BA)(n:Int)(d:LB)(c:Nat×Ls):Rep×Ls:=jGw bs t n d (zg bs c.1 c.2 [])
def jGs(bs:LB)(t:BA)(n:Int)(l:LB×Ls):Rep×Ls:=jGr bs t n (if l.1=[]then zD else l.1) (lowL bs 1 l.2)
def jGq(bs:LB)(t:BA)(n:Int×Ls):Rep×Ls:=jGs bs t n.1 (jZ bs 32 n.2)
def jEi(bs:LB)(t:BA×Ls):Rep×Ls:=jGq bs t.1 (numL bs 8 t.2)
def jEl(bs:LB)(s:Ls):Rep×Ls:=jEi bs (ke bs s)
theorem jIs(w:World)(g P:Nat)(bs:LB)(s:Ls)(X:Nat->Prop)(hX:∀k,X k->k<w.heap.size)(h:Lr w g bs s)(hb:Blk w P 63 zeroMR.cells.toArray)(hP:g<P)(GI:P+1=w.heap.size)(hl:bs.length<=2147483647):
  Calls prog 74 #[.pointer (some ⟨g,0,none⟩),.int .i64 3,.pointer (some ⟨P,0,none⟩)] w (RdP w g P bs X (jEl bs s)):=by
 have HT:=G (show jEl bs s=jEi bs (ke bs s)from rfl);have Te:=G GI;have Hl:=G hl;have HX:=G hX;have Rz:=G (YY w g bs s h);have Htz:=G (Kc bs s);have Gg:=G (show Blk w P 63 (yK zeroMC).cells.toArray from hb);generalize jEl bs s=TV at*;clear h hb hl hX GI;generalize ke bs s=t0 at*;obtain⟨ty,s1⟩:=t0;unfold jEi at HT;simp only at HT Rz Htz;go_enter func74,ntmps74;go_wp2_with fail;refine Rz.out.mono ?_;clear Rz;rintro e w1 ⟨rfl,Fd,Fc⟩;have GC:=Gg.out.kp Fc (show¬RX g P from fun e=>by have:P=g:=e;omega);have u:=GC.cAt 1 (.string ⟨#[]⟩) rfl;have z:=GC.frozen 7;have k1:=(jQ0 (fun k=>k=P) w1).setCell (p:=⟨P,7,none⟩) (fun _=>rfl) (.string ty);replace Gg:=G (GC.cType ty);have HL:=G (Fd.kp k1 (fun b hb e=>by omega));have HK:=G (show Kp (fun k=>k=g\/k=P) w _ from(Fc.mono (Y:=fun k=>k=g\/k=P) (fun b _ e=>.inl e)).trans k1 (fun b _ e=>.inr e));have HN:=G (fun W (h:Lr W g bs s1)=>kz W g bs 8 s1 h (by decide));generalize numL bs 8 s1=t1 at*;obtain⟨n,s2⟩:=t1;unfold jGq at HT;simp only[Nat.reduceAdd]at HT HN u;clear Fd Fc k1 GC;go_wp2_with fail;clear u z;generalize w1.setCell _ _=W1 at*;refine(HN.out _ HL.out).mono ?_;clear HN;rintro e w2 ⟨rfl,Fd,Fc⟩;have GC:=Gg.out.kp Fc (show¬RX g P from fun e=>by have:P=g:=e;omega);have u:=GC.cAt 2 (.int .i64 0) rfl;have z:=GC.frozen 8;have k1:=(jQ0 (fun k=>k=P) w2).setCell (p:=⟨P,8,none⟩) (fun _=>rfl) (.int .i64 n);replace Gg:=G (GC.cCount n);replace HL:=G (Fd.kp k1 (fun b hb e=>by omega));replace HK:=G (show Kp (fun k=>k=g\/k=P) w _ from(HK.out.trans Fc (fun b _ e=>.inl e)).trans k1 (fun b _ e=>.inr e));have HN:=G (fun W (h:Lr W g bs s2)=>Zi W g bs 32 s2 h (by decide));have GL:=G (show(jZ bs 32 s2).1=[]\/(jZ bs 32 s2).1.length=32 from by
  unfold jZ;split
  ·exact .inl rfl
  ·right;simp only[jK9,jK8];omega)
 generalize jZ bs 32 s2=t2 at*;obtain⟨l,s3⟩:=t2;unfold jGs at HT;simp only[Nat.reduceAdd]at HT HN u GL;clear Fd Fc k1 GC;go_upto_region 13 with(fail);clear u z;generalize w2.setCell _ _=W2 at*;have Pz:=G (show(prog.info? 5).map (·.size)=some 1 by kernel_rfl);refine je (S:=fun _=>True) 8 rfl (by kernel_rfl) trivial (fun H9=> ?_)
 iterate 6 (refine' tOn rfl rfl (by kernel_rfl) (fun _ _ _ h=>h) rfl H9 (fun w' hJ=> ?_) ?_;rotate_left;(clear hJ;go_simp<;>with_reducible rfl);simp only[Act.put,jJ1,jJ2,jJ3])
 refine VP rfl (by kernel_rfl) (by decide) (fun K hK=> ?_);go_simp;go_at_call 124;refine(HN.out _ (HL.out.old ((jQ0 NoX _).drew))).mono ?_;clear HN;rintro e w3 ⟨A3,c3,rfl,Fa,Mk,hr,hk⟩;have Hg:=G (Gg.out.drew.kp hk (show¬RX g P from fun e=>by have:P=g:=e;omega));have ND:=G ((HK.out.old ((jQ0 NoX _).drew)).trans hk (fun b _ e=>.inl e));simp only at Fa hr;clear hk;go_wp2_with fail;refine hK.out _ _ trivial (fun H9=> ?_);clear hK K;refine VP rfl (by kernel_rfl) (by decide) (fun K hK=> ?_);refine step_copy_splice rfl (.tmp 68) (.tmp 70) 22 22 rfl 5 underlying22 Pz.out (some ⟨P,9,none⟩) A3 32 32 l.length c3 rfl rfl P 9 (yK {zeroMC with type_:=ty,count:=n}).cells 63 Hg.out (l.map bv) ?_ ?_ ?_ (jf l) P _ (Below.refl _ _) (jL3 _) ?_
 ·rcases GL.out with e|e<;>simp[e]
 ·intro hn;obtain⟨b,o,rfl,hc⟩:=Fa.2 (by simpa using hn);exact⟨rfl,_,rfl,fun j v hv=>by rw[Addr.add_lit];exact hc j v hv⟩
 ·have e1:(yK {zeroMC with type_:=ty,count:=n}).cells.length=256:=rfl;rw[e1];rcases GL.out with e|e<;>simp[e]
 intro w4 WC WE;have BL:=WC.out;rw[Ud {zeroMC with type_:=ty,count:=n} rfl l GL.out]at BL;have k4:=Kp.of_under WE;have HS:=G (fun s=>show Lr w4 g bs s->CasRd w g P bs ty n (if l=[]then zD else l) [] none 0 s w4 from fun hL=>⟨BL,World.ownsRow_nil _ _ _ _,fun v hv=>(by cases hv),hL,ND.out.trans k4 (fun b hb e=>.inr (by have h1:P<=b:=e;have:=Te.out;omega)),⟨hP,by have:=Te.out;omega⟩,by
  rcases GL.out with e|e
  ·rw[jJ6 e];exact jy
  ·rw[jJ5 (by rintro rfl;simp at e)];exact e⟩)
 have Ll:=G (hr.kp k4 (fun b hb e=>by have h1:P<=b:=e;omega));generalize (if l=[]then zD else l)=d at*;clear WC WE BL k4 hr Fa;go_wp2_with fail;refine hK.out _ _ trivial (fun H9=> ?_);clear hK K;refine wpAnyH_done (by kernel_rfl) ?_ _;have HN:=G (fun W (h:Lr W g bs s3)=>kz W g bs 1 s3 h (by decide));obtain⟨e2,Pm⟩:=VV bs 1 s3 (by decide);rw[e2]at HN;clear e2;generalize lowL bs 1 s3=t3 at*;obtain⟨c,s4⟩:=t3;unfold jGr at HT;simp only at HT Pm HN;have Sb:c<256:=Pm;go_wp2_with fail;refine(HN.out _ Ll.out).mono ?_;clear HN;rintro e w5 ⟨rfl,Fb,hZ⟩;replace HS:=G ((HS.out _ Ll.out).step Fb hZ);clear Fb hZ Pm Ll ND HL Gg Hg;obtain⟨i0,hi,Fz,Ft,FC⟩:=info_parts Zn;go_wp2_with fail;go_loopw [10,11] (fun i _ wr=>∃k:Nat,i=.int .i64 k/\∃(acc:List MBind) (hA:OA) (hC:Nat) (s:Ls),CasRd w g P bs ty n d acc hA hC s wr/\acc.length=k/\k<=c/\zg bs c s4 []=zg bs (c-k) s (acc.map MBind.data)) (fun i _ _=>c-(intOf i).toNat)
 case atStart=>exact⟨0,rfl,[],none,0,s4,HS.out,rfl,Nat.zero_le _,rfl⟩
 case round=>
  obtain⟨k,rfl,acc,hA,hC,s,hS,Fc,Bo,FM⟩:=hrel;clear HS HK;have HS:=G hS;have HK:=G Fc;have Fs:=G FM;clear Fc FM;have MT:(0:Int)<=(k:Int):=(by omega);have GC:(k:Int)<=256:=(by omega);have FS:wr.cell? ⟨g,1,none⟩=some (.bool s.short):=by
   obtain⟨A0,c0,hb,_⟩:=hS.rr;exact hb.at_ 1 (v:=.bool s.short) rfl
  clear hS;by_cases FM:k<c/\s.short=false
  ·obtain⟨hM,hs⟩:=FM;have Ww:(k:Int)<(c:Int):=(by omega);rw[hs]at FS;have N5:=G (show zg bs (c-k) s (acc.map MBind.data)=zg bs (c-(k+1)) (Js bs (ke bs s).2).2 (acc.map MBind.data++[((ke bs s).1,(Js bs (ke bs s).2).1)])by
    obtain⟨q,hm⟩:∃q,c-k=q+1:=⟨c-k-1,by omega⟩;rw[hm,zg,jJ5 (by rw[hs];decide),show c-(k+1)=q by omega])
   clear hs;have HP:=G (fun W' (hR:Lr W' g bs s)=>YY W' g bs s hR);have Mn:=G (Kc bs s);go_wp2_with fail;refine(HP.out _ HS.out.rr).mono ?_;clear HP FS;generalize ke bs s=t4 at*;obtain⟨nm,s5⟩:=t4;simp only at N5 Mn⊢;rintro e w5 ⟨rfl,Fb,hZ⟩;have HF:=G ((HS.out.step Fb hZ).old ((jQ0 NoX w5).drew));have HW:=G (fun W' (hR:Lr W' g bs s5)=>jCY W' g bs s5 hR);generalize Js bs s5=t5 at*;obtain⟨⟨vk,vn,vt,vl⟩,s6⟩:=t5;unfold jJM vV at HW;simp only at N5 HW;have WP:=G HF.out.rr;have c5d:=HF.out.c41;rw[HK.out]at c5d;have FU:=G (show k+1<=maxLen by unfold maxLen;omega);have FV:=G (show(k+1)*72<=140737488355328 by omega);clear Fb hZ HS;go_wp2_with fail;refine wp_region_held_drew (S:=fun _=>True) (by kernel_rfl) trivial (fun H9=> ?_);refine' jP 0 rfl rfl (by kernel_rfl) (fun _ _ _ h=>h) rfl H9 (fun w hJ=> ?_) ?_;rotate_left
   ·((try dsimp only at hJ);go_simp<;>with_reducible rfl)
   simp only[Act.put,jJ1,jJ2,jJ3];refine' jP 1 rfl rfl (by kernel_rfl) (fun _ _ _ h=>h) rfl H9 (fun w hJ=> ?_) ?_;rotate_left
   ·((try dsimp only at hJ);go_simp<;>with_reducible rfl)
   simp only[Act.put,jJ1,jJ2,jJ3];refine' jP 2 rfl rfl (by kernel_rfl) (fun _ _ _ h=>h) rfl H9 (fun w hJ=> ?_) ?_;rotate_left
   ·((try dsimp only at hJ);go_simp<;>with_reducible rfl)
   simp only[Act.put,jJ1,jJ2,jJ3];refine' jP 3 rfl rfl (by kernel_rfl) (fun _ _ _ h=>h) rfl H9 (fun w hJ=> ?_) ?_;rotate_left
   ·((try dsimp only at hJ);go_simp<;>with_reducible rfl)
   simp only[Act.put,jJ1,jJ2,jJ3];refine' jP 4 rfl rfl (by kernel_rfl) (fun _ _ _ h=>h) rfl H9 (fun w hJ=> ?_) ?_;rotate_left
   ·((try dsimp only at hJ);go_simp<;>with_reducible rfl)
   simp only[Act.put,jJ1,jJ2,jJ3];refine' jP 6 rfl rfl (by kernel_rfl) (fun _ _ _ h=>h) rfl H9 (fun w hJ=> ?_) ?_;rotate_left
   ·((try dsimp only at hJ);go_simp<;>with_reducible rfl)
   simp only[Act.put,jJ1,jJ2,jJ3];refine' jP 7 rfl rfl (by kernel_rfl) (fun _ _ _ h=>h) rfl H9 (fun w hJ=> ?_) ?_;rotate_left
   ·((try dsimp only at hJ);go_simp<;>with_reducible rfl)
   simp only[Act.put,jJ1,jJ2,jJ3];refine JY 5 8 rfl rfl (by kernel_rfl) (fun K hK=> ?_) (fun K hK=> ?_)
   ·go_simp;refine hK.out _ _ trivial (fun H9=> ?_);clear hK K;refine jU 8 rfl (by kernel_rfl) (fun K hK=> ?_);go_simp;go_at_call 126;refine(HW.out _ WP.out).mono ?_;rintro e w6 ⟨A6,c6,rfl,NQ,WA,Nc,MS,Wi,NG⟩;have F6:=G (HF.out.step Wi NG);have AI:=G (show MBind.Ok w6 (jCS w.heap.size hA) ⟨nm,⟨⟨vk,vn,vt,vl⟩,A6,c6⟩⟩from
     ⟨⟨NQ,fun hn ad e hx=>WA hn ad e (by
      have h2:=F6.out.kp.size;have h3:=HF.out.kp.size;rcases hx with hx|hx
      ·have h1:ad.block<w.heap.size:=hx;omega
      ·have:=(jY HF.out.own hx).2;exact this),Nc,MS⟩,by have:=Mn.out;have:=Hl.out;show nm.size<=_;omega⟩)
    have c5:=F6.out.c41;rw[HK.out]at c5;have LT:=G (show w6.ownsRow w.heap.size 108 5 (.slice hA k hC) k (acc.flatMap MBind.cells)from by have h:=F6.out.own;simp only[HK.out]at h;exact h);have Wd:=G ((jQ0 NoX w6).alloc (.cells (MBind.cells ⟨nm,⟨⟨vk,vn,vt,vl⟩,A6,c6⟩⟩).toArray 108));have c5a:=(F6.out.old Wd.out).c41;rw[HK.out]at c5a;clear NQ WA Nc MS Wi NG;go_wp2_with fail;refine hK.out _ _ trivial (fun H9=> ?_);clear hK K;refine' jP 9 rfl rfl (by kernel_rfl) (fun _ _ _ h=>h) rfl H9 (fun w hJ=> ?_) ?_;rotate_left
    ·((try dsimp only at hJ);go_simp<;>with_reducible rfl)
    simp only[Act.put,jJ1,jJ2,jJ3];refine jU 10 rfl (by kernel_rfl) (fun K hK=> ?_);refine uV rfl (.tmp 97) rfl ⟨nm,⟨⟨vk,vn,vt,vl⟩,A6,c6⟩⟩ rfl ?_;refine hK.out _ _ trivial (fun H9=> ?_);clear hK K;simp only[Act.put,jJ1,jJ2,jJ3]at*;refine jU 11 rfl (by kernel_rfl) (fun K hK=> ?_);refine jg _ rfl (.tmp 93) (.tmp 98) 41 rfl w.heap.size 108 i0 _ 5 72 underlying41 hi Fz Ft FC rfl (by decide) (.slice hA k hC) k _ rfl (LT.out.alloc _) _ 1 1 (MBind.cells ⟨nm,⟨⟨vk,vn,vt,vl⟩,A6,c6⟩⟩) rfl (Rd.row_new _ _ 5 1 _ rfl) (MBind.one _) FU.out FV.out (jL4 F6.out.kp.size (by simp)) ?_;intro A7 c7 w7 Hi hgrow Fo;have F7:=G (F6.out.grow (x:=⟨nm,⟨⟨vk,vn,vt,vl⟩,A6,c6⟩⟩) HK.out Wd.out AI.out Hi hgrow Fo);have c7' :=F7.out.1.1;have z7' :=F7.out.1.2;refine hK.out _ _ trivial (fun H9=> ?_);clear hK K Hi hgrow Fo;simp only[Act.put,jJ1,jJ2,jJ3]at*;refine' jP 12 rfl rfl (by kernel_rfl) (fun _ _ _ h=>h) rfl H9 (fun w hJ=> ?_) ?_;rotate_left
    ·((try dsimp only at hJ);go_simp<;>with_reducible rfl)
    simp only[Act.put,jJ1,jJ2,jJ3];refine' jP 13 rfl rfl (by kernel_rfl) (fun _ _ _ h=>h) rfl H9 (fun w hJ=> ?_) ?_;rotate_left
    ·((try dsimp only at hJ);go_simp<;>with_reducible rfl)
    simp only[Act.put,jJ1,jJ2,jJ3];refine' jP 14 rfl rfl (by kernel_rfl) (fun _ _ _ h=>h) rfl H9 (fun w hJ=> ?_) ?_;rotate_left
    ·((try dsimp only at hJ);go_simp<;>with_reducible rfl)
    simp only[Act.put,jJ1,jJ2,jJ3];refine jU 15 rfl (by kernel_rfl) (fun K hK=> ?_);go_simp;refine hK.out _ _ trivial (fun H9=> ?_);clear hK K;refine wpAnyH_done (by kernel_rfl) ?_ _;have Fl:=G F7.out.2;clear c7' z7' F7 F6 c5 c5a;go_wp2;go_roundw
    case rel=>exact⟨k+1,by go_num,acc++[⟨nm,⟨⟨vk,vn,vt,vl⟩,A6,c6⟩⟩],A7,c7,s6,Fl.out,by rw[jJ4,HK.out];rfl,by omega,by rw[Fs.out,N5.out,List.map_append];rfl⟩
    case measure=>simp[intOf];omega
   ·go_simp;go_at_call 126;refine(HW.out _ WP.out).mono ?_;rintro e w6 ⟨A6,c6,rfl,NQ,WA,Nc,MS,Wi,NG⟩;have F6:=G (HF.out.step Wi NG);have AI:=G (show MBind.Ok w6 (jCS w.heap.size hA) ⟨nm,⟨⟨vk,vn,vt,vl⟩,A6,c6⟩⟩from
     ⟨⟨NQ,fun hn ad e hx=>WA hn ad e (by
      have h2:=F6.out.kp.size;have h3:=HF.out.kp.size;rcases hx with hx|hx
      ·have h1:ad.block<w.heap.size:=hx;omega
      ·have:=(jY HF.out.own hx).2;exact this),Nc,MS⟩,by have:=Mn.out;have:=Hl.out;show nm.size<=_;omega⟩)
    have c5:=F6.out.c41;rw[HK.out]at c5;have LT:=G (show w6.ownsRow w.heap.size 108 5 (.slice hA k hC) k (acc.flatMap MBind.cells)from by have h:=F6.out.own;simp only[HK.out]at h;exact h);have Wd:=G ((jQ0 NoX w6).alloc (.cells (MBind.cells ⟨nm,⟨⟨vk,vn,vt,vl⟩,A6,c6⟩⟩).toArray 108));have c5a:=(F6.out.old Wd.out).c41;rw[HK.out]at c5a;clear NQ WA Nc MS Wi NG;go_wp2_with fail;refine hK.out _ _ trivial (fun H9=> ?_);clear hK K;refine' jP 9 rfl rfl (by kernel_rfl) (fun _ _ _ h=>h) rfl H9 (fun w hJ=> ?_) ?_;rotate_left
    ·((try dsimp only at hJ);go_simp<;>with_reducible rfl)
    simp only[Act.put,jJ1,jJ2,jJ3];refine JY 5 10 rfl rfl (by kernel_rfl) (fun K hK=> ?_) (fun K hK=> ?_)
    ·go_simp;refine hK.out _ _ trivial (fun H9=> ?_);clear hK K;refine jU 10 rfl (by kernel_rfl) (fun K hK=> ?_);refine uV rfl (.tmp 97) rfl ⟨nm,⟨⟨vk,vn,vt,vl⟩,A6,c6⟩⟩ rfl ?_;refine hK.out _ _ trivial (fun H9=> ?_);clear hK K;simp only[Act.put,jJ1,jJ2,jJ3]at*;refine jU 11 rfl (by kernel_rfl) (fun K hK=> ?_);refine jg _ rfl (.tmp 93) (.tmp 98) 41 rfl w.heap.size 108 i0 _ 5 72 underlying41 hi Fz Ft FC rfl (by decide) (.slice hA k hC) k _ rfl (LT.out.alloc _) _ 1 1 (MBind.cells ⟨nm,⟨⟨vk,vn,vt,vl⟩,A6,c6⟩⟩) rfl (Rd.row_new _ _ 5 1 _ rfl) (MBind.one _) FU.out FV.out (jL4 F6.out.kp.size (by simp)) ?_;intro A7 c7 w7 Hi hgrow Fo;have F7:=G (F6.out.grow (x:=⟨nm,⟨⟨vk,vn,vt,vl⟩,A6,c6⟩⟩) HK.out Wd.out AI.out Hi hgrow Fo);have c7' :=F7.out.1.1;have z7' :=F7.out.1.2;refine hK.out _ _ trivial (fun H9=> ?_);clear hK K Hi hgrow Fo;simp only[Act.put,jJ1,jJ2,jJ3]at*;refine' jP 12 rfl rfl (by kernel_rfl) (fun _ _ _ h=>h) rfl H9 (fun w hJ=> ?_) ?_;rotate_left
     ·((try dsimp only at hJ);go_simp<;>with_reducible rfl)
     simp only[Act.put,jJ1,jJ2,jJ3];refine' jP 13 rfl rfl (by kernel_rfl) (fun _ _ _ h=>h) rfl H9 (fun w hJ=> ?_) ?_;rotate_left
     ·((try dsimp only at hJ);go_simp<;>with_reducible rfl)
     simp only[Act.put,jJ1,jJ2,jJ3];refine' jP 14 rfl rfl (by kernel_rfl) (fun _ _ _ h=>h) rfl H9 (fun w hJ=> ?_) ?_;rotate_left
     ·((try dsimp only at hJ);go_simp<;>with_reducible rfl)
     simp only[Act.put,jJ1,jJ2,jJ3];refine jU 15 rfl (by kernel_rfl) (fun K hK=> ?_);go_simp;refine hK.out _ _ trivial (fun H9=> ?_);clear hK K;refine wpAnyH_done (by kernel_rfl) ?_ _;have Fl:=G F7.out.2;clear c7' z7' F7 F6 c5 c5a;go_wp2;go_roundw
     case rel=>exact⟨k+1,by go_num,acc++[⟨nm,⟨⟨vk,vn,vt,vl⟩,A6,c6⟩⟩],A7,c7,s6,Fl.out,by rw[jJ4,HK.out];rfl,by omega,by rw[Fs.out,N5.out,List.map_append];rfl⟩
     case measure=>simp[intOf];omega
    ·refine uV rfl (.tmp 97) rfl ⟨nm,⟨⟨vk,vn,vt,vl⟩,A6,c6⟩⟩ rfl ?_;refine hK.out _ _ trivial (fun H9=> ?_);clear hK K;simp only[Act.put,jJ1,jJ2,jJ3]at*;refine jU 5 rfl (by kernel_rfl) (fun K hK=> ?_);go_simp;refine hK.out _ _ trivial (fun H9=> ?_);clear hK K;refine jU 11 rfl (by kernel_rfl) (fun K hK=> ?_);refine jg _ rfl (.tmp 93) (.tmp 98) 41 rfl w.heap.size 108 i0 _ 5 72 underlying41 hi Fz Ft FC rfl (by decide) (.slice hA k hC) k _ rfl (LT.out.alloc _) _ 1 1 (MBind.cells ⟨nm,⟨⟨vk,vn,vt,vl⟩,A6,c6⟩⟩) rfl (Rd.row_new _ _ 5 1 _ rfl) (MBind.one _) FU.out FV.out (jL4 F6.out.kp.size (by simp)) ?_;intro A7 c7 w7 Hi hgrow Fo;have F7:=G (F6.out.grow (x:=⟨nm,⟨⟨vk,vn,vt,vl⟩,A6,c6⟩⟩) HK.out Wd.out AI.out Hi hgrow Fo);have c7' :=F7.out.1.1;have z7' :=F7.out.1.2;refine hK.out _ _ trivial (fun H9=> ?_);clear hK K Hi hgrow Fo;simp only[Act.put,jJ1,jJ2,jJ3]at*;refine' jP 12 rfl rfl (by kernel_rfl) (fun _ _ _ h=>h) rfl H9 (fun w hJ=> ?_) ?_;rotate_left
     ·((try dsimp only at hJ);go_simp<;>with_reducible rfl)
     simp only[Act.put,jJ1,jJ2,jJ3];refine' jP 13 rfl rfl (by kernel_rfl) (fun _ _ _ h=>h) rfl H9 (fun w hJ=> ?_) ?_;rotate_left
     ·((try dsimp only at hJ);go_simp<;>with_reducible rfl)
     simp only[Act.put,jJ1,jJ2,jJ3];refine' jP 14 rfl rfl (by kernel_rfl) (fun _ _ _ h=>h) rfl H9 (fun w hJ=> ?_) ?_;rotate_left
     ·((try dsimp only at hJ);go_simp<;>with_reducible rfl)
     simp only[Act.put,jJ1,jJ2,jJ3];refine jU 15 rfl (by kernel_rfl) (fun K hK=> ?_);go_simp;refine hK.out _ _ trivial (fun H9=> ?_);clear hK K;refine wpAnyH_done (by kernel_rfl) ?_ _;have Fl:=G F7.out.2;clear c7' z7' F7 F6 c5 c5a;go_wp2;go_roundw
     case rel=>exact⟨k+1,by go_num,acc++[⟨nm,⟨⟨vk,vn,vt,vl⟩,A6,c6⟩⟩],A7,c7,s6,Fl.out,by rw[jJ4,HK.out];rfl,by omega,by rw[Fs.out,N5.out,List.map_append];rfl⟩
     case measure=>simp[intOf];omega
  ·have Fm:=G (show zg bs c s4 []=(acc.map MBind.data,s)by
    rw[Fs.out];by_cases hM:k<c
    ·have hs:s.short=true:=by
      cases h:s.short with
      |true=>rfl
      |false=>exact absurd ⟨hM,h⟩ FM
     obtain⟨q,hm⟩:∃q,c-k=q+1:=⟨c-k-1,by omega⟩;rw[hm,zg,jJ6 hs]
    ·rw[show c-k=0 by omega];rfl)
   rw[Fm.out]at HT;unfold jGw at HT;simp only at HT;have Gy:(k<c/\s.short=true)\/¬k<c:=by
    by_cases hM:k<c
    ·cases h:s.short with
     |true=>exact .inl ⟨hM,rfl⟩
     |false=>exact absurd ⟨hM,h⟩ FM
    ·exact .inr hM
   clear FM Fs Fm;have NC:=G (fun W s (h:Lr W g bs s)=>Uh W g bs s h Hl.out);have Am:=G HS.out.kp.size;have PE:=G (show MCase.Ok wr (fun k=>k<w.heap.size) ⟨⟨#[]⟩,ty,n,d,acc,hA,hC,zeroMT,zeroMT,zeroMT⟩from
    ⟨HS.out.d32,fun v hv=>(HS.out.vals v hv).turn (jQ0 NoX _) (fun _ _ f=>f.elim) (fun _ _ e=>.inl e),Rd.of_own HS.out.own,vd HS.out.own,JF _ _,JF _ _,JF _ _,by have:=HK.out;have:=Htz.out;have:=Hl.out;show acc.length<=_ /\ty.size<=_ /\_;exact⟨by omega,by omega,by show(⟨#[]⟩:BA).size<=_;decide⟩⟩)
   have Cm:=G HS.out.blk;have Ci:=G HS.out.rr;have Pi:=G HS.out.kp;have Sx:=G HS.out.lt;clear HS HK;generalize hMc:(⟨⟨#[]⟩,ty,n,d,acc,hA,hC,zeroMT,zeroMT,zeroMT⟩:MCase)=mc at*;have Hcd:=G (show mc.data=⟨⟨#[]⟩,ty,n,d,acc.map MBind.data,[],[],[]⟩by rw[<-hMc];rfl);have RM:=G (show mc.chain.length=32 from PE.out.chain);clear hMc;rcases Gy with⟨hM,hs⟩|hM
   case' inl=>
    have Ww:(k:Int)<(c:Int):=(by omega);rw[hs]at FS;clear hM hs
   case' inr=>
    have Ww:¬(k:Int)<(c:Int):=(by omega);clear hM
   all_goals
    go_wp2_with fail;refine(NC.out _ _ Ci.out).mono ?_;generalize htl1:YM bs s=tl1 at*;clear htl1;obtain⟨ws1,s5⟩:=tl1;unfold jGv at HT;simp only at HT;rintro e w6 ⟨m1,SN,rfl,PS,Fd,Fc⟩;have GC:=Cm.out.kp Fc (fun e=>by have h1:P=g:=e;omega);have u:w6.cell? ⟨P,6+36,none⟩=some (.slice mc.open_.A mc.open_.l.length mc.open_.c):=GC.cAt 36 _ (MCase.at36 (c:=mc) RM.out).1;have z:=GC.frozen 42;simp only[Nat.reduceAdd]at u;have kS:=(jQ0 (fun b=>b=P) w6).setCell (p:=⟨P,42,none⟩) (fun _=>rfl) (.slice m1.A m1.l.length m1.c);replace Cm:=G (show Blk (w6.setCell ⟨P,42,none⟩ (.slice m1.A m1.l.length m1.c)) P 63 _ from GC.cOpen RM.out m1);replace Ci:=G (Fd.kp kS (fun b hb e=>by omega));have k1:=(Fc.mono (Y:=fun k=>k=g\/k=P) (fun _ _ e=>.inl e)).trans kS (fun b _ e=>.inr e);have Hm1:=G SN;have NP:=G (PS.turn (X' :=fun k=>k<w.heap.size) kS (fun b _ e=>by have h1:b=P:=e;have:=Sx.out.2;have:=Pi.out.size;show b<_;omega) (fun b _ e=>by have h1:b<w.heap.size:=e;have:=Pi.out.size;show b<_;omega));replace PE:=G (PE.out.turn (X' :=fun k=>k<w.heap.size) k1 (fun b _ e=>by have:=Sx.out.2;show b<w.heap.size;rcases e with e|e<;>omega) (fun _ _ e=>e));replace Pi:=G (Pi.out.trans k1 (fun _ _ e=>e));clear GC SN PS Fd Fc kS k1;go_wp2_with fail;clear u z FS;generalize w6.setCell _ _=W6 at*;refine(NC.out _ _ Ci.out).mono ?_;generalize htl2:YM bs s5=tl2 at*;clear htl2;obtain⟨ws2,s6⟩:=tl2;unfold jGu at HT;simp only at HT;rintro e w7 ⟨m2,TC,rfl,MO,Fb,hZ⟩;have FG:=Cm.out.kp hZ (fun e=>by have h1:P=g:=e;omega);have u:w7.cell? ⟨P,6+37,none⟩=some (.slice mc.closed.A mc.closed.l.length mc.closed.c):=FG.cAt 37 _ (MCase.at36 (c:={mc with open_:=m1}) RM.out).2.1;have z:=FG.frozen 43;simp only[Nat.reduceAdd]at u;have kS:=(jQ0 (fun b=>b=P) w7).setCell (p:=⟨P,43,none⟩) (fun _=>rfl) (.slice m2.A m2.l.length m2.c);replace Cm:=G (show Blk (w7.setCell ⟨P,43,none⟩ (.slice m2.A m2.l.length m2.c)) P 63 _ from FG.cClosed RM.out m2);replace Ci:=G (Fb.kp kS (fun b hb e=>by omega));have k1:=(hZ.mono (Y:=fun k=>k=g\/k=P) (fun _ _ e=>.inl e)).trans kS (fun b _ e=>.inr e);have Hm2:=G TC;have MH:=G (MO.turn (X' :=fun k=>k<w.heap.size) kS (fun b _ e=>by have h1:b=P:=e;have:=Sx.out.2;have:=Pi.out.size;show b<_;omega) (fun b _ e=>by have h1:b<w.heap.size:=e;have:=Pi.out.size;show b<_;omega));replace PE:=G (PE.out.turn (X' :=fun k=>k<w.heap.size) k1 (fun b _ e=>by have:=Sx.out.2;show b<w.heap.size;rcases e with e|e<;>omega) (fun _ _ e=>e));replace NP:=G (NP.out.turn (X' :=fun k=>k<w.heap.size) k1 (fun b _ e=>by have:=Sx.out.2;show b<w.heap.size;rcases e with e|e<;>omega) (fun _ _ e=>e));replace Pi:=G (Pi.out.trans k1 (fun _ _ e=>e));clear FG TC MO Fb hZ kS k1;go_wp2_with fail;clear u z;generalize w7.setCell _ _=W7 at*;refine(NC.out _ _ Ci.out).mono ?_;generalize htl3:YM bs s6=tl3 at*;clear htl3;obtain⟨ws3,s7⟩:=tl3;unfold jGt at HT;simp only at HT;rintro e w8 ⟨m3,Oq,rfl,D9,Gl,Gd⟩;have L9:=Cm.out.kp Gd (fun e=>by have h1:P=g:=e;omega);have u:w8.cell? ⟨P,6+38,none⟩=some (.slice mc.reached.A mc.reached.l.length mc.reached.c):=L9.cAt 38 _ (MCase.at36 (c:={mc with open_:=m1,closed:=m2}) RM.out).2.2;have z:=L9.frozen 44;simp only[Nat.reduceAdd]at u;have kS:=(jQ0 (fun b=>b=P) w8).setCell (p:=⟨P,44,none⟩) (fun _=>rfl) (.slice m3.A m3.l.length m3.c);replace Cm:=G (show Blk (w8.setCell ⟨P,44,none⟩ (.slice m3.A m3.l.length m3.c)) P 63 _ from L9.cReached RM.out m3);replace Ci:=G (Gl.kp kS (fun b hb e=>by omega));have k1:=(Gd.mono (Y:=fun k=>k=g\/k=P) (fun _ _ e=>.inl e)).trans kS (fun b _ e=>.inr e);have Hm3:=G Oq;have Lk:=G (D9.turn (X' :=fun k=>k<w.heap.size) kS (fun b _ e=>by have h1:b=P:=e;have:=Sx.out.2;have:=Pi.out.size;show b<_;omega) (fun b _ e=>by have h1:b<w.heap.size:=e;have:=Pi.out.size;show b<_;omega));replace PE:=G (PE.out.turn (X' :=fun k=>k<w.heap.size) k1 (fun b _ e=>by have:=Sx.out.2;show b<w.heap.size;rcases e with e|e<;>omega) (fun _ _ e=>e));replace NP:=G (NP.out.turn (X' :=fun k=>k<w.heap.size) k1 (fun b _ e=>by have:=Sx.out.2;show b<w.heap.size;rcases e with e|e<;>omega) (fun _ _ e=>e));replace MH:=G (MH.out.turn (X' :=fun k=>k<w.heap.size) k1 (fun b _ e=>by have:=Sx.out.2;show b<w.heap.size;rcases e with e|e<;>omega) (fun _ _ e=>e));replace Pi:=G (Pi.out.trans k1 (fun _ _ e=>e));clear L9 Oq D9 Gl Gd kS k1;unfold jEk at HT;have AG:=G (show MReply.Ok (w8.setCell ⟨P,44,none⟩ (.slice m3.A m3.l.length m3.c)) X (yK {mc with open_:=m1,closed:=m2,reached:=m3})from by
     have Z:=jI (w8.setCell ⟨P,44,none⟩ (.slice m3.A m3.l.length m3.c)) X;have k:MCase.Ok (w8.setCell ⟨P,44,none⟩ (.slice m3.A m3.l.length m3.c)) (fun k=>k<w.heap.size) {mc with open_:=m1,closed:=m2,reached:=m3}:=⟨PE.out.chain,PE.out.values,PE.out.rdV,PE.out.avV,NP.out,MH.out,Lk.out,PE.out.big⟩;exact{Z with case_:=k.turn (jQ0 NoX _) (fun _ _ f=>f.elim) (fun b _ e=>HX.out b e)})
    have IM:=G (show(yK {mc with open_:=m1,closed:=m2,reached:=m3}).data=TV.1 by
     have e1:m1.l=ws1:=Hm1.out;have e2:m2.l=ws2:=Hm2.out;have e3:m3.l=ws3:=Hm3.out;rw[HT.out,<-e1,<-e2,<-e3];have h:=Hcd.out;obtain⟨q1,q2,q3,q4,q5,q6,q7,q8,q9,q10⟩:=mc;simp only[MCase.data,Cas.mk.injEq]at h;obtain⟨rfl,rfl,rfl,rfl,h5,_⟩:=h;simp only[yK,MReply.data,MCase.data,zeroRep,h5])
    have Hs7:=G (show TV.2=s7 by rw[HT.out]);go_wp2;go_end0;exact⟨rfl,_,IM.out,Cm.out,AG.out,by rw[Hs7.out];exact Ci.out,Pi.out⟩
def yZ(op:Nat)(bs:LB)(s:Ls):Rep×Ls:=
 if op=1\/op=2 then jIC bs s
 else if op=3 then jEl bs s
 else if op=4 then({zeroRep with raw:=bs.drop s.at_},s)
 else if op=5 then({zeroRep with size:=(numL bs 8 s).1},(numL bs 8 s).2)
 else if op=6 then({zeroRep with head:=((jn (bs.drop s.at_)).getD (zeroHd,[])).1,signs:=((jn (bs.drop s.at_)).getD (zeroHd,[])).2},s)
 else if op=7 then(if(numL bs 1 s).1=1 then({zeroRep with head:=((jn (bs.drop (numL bs 1 s).2.at_)).getD (zeroHd,[])).1,signs:=((jn (bs.drop (numL bs 1 s).2.at_)).getD (zeroHd,[])).2},(numL bs 1 s).2)else(zeroRep,(numL bs 1 s).2))
 else if op=8 then({zeroRep with inc:=(ve (bs.drop s.at_)).getD ⟨0,0,[]⟩},s)
 else if op=9 then({zeroRep with con:=(vf (bs.drop s.at_)).getD ⟨0,0,[]⟩},s)
 else if op=10 then({zeroRep with idx:=(kr (bs.drop s.at_)).getD zeroIdx},s)
 else if op=11 then({zeroRep with pie:=(kX (bs.drop s.at_)).getD ⟨⟨#[]⟩,0,zD,[],[]⟩},s)
 else(zeroRep,s)
theorem jEp(w:World)(g P:Nat)(bs:LB)(op:Nat)(NS:1<=op/\op<=12)(s:Ls)(X:Nat->Prop)(hX:∀k,X k->g<=k+1/\k<w.heap.size)(h:Lr w g bs s)(hP:Blk w P 63 zeroMR.cells.toArray)(N1:g<P)(GI:P+1=w.heap.size)(hl:bs.length<=2147483647):
  Calls prog 74 #[.pointer (some ⟨g,0,none⟩),.int .i64 (op:Int),.pointer (some ⟨P,0,none⟩)] w (RdP w g P bs X (yZ op bs s)):=by
 have Y5:op=1\/op=2\/op=3\/op=4\/op=5\/op=6\/op=7\/op=8\/op=9\/op=10\/op=11\/op=12:=(by omega);have h1:∀k,X k->k<w.heap.size:=fun k hk=>(hX k hk).2;have h2:∀k,X k->g<=k+1:=fun k hk=>(hX k hk).1;rcases Y5 with rfl|rfl|rfl|rfl|rfl|rfl|rfl|rfl|rfl|rfl|rfl|rfl
 ·unfold yZ;rw[jJ6 (by decide)];exact jHF 1 (.inl rfl) w g P bs s X h1 h hP N1 hl
 ·unfold yZ;rw[jJ6 (by decide)];exact jHF 2 (.inr rfl) w g P bs s X h1 h hP N1 hl
 ·unfold yZ;rw[jJ5 (by decide),jJ6 rfl];exact jIs w g P bs s X h1 h hP N1 GI hl
 ·unfold yZ;rw[jJ5 (by decide),jJ5 (by decide),jJ6 rfl];exact jIr w g P bs s X h2 h hP N1 hl
 ·unfold yZ;rw[jJ5 (by decide),jJ5 (by decide),jJ5 (by decide),jJ6 rfl];exact jIq w g P bs s X h hP N1
 ·unfold yZ;rw[jJ5 (by decide),jJ5 (by decide),jJ5 (by decide),jJ5 (by decide),jJ6 rfl];exact jIp w g P bs s X h1 h hP N1
 ·unfold yZ;rw[jJ5 (by decide),jJ5 (by decide),jJ5 (by decide),jJ5 (by decide),jJ5 (by decide),jJ6 rfl];exact jIo w g P bs s X h1 h hP N1
 ·unfold yZ;rw[jJ5 (by decide),jJ5 (by decide),jJ5 (by decide),jJ5 (by decide),jJ5 (by decide),jJ5 (by decide),jJ6 rfl];exact jIn w g P bs s X h1 h hP N1
 ·unfold yZ;rw[jJ5 (by decide),jJ5 (by decide),jJ5 (by decide),jJ5 (by decide),jJ5 (by decide),jJ5 (by decide),jJ5 (by decide),jJ6 rfl];exact jIm w g P bs s X h1 h hP N1
 ·unfold yZ;rw[jJ5 (by decide),jJ5 (by decide),jJ5 (by decide),jJ5 (by decide),jJ5 (by decide),jJ5 (by decide),jJ5 (by decide),jJ5 (by decide),jJ6 rfl];exact jHl w g P bs s X h1 h hP N1
 ·unfold yZ;rw[jJ5 (by decide),jJ5 (by decide),jJ5 (by decide),jJ5 (by decide),jJ5 (by decide),jJ5 (by decide),jJ5 (by decide),jJ5 (by decide),jJ5 (by decide),jJ6 rfl];exact jHk w g P bs s X h1 h hP N1
 ·unfold yZ;rw[jJ5 (by decide),jJ5 (by decide),jJ5 (by decide),jJ5 (by decide),jJ5 (by decide),jJ5 (by decide),jJ5 (by decide),jJ5 (by decide),jJ5 (by decide),jJ5 (by decide)];exact jHj w g P bs s X h hP
theorem jC8(bs:LB)(s:Ls):s.at_ +(ke bs s).1.size<=(ke bs s).2.at_:=by
 unfold ke;have h1:=JK bs 4 s;change s.at_ <=(lowL bs 4 s).2.at_ /\_ at h1;generalize lowL bs 4 s=t at*;show s.at_ +(jZ bs t.1 t.2).1.toArray.size<=(jZ bs t.1 t.2).2.at_;rw[jJ8];unfold jZ;split
 ·simp only[List.length_nil];omega
 ·simp only[jK9];omega
theorem Qm(bs:LB):∀(n:Nat) (s:Ls) (acc:List MHap),((zl bs n s acc).1.flatMap zM).length+s.at_ <=(acc.flatMap zM).length+5*n+(zl bs n s acc).2.at_
 |0,s,acc=>by simp[zl]
 |n+1,s,acc=>by
  rw[zl];split
  ·simp only;omega
  ·have ih:=Qm bs n (ke bs (numL bs 1 s).2).2 (acc++[⟨(numL bs 1 s).1,(ke bs (numL bs 1 s).2).1⟩]);have h1:=JK bs 1 s;change s.at_ <=(numL bs 1 s).2.at_ /\_ at h1;have h2:=jC8 bs (numL bs 1 s).2;rw[List.flatMap_append,List.flatMap_singleton,jJ4]at ih;have h3:(zM ⟨(numL bs 1 s).1,(ke bs (numL bs 1 s).2).1⟩).length=5+(ke bs (numL bs 1 s).2).1.size:=by
    simp only[zM,jJ4,jC,jV,jH];omega
   rw[h3]at ih;omega
theorem YH(bs:LB)(n:Nat)(s:Ls)(h:s.at_ <=bs.length):(jZ bs n s).2.at_ <=bs.length:=by
 unfold jZ;split
 ·exact h
 ·simp only;omega
theorem jAm(bs:LB):∀(n:Nat) (s:Ls) (acc:List MHap),s.at_ <=bs.length->(zl bs n s acc).2.at_ <=bs.length
 |0,s,acc,h=>h
 |n+1,s,acc,h=>by
  rw[zl];split
  ·exact h
  ·exact jAm bs n _ _ (YH bs _ _ (YH bs _ _ (YH bs _ _ h)))
theorem jBZ(op:Nat)(bs:LB)(s:Ls)(hs:s.at_ <=bs.length)(hl:bs.length<=2147483647):((yZ op bs s).1.hap.flatMap zM).length<=9000000000:=by
 by_cases h:op=1\/op=2
 ·have h1:=Qm bs (lowL bs 2 (numL bs 8 s).2).1 (lowL bs 2 (numL bs 8 s).2).2 [];have h2:=jAm bs (lowL bs 2 (numL bs 8 s).2).1 (lowL bs 2 (numL bs 8 s).2).2 [] (YH bs _ _ (YH bs _ _ hs));have h3:(lowL bs 2 (numL bs 8 s).2).1<65536:=JA bs 2 _;unfold yZ;rw[jJ6 h];show((zl bs (lowL bs 2 (numL bs 8 s).2).1 (lowL bs 2 (numL bs 8 s).2).2 []).1.flatMap zM).length<=_;rw[List.flatMap_nil,List.length_nil]at h1;omega
 ·have e:(yZ op bs s).1.hap=[]:=by
   unfold yZ;rw[jJ5 h];by_cases h3:op=3
   ·rw[jJ6 h3];rfl
   rw[jJ5 h3];by_cases h4:op=4
   ·rw[jJ6 h4];rfl
   rw[jJ5 h4];by_cases h5:op=5
   ·rw[jJ6 h5];rfl
   rw[jJ5 h5];by_cases h6:op=6
   ·rw[jJ6 h6];rfl
   rw[jJ5 h6];by_cases h7:op=7
   ·rw[jJ6 h7];by_cases hk:(numL bs 1 s).1=1
    ·rw[jJ6 hk];rfl
    ·rw[jJ5 hk];rfl
   rw[jJ5 h7];by_cases h8:op=8
   ·rw[jJ6 h8];rfl
   rw[jJ5 h8];by_cases h9:op=9
   ·rw[jJ6 h9];rfl
   rw[jJ5 h9];by_cases NY:op=10
   ·rw[jJ6 NY];rfl
   rw[jJ5 NY];by_cases NX:op=11
   ·rw[jJ6 NX];rfl
   rw[jJ5 NX];rfl
  rw[e];simp
def jJz(w:World)(b:Option LB)(e:Ending)(w' :World):Prop:=
 (∃out A c,b=some out/\out≠ []/\e=.returned (.tuple #[.slice A out.length c,.int .i64 0])/\BRow w' w.heap.size out A c/\Old w w')\/(∃er:Int,b=none/\er≠0/\e=.returned (.tuple #[.slice none 0 0,.int .i64 er])/\Old w w')
theorem jHX{w:World}{A:OA}{n:Nat}{l:List Sgn}(h:Rd w 64 A n (l.flatMap Sgn.cells))(hn:l.length=n){k:Nat}(hk:k<l.length):∃b o,A=some ⟨b,o,none⟩/\Rd w 1 (some ⟨b,o+k*64,none⟩) 32 (l[k].key.map bv)/\Rd w 1 (some ⟨b,o+k*64+32,none⟩) 32 (l[k].tag.map bv):=by
 obtain⟨b,o,e,hr,Na⟩:=Zk h hn hk;refine⟨b,o,e,⟨by rw[jK7,l[k].hk],fun _=>⟨_,_,rfl,Na⟩⟩,⟨by rw[jK7,l[k].ht],fun _=>⟨_,_,rfl,fun j v hj=> ?_⟩⟩⟩;have:=hr (32+j) v (l[k].s32 j v hj);rw[<-Nat.add_assoc]at this;exact this
theorem jDW(w:World)(m:MNote)(Hu:m.Ok w NoX):Calls prog 118 #[.agg m.cells.toArray] w (jJz w (yU m.head m.signs)):=by
 have Fe:=G Hu;have hb:=jQ2 w 48 m.cells.toArray;have hlen:=Hu.head.len;have Hh:=G (show Sub m.cells 0 m.head.cells from Sub.mid_ [] m.head.cells _ 0 rfl);have Ia:=G (show m.cells[98]? =some (.slice m.A m.signs.length m.c)from by
  have:=Sub.end_ m.head.cells [.slice m.A m.signs.length m.c] 98 hlen;exact this 0 _ rfl)
 have HB:=G hb;have Ho:=G ((jQ0 NoX w).alloc (.cells m.cells.toArray 48));have AZ:(prog.info? 45).map (·.size)=some m.head.cells.length:=by rw[hlen];kernel_rfl
 have HN:=G (show yU m.head m.signs=if vU m.head=true/\1<=m.signs.length/\m.signs.length<=16/\vP ((zF m.signs).map (·.key))=true then some (((([33]++vh m.head)++[UInt8.ofNat m.signs.length]))++(zF m.signs).flatMap vY)else none by
  rw[yU];simp[be])
 have HH:=G (fun W=>jDZ W m.head Hu.head);have HhB:=G (JN Hu.head);clear hb Hu hlen;generalize yU m.head m.signs=R at*;generalize m.cells=cl at*;have Fh:=G (show w.heap.size+1=(w.alloc (.cells cl.toArray 48)).heap.size by simp);go_enter func118,ntmps118;go_wp2_with (first|((with_reducible refine jT 45 (.tmp 11) ?_);refine jK rfl 45 (.tmp 11) rfl w.heap.size 0 rfl m.head.cells _ (Hh.out.range HB.out) underlying45 rfl AZ ?_)|fail);generalize w.alloc _=W at*;refine(HH.out W).mono ?_;rintro e w1 (⟨hk,oh,AH,cH,eh,rfl,Fg,F0⟩|⟨hk,rfl,F0⟩)
 case inr=>
  have hY:=G (show R=none by rw[HN.out,jJ5 (by rw[hk];simp)]);have FE:=G (Ho.out.old F0);clear F0;go_wp2_with fail
  go_ret2
  exact .inr ⟨1,hY.out,by decide,rfl,FE.out⟩
 have Hk:=G hk;have M4:=G Fg;have Eh:=G eh.out;have FE:=G (Ho.out.old F0);have ET:=G (HB.out.old F0);have c98:=ET.out.at_ 98 (v:=.slice m.A m.signs.length m.c) (by rw[jJ7];exact Ia.out);clear hk Fg eh F0;by_cases h1:m.signs.length<1
 ·have hY:=G (show R=none by rw[HN.out,jJ5 (fun h=>by omega)]);have g1:(m.signs.length:Int)<1:=(by omega);clear h1;go_wp2_with fail
  go_ret2
  exact .inr ⟨7,hY.out,by decide,rfl,FE.out⟩
 by_cases h2:16<m.signs.length
 ·have hY:=G (show R=none by rw[HN.out,jJ5 (fun h=>by omega)]);have g1:¬(m.signs.length:Int)<1:=(by omega);have g2:(16:Int)<(m.signs.length:Int):=(by omega);clear h1 h2;go_wp2_with fail
  go_ret2
  exact .inr ⟨7,hY.out,by decide,rfl,FE.out⟩
 have g1:¬(m.signs.length:Int)<1:=(by omega);have g2:¬(16:Int)<(m.signs.length:Int):=(by omega);have Hn:=G (show 1<=m.signs.length/\m.signs.length<=16 by omega);have EN:=G (Xm w1 m.A m.c m.signs (Fe.out.rd.old FE.out) (by omega));clear h1 h2;go_wp2_with fail;refine EN.out.mono ?_;rintro e w2 (⟨s,A2,c2,hs,rfl,Fa,FL⟩|⟨hs,rfl,FL⟩)
 case inr=>
  have hY:=G (show R=none by
   rw[HN.out,jJ5];rintro ⟨_,_,_,hr⟩;rw[Yp,jJ6 hr]at hs;cases hs)
  have FH:=G (FE.out.old FL);clear FL hs;go_wp2_with fail
  go_ret2
  exact .inr ⟨92,hY.out,by decide,rfl,FH.out⟩
 have hr:vP ((zF m.signs).map (·.key))=true:=by
  by_cases h:vP ((zF m.signs).map (·.key))=true
  ·exact h
  ·rw[Yp,jJ5 h]at hs;cases hs
 have Cs:s=zF m.signs:=by
  rw[Yp,jJ6 hr]at hs;exact(jL5 hs).symm
 have Wc:=G (show s.length=m.signs.length by rw[Cs];exact(zQ m.signs).length_eq);have Hy:=G (show R=some (((([33]++vh m.head)++[UInt8.ofNat m.signs.length]))++s.flatMap vY)by
  rw[HN.out,jJ6 ⟨Hk.out,Hn.out.1,Hn.out.2,hr⟩,Cs])
 have Fy:=G Fa;have FH:=G (FE.out.old FL);have DZ:=G (M4.out.old FL);have Hl0:=G (show oh.length=113 by rw[Eh.out,HhB.out]);have hsl1:(s.length:Int)<=16:=by have:=Wc.out;have:=Hn.out;omega
 have hsl0:(0:Int)<=(s.length:Int):=(by omega);have e8:IntKind.u8.wrap (s.length:Int)=(s.length:Int):=IntWalk.u8_in _ (by omega);clear Fa FL hs hr Cs HN EN g1 g2 c98;have SB:=G (BRow.one w2 33 (.int .u8 33) rfl);have IV:=G (DZ.out.rd.alloc (.cells #[.int .u8 33] 5));have RE:=G (show∀W:World,Rd (W.alloc (.cells #[.int .u8 (s.length:Int)] 5)) 1 (some ⟨W.heap.size,0,none⟩) ([UInt8.ofNat m.signs.length]:LB).length (([UInt8.ofNat m.signs.length]:LB).map bv)from fun W=>by
  have h:=Rd.one_new W 5 (.int .u8 (s.length:Int));have e:Value.int .u8 (s.length:Int)=bv (UInt8.ofNat m.signs.length):=by
   rw[zO,Nat.mod_eq_of_lt (by have:=Hn.out;omega),Wc.out]
  rw[e]at h⊢;exact h)
 go_wp2_with (first
  |(at_builtin;refine ja (.tmp 35) (.tmp 36) SB.out IV.out (by rw[Hl0.out];decide) rfl rfl rfl rfl ?_;intro l3 A3 c3 w3 e3 h3;have K3:=G (((jQ0 (From w2.heap.size) w2).alloc _).trans (h3.from_ SB.out) (fun _ _ h=>h));have R3:=G h3.row;have E3:=G e3.out;have L3:=G (show l3.length=114 by rw[e3.out,jJ4,Hl0.out];rfl);clear h3 e3)
  |(at_builtin;refine ja (.tmp 38) (.tmp 42) (R3.out.alloc _) (d:=1) (RE.out _) (by rw[L3.out];simp) rfl rfl rfl rfl ?_;intro l4 A4 c4 w4 e4 h4;have K4:=G ((K3.out.alloc _).trans (h4.from_ (R3.out.alloc _)) (fun _ _ h=>h));have R4:=G h4.row;have E4:=G e4.out;have L4:=G (show l4.length=115 by rw[e4.out,jJ4,L3.out];rfl);clear h4 e4)
  |fail)
 go_loopw [8,9] (fun b i wr=>∃(k:Nat) (out:LB) (A' :OA) (c' :Nat),k<=s.length/\i=.int .i64 k/\b=.slice A' out.length c' /\out=l4++(s.take k).flatMap vY/\out.length=115+k*64/\BRow wr w2.heap.size out A' c' /\Kp (From w2.heap.size) w2 wr) (fun _ i _=>s.length-(intOf i).toNat)
 case atStart=>exact⟨0,l4,A4,c4,by omega,rfl,rfl,by simp,by rw[L4.out],R4.out,K4.out⟩
 case round=>
  obtain⟨k,out,A',c',hk,rfl,rfl,G0,hlen,Fg,FQ⟩:=hrel;have GF:=G G0;have Fi:=G hlen;have Pu:=G Fg;have MF:=G FQ;clear G0 hlen Fg FQ;by_cases hM:k<s.length
  ·have FW:=G (Fy.out.from_ (base:=w2.heap.size) (by decide) (jL3 _));have Hsg:=G (fun W' (Na:Kp (From w2.heap.size) w2 W')=>jHX (Fy.out.kp Na FW.out) rfl hM);obtain⟨b,ob,Ak,J9,EU⟩:=Hsg.out wr MF.out;subst Ak;have Ip:=G (show(s.take (k+1)).flatMap vY=(s.take k).flatMap vY++(s[k].key++s[k].tag)by
    rw[jK2 hM,List.flatMap_append,List.flatMap_singleton];rfl)
   have So:=G (fun W' (Na:Kp (From w2.heap.size) w2 W')=>show Rd W' 1 (some ⟨b,ob+k*64+32,none⟩) 32 (s[k].tag.map bv)from by
    obtain⟨b',o',e,_,h⟩:=Hsg.out W' Na;injection e with e;injection e with e1 e2;subst e1 e2;exact h)
   generalize s[k]=x at*;have Lc:=G J9;rw[<-x.hk]at Lc;have Iz:=G x.hk;have Ao:=G x.ht;have b1:(0:Int)<=(k:Int):=(by omega);have b2:(k:Int)<(s.length:Int):=(by omega);have b3:(k:Int).toNat=k:=(by omega);have b5:(k:Int)<=16:=(by omega);have Et:=G (show k<=16 by omega);clear J9 EU;go_wp2_with (first
    |(at_builtin;refine ja (.tmp 50) (.tmp 55) Pu.out (d:=32) Lc.out (by rw[Fi.out,Iz.out];have:=Et.out;omega) rfl rfl rfl (by rw[Iz.out];rfl) ?_;intro l5 A5 c5 w5 e5 h5;have K5:=G (MF.out.trans (h5.from_ Pu.out) (fun _ _ h=>h));have R5:=G h5.row;have E5:=G e5.out;have L5:=G (show l5.length=147+k*64 by rw[e5.out,jJ4,Fi.out,Iz.out];omega);have Hx2:=G (show Rd w5 1 (some ⟨b,ob+k*64+32,none⟩) x.tag.length (x.tag.map bv)by rw[Ao.out];exact So.out w5 K5.out);clear h5 e5)
    |(at_builtin;refine ja (.tmp 57) (.tmp 62) R5.out (d:=32) Hx2.out (by rw[L5.out,Ao.out];have:=Et.out;omega) rfl rfl rfl (by rw[Ao.out];rfl) ?_;intro l6 A6 c6 w6 e6 h6;have K6:=G (K5.out.trans (h6.from_ R5.out) (fun _ _ h=>h));have R6:=G h6.row;have E6:=G (show l6=l4++(s.take (k+1)).flatMap vY by rw[e6.out,E5.out,GF.out,Ip.out];simp only[jK1]);have L6:=G (show l6.length=115+(k+1)*64 by rw[e6.out,jJ4,L5.out,Ao.out];omega);clear h6 e6)
    |fail)
   go_roundw
   case rel=>exact⟨k+1,l6,A6,c6,by omega,by go_num,rfl,E6.out,L6.out,R6.out,K6.out⟩
   case measure=>simp[intOf];omega
  ·obtain rfl:k=s.length:=(by omega);have Hf:=G (show R=some out by rw[Hy.out,GF.out,jK4 (jL3 _),E4.out,E3.out,Eh.out]);go_wp2
   go_ret2
   exact .inl ⟨out,A',c',Hf.out,fun h=>by have:=Fi.out;rw[h]at this;simp at this;omega,rfl,Pu.out.lower FH.out.size,From.old FH.out MF.out FH.out.size⟩
end Go.Proofs.YtnaolhjbapgjgaaGreat

import Derived.Test.YtnaolhjbapgjgaaGreatMg17
set_option maxRecDepth 100000
set_option maxHeartbeats 6400000
namespace Go.Proofs.YtnaolhjbapgjgaaGreat
open Go.Proofs.Tryz
open Go.RowKit
theorem vv(w:World):(Instr.build 61 #[]).run prog w=.ok (.agg zeroPieL.toArray) w:=by kernel_rfl
theorem qY:ZO ⟨#[]⟩ 0 zD none 0 0 none 0 0=zeroPieL:=by
 simp only[ZO,JW];rfl
def jFx(bs:LB)(size:Int)(s:Rs):Option (LB×Way×Rs):=
 if(yy bs s).2.1=true then
  match yA size (yy bs s).1 with
  |none=>none
  |some n=>if(jt bs 65536 (yy bs s).2.2).2.why=0 then some ((jt bs 65536 (yy bs s).2.2).1,⟨size,(yy bs s).1,(yC bs (n:Int) (jt bs 65536 (yy bs s).2.2).2).1⟩,(yC bs (n:Int) (jt bs 65536 (yy bs s).2.2).2).2)else none
 else none
def yj(bs:LB)(size:Int):Nat->Rs->List LB->List Way->Option (List LB×List Way×Rs)
 |0,s,es,ps=>some (es,ps,s)
 |k+1,s,es,ps=>(jFx bs size s).bind fun r=>yj bs size k r.2.2 (es++[r.1]) (ps++[r.2.1])
def qX(bs:LB)(nm:BA)(first:Int)(before:LB)(t:List LB×List Way×Rs):Option Pie:=
 if vi bs t.2.2=0/\yQ nm first before (List.zipWith ZN t.1 t.2.1)=t.1.length then some ⟨nm,first,before,t.1,t.2.1⟩else none
def Qc(bs:LB)(nm:BA)(first:Int)(f1:Bool)(before:LB)(size:Int)(f2:Bool)(c:Nat×Rs):Option Pie:=
 if f1=true/\f2=true/\c.2.why=0/\1<=c.1/\c.1<=1000 then(yj bs size c.1 c.2 [] []).bind (qX bs nm first before)else none
def jD0(bs:LB)(nm:BA)(first:Int)(f1:Bool)(before:LB)(t2:Int×Bool×Rs):Option Pie:=Qc bs nm first f1 before t2.1 t2.2.1 (tkN bs 4 t2.2.2)
def jD1(bs:LB)(nm:BA)(first:Int)(f1:Bool)(d:LB×Rs):Option Pie:=jD0 bs nm first f1 d.1 (yy bs d.2)
def jD2(bs:LB)(nm:BA)(t1:Int×Bool×Rs):Option Pie:=jD1 bs nm t1.1 t1.2.1 (kq bs t1.2.2)
def jHv(bs:LB)(s:Rs):Option Pie:=jD2 bs (zb bs s).1 (yy bs (zb bs s).2)
def kX(bs:LB):Option Pie:=(kH bs 2097152 51).bind (jHv bs)
def jJS(w:World)(d:Option Pie)(e:Ending)(w' :World):Prop:=
 (∃m:MPiece,d=some m.data/\e=.returned (.tuple #[.agg m.cells.toArray,.int .i64 0])/\m.Ok w' (fun k=>k<w.heap.size)/\Old w w')\/
 (∃er:Int,d=none/\er≠0/\e=.returned (.tuple #[.agg zeroPieL.toArray,.int .i64 er])/\Old w w')
section
variable{w:World}{g I:Nat}{bs:LB}{nm:BA}{first:Int}{before:LB}{evs:List Part}{wx:List LB}{ends:List Nat}{prs:List Way}{wA:OA}{wC:Nat}{nA:OA}{nC:Nat}{eA:OA}{eC:Nat}{pA:OA}{pC:Nat}{s s' :Rs}{wr w' :World}
theorem PieLoop.turn{X:Nat->Prop}(h:PieLoop w g I bs nm first before evs wx ends prs wA wC nA nC eA eC pA pC s wr)(hk:Kp X wr w')(hX:∀b,X b->b=I){nm' :BA}{first' :Int}{before' :LB}(hb:Blk w' I 61 (ZO nm' first' before' eA evs.length eC pA prs.length pC).toArray)(hl:before'.length=32):PieLoop w g I bs nm' first' before' evs wx ends prs wA wC nA nC eA eC pA pC s w' :=
 ⟨h.st.put hk (fun b e=>by have:=hX b e;have:=h.lt;omega),hb,h.own.kp hk (fun b hb e=>by have:=hX b e;omega),fun p hp=>(h.ev p hp).turn hk (fun b _ e=>.inl (by have:=hX b e;omega)) (fun _ _ e=>e),h.lt,hl⟩
theorem PieLoop.name(h:PieLoop w g I bs nm first before evs wx ends prs wA wC nA nC eA eC pA pC s wr)(n:BA):PieLoop w g I bs n first before evs wx ends prs wA wC nA nC eA eC pA pC s (wr.setCell ⟨I,0,none⟩ (.string n)):=
 h.turn ((jQ0 (fun k=>k=I) wr).setCell (p:=⟨I,0,none⟩) (fun _=>rfl) _) (fun _ e=>e) (h.blk.set_ 0 _) h.bef
theorem PieLoop.number(h:PieLoop w g I bs nm first before evs wx ends prs wA wC nA nC eA eC pA pC s wr)(n:Int):PieLoop w g I bs nm n before evs wx ends prs wA wC nA nC eA eC pA pC s (wr.setCell ⟨I,1,none⟩ (.int .i64 n)):=
 h.turn ((jQ0 (fun k=>k=I) wr).setCell (p:=⟨I,1,none⟩) (fun _=>rfl) _) (fun _ e=>e) (h.blk.set_ 1 _) h.bef
theorem PieLoop.dig(h:PieLoop w g I bs nm first before evs wx ends prs wA wC nA nC eA eC pA pC s wr)(d:LB)(hd:d.length=32):PieLoop w g I bs nm first d evs wx ends prs wA wC nA nC eA eC pA pC s (wr.setCells I 2 (jA d)):=
 h.turn (Kp.setCells I 2 _ wr) (fun _ e=>e) (by
  have:=Blk.setCells (pre:=[.string nm,.int .i64 first]) (mid:=jA before) (post:=[.slice eA evs.length eC,.slice pA prs.length pC]) (by simpa [ZO]using h.blk) (jA d) (by rw[jB,jB,hd,h.bef]);simpa [ZO]using this) hd
theorem PieLoop.stepP{p:Part}(h:PieLoop w g I bs nm first before evs wx ends prs wA wC nA nC eA eC pA pC s wr)(hk:Kp (RX g) wr w')(hp:p.Ok wr (qN I wA nA eA pA)):p.Ok w' (qN I wA nA eA pA):=
 hp.turn hk (fun b _ e=>.inl (by have:b=g:=e;have:=h.lt;omega)) (fun _ _ e=>e)
theorem Part.Ok.oldP{p:Part}{X:Nat->Prop}(hp:p.Ok wr X)(hk:Old wr w'):p.Ok w' X:=hp.turn hk (fun _ _ f=>f.elim) (fun _ _ e=>e)
theorem Part.Ok.growW{p:Part}{wA' :OA}(hp:p.Ok wr (qN I wA nA eA pA))(hg:wr.grownBy w' (wA.map (·.block)))(ha:wA'.map (·.block)=wA.map (·.block)\/wA'.map (·.block)=some wr.heap.size):p.Ok w' (qN I wA' nA eA pA):=
 hp.turn (kM hg) (fun _ _ e=>.inr (.inl e)) (fun b hb e=>by
  rcases e with e|e|e
  ·exact .inl e
  ·exact .inr (.inl (Jt ha hb e))
  ·exact .inr (.inr e))
theorem Part.Ok.growN{p:Part}{nA' :OA}(hp:p.Ok wr (qN I wA nA eA pA))(hg:wr.grownBy w' (nA.map (·.block)))(ha:nA'.map (·.block)=nA.map (·.block)\/nA'.map (·.block)=some wr.heap.size):p.Ok w' (qN I wA nA' eA pA):=
 hp.turn (kM hg) (fun _ _ e=>.inr (.inr (.inl e))) (fun b hb e=>by
  rcases e with e|e|e|e
  ·exact .inl e
  ·exact .inr (.inl e)
  ·exact .inr (.inr (.inl (Jt ha hb e)))
  ·exact .inr (.inr (.inr e)))
theorem PieLoop.fresh{A:OA}{l:LB}{c:Nat}(h:PieLoop w g I bs nm first before evs wx ends prs wA wC nA nC eA eC pA pC s wr)(hr:Rd w' 1 A l.length (l.map bv))(ha:Av (fun k=>k<wr.heap.size) l.length A)(hl:l.length<=2147483647):Part.Ok w' (qN I wA nA eA pA) ⟨A,l,c⟩:=
 ⟨hr,fun hn ad e hx=>ha hn ad e (by
  rcases hx with hx|hx|hx|hx|hx
  ·have:=h.blk.lt;omega
  ·exact(jY h.own.w hx).2
  ·exact(jY h.own.n hx).2
  ·exact(jY h.own.e hx).2
  ·exact(jY h.own.p hx).2),hl⟩
end
def jHP(w:World)(g I:Nat)(bs:LB)(nm:BA)(first:Int)(before:LB)(size:Int)(n:Nat)(s0:Rs)(k:Nat)(wA:OA)(wn wC:Nat)(nA:OA)(nC:Nat)(wr:World):Prop:=
 ∃(evs:List Part) (ps:List Way) (eA:OA) (eC:Nat) (pA:OA) (pC:Nat) (s:Rs),PieLoop w g I bs nm first before evs (ju ps) (zB 0 ps) ps wA wC nA nC eA eC pA pC s wr/\ps.length=k/\evs.length=k/\wn=(ju ps).length/\(ju ps).length<=k*100000000/\(∀p∈ps,p.a=size/\Dgs p.ds/\p.ds.length<=100000000)/\k<=n/\
  yj bs size n s0 [] []=yj bs size (n-k) s (evs.map Part.l) ps
theorem jH3:(prog.info? 3).map (fun i=>(i.zero,i.size,i.bytes))=some (some (.int .i64 0),1,8):=by kernel_rfl
theorem Qj:(prog.info? 22).map (fun i=>(i.zero,i.size,i.bytes))=some (some (.slice none 0 0),1,24):=by kernel_rfl
theorem un:(prog.info? 51).map (fun i=>(i.zero,i.size,i.bytes))=some (some (.agg #[.int .i64 0,.int .i64 0,.slice none 0 0]),3,40):=by kernel_rfl
theorem jGC(l:List LB):∀u∈l.flatMap jA,u.oneCell' =true:=by
 intro u hu;obtain⟨d,_,hd⟩:=List.mem_flatMap.1 hu;exact jf d u hd
theorem jE0(p:Way):∀u∈Vh p,u.oneCell' =true:=by
 intro u hu;simp only[Vh,List.mem_cons,List.not_mem_nil,or_false]at hu;rcases hu with rfl|rfl|rfl<;>rfl
theorem jHS{ops:Array Oper}{rest:List Oper}{o:Oper}{a:Act}{w:World}{Q:Exit->Act->World->Prop}(hg:o.guard=none)(x:Operand)(ho:o.op=.buildSlice 59 1 #[(0,x)])(p:Way)
  (hx:a.eval x=.agg (Vh p).toArray) (h:wpList prog ops Q rest (a.put o.dst (.slice (some ⟨w.heap.size,0,none⟩) 1 1)) (w.alloc (.cells (Vh p).toArray 51))):wpList prog ops Q (o::rest) a w:=by
 refine wpList_plain hg fun K hK=> ?_;have hr:(Instr.buildSlice 59 1 #[(0,.agg (Vh p).toArray)]).run prog w=.ok (.slice (some ⟨w.heap.size,0,none⟩) 1 1) (w.alloc (.cells (Vh p).toArray 51)):=by
  obtain⟨i,hi,hz,hs,hb⟩:=info_parts un;refine run_buildSlice w 59 51 1 _ _ i _ underlying59 hi hz (by rw[hs];simp) (by rw[hs];omega) ?_;rw[hs];have:=Great.fill_whole (s:=3) (by decide) [.agg (Vh p).toArray] ((Array.range (1*3)).map ((Value.agg #[.int .i64 0,.int .i64 0,.slice none 0 0]).cells[· % (Value.agg #[.int .i64 0,.int .i64 0,.slice none 0 0]).cells.size]!)) (fun v hv=>by rw[List.mem_singleton.1 hv];rfl) (by simp);simpa [Value.cells]using this
 unfold Oper.wp execOp;simp only[ho,Sem.run_bind,List.map_toArray,List.map_cons,List.map_nil,hx,hr,Result.andThen_ok];exact hK _ _ h
theorem jCK(w:World)(A:OA)(c:Nat)(bs:LB)(Fa:Rd w 1 A bs.length (bs.map bv)):
  Calls prog 96 #[.slice A bs.length c] w (jJS w (kX bs)):=by
 have HD:=G (show kX bs=(kH bs 2097152 51).bind (jHv bs)from rfl);have Hb:=G (show Blk (w.alloc (.cells #[.string ⟨#[]⟩,.int .i64 0,.int .u8 0,.int .u8 0,.int .u8 0,.int .u8 0,.int .u8 0,.int .u8 0,.int .u8 0,.int .u8 0,.int .u8 0,.int .u8 0,.int .u8 0,.int .u8 0,.int .u8 0,.int .u8 0,.int .u8 0,.int .u8 0,.int .u8 0,.int .u8 0,.int .u8 0,.int .u8 0,.int .u8 0,.int .u8 0,.int .u8 0,.int .u8 0,.int .u8 0,.int .u8 0,.int .u8 0,.int .u8 0,.int .u8 0,.int .u8 0,.int .u8 0,.int .u8 0,.slice none 0 0,.slice none 0 0] 61)) w.heap.size 61 zeroPieL.toArray from jQ2 w _ _);have HO:=G ((jQ0 NoX w).alloc (.cells #[.string ⟨#[]⟩,.int .i64 0,.int .u8 0,.int .u8 0,.int .u8 0,.int .u8 0,.int .u8 0,.int .u8 0,.int .u8 0,.int .u8 0,.int .u8 0,.int .u8 0,.int .u8 0,.int .u8 0,.int .u8 0,.int .u8 0,.int .u8 0,.int .u8 0,.int .u8 0,.int .u8 0,.int .u8 0,.int .u8 0,.int .u8 0,.int .u8 0,.int .u8 0,.int .u8 0,.int .u8 0,.int .u8 0,.int .u8 0,.int .u8 0,.int .u8 0,.int .u8 0,.int .u8 0,.int .u8 0,.slice none 0 0,.slice none 0 0] 61));have LL:=G (fun W (h:Old w W)=>Yc W A c bs 2097152 51 (Fa.old h) (by omega));generalize kX bs=D at*;clear Fa;go_enter func96,ntmps96;go_wp2_with fail;generalize w.alloc _=W at*;refine(LL.out W HO.out).mono ?_;generalize kH bs 2097152 51=B at*;rintro e w1 (⟨g,s,rfl,rfl,hg,Fd,F0⟩|⟨er,rfl,FZ,rfl,F0⟩)
 ·have Wg:=G (show DecR 61 zeroPieL w g bs s w1 from⟨Hb.out.old F0,Fd,HO.out.old F0,by have:=Hb.out.lt;omega⟩);have HS:=G (show PieLoop w g w1.heap.size bs ⟨#[]⟩ 0 zD [] [] [] [] none 0 none 0 none 0 none 0 s (w1.alloc (.cells #[.string ⟨#[]⟩,.int .i64 0,.int .u8 0,.int .u8 0,.int .u8 0,.int .u8 0,.int .u8 0,.int .u8 0,.int .u8 0,.int .u8 0,.int .u8 0,.int .u8 0,.int .u8 0,.int .u8 0,.int .u8 0,.int .u8 0,.int .u8 0,.int .u8 0,.int .u8 0,.int .u8 0,.int .u8 0,.int .u8 0,.int .u8 0,.int .u8 0,.int .u8 0,.int .u8 0,.int .u8 0,.int .u8 0,.int .u8 0,.int .u8 0,.int .u8 0,.int .u8 0,.int .u8 0,.int .u8 0,.slice none 0 0,.slice none 0 0] 61))from
   ⟨Wg.out.still ((jQ0 NoX w1).alloc _),by rw[show ZO ⟨#[]⟩ 0 zD none ([]:List Part).length 0 none ([]:List Way).length 0=zeroPieL from qY];exact jQ2 w1 _ _,
    ⟨World.ownsRow_nil _ _ _ _,World.ownsRow_nil _ _ _ _,World.ownsRow_nil _ _ _ _,World.ownsRow_nil _ _ _ _⟩,fun p hp=>(by cases hp),Wg.out.rr.lt,jy⟩)
  clear Fd F0 hg Hb HO LL Wg;have FB:=G (show D=jHv bs s by rw[HD.out];rfl);unfold jHv at FB;have GK:=G (fun W (hR:Rr W g bs s)=>vm W g bs s hR);have SC:=G (show zb bs s=(⟨(vE bs (tkN bs 1 s).1 (tkN bs 1 s).2).1.toArray⟩,(vE bs (tkN bs 1 s).1 (tkN bs 1 s).2).2)from rfl);have HN:=G (ku bs 1 s);clear HD;go_wp2_with fail;generalize w1.alloc _=W1 at*;generalize w1.heap.size=I at*;refine(GK.out _ HS.out.st.rr).mono ?_;clear GK;generalize tkN bs 1 s=t1 at*;obtain⟨k,s1⟩:=t1;simp only at SC HN⊢;rintro e w2 ⟨rfl,Fb,hZ⟩;replace HS:=G (HS.out.step Fb hZ);have PV:k<256:=by have:=HN.out;omega
  have RT:IntKind.i64.wrap (k:Int)=k:=jQ3 _ (by omega);have RS:wrap64 (k:Int)=(k:Int):=by unfold wrap64;omega
  clear Fb hZ HN;have GK:=G (fun W (hR:Rr W g bs s1)=>za W g bs (k:Int) s1 hR (by omega));have MC:=G (vZ bs (k:Int) s1);have GP:=HS.out.st.rr.fits.2;go_wp2_with fail;refine(GK.out _ HS.out.st.rr).mono ?_;clear GK;generalize vE bs (k:Int) s1=t2 at*;obtain⟨l,s2⟩:=t2;simp only at SC MC⊢;rintro e w3 ⟨A3,c3,rfl,FP,GD,Gb,Gl,Gd⟩;have Q2:=vO (P:=prog) w3 underlying22 underlying5 underlying9 A3 _ c3 _ FP;replace HS:=G (HS.out.step Gl Gd);have u0:=HS.out.blk.at_ 0 (v:=.string ⟨#[]⟩) rfl;have z0:=HS.out.blk.frozen 0;have Hl:=G (show ByteArray.size ⟨l.toArray⟩<=2147483647 by rw[<-jH];have:=MC.out;show l.length<=_;omega);have Lh:=G (HS.out.name ⟨l.toArray⟩);clear Gl Gd FP GD Gb RT RS PV MC;rw[SC.out]at FB;simp only at FB;generalize (⟨l.toArray⟩:BA)=nm at*;have GK:=G (fun W (hR:Rr W g bs s2)=>yn W g bs s2 hR);clear SC;unfold jD2 at FB;go_wp2_with fail;replace HS:=Lh;clear Lh u0 z0 Q2;generalize w3.setCell _ _=W3 at*;refine(GK.out _ HS.out.st.rr).mono ?_;clear GK;generalize yy bs s2=t3 at*;obtain⟨first,f1,s3⟩:=t3;simp only at FB⊢;rintro e w4 ⟨rfl,Fb,hZ⟩;replace HS:=G (HS.out.step Fb hZ);have u1:=HS.out.blk.at_ 1 (v:=.int .i64 0) rfl;have z1:=HS.out.blk.frozen 1;have Lh:=G (HS.out.number first);clear Fb hZ;have HG:=G (fun W' (hR:Rr W' g bs s3)=>yR W' g bs s3 hR);have Ll:=G (kU bs s3);unfold jD1 at FB;go_wp2_with fail;replace HS:=Lh;clear Lh u1 z1;generalize w4.setCell _ _=W4 at*;refine(HG.out _ HS.out.st.rr).mono ?_;clear HG;generalize kq bs s3=t5 at*;obtain⟨before,s4⟩:=t5;simp only at FB Ll⊢;rintro e w5 ⟨rfl,Fb,hZ⟩;replace HS:=G (HS.out.step Fb hZ);have hU:=G (HS.out.blk.there 2 (jA before).toArray.size (by rw[jJ8,jJ8,jAQ HS.out.bef,jB,Ll.out];decide));have Fh:=G (show(prog.info? 40).map (·.size)=some (jA before).length by rw[jB,Ll.out];exact jO);replace HS:=G (HS.out.dig before Ll.out);clear Fb hZ;have GK:=G (fun W (hR:Rr W g bs s4)=>yn W g bs s4 hR);unfold jD0 at FB;go_wp2_with (first|((with_reducible refine jF 40 (.tmp 47) (.tmp 46) ?_);refine jQ1 rfl 40 (.tmp 47) (.tmp 46) rfl I 2 (jA before).toArray rfl rfl hU.out Fh.out (kV _) ?_)|fail);generalize w5.setCells _ _ _=W5 at*;clear hU Fh;refine(GK.out _ HS.out.st.rr).mono ?_;clear GK;generalize yy bs s4=t6 at*;obtain⟨size,f2,s5⟩:=t6;simp only at FB⊢;rintro e w6 ⟨rfl,Fb,hZ⟩;replace HS:=G (HS.out.step Fb hZ);clear Fb hZ;have GK:=G (fun W (hR:Rr W g bs s5)=>Kd W g bs s5 hR);have HN:=G (ku bs 4 s5);go_wp2_with fail;refine(GK.out _ HS.out.st.rr).mono ?_;clear GK;generalize tkN bs 4 s5=t7 at*;obtain⟨n,s6⟩:=t7;simp only at FB HN⊢;rintro e w7 ⟨rfl,Fb,hZ⟩;replace HS:=G (HS.out.step Fb hZ);have PV:n<=4294967295:=by have:=HN.out;omega
  have RT:IntKind.i64.wrap (n:Int)=n:=jQ3 _ (by omega);have RS:wrap64 (n:Int)=(n:Int):=by unfold wrap64;omega
  clear Fb hZ HN;unfold Qc at FB;simp only at FB;cases f1 with
  |false=>
   have hY:=G (show D=none by rw[FB.out,jJ5 (by simp)]);have hU:=G (HS.out.st.th zeroPieL rfl);have Ht:=G (HS.out.st.told zeroPieL rfl);go_wp2_with (first|((with_reducible refine jM 61 ?_);refine jX rfl 61 rfl _ (vv _) ?_)|((with_reducible refine jF 61 (.tmp 2) (.tmp 75) ?_);refine jQ1 rfl 61 (.tmp 2) (.tmp 75) rfl w.heap.size 0 zeroPieL.toArray rfl rfl hU.out jj (jR rfl) ?_)|fail);refine jD (g:=w.heap.size) (cs:=zeroPieL.toArray) rfl rfl Ht.out.box underlying61 rfl jj rfl ?_;exact .inr ⟨8,hY.out,by decide,rfl,Ht.out.old⟩
  |true=>
  cases f2 with
  |false=>
   have hY:=G (show D=none by rw[FB.out,jJ5 (by simp)]);have hU:=G (HS.out.st.th zeroPieL rfl);have Ht:=G (HS.out.st.told zeroPieL rfl);go_wp2_with (first|((with_reducible refine jM 61 ?_);refine jX rfl 61 rfl _ (vv _) ?_)|((with_reducible refine jF 61 (.tmp 2) (.tmp 75) ?_);refine jQ1 rfl 61 (.tmp 2) (.tmp 75) rfl w.heap.size 0 zeroPieL.toArray rfl rfl hU.out jj (jR rfl) ?_)|fail);refine jD (g:=w.heap.size) (cs:=zeroPieL.toArray) rfl rfl Ht.out.box underlying61 rfl jj rfl ?_;exact .inr ⟨8,hY.out,by decide,rfl,Ht.out.old⟩
  |true=>
  have HW:=G (fun W (hR:Rr W g bs s6)=>yL W g bs s6 hR);go_wp2_with fail;refine(HW.out _ HS.out.st.rr).mono ?_;rintro e w8 ⟨rfl,rfl⟩;clear HW;by_cases hy:s6.why=0
  case neg=>
   have hY:=G (show D=none by rw[FB.out,jJ5 (fun h=>hy h.2.2.1)]);have MK:(s6.why !=0)=true:=(by simpa using hy);clear hy;have hU:=G (HS.out.st.th zeroPieL rfl);have Ht:=G (HS.out.st.told zeroPieL rfl);go_wp2_with (first|((with_reducible refine jM 61 ?_);refine jX rfl 61 rfl _ (vv _) ?_)|((with_reducible refine jF 61 (.tmp 2) (.tmp 75) ?_);refine jQ1 rfl 61 (.tmp 2) (.tmp 75) rfl w.heap.size 0 zeroPieL.toArray rfl rfl hU.out jj (jR rfl) ?_)|fail);refine jD (g:=w.heap.size) (cs:=zeroPieL.toArray) rfl rfl Ht.out.box underlying61 rfl jj rfl ?_;exact .inr ⟨8,hY.out,by decide,rfl,Ht.out.old⟩
  rw[hy];by_cases h1:1<=n
  case neg=>
   have hY:=G (show D=none by rw[FB.out,jJ5 (fun h=>h1 h.2.2.2.1)]);have Ns:(n:Int)<1:=(by omega);clear hy h1;have hU:=G (HS.out.st.th zeroPieL rfl);have Ht:=G (HS.out.st.told zeroPieL rfl);go_wp2_with (first|((with_reducible refine jM 61 ?_);refine jX rfl 61 rfl _ (vv _) ?_)|((with_reducible refine jF 61 (.tmp 2) (.tmp 75) ?_);refine jQ1 rfl 61 (.tmp 2) (.tmp 75) rfl w.heap.size 0 zeroPieL.toArray rfl rfl hU.out jj (jR rfl) ?_)|fail);refine jD (g:=w.heap.size) (cs:=zeroPieL.toArray) rfl rfl Ht.out.box underlying61 rfl jj rfl ?_;exact .inr ⟨8,hY.out,by decide,rfl,Ht.out.old⟩
  have Ns:¬(n:Int)<1:=(by omega);by_cases h2:n<=1000
  case neg=>
   have hY:=G (show D=none by rw[FB.out,jJ5 (fun h=>h2 h.2.2.2.2)]);have Nx:(1000:Int)<(n:Int):=(by omega);clear hy h2 h1;have hU:=G (HS.out.st.th zeroPieL rfl);have Ht:=G (HS.out.st.told zeroPieL rfl);go_wp2_with (first|((with_reducible refine jM 61 ?_);refine jX rfl 61 rfl _ (vv _) ?_)|((with_reducible refine jF 61 (.tmp 2) (.tmp 75) ?_);refine jQ1 rfl 61 (.tmp 2) (.tmp 75) rfl w.heap.size 0 zeroPieL.toArray rfl rfl hU.out jj (jR rfl) ?_)|fail);refine jD (g:=w.heap.size) (cs:=zeroPieL.toArray) rfl rfl Ht.out.box underlying61 rfl jj rfl ?_;exact .inr ⟨8,hY.out,by decide,rfl,Ht.out.old⟩
  have Nx:¬(1000:Int)<(n:Int):=(by omega);have RA:=G (show D=(yj bs size n s6 [] []).bind (qX bs nm first before)by rw[FB.out,jJ6 (by refine⟨?_,?_,hy,h1,h2⟩<;>trivial)]);clear FB hy RT RS PV;go_wp2_with fail;go_loopw [77,12,13] (fun i wv nv wr=>∃(k:Nat) (wA:OA) (wn wC:Nat) (nA:OA) (nC:Nat),i=.int .i64 k/\wv=.slice wA wn wC/\nv=.slice nA k nC/\jHP w g I bs nm first before size n s6 k wA wn wC nA nC wr) (fun i _ _ _=>n-(intOf i).toNat)
  case atStart=>exact⟨0,none,0,0,none,0,rfl,rfl,rfl,[],[],none,0,none,0,s6,HS.out,rfl,rfl,rfl,jL3 _,fun p hp=>(by cases hp),by omega,rfl⟩
  case round=>
   obtain⟨k,wA,wn,wC,nA,nC,rfl,rfl,rfl,evs,ps,eA,eC,pA,pC,s,hL,Fc,hZ,rfl,hwl,LO,PV,FM⟩:=hrel;clear HS;have HS:=G hL;have ME:=G LO;have Fs:=G FM;have MI:=G Fc;have Wh:=G hZ;clear hL LO FM Fc hZ;by_cases hM:k<n
   ·obtain⟨m,hm⟩:∃m,n-k=m+1:=⟨n-k-1,by omega⟩;rw[hm,yj]at Fs;unfold jFx at Fs;have Hm:=G hm;clear hm;have GK:=G (fun W (hR:Rr W g bs s)=>yn W g bs s hR);go_wp2_with fail;refine(GK.out _ HS.out.st.rr).mono ?_;clear GK;generalize yy bs s=t8 at*;obtain⟨num,f3,s7⟩:=t8;simp only at Fs⊢;rintro e w9 ⟨rfl,Fb,hZ⟩;replace HS:=G (HS.out.step Fb hZ);clear Fb hZ;have GK:=G (fun W (hR:Rr W g bs s7)=>xj W g bs 65536 s7 hR (by omega));have AD:=G (uI bs 65536 s7);go_wp2_with fail;refine(GK.out _ HS.out.st.rr).mono ?_;clear GK;generalize jt bs 65536 s7=t9 at*;obtain⟨ev,s8⟩:=t9;simp only at Fs AD⊢;rintro e w10 ⟨A5,c5,rfl,Ni,N4,MR,WM,Nu⟩;have Hp:=G (HS.out.fresh (c:=c5) Ni N4 (by have:=AD.out;omega));replace HS:=G (HS.out.step WM Nu);clear Ni N4 MR WM Nu;have HB:=G (fun W=>Ku W size num);have Nz:=G (fun n (h:yA size num=some n)=>jEs h);go_wp2_with fail;refine(HB.out _).mono ?_;clear HB;generalize yA size num=o at*;rintro e w11 ⟨he,rfl⟩;cases f3 with
    |false=>
     have hY:=G (show D=none by rw[RA.out,Fs.out];rfl);rcases o with _ |cnt
     all_goals
      simp only at he;subst he;have hU:=G (HS.out.st.th zeroPieL rfl);have Ht:=G (HS.out.st.told zeroPieL rfl);go_wp2_with (first|((with_reducible refine jM 61 ?_);refine jX rfl 61 rfl _ (vv _) ?_)|((with_reducible refine jF 61 (.tmp 2) (.tmp 103) ?_);refine jQ1 rfl 61 (.tmp 2) (.tmp 103) rfl w.heap.size 0 zeroPieL.toArray rfl rfl hU.out jj (jR rfl) ?_)|fail);refine jD (g:=w.heap.size) (cs:=zeroPieL.toArray) rfl rfl Ht.out.box underlying61 rfl jj rfl ?_;exact .inr ⟨8,hY.out,by decide,rfl,Ht.out.old⟩
    |true=>
    rw[jJ6 rfl]at Fs;rcases o with _ |cnt
    ·simp only at he Fs;subst he;have hY:=G (show D=none by rw[RA.out,Fs.out];rfl);have hU:=G (HS.out.st.th zeroPieL rfl);have Ht:=G (HS.out.st.told zeroPieL rfl);go_wp2_with (first|((with_reducible refine jM 61 ?_);refine jX rfl 61 rfl _ (vv _) ?_)|((with_reducible refine jF 61 (.tmp 2) (.tmp 103) ?_);refine jQ1 rfl 61 (.tmp 2) (.tmp 103) rfl w.heap.size 0 zeroPieL.toArray rfl rfl hU.out jj (jR rfl) ?_)|fail);refine jD (g:=w.heap.size) (cs:=zeroPieL.toArray) rfl rfl Ht.out.box underlying61 rfl jj rfl ?_;exact .inr ⟨8,hY.out,by decide,rfl,Ht.out.old⟩
    simp only at he Fs;subst he;have hcnt:=Nz.out cnt rfl;clear Nz;have HW:=G (fun W (hR:Rr W g bs s8)=>yL W g bs s8 hR);go_wp2_with fail;refine(HW.out _ HS.out.st.rr).mono ?_;rintro e w11 ⟨rfl,rfl⟩;clear HW;by_cases hy:s8.why=0
    case neg=>
     have hY:=G (show D=none by rw[RA.out,Fs.out,jJ5 hy];rfl);have MK:(s8.why !=0)=true:=(by simpa using hy);clear hy;have hU:=G (HS.out.st.th zeroPieL rfl);have Ht:=G (HS.out.st.told zeroPieL rfl);go_wp2_with (first|((with_reducible refine jM 61 ?_);refine jX rfl 61 rfl _ (vv _) ?_)|((with_reducible refine jF 61 (.tmp 2) (.tmp 103) ?_);refine jQ1 rfl 61 (.tmp 2) (.tmp 103) rfl w.heap.size 0 zeroPieL.toArray rfl rfl hU.out jj (jR rfl) ?_)|fail);refine jD (g:=w.heap.size) (cs:=zeroPieL.toArray) rfl rfl Ht.out.box underlying61 rfl jj rfl ?_;exact .inr ⟨8,hY.out,by decide,rfl,Ht.out.old⟩
    rw[jJ6 hy]at Fs;rw[hy];simp only[jL2]at Fs;have HG:=G (fun W (hR:Rr W g bs s8)=>KH W g bs (cnt:Int) s8 hR (by omega));have Mq:=G (KS bs (cnt:Int) s8 HS.out.st.rr.fits.1);have Nl:=G (KR bs (cnt:Int) s8);clear hy;go_wp2_with fail;refine(HG.out _ HS.out.st.rr).mono ?_;clear HG;generalize yC bs (cnt:Int) s8=t10 at*;obtain⟨ds,s9⟩:=t10;simp only at Fs Mq Nl⊢;rintro e w12 ⟨A6,c6,rfl,NQ,WA,Nc,Wi,NG⟩;replace Hp:=G (HS.out.stepP NG Hp.out);replace HS:=G (HS.out.step Wi NG);have Sa:=Nl.out;obtain⟨i0,hi,Fz,Ft,FC⟩:=info_parts uo;have C1:=G HS.out.own.w;have FU:=G (show(ju ps).length+ds.length<=maxLen by unfold maxLen;omega);have FV:=G (show((ju ps).length+ds.length)*32<=140737488355328 by omega);have Gg:=G (show I+1<=w12.heap.size from HS.out.blk.lt);have P8:=G NQ;clear NQ WA Nc Wi NG;go_upto_region 23 with(first|(at_builtin;refine jJ _ rfl (.tmp 104) (.tmp 107) 49 rfl (I+1) 40 i0 _ 32 32 underlying49 hi Fz Ft FC rfl (by decide) (.slice wA (ju ps).length wC) (ju ps).length _ rfl C1.out A6 ds.length c6 _ rfl P8.out (jGC _) FU.out FV.out Gg.out ?_;intro A7 c7 w13 Hi hgrow Fo)|fail);rw[jE]at hgrow Fo;have U7:=G (show ju (ps++[⟨size,num,ds⟩])=ju ps++ds by simp[ju]);have Q8:=G (show(ju (ps++[⟨size,num,ds⟩])).length=(ju ps).length+ds.length by rw[U7.out,jJ4]);have MN:w13.ownsRow (I+1) 40 32 (.slice A7 (ju (ps++[⟨size,num,ds⟩])).length c7) (ju (ps++[⟨size,num,ds⟩])).length ((ju (ps++[⟨size,num,ds⟩])).flatMap jA):=by
     rw[Q8.out,U7.out,List.flatMap_append];exact Hi
    replace Hp:=G (Hp.out.growW (wA' :=A7) hgrow Fo);replace HS:=G (HS.out.growW hgrow Fo MN);have He' :=G (qn ps 0 ⟨size,num,ds⟩);have BW:=G (show(ju ps).length+ds.length<=(k+1)*100000000 by omega);clear Hi hgrow Fo MN FU FV C1 P8 hi Fz Ft FC;have Od:(ju ps).length+ds.length<=200000000000:=(by omega);generalize hq:(ju ps).length+ds.length=q at*;have Hq:=G hq;clear hq;obtain⟨i1,hi,Fz,Ft,FC⟩:=info_parts jH3;have Aw:=G (show w13.ownsRow (I+1) 3 1 (.slice nA k nC) k _ from by have h:=HS.out.own.n;rw[zS,MI.out]at h;exact h);have FU:=G (show k+1<=maxLen by unfold maxLen;omega);have FV:=G (show(k+1)*8<=140737488355328 by omega);have Gg:=G (show I+1<=w13.heap.size from HS.out.blk.lt);go_upto_region 24 with(first|(at_builtin;refine jJ _ rfl (.tmp 109) (.tmp 112) 113 rfl (I+1) 3 i1 _ 1 8 underlying113 hi Fz Ft FC rfl (by decide) (.slice nA k nC) k _ rfl (Aw.out.alloc _) _ 1 1 _ rfl (Rd.one_new _ _ _) (ky _ rfl) FU.out FV.out (jL4 Gg.out (by simp)) ?_;intro A8 c8 w14 Hi hgrow Fo)|fail);rw[jE]at hgrow Fo;have MN:w14.ownsRow (I+1) 3 1 (.slice A8 (zB 0 (ps++[⟨size,num,ds⟩])).length c8) (zB 0 (ps++[⟨size,num,ds⟩])).length ((zB 0 (ps++[⟨size,num,ds⟩])).map fun(n:Nat)=>.int .i64 (n:Int)):=by
     rw[He'.out,jJ4,zS,MI.out,List.map_append,Nat.zero_add,Hq.out];exact Hi
    have NT:=(jQ0 NoX w13).alloc (.cells #[.int .i64 (q:Int)] 3);replace Hp:=G ((Hp.out.oldP NT).growN (nA' :=A8) hgrow Fo);replace HS:=G ((HS.out.old NT).growN hgrow Fo MN);clear Hi hgrow Fo MN FU FV Aw hi Fz Ft FC NT Gg;obtain⟨i2,hi,Fz,Ft,FC⟩:=info_parts Qj;have FR:=G (show w14.ownsRow (I+1) 22 1 (.slice eA k eC) k _ from by have h:=HS.out.own.e;rw[Wh.out]at h;exact h);have FU:=G (show k+1<=maxLen by unfold maxLen;omega);have FV:=G (show(k+1)*24<=140737488355328 by omega);have Gg:=G (show I+1<=w14.heap.size from HS.out.blk.lt);have hIl:=HS.out.blk.lt;have c34:=HS.out.blk.at_ 34 (v:=.slice eA k eC) (by rw[jJ7,<-Wh.out];exact jh [.string nm,.int .i64 first] _ before HS.out.bef 34 0 rfl);have z34:=HS.out.blk.frozen 34;have NA:=G (HS.out.blk.alloc (.cells #[.slice A5 ev.length c5] 22));have V5:=G (NA.out.at_ 34 (v:=.slice eA k eC) (by rw[jJ7,<-Wh.out];exact jh [.string nm,.int .i64 first] _ before HS.out.bef 34 0 rfl));have Ff:some I≠(Value.slice eA k eC).ownBlock:=by
     rw[jE];intro e;have:=(jY FR.out e.symm).1;omega
    go_upto_region 25 with(first|(at_builtin;refine jJ _ rfl (.tmp 115) (.tmp 117) 58 rfl (I+1) 22 i2 _ 1 24 underlying58 hi Fz Ft FC rfl (by decide) (.slice eA k eC) k _ rfl (FR.out.alloc _) _ 1 1 _ rfl (Rd.one_new _ _ _) (ky _ rfl) FU.out FV.out (jL4 Gg.out (by simp)) ?_;intro A9 c9 w15 Hi hgrow Fo;have M8:=hgrow.cell (a:=⟨I,34,none⟩) V5.out Ff;have Wo:w15.frozen? ⟨I,34,none⟩=false:=(World.frozen?_of_block (hgrow.block I NA.out.lt Ff)).trans (NA.out.frozen 34))|fail);rw[jE]at hgrow Fo;have NT:=(jQ0 NoX w14).alloc (.cells #[.slice A5 ev.length c5] 22);have No:=G ((HS.out.old NT).growE (p:=⟨A5,ev,c5⟩) hgrow Fo (by rw[Wh.out,List.map_append];exact Hi) (Hp.out.oldP NT));rw[Wh.out]at No;clear Hi hgrow Fo FU FV FR hi Fz Ft FC NT Gg c34 z34 Ff M8 Wo hIl Hp HS NA V5;have HS:=G No.out;clear No;generalize w15.setCell _ _=W15 at*;obtain⟨i3,hi,Fz,Ft,FC⟩:=info_parts un;have C2:=G (show W15.ownsRow (I+1) 51 3 (.slice pA k pC) k _ from by have h:=HS.out.own.p;rw[MI.out]at h;exact h);have FU:=G (show k+1<=maxLen by unfold maxLen;omega);have FV:=G (show(k+1)*40<=140737488355328 by omega);have Gg:=G (show I+1<=W15.heap.size from HS.out.blk.lt);have WF:=G (show(ZO nm first before A9 (evs++[(⟨A5,ev,c5⟩:Part)]).length c9 pA ps.length pC)[35]? =some (.slice pA k pC)by rw[<-MI.out];exact jh [.string nm,.int .i64 first] _ before HS.out.bef 34 1 rfl);have c35:=HS.out.blk.at_ 35 (by rw[jJ7];exact WF.out);have z35:=HS.out.blk.frozen 35;have NA:=G (HS.out.blk.alloc (.cells (Vh ⟨size,num,ds⟩).toArray 51));have V5:=G (NA.out.at_ 35 (by rw[jJ7];exact WF.out));have Ff:some I≠(Value.slice pA k pC).ownBlock:=by
     rw[jE];intro e;have:=(jY C2.out e.symm).1;omega
    go_wp2_with (first|refine jHS rfl (.tmp 124) rfl ⟨size,num,ds⟩ rfl ?_ |(at_builtin;refine jJ _ rfl (.tmp 121) (.tmp 125) 59 rfl (I+1) 51 i3 _ 3 40 underlying59 hi Fz Ft FC rfl (by decide) (.slice pA k pC) k _ rfl (C2.out.alloc _) _ 1 1 (Vh ⟨size,num,ds⟩) rfl (Rd.row_new _ _ 3 1 _ rfl) (jE0 _) FU.out FV.out (jL4 Gg.out (by simp)) ?_;intro A10 c10 w16 Hi hgrow Fo;have M8:=hgrow.cell (a:=⟨I,35,none⟩) V5.out Ff;have Wo:w16.frozen? ⟨I,35,none⟩=false:=(World.frozen?_of_block (hgrow.block I NA.out.lt Ff)).trans (NA.out.frozen 35))|fail);rw[jE]at hgrow Fo;have NT:=(jQ0 NoX W15).alloc (.cells (Vh ⟨size,num,ds⟩).toArray 51);have No:=G ((HS.out.old NT).growP (p:=⟨size,num,ds⟩) hgrow Fo (by rw[MI.out,List.flatMap_append,List.flatMap_singleton];exact Hi));rw[MI.out]at No;have Fl:=G (fun(W' :World) (h:W' =w16.setCell ⟨I,35,none⟩ (.slice A10 (k+1) c10))=>show jHP w g I bs nm first before size n s6 (k+1) A7 q c7 A8 c8 W' from
     ⟨evs++[⟨A5,ev,c5⟩],ps++[⟨size,num,ds⟩],A9,c9,A10,c10,s9,h▸No.out,by rw[jJ4,MI.out];rfl,by rw[jJ4,Wh.out];rfl,Q8.out.symm,by rw[Q8.out];exact BW.out,
      fun p hp=>by
       rcases List.mem_append.1 hp with hp|hp
       ·exact ME.out p hp
       ·rw[List.mem_singleton.1 hp];exact⟨rfl,Mq.out,by have:=Nl.out;simp only;omega⟩,
      by omega,by rw[Fs.out,show n-(k+1)=m by have:=Hm.out;omega,List.map_append];rfl⟩)
    clear Hi hgrow Fo FU FV C2 hi Fz Ft FC NT Gg c35 z35 Ff M8 Wo HS NA V5 No WF ME Fs;go_roundw
    case rel=>exact⟨k+1,A7,q,c7,A8,c8,by go_num,rfl,rfl,Fl.out _ rfl⟩
    case measure=>simp[intOf];omega
   ·obtain rfl:k=n:=(by omega);have AP:=G (show D=qX bs nm first before (evs.map Part.l,ps,s)by rw[RA.out,Fs.out,Nat.sub_self];rfl);have HT:=G HS.out.two;clear HS RA Fs;have Mq:=G (show∀p∈ps,Dgs p.ds from fun p hp=>(ME.out p hp).2.1);go_wp2_with fail;go_loopw [131,19,20,21] (fun i lv _ _ wr=>∃q:Nat,i=.int .i64 q/\lv=.int .i64 (yq ps q)/\q<=k/\PieTwo w g I bs nm first before evs ps wA wC nA nC eA eC pA pC s q wr) (fun i _ _ _ _=>k-(intOf i).toNat)
    case atStart=>exact⟨0,rfl,rfl,Nat.zero_le _,HT.out⟩
    case round=>
     obtain⟨q,rfl,rfl,hqk,hT⟩:=hrel;clear HT;have HS:=G hT;clear hT;by_cases Wv:q<k
     ·have Ct:q<ps.length:=by have:=MI.out;omega
      obtain⟨nb,no,u,Bj,hu,TB⟩:=(Rd.of_own HS.out.own.n).at_ Ct;have CL:u=.int .i64 ((yq ps q+ps[q].ds.length:Nat):Int):=by
       rw[jM1,jJ9 (by rw[zS];exact Ct),uD ps 0 q Ct]at hu;simp only[Nat.zero_add,Option.map_some,Option.some.injEq]at hu;exact hu.symm
      subst CL;obtain⟨pb,pcap,Cu,CV,_⟩:=HS.out.own.p.form (by omega);have RF:pA=some ⟨pb,0,none⟩:=(by injection Cu);subst RF;clear Cu;have Fl:=G ((HS.out.put Ct).old ((jQ0 NoX _).drew));have hcut:=fun W=>jIF jGl jFY wA (ju ps).length wC (yq ps q) (yq ps q+ps[q].ds.length) (by omega) (by have h1:=jAb ps (q+1);rw[Yx ps q Ct]at h1;have h2:=zy HS.out.own.w;omega) W;rw[jGJ,Nat.add_sub_cancel_left]at hcut;have Ir:=G (Yx ps q Ct);have c35:wr.drew.cell? ⟨I,35,none⟩=some (.slice (some ⟨pb,0,none⟩) k pC):=HS.out.blk.drew.at_ 35 (by rw[jJ7,<-MI.out];exact jh [.string nm,.int .i64 first] _ before HS.out.bef 34 1 rfl);obtain⟨pv,CT⟩:∃v,(jDv wA ps q)[q*3+2]? =some v:=⟨_,jJ9 (by rw[jF3 wA ps q (by omega)];omega)⟩;have pc:wr.drew.cell? ⟨pb,q*3+2,none⟩=some pv:=(HS.out.own.p.cellAt (q*3+2) (by omega)).trans CT;have pz:wr.drew.frozen? ⟨pb,q*3+2,none⟩=false:=HS.out.own.p.frozenAt (q*3+2);have HpI:=G (show pb≠I by have:=CV;omega);generalize (JL wA (yq ps q) ps[q]).A=mA at*;generalize ps[q].ds.length=dl at*;generalize yq ps q=lo at*;generalize lo+dl=hi at*;have b1:(0:Int)<=(q:Int):=(by omega);have b2:(q:Int)<(k:Int):=(by omega);have b3:(q:Int).toNat=q:=(by omega);have HnA:=G Bj;rw[Bj];clear hu CT Bj CV HS;go_wp2_with fail;refine wp_region_held_drew (S:=fun w' =>w'.cell? ⟨I,35,none⟩=some (.slice (some ⟨pb,0,none⟩) k pC)) (by kernel_rfl) c35 (fun H9=> ?_);refine' jP 0 rfl rfl (by kernel_rfl) (fun _ _ _ h=>h) rfl H9 (fun w hJ=> ?_) ?_;rotate_left
      ·((try dsimp only at hJ);go_simp<;>with_reducible rfl)
      simp only[Act.put,jJ1,jJ2,jJ3];refine' jP 1 rfl rfl (by kernel_rfl) (fun _ _ _ h=>h) rfl H9 (fun w hJ=> ?_) ?_;rotate_left
      ·((try dsimp only at hJ);go_simp<;>with_reducible rfl)
      simp only[Act.put,jJ1,jJ2,jJ3];refine' jP 2 rfl rfl (by kernel_rfl) (fun _ _ _ h=>h) rfl H9 (fun w hJ=> ?_) ?_;rotate_left
      ·((try dsimp only at hJ);go_simp<;>with_reducible rfl)
      simp only[Act.put,jJ1,jJ2,jJ3];refine' jP 3 rfl rfl (by kernel_rfl) (fun _ _ _ h=>h) rfl H9 (fun w hJ=> ?_) ?_;rotate_left
      ·((try dsimp only at hJ);go_simp<;>with_reducible rfl)
      simp only[Act.put,jJ1,jJ2,jJ3];refine' jP 4 rfl rfl (by kernel_rfl) (fun _ _ _ h=>h) rfl H9 (fun w hJ=> ?_) ?_;rotate_left
      ·((try dsimp only at hJ);go_simp<;>with_reducible rfl)
      simp only[Act.put,jJ1,jJ2,jJ3];refine' jP 5 rfl rfl (by kernel_rfl) (fun _ _ _ h=>h) rfl H9 (fun w hJ=> ?_) ?_;rotate_left
      ·((try dsimp only at hJ);go_simp<;>with_reducible rfl)
      simp only[Act.put,jJ1,jJ2,jJ3];refine' jP 6 rfl rfl (by kernel_rfl) (fun _ _ _ h=>h) rfl H9 (fun w hJ=> ?_) ?_;rotate_left
      ·((try dsimp only at hJ);go_simp<;>with_reducible rfl)
      simp only[Act.put,jJ1,jJ2,jJ3];refine' jP 7 rfl rfl (by kernel_rfl) (fun _ _ _ h=>h) rfl H9 (fun w hJ=> ?_) ?_;rotate_left
      ·((try dsimp only at hJ);go_simp<;>with_reducible rfl)
      simp only[Act.put,jJ1,jJ2,jJ3];refine' jP 8 rfl rfl (by kernel_rfl) (fun _ _ _ h=>h) rfl H9 (fun w hJ=> ?_) ?_;rotate_left
      ·((try dsimp only at hJ);go_simp<;>with_reducible rfl)
      simp only[Act.put,jJ1,jJ2,jJ3];refine' jP 9 rfl rfl (by kernel_rfl) (fun _ _ _ h=>h) rfl H9 (fun w hJ=> ?_) ?_;rotate_left
      ·((try dsimp only at hJ);go_simp<;>with_reducible rfl)
      simp only[Act.put,jJ1,jJ2,jJ3];refine jU 10 rfl (by kernel_rfl) (fun K hK=> ?_);have cS:(wr.drew.setCell ⟨pb,q*3+2,none⟩ (.slice mA dl dl)).cell? ⟨I,35,none⟩=some (.slice (some ⟨pb,0,none⟩) k pC):=by
       rw[World.cell?_of_block (Below.heap_setCell _ _ _ _ (fun e=>HpI.out e.symm))];exact c35
      have hpo:pb=pb:=rfl;go_simp;refine hK.out _ _ cS (fun H9=> ?_);clear hK K;refine wpAnyH_done (by kernel_rfl) ?_ _;clear cS pc pz c35 hcut TB;go_wp2;go_roundw
      case rel=>exact⟨q+1,by go_num,by rw[Ir.out],by omega,by rw[<-HnA.out];exact Fl.out⟩
      case measure=>simp[intOf];omega
     ·obtain rfl:q=k:=(by omega);have Mh:=G (fun W (hR:Rr W g bs s)=>Jj W g bs s hR);unfold qX at AP;simp only at AP;go_wp2_with fail;refine(Mh.out _ HS.out.st.rr).mono ?_;clear Mh;generalize vi bs s=dn at*;rintro e w20 ⟨rfl,FN⟩;replace HS:=G (HS.out.old FN);clear FN;by_cases hd:dn=0
      case neg=>
       have hY:=G (show D=none by rw[AP.out,jJ5 (fun h=>hd h.1)]);have Po:(dn !=0)=true:=(by simpa using hd);clear hd;have hU:=G (HS.out.st.th zeroPieL rfl);have Ht:=G (HS.out.st.told zeroPieL rfl);go_wp2_with (first|((with_reducible refine jM 61 ?_);refine jX rfl 61 rfl _ (vv _) ?_)|((with_reducible refine jF 61 (.tmp 2) (.tmp 166) ?_);refine jQ1 rfl 61 (.tmp 2) (.tmp 166) rfl w.heap.size 0 zeroPieL.toArray rfl rfl hU.out jj (jR rfl) ?_)|fail);refine jD (g:=w.heap.size) (cs:=zeroPieL.toArray) rfl rfl Ht.out.box underlying61 rfl jj rfl ?_;exact .inr ⟨8,hY.out,by decide,rfl,Ht.out.old⟩
      subst hd;have Ax:=G (show(kJ wA 0 ps).length=q by rw[vI,MI.out]);have Mb:=G (show evs.length=(kJ wA 0 ps).length by rw[Wh.out,Ax.out]);have Ap:=G (show Rd w20 1 eA q (evs.map Part.sl)from by have h:=Rd.of_own HS.out.own.e;rw[Wh.out]at h;exact h);have T8:=G (show Rd w20 3 pA q ((kJ wA 0 ps).flatMap MWay.cells)from by
       have h:=Rd.of_own HS.out.own.p;have e:=jDu wA ps;rw[MI.out]at e h;rw[e]at h;exact h)
      have EE:=G HS.out.bef;have Cg:=G (QY w20 nm first before HS.out.bef (by have:=Hl.out;omega) eA pA eC pC (List.zipWith jAY evs (kJ wA 0 ps)) (jDR evs _ (fun p hp=>(HS.out.ev p hp).big) (fun p hp=>by
       obtain⟨i,hi,rfl⟩:=List.getElem_of_mem hp;rw[vI]at hi;rw[Jh wA ps 0 i hi];have:=(ME.out ps[i] (jL6 hi)).2.2;show ps[i].ds.length<=_;omega))
       (by rw[yO _ _ Mb.out,Xq _ _ Mb.out,Wh.out];exact Ap.out) (by rw[yO _ _ Mb.out,Xp _ _ Mb.out,Wh.out];exact T8.out) (by rw[yO _ _ Mb.out,Wh.out];omega))
      rw[yO _ _ Mb.out,Wh.out,<-ZK,Yk,KO]at Cg;have HD5:=G (show D=if yQ nm first before (List.zipWith ZN (evs.map Part.l) ps)=q then some ⟨nm,first,before,evs.map Part.l,ps⟩else none by
       rw[AP.out,jK7,Wh.out];simp)
      generalize yQ nm first before (List.zipWith ZN (evs.map Part.l) ps)=R at*
      have El:=G (show ZO nm first before eA evs.length eC pA ps.length pC=MPiece.cells ⟨nm,first,before,evs,eA,eC,kJ wA 0 ps,pA,pC⟩by rw[ZO,MPiece.cells,vI]);have HB:=G HS.out.blk;rw[El.out]at HB;have c0:=HB.out.at_ 0 (v:=.string nm) rfl;have c1:=HB.out.at_ 1 (v:=.int .i64 first) rfl;have Fn:=G ((MPiece.s2 ⟨nm,first,before,evs,eA,eC,kJ wA 0 ps,pA,pC⟩).range HB.out);have c34:w20.cell? ⟨I,34,none⟩=some (.slice eA q eC):=by rw[<-Wh.out];exact HB.out.at_ 34 (by rw[jJ7];exact MPiece.s34 EE.out)
      have c35:w20.cell? ⟨I,35,none⟩=some (.slice pA q pC):=by rw[<-Ax.out];exact HB.out.at_ 35 (by rw[jJ7];exact MPiece.s35 EE.out)
      have Fh:=G (show(prog.info? 40).map (·.size)=some (jA before).length by rw[jB,EE.out];exact jO);go_wp2_with (first|((with_reducible refine jT 40 (.tmp 156) ?_);refine jK rfl 40 (.tmp 156) rfl I 2 rfl (jA before) _ Fn.out underlying40 rfl Fh.out ?_)|fail);refine Cg.out.mono ?_;rintro e w21 ⟨rfl,FN⟩;replace HS:=G (HS.out.old FN);replace HB:=G (HB.out.old FN);replace Ap:=G (Ap.out.old FN);replace T8:=G (T8.out.old FN);clear FN c0 c1 c34 c35 Fn Cg;by_cases hR:R=q
      case neg=>
       have hY:=G (show D=none by rw[HD5.out,jJ5 hR]);have OU:((R:Int) !=(q:Int))=true:=by simp;omega
       clear hR;have hU:=G (HS.out.st.th zeroPieL rfl);have Ht:=G (HS.out.st.told zeroPieL rfl);go_wp2_with (first|((with_reducible refine jM 61 ?_);refine jX rfl 61 rfl _ (vv _) ?_)|((with_reducible refine jF 61 (.tmp 2) (.tmp 166) ?_);refine jQ1 rfl 61 (.tmp 2) (.tmp 166) rfl w.heap.size 0 zeroPieL.toArray rfl rfl hU.out jj (jR rfl) ?_)|fail);refine jD (g:=w.heap.size) (cs:=zeroPieL.toArray) rfl rfl Ht.out.box underlying61 rfl jj rfl ?_;exact .inr ⟨8,hY.out,by decide,rfl,Ht.out.old⟩
      have OU:((R:Int) !=(q:Int))=false:=by simp;omega
      have FT:=G (show D=some (MPiece.data ⟨nm,first,before,evs,eA,eC,kJ wA 0 ps,pA,pC⟩)by rw[HD5.out,jJ6 hR];simp only[MPiece.data,KO]);have Fi:=G (show(MPiece.cells ⟨nm,first,before,evs,eA,eC,kJ wA 0 ps,pA,pC⟩).length=36 from MPiece.len EE.out);have FD:=G (MPiece.one ⟨nm,first,before,evs,eA,eC,kJ wA 0 ps,pA,pC⟩);have HZ:=G (fun w' (ht:Told 61 (MPiece.cells ⟨nm,first,before,evs,eA,eC,kJ wA 0 ps,pA,pC⟩) w w21 w')=>show jJS w D (.returned (.tuple #[.agg (MPiece.cells ⟨nm,first,before,evs,eA,eC,kJ wA 0 ps,pA,pC⟩).toArray,.int .i64 0])) w' from by
       have hgI:=HS.out.lt;have hwg:=HS.out.st.lt;refine .inl ⟨⟨nm,first,before,evs,eA,eC,kJ wA 0 ps,pA,pC⟩,FT.out,rfl,⟨EE.out,fun p hp=>(HS.out.ev p hp).turn ht.kp (fun b _ e=>.inl (by omega)) (fun b _ e=>.inl (by omega)),?_,?_,fun p hp=> ?_,?_,?_,?_⟩,ht.old⟩
       ·show Rd w' 1 eA evs.length _;rw[Wh.out];exact Ap.out.told ht (fun _ ad e hx=>by have:=(jY HS.out.own.e (b:=ad.block) (by rw[e];rfl)).1;omega)
       ·exact fun _ ad e hx=>by have:=(jY HS.out.own.e (b:=ad.block) (by rw[show eA=some ad from e];rfl)).1;omega
       ·obtain⟨i,hi,rfl⟩:=List.getElem_of_mem hp;have PX:i<ps.length:=by rw[<-vI wA ps 0];exact hi
        show MWay.Ok _ _ ((kJ wA 0 ps)[i]);rw[Jh wA ps 0 i PX,Nat.zero_add];obtain⟨r1,r2⟩:=jH0 HS.out.own.w Mq.out i PX;exact⟨Mq.out _ (jL6 PX),r1.told ht (fun hn ad e hx=>r2 hn ad e (by omega)),fun hn ad e hx=>r2 hn ad e (by omega),by have:=(ME.out ps[i] (jL6 PX)).2.2;show ps[i].ds.length<=_;omega⟩
       ·show Rd w' 3 pA (kJ wA 0 ps).length _;rw[Ax.out];exact T8.out.told ht (fun _ ad e hx=>by have:=(jY HS.out.own.p (b:=ad.block) (by rw[e];rfl)).1;omega)
       ·exact fun _ ad e hx=>by have:=(jY HS.out.own.p (b:=ad.block) (by rw[show pA=some ad from e];rfl)).1;omega
       ·refine⟨?_,?_,Hl.out⟩
        ·show evs.length<=_;have:=Wh.out;omega
        ·show(kJ wA 0 ps).length<=_;have:=Ax.out;omega)
      generalize MPiece.cells ⟨nm,first,before,evs,eA,eC,kJ wA 0 ps,pA,pC⟩=mc at*;have MY:=G HB.out.range;have GV:=G (show(prog.info? 61).map (·.size)=some mc.length by rw[Fi.out];exact jj);have hU:=G (HS.out.st.th mc (by rw[Fi.out];rfl));have Ht:=G (HS.out.st.told mc (by rw[Fi.out];rfl));clear hR El;go_wp2_with (first|((with_reducible refine jT 61 (.tmp 6) ?_);refine jK rfl 61 (.tmp 6) rfl I 0 rfl mc _ MY.out underlying61 rfl GV.out ?_)|((with_reducible refine jF 61 (.tmp 2) (.tmp 167) ?_);refine jQ1 rfl 61 (.tmp 2) (.tmp 167) rfl w.heap.size 0 mc.toArray rfl rfl hU.out GV.out FD.out ?_)|fail);refine jD (g:=w.heap.size) (cs:=mc.toArray) rfl rfl Ht.out.box underlying61 rfl (by rw[jJ8];exact GV.out) rfl ?_;exact HZ.out _ Ht.out
 ·have hY:=G (show D=none by rw[HD.out];rfl);have HS:=G (Hb.out.old F0);have NP:=G (HO.out.old F0);have P4:(er !=0)=true:=(by simpa using FZ);have hU:=G (HS.out.there 0 36 (by decide));have Ht:=G (Blk.setWhole (cs:=zeroPieL) HS.out zeroPieL rfl);have FR:=G (show Old w (w1.setCells w.heap.size 0 zeroPieL)from NP.out.trans (Kp.setCells _ 0 _ _) (fun b hb e=>by omega));clear F0 LL Hb HO;go_wp2_with (first|((with_reducible refine jM 61 ?_);refine jX rfl 61 rfl _ (vv _) ?_)|((with_reducible refine jF 61 (.tmp 2) (.tmp 29) ?_);refine jQ1 rfl 61 (.tmp 2) (.tmp 29) rfl w.heap.size 0 zeroPieL.toArray rfl rfl hU.out jj (jR rfl) ?_)|fail);refine jD (g:=w.heap.size) (cs:=zeroPieL.toArray) rfl rfl Ht.out underlying61 rfl jj rfl ?_;exact .inr ⟨er,hY.out,FZ,rfl,FR.out⟩
def zeroPart:Part:=⟨none,[],0⟩
def zeroNoteM:MNote:=⟨zeroHd,[],none,0⟩
def zeroWayM:MWay:=⟨0,0,[],none,0⟩
def zeroPieM:MPiece:=⟨⟨#[]⟩,0,zD,[],none,0,[],none,0⟩
def zeroMR:MReply:=⟨0,0,0,0,0,[],none,0,zeroMC,zeroPart,0,zeroNoteM,zeroWayM,zeroWayM,zeroIdx,none,0,zeroPieM⟩
section
variable(w:World)(X:Nat->Prop)
theorem jCs:zeroMC.Ok w X:=⟨jy,fun v hv=>(by cases hv),Rd.none_,fun h=>absurd h (by simp[zeroMC]),JF w X,JF w X,JF w X,by decide,Kn,Kn⟩
theorem XW:zeroPart.Ok w X:=⟨Rd.none_,fun h=>absurd h (by simp[zeroPart]),by decide⟩
theorem XX:zeroNoteM.Ok w X:=⟨zeroHd_ok,Rd.none_,fun h=>absurd h (by simp[zeroNoteM]),by decide⟩
theorem xI:zeroWayM.Ok w X:=⟨fun d hd=>(by cases hd),Rd.none_,fun h=>absurd h (by simp[zeroWayM]),by decide⟩
theorem jA1:zeroPieM.Ok w X:=⟨jy,fun p hp=>(by cases hp),Rd.none_,fun h=>absurd h (by simp[zeroPieM]),fun p hp=>(by cases hp),Rd.none_,fun h=>absurd h (by simp[zeroPieM]),by decide,by decide,Kn⟩
theorem jI:zeroMR.Ok w X:=⟨Rd.none_,fun h=>absurd h (by simp[zeroMR]),⟨fun h hh=>(by cases hh),by decide⟩,jCs w X,XW w X,XX w X,by decide,xI w X,xI w X,vX,Rd.none_,fun h=>absurd h (by simp[zeroMR,zeroIdx]),jA1 w X⟩
end
section
variable{w:World}{P:Nat}{T:TypeId}{m:MReply}
abbrev pre6(m:MReply):List Value:=[.int .i64 m.err,.int .i64 m.pa,.int .i64 m.pb,.int .i64 m.pc,.int .i64 m.number,.slice m.hA m.hap.length m.hC]
theorem Blk.rCase(h:Blk w P T m.cells.toArray)(hl:m.case_.chain.length=32)(c:MCase)(hc:c.chain.length=32):Blk (w.setCells P 6 c.cells) P T (MReply.cells {m with case_:=c}).toArray:=by
 have:=Blk.setCells (pre:=pre6 m) (mid:=m.case_.cells) (post:=[m.raw.sl,.int .i64 m.size]++(m.note.cells++(m.inc.cells++(m.con.cells++(m.idx.cells m.iA m.iC++m.pie.cells))))) (by simpa [MReply.cells]using h) c.cells (by rw[MCase.len hl,MCase.len hc]);simpa [MReply.cells]using this
theorem Blk.rNote(h:Blk w P T m.cells.toArray)(hl:m.case_.chain.length=32)(hn:m.note.head.Ok)(c:MNote)(hc:c.head.Ok):Blk (w.setCells P 47 c.cells) P T (MReply.cells {m with note:=c}).toArray:=by
 have:=Blk.setCells (pre:=pre6 m++(m.case_.cells++[m.raw.sl,.int .i64 m.size])) (mid:=m.note.cells) (post:=m.inc.cells++(m.con.cells++(m.idx.cells m.iA m.iC++m.pie.cells))) (by simpa [MReply.cells]using h) c.cells (by rw[MNote.len hn,MNote.len hc]);have e:(pre6 m++(m.case_.cells++[m.raw.sl,.int .i64 m.size])).length=47:=by rw[jJ4,jJ4,MCase.len hl];rfl
 rw[e]at this;simpa [MReply.cells]using this
theorem Blk.rInc(h:Blk w P T m.cells.toArray)(hl:m.case_.chain.length=32)(hn:m.note.head.Ok)(c:MWay):Blk (w.setCells P 146 c.cells) P T (MReply.cells {m with inc:=c}).toArray:=by
 have:=Blk.setCells (pre:=pre6 m++(m.case_.cells++([m.raw.sl,.int .i64 m.size]++m.note.cells))) (mid:=m.inc.cells) (post:=m.con.cells++(m.idx.cells m.iA m.iC++m.pie.cells)) (by simpa [MReply.cells]using h) c.cells rfl;have e:(pre6 m++(m.case_.cells++([m.raw.sl,.int .i64 m.size]++m.note.cells))).length=146:=by simp only[jJ4,MCase.len hl,MNote.len hn];rfl
 rw[e]at this;simpa [MReply.cells]using this
theorem Blk.rCon(h:Blk w P T m.cells.toArray)(hl:m.case_.chain.length=32)(hn:m.note.head.Ok)(c:MWay):Blk (w.setCells P 149 c.cells) P T (MReply.cells {m with con:=c}).toArray:=by
 have:=Blk.setCells (pre:=pre6 m++(m.case_.cells++([m.raw.sl,.int .i64 m.size]++(m.note.cells++m.inc.cells)))) (mid:=m.con.cells) (post:=m.idx.cells m.iA m.iC++m.pie.cells) (by simpa [MReply.cells]using h) c.cells rfl;have e:(pre6 m++(m.case_.cells++([m.raw.sl,.int .i64 m.size]++(m.note.cells++m.inc.cells)))).length=149:=by simp only[jJ4,MCase.len hl,MNote.len hn];rfl
 rw[e]at this;simpa [MReply.cells]using this
theorem Blk.rIdx(h:Blk w P T m.cells.toArray)(hl:m.case_.chain.length=32)(hn:m.note.head.Ok)(hx:m.idx.Ok)(x:Idx)(A:OA)(c:Nat)(hc:x.Ok):Blk (w.setCells P 152 (x.cells A c)) P T (MReply.cells {m with idx:=x,iA:=A,iC:=c}).toArray:=by
 have:=Blk.setCells (pre:=pre6 m++(m.case_.cells++([m.raw.sl,.int .i64 m.size]++(m.note.cells++(m.inc.cells++m.con.cells))))) (mid:=m.idx.cells m.iA m.iC) (post:=m.pie.cells) (by simpa [MReply.cells]using h) (x.cells A c) (by rw[hx.len,hc.len]);have e:(pre6 m++(m.case_.cells++([m.raw.sl,.int .i64 m.size]++(m.note.cells++(m.inc.cells++m.con.cells))))).length=152:=by simp only[jJ4,MCase.len hl,MNote.len hn];rfl
 rw[e]at this;simpa [MReply.cells]using this
theorem Blk.rPie(h:Blk w P T m.cells.toArray)(hl:m.case_.chain.length=32)(hn:m.note.head.Ok)(hx:m.idx.Ok)(hp:m.pie.before.length=32)(c:MPiece)(hc:c.before.length=32):Blk (w.setCells P 220 c.cells) P T (MReply.cells {m with pie:=c}).toArray:=by
 have:=Blk.setCells (pre:=pre6 m++(m.case_.cells++([m.raw.sl,.int .i64 m.size]++(m.note.cells++(m.inc.cells++(m.con.cells++m.idx.cells m.iA m.iC)))))) (mid:=m.pie.cells) (post:=[]) (by simpa [MReply.cells]using h) c.cells (by rw[MPiece.len hp,MPiece.len hc]);have e:(pre6 m++(m.case_.cells++([m.raw.sl,.int .i64 m.size]++(m.note.cells++(m.inc.cells++(m.con.cells++m.idx.cells m.iA m.iC)))))).length=220:=by simp only[jJ4,MCase.len hl,MNote.len hn,hx.len];rfl
 rw[e]at this;simpa [MReply.cells]using this
theorem Blk.rRaw(h:Blk w P T m.cells.toArray)(hl:m.case_.chain.length=32)(p:Part):Blk (w.setCell ⟨P,45,none⟩ (.slice p.A p.l.length p.c)) P T (MReply.cells {m with raw:=p}).toArray:=by
 have:=Blk.setCells (pre:=pre6 m++m.case_.cells) (mid:=[m.raw.sl]) (post:=[.int .i64 m.size]++(m.note.cells++(m.inc.cells++(m.con.cells++(m.idx.cells m.iA m.iC++m.pie.cells))))) (by simpa [MReply.cells]using h) [p.sl] rfl;have e:(pre6 m++m.case_.cells).length=45:=by rw[jJ4,MCase.len hl];rfl
 rw[e]at this;have e2:w.setCells P 45 [p.sl]=w.setCell ⟨P,45,none⟩ (.slice p.A p.l.length p.c):=rfl;rw[e2]at this;simpa [MReply.cells]using this
theorem Blk.rSize(h:Blk w P T m.cells.toArray)(hl:m.case_.chain.length=32)(n:Int):Blk (w.setCell ⟨P,46,none⟩ (.int .i64 n)) P T (MReply.cells {m with size:=n}).toArray:=by
 have:=Blk.setCells (pre:=pre6 m++(m.case_.cells++[m.raw.sl])) (mid:=[.int .i64 m.size]) (post:=m.note.cells++(m.inc.cells++(m.con.cells++(m.idx.cells m.iA m.iC++m.pie.cells)))) (by simpa [MReply.cells]using h) [.int .i64 n] rfl;have e:(pre6 m++(m.case_.cells++[m.raw.sl])).length=46:=by rw[jJ4,jJ4,MCase.len hl];rfl
 rw[e]at this;have e2:w.setCells P 46 [.int .i64 n]=w.setCell ⟨P,46,none⟩ (.int .i64 n):=rfl;rw[e2]at this;simpa [MReply.cells]using this
theorem Blk.rNum(h:Blk w P T m.cells.toArray)(n:Int):Blk (w.setCell ⟨P,4,none⟩ (.int .i64 n)) P T (MReply.cells {m with number:=n}).toArray:=h.set_ 4 _
theorem Blk.rHap(h:Blk w P T m.cells.toArray)(l:List MHap)(A:OA)(c:Nat):Blk (w.setCell ⟨P,5,none⟩ (.slice A l.length c)) P T (MReply.cells {m with hap:=l,hA:=A,hC:=c}).toArray:=h.set_ 5 _
theorem Blk.rPlace(h:Blk w P T m.cells.toArray)(a b c:Int):Blk (w.setCells P 1 [.int .i64 a,.int .i64 b,.int .i64 c]) P T (MReply.cells {m with pa:=a,pb:=b,pc:=c}).toArray:=by
 have:=Blk.setCells (pre:=[.int .i64 m.err]) (mid:=[.int .i64 m.pa,.int .i64 m.pb,.int .i64 m.pc]) (post:=[.int .i64 m.number,.slice m.hA m.hap.length m.hC]++(m.case_.cells++([m.raw.sl,.int .i64 m.size]++(m.note.cells++(m.inc.cells++(m.con.cells++(m.idx.cells m.iA m.iC++m.pie.cells))))))) (by simpa [MReply.cells]using h) [.int .i64 a,.int .i64 b,.int .i64 c] rfl;simpa [MReply.cells]using this
end
def zeroRep:Rep:=zeroMR.data
def jv(bs:LB)(s:Rs):LB×Rs:=vE bs ((bs.length-s.at_:Nat):Int) s
def vW(bs:LB):Nat->Rs->List MHap->List MHap×Rs
 |0,s,acc=>(acc,s)
 |n+1,s,acc=>vW bs n (js bs (tkN bs 1 s).2).2 (acc++[⟨(tkN bs 1 s).1,(js bs (tkN bs 1 s).2).1⟩])
def KZ(bs:LB)(s:Rs):Rep×Rs:=({zeroRep with number:=(yp bs s).1,hap:=(vW bs (tkN bs 2 (yp bs s).2).1 (tkN bs 2 (yp bs s).2).2 []).1},(vW bs (tkN bs 2 (yp bs s).2).1 (tkN bs 2 (yp bs s).2).2 []).2)
def zw(bs:LB)(op:Nat)(s:Rs):Option (Rep×Rs):=
 if op=1\/op=2 then some (KZ bs s)
 else if op=3 then some ({zeroRep with case_:=(Jy bs s).1},(Jy bs s).2)
 else if op=4 then some ({zeroRep with raw:=(jv bs s).1},(jv bs s).2)
 else if op=5 then some ({zeroRep with size:=(yp bs s).1},(yp bs s).2)
 else if op=6 then(jn (jv bs s).1).map fun x=>({zeroRep with head:=x.1,signs:=x.2},(jv bs s).2)
 else if op=7 then if(jw bs s).1=true then(jn (jv bs (jw bs s).2).1).map fun x=>({zeroRep with head:=x.1,signs:=x.2},(jv bs (jw bs s).2).2)else some (zeroRep,(jw bs s).2)
 else if op=8 then(ve (jv bs s).1).map fun x=>({zeroRep with inc:=x},(jv bs s).2)
 else if op=9 then(vf (jv bs s).1).map fun x=>({zeroRep with con:=x},(jv bs s).2)
 else if op=10 then(kr (jv bs s).1).map fun x=>({zeroRep with idx:=x},(jv bs s).2)
 else if op=11 then(kX (jv bs s).1).map fun x=>({zeroRep with pie:=x},(jv bs s).2)
 else some (zeroRep,s)
def xH(w:World)(g P:Nat)(bs:LB)(o:Option (Rep×Rs))(e:Ending)(w' :World):Prop:=
 ((∃(m:MReply) (s:Rs),o=some (m.data,s)/\e=.returned (.int .i64 0)/\Blk w' P 63 m.cells.toArray/\m.Ok w' (fun k=>k<w.heap.size)/\Rr w' g bs s)\/(∃er:Int,o=none/\er≠0/\e=.returned (.int .i64 er)))/\Kp (fun k=>k=g\/k=P) w w'
end Go.Proofs.YtnaolhjbapgjgaaGreat

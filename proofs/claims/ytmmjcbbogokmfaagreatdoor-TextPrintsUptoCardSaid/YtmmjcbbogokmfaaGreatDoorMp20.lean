import Derived.Test.YtmmjcbbogokmfaaGreatDoorMp13
import Derived.Test.YtmmjcbbogokmfaaGreatDoorMp19
set_option maxRecDepth 100000
set_option maxHeartbeats 25600000
namespace Go.Proofs.YtmmjcbbogokmfaaGreatDoor
open Go.Proofs.Tryz
open Go.RowKit
def wrC(t:Tre)(s:Sl)(u:Nat)(ok:Bool)(B:OA)(n bc:Nat):List Value:=jF t s++[Value.int .i64 (u:Int),Value.bool ok,Value.slice B n bc]
structure Rw9(w:World)(t:Tre)(s:Sl)(st:Wr9)(B:OA)(bc:Nat)(W:World):Prop where
 box:Blk W w.heap.size 139 (wrC t s st.used st.ok B st.b.length bc).toArray
 own:W.ownsRow w.heap.size 5 1 (.slice B st.b.length bc) st.b.length (st.b.map bv)
 kp:Kp (Jo w.heap.size) w W
structure FrW(W W' :World):Prop where
 size:W.heap.size<=W'.heap.size
 blk:∀(q:Nat) (T:TypeId) (cs:Array Value),T≠139->T≠5->Blk W q T cs->Blk W' q T cs
theorem FrW.refl(W:World):FrW W W:=⟨jL3 _,fun _ _ _ _ _ h=>h⟩
theorem FrW.trans{W W1 W2:World}(h:FrW W W1)(k:FrW W1 W2):FrW W W2:=⟨jL4 h.size k.size,fun q T cs a b h1=>k.blk q T cs a b (h.blk q T cs a b h1)⟩
theorem FrW.of_old{W W1:World}(h:Old W W1):FrW W W1:=⟨h.size,fun _ _ _ _ _ h1=>h1.old h⟩
def WrR(w:World)(t:Tre)(s:Sl)(st:Wr9)(W:World)(e:Ending)(W' :World):Prop:=e=.returned (.tuple #[])/\∃B bc,Rw9 w t s st B bc W' /\FrW W W'
theorem WrR.of{w W W1 W' :World}{t:Tre}{s:Sl}{st:Wr9}{e:Ending}(f:FrW W W1)(h:WrR w t s st W1 e W'):WrR w t s st W e W' :=⟨h.1,h.2.elim fun B h2=>h2.elim fun bc h3=>⟨B,bc,h3.1,f.trans h3.2⟩⟩
section
variable{w W W1 W2:World}{t:Tre}{s:Sl}{st:Wr9}{B:OA}{bc:Nat}
theorem Rw9.old(h:Rw9 w t s st B bc W)(ho:Old W W1):Rw9 w t s st B bc W1:=⟨h.box.old ho,jV h.own ho (fun _ _ e=>e),h.kp.old ho⟩
theorem Rw9.drewN(h:Rw9 w t s st B bc W)(n:Nat):Rw9 w t s st B bc (W.drewN n):=h.old ((jQ0 _ _).drewN n)
theorem Rw9.c6(h:Rw9 w t s st B bc W):W.cell? ⟨w.heap.size,6,none⟩=some (.slice s.nA t.nodes.length s.nc):=h.box.at_ 6 rfl
theorem Rw9.c8(h:Rw9 w t s st B bc W):W.cell? ⟨w.heap.size,8,none⟩=some (.int .i64 (st.used:Int)):=h.box.at_ 8 rfl
theorem Rw9.c9(h:Rw9 w t s st B bc W):W.cell? ⟨w.heap.size,9,none⟩=some (.bool st.ok):=h.box.at_ 9 rfl
theorem Rw9.c10(h:Rw9 w t s st B bc W):W.cell? ⟨w.heap.size,10,none⟩=some (.slice B st.b.length bc):=h.box.at_ 10 rfl
theorem Rw9.z(h:Rw9 w t s st B bc W)(i:Nat):W.frozen? ⟨w.heap.size,i,none⟩=false:=h.box.frozen i
theorem Rw9.cellw(h:Rw9 w t s st B bc W){p:Addr}{u:Value}(hc:w.cell? p=some u):W.cell? p=some u:=by
 have hb:=je hc;rw[World.cell?_of_block (h.kp.block p.block hb (fun e:w.heap.size<=p.block=>by omega))];exact hc
theorem Rw9.rdw(h:Rw9 w t s st B bc W){z n:Nat}{A:OA}{xs:List Value}(hz:0<z)(hr:Rd w z A n xs):Rd W z A n xs:=hr.kp h.kp (fun hn ad ea hx=>by have:=hr.lt hz hn ea;have hx:w.heap.size<=ad.block:=hx;omega)
theorem Rw9.setBox(h:Rw9 w t s st B bc W){st' :Wr9}(hb:st'.b=st.b)(i:Nat)(v:Value)(he:(wrC t s st.used st.ok B st.b.length bc).set i v=wrC t s st'.used st'.ok B st.b.length bc):Rw9 w t s st' B bc (W.setCell ⟨w.heap.size,i,none⟩ v)/\FrW W (W.setCell ⟨w.heap.size,i,none⟩ v):=by
 have GO:Kp (fun k=>k=w.heap.size) W (W.setCell ⟨w.heap.size,i,none⟩ v):=(jQ0 (fun k=>k=w.heap.size) W).setCell (p:=⟨w.heap.size,i,none⟩) (fun _=>rfl) _;have Nm:=Blk.set_ h.box i v;rw[jJ1,he]at Nm;rw[<-hb]at Nm;refine⟨⟨Nm,?_,h.kp.trans GO (fun b hb e=> ?_)⟩,⟨GO.size,fun q T cs h1 h2 hq=>hq.kp GO (fun e=>Blk.ne_ hq h.box h1 e)⟩⟩
 ·rw[hb];exact jV h.own GO (fun k e e2=>jY h.own h.box (by decide) (by rw[e];exact congrArg some e2))
 ·show w.heap.size<=b;have:b=w.heap.size:=e;omega
theorem Rw9.setBad(h:Rw9 w t s st B bc W):Rw9 w t s st.bad B bc (W.setCell ⟨w.heap.size,9,none⟩ (.bool false))/\FrW W (W.setCell ⟨w.heap.size,9,none⟩ (.bool false)):=h.setBox (st' :=st.bad) rfl 9 _ rfl
theorem Rw9.setUsed(h:Rw9 w t s st B bc W)(n:Nat):Rw9 w t s ⟨st.ok,n,st.b⟩ B bc (W.setCell ⟨w.heap.size,8,none⟩ (.int .i64 (n:Int)))/\FrW W (W.setCell ⟨w.heap.size,8,none⟩ (.int .i64 (n:Int))):=h.setBox (st' :=⟨st.ok,n,st.b⟩) rfl 8 _ rfl
theorem Rw9.grow(h:Rw9 w t s st B bc W)(ho:Old W W1){B' :OA}{c' :Nat}{l' :LB}(hg:W1.grownBy W2 (B.map (·.block)))(Hi:W2.ownsRow w.heap.size 5 1 (.slice B' l'.length c') l'.length (l'.map bv)):
  Blk W2 w.heap.size 139 (wrC t s st.used st.ok B st.b.length bc).toArray/\Rw9 w t s ⟨st.ok,st.used,l'⟩ B' c' (W2.setCell ⟨w.heap.size,10,none⟩ (.slice B' l'.length c'))/\FrW W (W2.setCell ⟨w.heap.size,10,none⟩ (.slice B' l'.length c')):=by
 have Fh:B.map (·.block)≠some w.heap.size:=by rw[<-jC];exact jY h.own h.box (by decide)
 have hU:Kp (fun b=>B.map (·.block)=some b) W W2:=Kp.grown (ho.mono (fun _ _ e=>e.elim)) hg (fun _ e _=>e);have Fj:=h.box.kp hU Fh;have GO:Kp (fun k=>k=w.heap.size) W2 (W2.setCell ⟨w.heap.size,10,none⟩ (.slice B' l'.length c')):=(jQ0 (fun k=>k=w.heap.size) W2).setCell (p:=⟨w.heap.size,10,none⟩) (fun _=>rfl) _;have Nm:=(Blk.set_ Fj 10 (.slice B' l'.length c'));rw[jJ1]at Nm;refine⟨Fj,⟨Nm,jV Hi GO (fun k e e2=>jY Hi Fj (by decide) (by rw[e];exact congrArg some e2)),(h.kp.trans hU (fun b hb e=> ?_)).trans GO (fun b hb e=> ?_)⟩,⟨jL4 hU.size GO.size,fun q T cs h1 h2 hq=> ?_⟩⟩
 ·exact(JL h.own e).1
 ·show w.heap.size<=b;have:b=w.heap.size:=e;omega
 ·have Wo:Blk W2 q T cs:=hq.kp hU (fun e=>jY h.own hq (fun e2=>h2 e2.symm) (by rw[jC];exact e));exact Wo.kp GO (fun e=>Blk.ne_ Wo Fj h1 e)
end
theorem jc(w W:World)(t:Tre)(s:Sl)(st:Wr9)(B:OA)(bc:Nat)(h:Rw9 w t s st B bc W)(x:BA)(hl:(st.put (sb x)).b.length<=jN):
  Calls prog 55 #[.pointer (some ⟨w.heap.size,0,none⟩),.string x] W (WrR w t s (st.put (sb x)) W):=by
 obtain⟨i0,hi,Fm,Fi,Fl⟩:=info_parts VN;obtain⟨ok,used,l1⟩:=st;have Hp:=G h;have hlen:(jI l1 (sb x)).length<=jN:=hl;have FW:=h.z 10;have Fk:w.heap.size<=W.heap.size:=h.kp.size;unfold jN at hlen;clear hl;show Calls prog 55 #[.pointer (some ⟨w.heap.size,0,none⟩),.string x] W (WrR w t s ⟨ok,used,jI l1 (sb x)⟩ W);rcases List.eq_nil_or_concat l1 with rfl|⟨l2,z,rfl⟩
 ·have L7:jI [] (sb x)=sb x:=by unfold jI;rw[jJ6 (.inl rfl)];rfl
  rw[L7]at hlen⊢;have GA:=G (show 0+x.size<=maxLen by rw[jB]at hlen;unfold maxLen;omega);have GH:=G (show 0+x.size<=140737488355328 by rw[jB]at hlen;omega);have FR:W.cell? ⟨w.heap.size,10,none⟩=some (.slice B 0 bc):=h.c10;have Wz:=G (show W.ownsRow w.heap.size 5 1 (.slice B 0 bc) 0 []from h.own);clear h L7 hlen;go_enter func55,ntmps55;go_wp2_with fail;go_quiet (fail);have Hd:=G (Hp.out.drewN nq);have Fd:=G (FrW.of_old ((jQ0 NoX W).drewN nq));clear FR FW Wz Fk Hp;generalize W.drewN nq=Wd at*;have FR:Wd.cell? ⟨w.heap.size,10,none⟩=some (.slice B 0 bc):=Hd.out.c10;have FW:=Hd.out.z 10;have Fk:w.heap.size<=Wd.heap.size:=Hd.out.kp.size;have Wz:=G (show Wd.ownsRow w.heap.size 5 1 (.slice B 0 bc) 0 []from Hd.out.own);go_wp2_with (first|(at_builtin;refine jh _ rfl (.tmp 38) (.tmp 39) 33 9 rfl w.heap.size 5 i0 underlying33 underlying9 hi Fm Fi Fl (.slice B 0 bc) 0 [] rfl Wz.out x rfl GA.out GH.out Fk ?_;intro B2 c2 w2 Hi hgrow Fc;rw[jC]at hgrow;rw[Nat.zero_add,jN8,<-jB]at Hi;have HG:=Hd.out.grow (jQ0 NoX _) hgrow Hi;have FR:=HG.1.at_ 10 (v:=.slice B 0 bc) rfl;have FW:=HG.1.frozen 10;have HN:=G HG.2;clear Hi hgrow Fc HG)|fail);go_end0;rw[jB]at HN;exact⟨rfl,B2,c2,HN.out.1,Fd.out.trans HN.out.2⟩
 ·rw[List.concat_eq_append]at h Hp hlen⊢;have Gy:(l2++[z]).length=l2.length+1:=by rw[jJ4];rfl
  have Lj:W.cell? ⟨w.heap.size,10,none⟩=some (.slice B (l2++[z]).length bc):=h.c10;have N5:W.ownsRow w.heap.size 5 1 (.slice B (l2++[z]).length bc) (l2++[z]).length ((l2++[z]).map bv):=h.own;rw[Gy]at Lj N5;obtain⟨b,o,u,hB,hu,SZ⟩:=(Rd.of_own N5).at_ (k:=l2.length) (Nat.lt_succ_self _);have G9:bv z=u:=by
   rw[jM1,List.getElem?_append_right (jL3 _),Nat.sub_self]at hu;injection hu
  subst G9;subst hB;unfold bv at SZ;have Wz:=G N5;have L7:=qi l2 z (sb x);have Mj:l2.length+1<=10000000000000:=by have:=(jG (l2++[z]) (sb x)).1;rw[Gy]at this;omega
  rw[L7]at hlen⊢;obtain⟨g1,g2,g3,g4,g5⟩:=qH l2.length Mj;clear h L7 N5 hu;have Wk:(l2++[z]).length+x.size<=10000000000000/\(¬z.toNat=10->(l2++[z]).length+1+x.size<=10000000000000):=qh l2 z x hlen;rw[Gy]at Wk;clear hlen;by_cases GK:z.toNat=10
  ·rw[jJ6 GK];generalize hlz:l2++[z]++sb x=lz;have Dx:=G hlz;clear hlz;have e10:((z.toNat:Int) !=10)=false:=by rw[GK];rfl
   have GA:=G (show l2.length+1+x.size<=maxLen from jL4 Wk.1 Kw);have GH:=G (show l2.length+1+x.size<=140737488355328 from jL4 Wk.1 ZF);have NF:=G (show l2.length+1+x.size=((l2++[z])++sb x).length by simp only[jJ4,List.length_singleton,jB]);have LF:=G Gy;clear GK Wk Gy;have f1:decide ((0:Int)<(l2.length:Int)+1)=true:=jK5 g1;go_enter func55,ntmps55;go_wp2_with fail;go_quiet (fail);have Hd:=G (Hp.out.drewN nq);have Fd:=G (FrW.of_old ((jQ0 NoX W).drewN nq));clear Lj SZ FW Wz Fk Hp;generalize W.drewN nq=Wd at*;have FR:Wd.cell? ⟨w.heap.size,10,none⟩=some (.slice (some ⟨b,o,none⟩) (l2++[z]).length bc):=Hd.out.c10;have FW:=Hd.out.z 10;have Fk:w.heap.size<=Wd.heap.size:=Hd.out.kp.size;have Wz:=G (show Wd.ownsRow w.heap.size 5 1 (.slice (some ⟨b,o,none⟩) (l2++[z]).length bc) (l2++[z]).length ((l2++[z]).map bv)from Hd.out.own);rw[LF.out]at FR Wz;go_wp2_with (first|(at_builtin;refine jh _ rfl (.tmp 38) (.tmp 39) 33 9 rfl w.heap.size 5 i0 underlying33 underlying9 hi Fm Fi Fl (.slice (some ⟨b,o,none⟩) (l2.length+1) bc) (l2.length+1) ((l2++[z]).map bv) rfl Wz.out x rfl GA.out GH.out Fk ?_;intro B2 c2 w2 Hi hgrow Fc;rw[jC]at hgrow;rw[<-jN3,NF.out]at Hi;have HG:=Hd.out.grow (jQ0 NoX _) hgrow Hi;have FR:=HG.1.at_ 10 (v:=.slice (some ⟨b,o,none⟩) (l2++[z]).length bc) rfl;rw[LF.out]at FR;have FW:=HG.1.frozen 10;have HN:=G HG.2;clear Hi hgrow Fc HG)|fail);go_end0;rw[<-NF.out]at HN;rw[<-Dx.out];exact⟨rfl,B2,c2,HN.out.1,Fd.out.trans HN.out.2⟩
  ·rw[jJ5 GK];generalize hlz:l2++[z]++[32]++sb x=lz;have Dx:=G hlz;clear hlz;have FM:=Wk.2 GK;have e10:((z.toNat:Int) !=10)=true:=xg GK;have J63:=G (show l2.length+1+1<=maxLen from jL4 (jL4 (Nat.le_add_right _ _) FM) Kw);have J47:=G (show(l2.length+1+1)*1<=140737488355328 from by rw[Nat.mul_one];exact jL4 (jL4 (Nat.le_add_right _ _) FM) ZF);have GA:=G (show l2.length+1+1+x.size<=maxLen from jL4 FM Kw);have GH:=G (show l2.length+1+1+x.size<=140737488355328 from jL4 FM ZF);have GV:=G (show l2.length+1+1=((l2++[z])++[32]).length by simp only[jJ4,List.length_singleton]);have NF:=G (show l2.length+1+1+x.size=(((l2++[z])++[32])++sb x).length by simp only[jJ4,List.length_singleton,jB]);have LF:=G Gy;clear GK Wk Gy;have f1:decide ((0:Int)<(l2.length:Int)+1)=true:=jK5 g1;go_enter func55,ntmps55;go_wp2_with fail;go_quiet (fail);have Hd:=G (Hp.out.drewN nq);have Fd:=G (FrW.of_old ((jQ0 NoX W).drewN nq));clear Lj SZ FW Wz Fk Hp;generalize W.drewN nq=Wd at*;have FR:Wd.cell? ⟨w.heap.size,10,none⟩=some (.slice (some ⟨b,o,none⟩) (l2++[z]).length bc):=Hd.out.c10;have FW:=Hd.out.z 10;have Fk:w.heap.size<=Wd.heap.size:=Hd.out.kp.size;have Wz:=G (show Wd.ownsRow w.heap.size 5 1 (.slice (some ⟨b,o,none⟩) (l2++[z]).length bc) (l2++[z]).length ((l2++[z]).map bv)from Hd.out.own);rw[LF.out]at FR Wz;go_wp2_with (first|(at_builtin;refine jh _ rfl (.tmp 38) (.tmp 39) 33 9 rfl w.heap.size 5 i0 underlying33 underlying9 hi Fm Fi Fl (.slice B2 (l2.length+1+1) c2) (l2.length+1+1) (((l2++[z])++[32]).map bv) rfl MG.out x rfl GA.out GH.out Fj ?_;intro B3 c3 w3 Hi hgrow Fc;rw[jC]at hgrow;rw[<-jN3,NF.out]at Hi;have HG:=NC.out.1.grow (jQ0 NoX _) hgrow Hi;have FR:=HG.1.at_ 10 (v:=.slice B2 ((l2++[z])++[32]).length c2) rfl;rw[<-GV.out]at FR;have FW:=HG.1.frozen 10;have GL:=G HG.2;clear Hi hgrow Fc HG)|(at_builtin;refine jE _ rfl (.tmp 29) (.tmp 30) 33 rfl w.heap.size 5 i0 (.int .u8 0) 1 1 underlying33 hi Fm Fi Fl rfl (by decide) (.slice (some ⟨b,o,none⟩) (l2.length+1) bc) (l2.length+1) ((l2++[z]).map bv) rfl (jV Wz.out ((jQ0 NoX _).alloc _) (fun _ _ e=>e)) _ 1 1 [bv 32] rfl (Rd.one_new _ _ _) (ji _ rfl) J63.out J47.out (jL4 Fk ((jQ0 NoX _).alloc _).size) ?_;intro B2 c2 w2 Hi hgrow Fc;rw[jC]at hgrow;rw[show(l2++[z]).map bv++[bv 32]=((l2++[z])++[32]).map bv by rw[jN3 (l₂:=[32])];rfl,GV.out]at Hi;have HG:=Hd.out.grow ((jQ0 NoX _).alloc _) hgrow Hi;have FR:=HG.1.at_ 10 (v:=.slice (some ⟨b,o,none⟩) (l2++[z]).length bc) rfl;rw[LF.out]at FR;have FW:=HG.1.frozen 10;have NC:=G HG.2;clear Hi hgrow Fc HG;rw[<-GV.out]at NC;have d10:=NC.out.1.c10;simp only at d10;rw[<-GV.out]at d10;have y10:=NC.out.1.z 10;have MG:=G NC.out.1.own;simp only at MG;rw[<-GV.out]at MG;have Fj:=NC.out.1.kp.size)|fail);go_end0;rw[<-NF.out]at GL;rw[<-Dx.out];exact⟨rfl,B3,c3,GL.out.1,(Fd.out.trans NC.out.2).trans GL.out.2⟩
def opsL:List Int:=[7,8,9,10,11,12,13,14,15,16,17,18,19,20,21,22,24,25,26,27,28,29,30,31,32,33]
def wordsL9:List LB:=[[45],[110,111,116],[97,110,100],[111,114],[61],[33,61],[60],[60,61],[62],[62,61],[105,110],[43],[45],[42],[47],[37],[104,97,115],[111,112,101,110],[114,101,97,99,104,101,100],[115,105,122,101],[106,111,105,110],[99,108,111,99,107],[115,116,101,112,115],[109,105,110],[109,97,120],[100,101,102,97,117,108,116]]
theorem Qw:wordsL9=opsL.map jA:=by decide+kernel
theorem jHm{op:Int}(h:7<=op/\op<=33/\op≠23):op∈opsL:=by
 obtain⟨n,rfl⟩:∃n:Nat,op=(n:Int):=⟨op.toNat,by omega⟩;have key:∀k:Fin 34,7<=(k.val:Int)/\(k.val:Int)<=33/\(k.val:Int)≠23->(k.val:Int)∈opsL:=(by decide+kernel);exact key ⟨n,by omega⟩ h
theorem QN(T:TypeId)(zc:Array Value)(cs:List Value)(hl:zc.size=cs.length)(W:World)(g:Nat)(hg:W.heap.size=g):
  (W.alloc (.cells zc T)).there g 0 cs.toArray.size/\Blk ((W.alloc (.cells zc T)).setCells g 0 cs.toArray.toList) g T cs.toArray/\Old W ((W.alloc (.cells zc T)).setCells g 0 cs.toArray.toList)/\((W.alloc (.cells zc T)).setCells g 0 cs.toArray.toList).heap.size=g+1:=by
 subst hg;have hb:=jQ2 W T zc;refine⟨hb.there 0 _ (by rw[jJ8];omega),Blk.setWhole (cs:=zc.toList) (by simpa using hb) cs (by simpa using hl),?_,?_⟩
 ·exact((jQ0 NoX W).alloc _).trans (Kp.setCells _ _ _ _) (fun b hb e=>by omega)
 ·rw[List.toList_toArray,<-ZZ];have h1:=(Kp.setL W.heap.size cs (W.alloc (.cells zc T)) 0).size;have h2:∀(vs:List Value) (w:World) (i:Nat),(XD w W.heap.size i vs).heap.size=w.heap.size:=fun vs=>by
   induction vs with
   |nil=>exact fun _ _=>rfl
   |cons v vs ih=>intro w i;exact(ih _ _).trans (by simp[World.setCell])
  rw[h2];simp
def opsV:List Value:=opsL.map iv
def wordsV:List Value:=wordsL9.map fun x=>Value.string ⟨x.toArray⟩
theorem Qx:∀j,(hj:j<opsL.length)->wordsV[j]? =some (.string ⟨(jA opsL[j]).toArray⟩):=fun j hj=>by
 unfold wordsV;rw[Qw,jM1,jM1,jJ9 hj];rfl
theorem zB(w:World)(op:Int)(h:7<=op/\op<=33/\op≠23):Calls prog 195 #[.int .i64 op] w fun e w' =>e=.returned (.string ⟨(jA op).toArray⟩)/\Old w w' :=by
 have HI:=G (jHm h);obtain⟨xs,WD⟩:∃xs,xs=opsV:=⟨_,rfl⟩;obtain⟨ys,RY⟩:∃ys,ys=wordsV:=⟨_,rfl⟩;have N1:=G (QN 270 #[.int .i64 0,.int .i64 0,.int .i64 0,.int .i64 0,.int .i64 0,.int .i64 0,.int .i64 0,.int .i64 0,.int .i64 0,.int .i64 0,.int .i64 0,.int .i64 0,.int .i64 0,.int .i64 0,.int .i64 0,.int .i64 0,.int .i64 0,.int .i64 0,.int .i64 0,.int .i64 0,.int .i64 0,.int .i64 0,.int .i64 0,.int .i64 0,.int .i64 0,.int .i64 0] xs (by rw[WD];rfl) w w.heap.size rfl);have N2:=G (fun(W:World) (h:W.heap.size=w.heap.size+1)=>QN 271 #[.string ⟨#[]⟩,.string ⟨#[]⟩,.string ⟨#[]⟩,.string ⟨#[]⟩,.string ⟨#[]⟩,.string ⟨#[]⟩,.string ⟨#[]⟩,.string ⟨#[]⟩,.string ⟨#[]⟩,.string ⟨#[]⟩,.string ⟨#[]⟩,.string ⟨#[]⟩,.string ⟨#[]⟩,.string ⟨#[]⟩,.string ⟨#[]⟩,.string ⟨#[]⟩,.string ⟨#[]⟩,.string ⟨#[]⟩,.string ⟨#[]⟩,.string ⟨#[]⟩,.string ⟨#[]⟩,.string ⟨#[]⟩,.string ⟨#[]⟩,.string ⟨#[]⟩,.string ⟨#[]⟩,.string ⟨#[]⟩] ys (by rw[RY];rfl) W (w.heap.size+1) h);have S1:=G (show(prog.info? 270).map (·.size)=some xs.toArray.size by rw[WD];rfl);have S2:=G (show(prog.info? 271).map (·.size)=some ys.toArray.size by rw[RY];rfl);have E1:=G (show xs.toArray.all (·.oneCell')=true by rw[WD];decide+kernel);have E2:=G (show ys.toArray.all (·.oneCell')=true by rw[RY];decide+kernel);have e1:(#[.int .i64 7,.int .i64 8,.int .i64 9,.int .i64 10,.int .i64 11,.int .i64 12,.int .i64 13,.int .i64 14,.int .i64 15,.int .i64 16,.int .i64 17,.int .i64 18,.int .i64 19,.int .i64 20,.int .i64 21,.int .i64 22,.int .i64 24,.int .i64 25,.int .i64 26,.int .i64 27,.int .i64 28,.int .i64 29,.int .i64 30,.int .i64 31,.int .i64 32,.int .i64 33]:Array Value)=xs.toArray:=by rw[WD];rfl
 have e2:(#[.string ⟨#[45]⟩,.string ⟨#[110,111,116]⟩,.string ⟨#[97,110,100]⟩,.string ⟨#[111,114]⟩,.string ⟨#[61]⟩,.string ⟨#[33,61]⟩,.string ⟨#[60]⟩,.string ⟨#[60,61]⟩,.string ⟨#[62]⟩,.string ⟨#[62,61]⟩,.string ⟨#[105,110]⟩,.string ⟨#[43]⟩,.string ⟨#[45]⟩,.string ⟨#[42]⟩,.string ⟨#[47]⟩,.string ⟨#[37]⟩,.string ⟨#[104,97,115]⟩,.string ⟨#[111,112,101,110]⟩,.string ⟨#[114,101,97,99,104,101,100]⟩,.string ⟨#[115,105,122,101]⟩,.string ⟨#[106,111,105,110]⟩,.string ⟨#[99,108,111,99,107]⟩,.string ⟨#[115,116,101,112,115]⟩,.string ⟨#[109,105,110]⟩,.string ⟨#[109,97,120]⟩,.string ⟨#[100,101,102,97,117,108,116]⟩]:Array Value)=ys.toArray:=by rw[RY];rfl
 have X1:=G e1;have X2:=G e2;have HX:=G WD;have HY:=G RY;clear h WD RY e1 e2;go_enter func195,ntmps195;go_upto_region 1 with fail;apply wp_region_lit;refine wpList_plain rfl (fun K hK=> ?_);go_simp;rw[X1.out];refine hK _ _ ?_;clear hK K X1;go_upto_region 2 with(first|((with_reducible refine vC 270 (.tmp 3) (.tmp 6) ?_);refine jQ1 rfl 270 (.tmp 3) (.tmp 6) rfl w.heap.size 0 xs.toArray rfl rfl N1.out.1 S1.out E1.out ?_)|fail);have C6:=G N1.out.2.1;have G8:=G N1.out.2.2.1;have Nf:=N1.out.2.2.2;clear N1;generalize (w.alloc (.cells #[.int .i64 0,.int .i64 0,.int .i64 0,.int .i64 0,.int .i64 0,.int .i64 0,.int .i64 0,.int .i64 0,.int .i64 0,.int .i64 0,.int .i64 0,.int .i64 0,.int .i64 0,.int .i64 0,.int .i64 0,.int .i64 0,.int .i64 0,.int .i64 0,.int .i64 0,.int .i64 0,.int .i64 0,.int .i64 0,.int .i64 0,.int .i64 0,.int .i64 0,.int .i64 0] 270)).setCells w.heap.size 0 xs.toArray.toList=w1 at*;apply wp_region_lit;refine wpList_plain rfl (fun K hK=> ?_);go_simp;rw[X2.out];refine hK _ _ ?_;clear hK K X2;have N2:=G (N2.out w1 Nf);go_upto_region 3 with(first|((with_reducible refine vC 271 (.tmp 4) (.tmp 7) ?_);refine jQ1 rfl 271 (.tmp 4) (.tmp 7) rfl (w.heap.size+1) 0 ys.toArray rfl rfl N2.out.1 S2.out E2.out ?_)|fail);have MK:=G N2.out.2.1;have Gz:=G N2.out.2.2.1;clear N2;generalize (w1.alloc (.cells #[.string ⟨#[]⟩,.string ⟨#[]⟩,.string ⟨#[]⟩,.string ⟨#[]⟩,.string ⟨#[]⟩,.string ⟨#[]⟩,.string ⟨#[]⟩,.string ⟨#[]⟩,.string ⟨#[]⟩,.string ⟨#[]⟩,.string ⟨#[]⟩,.string ⟨#[]⟩,.string ⟨#[]⟩,.string ⟨#[]⟩,.string ⟨#[]⟩,.string ⟨#[]⟩,.string ⟨#[]⟩,.string ⟨#[]⟩,.string ⟨#[]⟩,.string ⟨#[]⟩,.string ⟨#[]⟩,.string ⟨#[]⟩,.string ⟨#[]⟩,.string ⟨#[]⟩,.string ⟨#[]⟩,.string ⟨#[]⟩] 271)).setCells (w.heap.size+1) 0 ys.toArray.toList=w2 at*;have TM:=G (C6.out.old Gz.out);rw[HX.out]at TM;rw[HY.out]at MK;go_wp2_with fail;go_loopw [5] (fun i wr=>∃(j:Nat),j<=26/\i=.int .i64 (j:Int)/\op∈opsL.drop j/\Blk wr w.heap.size 270 opsV.toArray/\Blk wr (w.heap.size+1) 271 wordsV.toArray/\Old w wr) (fun i _=>26-(intOf i).toNat)
 case atStart=>exact⟨0,Nat.zero_le _,rfl,HI.out,TM.out,MK.out,G8.out.trans Gz.out (fun _ _ e=>e)⟩
 case round=>
  obtain⟨j,hj,rfl,hm,GR,Fj,Hj⟩:=hrel;have hlt:j<opsL.length:=by
   rcases Nat.lt_or_ge j opsL.length with q|q
   ·exact q
   ·rw[List.drop_eq_nil_of_le q]at hm;cases hm
  have Pi:opsL.length=26:=rfl;have p1:=GR.at_ j (v:=.int .i64 opsL[j]) (by unfold opsV;rw[jJ7,jM1,jJ9 hlt];rfl);have p2:=Fj.at_ j (v:=.string ⟨(jA opsL[j]).toArray⟩) (by rw[jJ7];exact Qx j hlt);rw[jM9 hlt]at hm;generalize opsL[j]=q at*;have b1:(0:Int)<=(j:Int):=(by omega);have b2:(j:Int).toNat=j:=(by omega);have b3:(j:Int)<26:=(by omega);have b4:IntKind.i64.wrap ((j:Int)+1)=(j:Int)+1:=jQ3 _ (by omega);have B1:=G GR;have B2:=G Fj;have HO:=G Hj;by_cases e:q=op
  ·subst e;clear hm GR Fj Hj hlt;go_wp2;go_ret;exact⟨rfl,HO.out⟩
  ·have e2:(q==op)=false:=jM3 e;have HM:=G ((jN4 hm).resolve_left (fun x=>e x.symm));clear hm GR Fj Hj e;go_wp2;exact⟨⟨j+1,by omega,by rw[show((j+1:Nat):Int)=(j:Int)+1 by omega],HM.out,B1.out,B2.out,HO.out⟩,by simp only[intOf];omega⟩
theorem Rw9.sgr{w W:World}{t:Tre}{s:Sl}{st:Wr9}{B:OA}{bc:Nat}(h:Rw9 w t s st B bc W)(hg:SgR w)(h8:8<=w.heap.size):SgR W:=hg.kp h.kp (fun e:w.heap.size<=1=>by omega)
theorem Kj(w W:World)(hg:SgR w)(h8:8<=w.heap.size)(t:Tre)(s:Sl)(st:Wr9)(B:OA)(bc:Nat)(h:Rw9 w t s st B bc W)(x:BA)(hl:(st.named x).b.length<=jN):
  Calls prog 56 #[.pointer (some ⟨w.heap.size,0,none⟩),.string x] W (WrR w t s (st.named x) W):=by
 have HL:=G (ZC W (h.sgr hg h8) x);unfold Wr9.named at hl⊢;by_cases hx:jb x=true
 ·rw[jJ6 hx]at hl⊢;rw[show js (sb x)=true from hx]at HL;have HP:=G (jc w W t s st B bc h x hl);clear h hl hg;go_enter func56,ntmps56;go_wp2_with (first|(go_at_call 55;refine HP.out.mono ?_;rintro e w2 ⟨rfl,B2,c2,hX,hf⟩;have H2:=G hX;have F2:=G hf;clear hX hf)|(go_at_call 21;refine HL.out.mono ?_;rintro e w1 ⟨rfl,rfl⟩)|fail);go_end0;exact⟨rfl,B2,c2,H2.out,F2.out⟩
 ·rw[jJ5 hx];rw[show js (sb x)=false from(Bool.not_eq_true _).mp hx]at HL;have HB:=G h.setBad;have c9:=h.c9;have z9:=h.z 9;clear h hl hg;go_enter func56,ntmps56;go_wp2_with (first|(go_at_call 21;refine HL.out.mono ?_;rintro e w1 ⟨rfl,rfl⟩)|fail);go_end0;exact⟨rfl,B,bc,HB.out.1,HB.out.2⟩
theorem jEO(w W:World)(hg:SgR w)(h8:8<=w.heap.size)(t:Tre)(s:Sl)(st:Wr9)(B:OA)(bc:Nat)(h:Rw9 w t s st B bc W)(x:BA)(hl:(st.inn x).b.length<=jN):
  Calls prog 123 #[.pointer (some ⟨w.heap.size,0,none⟩),.string x] W (WrR w t s (st.inn x) W):=by
 unfold Wr9.inn at hl⊢;by_cases hx:x.size=0
 ·rw[jJ6 hx];have hq:x.toList.isEmpty=true:=by rw[ke];exact jK5 hx
  have H:=G h;clear h hl hg;go_enter func123,ntmps123;go_wp2;go_end0;exact⟨rfl,B,bc,H.out,FrW.refl _⟩
 ·rw[jJ5 hx]at hl⊢;have hq:x.toList.isEmpty=false:=by rw[ke];exact jK3 hx
  have HP:=G (jc w W t s st B bc h ⟨#[105,110]⟩ (jL4 (Wr9.le_named _ x) hl));have HN:=G (fun W1 B1 c1 (hp:Rw9 w t s (st.put [105,110]) B1 c1 W1)=>Kj w W1 hg h8 t s _ B1 c1 hp x hl);clear h hl hg;go_enter func123,ntmps123;go_wp2_with (first|(go_at_call 56;refine(HN.out _ _ _ H1.out).mono ?_;rintro e w2 ⟨rfl,B2,c2,hX,hf⟩;have H2:=G hX;have F2:=G hf;clear hX hf)|(go_at_call 55;refine HP.out.mono ?_;rintro e w1 ⟨rfl,B1,c1,hX,hf⟩;have H1:=G hX;have F1:=G hf;clear hX hf)|fail);go_end0;exact⟨rfl,B2,c2,H2.out,F1.out.trans F2.out⟩
theorem jGL(w W:World)(t:Tre)(s:Sl)(st:Wr9)(B:OA)(bc:Nat)(h:Rw9 w t s st B bc W)(hl:(st.put [105,110,116]).b.length<=jN):
  Calls prog 121 #[.pointer (some ⟨w.heap.size,0,none⟩),.int .i64 1] W (WrR w t s (st.put [105,110,116]) W):=by
 have ho:Old W (W.alloc (.cells #[.string ⟨#[105,110,116]⟩,.string ⟨#[98,111,111,108]⟩,.string ⟨#[116,101,120,116]⟩,.string ⟨#[116,105,109,101]⟩,.string ⟨#[115,101,116]⟩] 239)):=(jQ0 NoX W).alloc _;have HO:=G (FrW.of_old ho);have HP:=G (jc w _ t s st B bc (h.old ho) ⟨#[105,110,116]⟩ hl);clear h hl ho;go_enter func121,ntmps121;go_wp2_with (first|(go_at_call 55;refine HP.out.mono ?_;rintro e w2 ⟨rfl,B2,c2,hX,hf⟩;have H2:=G hX;have F2:=G hf;clear hX hf)|fail);go_end0;exact⟨rfl,B2,c2,H2.out,HO.out.trans F2.out⟩
theorem jGK(w W:World)(t:Tre)(s:Sl)(st:Wr9)(B:OA)(bc:Nat)(h:Rw9 w t s st B bc W)(hl:(st.put [98,111,111,108]).b.length<=jN):
  Calls prog 121 #[.pointer (some ⟨w.heap.size,0,none⟩),.int .i64 2] W (WrR w t s (st.put [98,111,111,108]) W):=by
 have ho:Old W (W.alloc (.cells #[.string ⟨#[105,110,116]⟩,.string ⟨#[98,111,111,108]⟩,.string ⟨#[116,101,120,116]⟩,.string ⟨#[116,105,109,101]⟩,.string ⟨#[115,101,116]⟩] 239)):=(jQ0 NoX W).alloc _;have HO:=G (FrW.of_old ho);have HP:=G (jc w _ t s st B bc (h.old ho) ⟨#[98,111,111,108]⟩ hl);clear h hl ho;go_enter func121,ntmps121;go_wp2_with (first|(go_at_call 55;refine HP.out.mono ?_;rintro e w2 ⟨rfl,B2,c2,hX,hf⟩;have H2:=G hX;have F2:=G hf;clear hX hf)|fail);go_end0;exact⟨rfl,B2,c2,H2.out,HO.out.trans F2.out⟩
theorem jGJ(w W:World)(t:Tre)(s:Sl)(st:Wr9)(B:OA)(bc:Nat)(h:Rw9 w t s st B bc W)(hl:(st.put [116,101,120,116]).b.length<=jN):
  Calls prog 121 #[.pointer (some ⟨w.heap.size,0,none⟩),.int .i64 3] W (WrR w t s (st.put [116,101,120,116]) W):=by
 have ho:Old W (W.alloc (.cells #[.string ⟨#[105,110,116]⟩,.string ⟨#[98,111,111,108]⟩,.string ⟨#[116,101,120,116]⟩,.string ⟨#[116,105,109,101]⟩,.string ⟨#[115,101,116]⟩] 239)):=(jQ0 NoX W).alloc _;have HO:=G (FrW.of_old ho);have HP:=G (jc w _ t s st B bc (h.old ho) ⟨#[116,101,120,116]⟩ hl);clear h hl ho;go_enter func121,ntmps121;go_wp2_with (first|(go_at_call 55;refine HP.out.mono ?_;rintro e w2 ⟨rfl,B2,c2,hX,hf⟩;have H2:=G hX;have F2:=G hf;clear hX hf)|fail);go_end0;exact⟨rfl,B2,c2,H2.out,HO.out.trans F2.out⟩
theorem jGI(w W:World)(t:Tre)(s:Sl)(st:Wr9)(B:OA)(bc:Nat)(h:Rw9 w t s st B bc W)(hl:(st.put [116,105,109,101]).b.length<=jN):
  Calls prog 121 #[.pointer (some ⟨w.heap.size,0,none⟩),.int .i64 4] W (WrR w t s (st.put [116,105,109,101]) W):=by
 have ho:Old W (W.alloc (.cells #[.string ⟨#[105,110,116]⟩,.string ⟨#[98,111,111,108]⟩,.string ⟨#[116,101,120,116]⟩,.string ⟨#[116,105,109,101]⟩,.string ⟨#[115,101,116]⟩] 239)):=(jQ0 NoX W).alloc _;have HO:=G (FrW.of_old ho);have HP:=G (jc w _ t s st B bc (h.old ho) ⟨#[116,105,109,101]⟩ hl);clear h hl ho;go_enter func121,ntmps121;go_wp2_with (first|(go_at_call 55;refine HP.out.mono ?_;rintro e w2 ⟨rfl,B2,c2,hX,hf⟩;have H2:=G hX;have F2:=G hf;clear hX hf)|fail);go_end0;exact⟨rfl,B2,c2,H2.out,HO.out.trans F2.out⟩
theorem jGH(w W:World)(t:Tre)(s:Sl)(st:Wr9)(B:OA)(bc:Nat)(h:Rw9 w t s st B bc W)(hl:(st.put [115,101,116]).b.length<=jN):
  Calls prog 121 #[.pointer (some ⟨w.heap.size,0,none⟩),.int .i64 5] W (WrR w t s (st.put [115,101,116]) W):=by
 have ho:Old W (W.alloc (.cells #[.string ⟨#[105,110,116]⟩,.string ⟨#[98,111,111,108]⟩,.string ⟨#[116,101,120,116]⟩,.string ⟨#[116,105,109,101]⟩,.string ⟨#[115,101,116]⟩] 239)):=(jQ0 NoX W).alloc _;have HO:=G (FrW.of_old ho);have HP:=G (jc w _ t s st B bc (h.old ho) ⟨#[115,101,116]⟩ hl);clear h hl ho;go_enter func121,ntmps121;go_wp2_with (first|(go_at_call 55;refine HP.out.mono ?_;rintro e w2 ⟨rfl,B2,c2,hX,hf⟩;have H2:=G hX;have F2:=G hf;clear hX hf)|fail);go_end0;exact⟨rfl,B2,c2,H2.out,HO.out.trans F2.out⟩
theorem UI(w W:World)(t:Tre)(s:Sl)(st:Wr9)(B:OA)(bc:Nat)(h:Rw9 w t s st B bc W)(k:Int)(hl:(st.kind k).b.length<=jN):
  Calls prog 121 #[.pointer (some ⟨w.heap.size,0,none⟩),.int .i64 k] W (WrR w t s (st.kind k) W):=by
 unfold Wr9.kind at hl⊢;by_cases hk:kq k=true
 ·rw[jJ6 hk]at hl⊢;have h5:1<=k/\k<=5:=jM8 hk;have hc:k=1\/k=2\/k=3\/k=4\/k=5:=(by omega);rcases hc with rfl|rfl|rfl|rfl|rfl
  ·exact jGL w W t s st B bc h hl
  ·exact jGK w W t s st B bc h hl
  ·exact jGJ w W t s st B bc h hl
  ·exact jGI w W t s st B bc h hl
  ·exact jGH w W t s st B bc h hl
 ·rw[jJ5 hk];have h5:¬(1<=k/\k<=5):=fun e=>hk (jK5 e);have ho:Old W (W.alloc (.cells #[.string ⟨#[105,110,116]⟩,.string ⟨#[98,111,111,108]⟩,.string ⟨#[116,101,120,116]⟩,.string ⟨#[116,105,109,101]⟩,.string ⟨#[115,101,116]⟩] 239)):=(jQ0 NoX W).alloc _;have HO:=G (FrW.of_old ho);have HB:=G (h.old ho).setBad;have c9:=(h.old ho).c9;have z9:=(h.old ho).z 9;clear h hl ho hk;by_cases hlo:k<1
  ·have d1:decide (k<1)=true:=jK5 hlo;clear h5;go_enter func121,ntmps121;go_wp2_with fail;go_end0;exact⟨rfl,B,bc,HB.out.1,HO.out.trans HB.out.2⟩
  ·have Rc:5<k:=(by omega);have AC:1<=k:=(by omega);have d1:decide (k<1)=false:=jK3 hlo;have d2:decide (5<k)=true:=jK5 Rc;clear h5;go_enter func121,ntmps121;go_wp2_with fail;go_end0;exact⟨rfl,B,bc,HB.out.1,HO.out.trans HB.out.2⟩
theorem jDs(w:World):Calls prog 224 #[.int .i64 0] w fun e w' =>e=.returned (.string ⟨#[48]⟩)/\Old w w' :=by
 have WU:=jj (P:=prog) (w.alloc (.cells #[.int .u8 48] 5)) (src:=33) (dst:=9) underlying33 underlying5 underlying9 (some ⟨w.heap.size,0,none⟩) 1 1 [48] (by have h:=Rd.one_new w 5 (bv 48);exact h);go_enter func224,ntmps224;go_wp2;go_ret;exact⟨rfl,(jQ0 _ _).alloc _⟩
theorem jDr(w:World):Calls prog 224 #[.int .i64 1] w fun e w' =>e=.returned (.string ⟨#[49]⟩)/\Old w w' :=by
 have WU:=jj (P:=prog) (w.alloc (.cells #[.int .u8 49] 5)) (src:=33) (dst:=9) underlying33 underlying5 underlying9 (some ⟨w.heap.size,0,none⟩) 1 1 [49] (by have h:=Rd.one_new w 5 (bv 49);exact h);go_enter func224,ntmps224;go_wp2;go_ret;exact⟨rfl,(jQ0 _ _).alloc _⟩
theorem jDq(w:World):Calls prog 224 #[.int .i64 2] w fun e w' =>e=.returned (.string ⟨#[50]⟩)/\Old w w' :=by
 have WU:=jj (P:=prog) (w.alloc (.cells #[.int .u8 50] 5)) (src:=33) (dst:=9) underlying33 underlying5 underlying9 (some ⟨w.heap.size,0,none⟩) 1 1 [50] (by have h:=Rd.one_new w 5 (bv 50);exact h);go_enter func224,ntmps224;go_wp2;go_ret;exact⟨rfl,(jQ0 _ _).alloc _⟩
theorem jDp(w:World):Calls prog 224 #[.int .i64 3] w fun e w' =>e=.returned (.string ⟨#[51]⟩)/\Old w w' :=by
 have WU:=jj (P:=prog) (w.alloc (.cells #[.int .u8 51] 5)) (src:=33) (dst:=9) underlying33 underlying5 underlying9 (some ⟨w.heap.size,0,none⟩) 1 1 [51] (by have h:=Rd.one_new w 5 (bv 51);exact h);go_enter func224,ntmps224;go_wp2;go_ret;exact⟨rfl,(jQ0 _ _).alloc _⟩
theorem jDo(w:World):Calls prog 224 #[.int .i64 4] w fun e w' =>e=.returned (.string ⟨#[52]⟩)/\Old w w' :=by
 have WU:=jj (P:=prog) (w.alloc (.cells #[.int .u8 52] 5)) (src:=33) (dst:=9) underlying33 underlying5 underlying9 (some ⟨w.heap.size,0,none⟩) 1 1 [52] (by have h:=Rd.one_new w 5 (bv 52);exact h);go_enter func224,ntmps224;go_wp2;go_ret;exact⟨rfl,(jQ0 _ _).alloc _⟩
theorem jDn(w:World):Calls prog 224 #[.int .i64 5] w fun e w' =>e=.returned (.string ⟨#[53]⟩)/\Old w w' :=by
 have WU:=jj (P:=prog) (w.alloc (.cells #[.int .u8 53] 5)) (src:=33) (dst:=9) underlying33 underlying5 underlying9 (some ⟨w.heap.size,0,none⟩) 1 1 [53] (by have h:=Rd.one_new w 5 (bv 53);exact h);go_enter func224,ntmps224;go_wp2;go_ret;exact⟨rfl,(jQ0 _ _).alloc _⟩
theorem jDm(w:World):Calls prog 224 #[.int .i64 6] w fun e w' =>e=.returned (.string ⟨#[54]⟩)/\Old w w' :=by
 have WU:=jj (P:=prog) (w.alloc (.cells #[.int .u8 54] 5)) (src:=33) (dst:=9) underlying33 underlying5 underlying9 (some ⟨w.heap.size,0,none⟩) 1 1 [54] (by have h:=Rd.one_new w 5 (bv 54);exact h);go_enter func224,ntmps224;go_wp2;go_ret;exact⟨rfl,(jQ0 _ _).alloc _⟩
theorem jDl(w:World):Calls prog 224 #[.int .i64 7] w fun e w' =>e=.returned (.string ⟨#[55]⟩)/\Old w w' :=by
 have WU:=jj (P:=prog) (w.alloc (.cells #[.int .u8 55] 5)) (src:=33) (dst:=9) underlying33 underlying5 underlying9 (some ⟨w.heap.size,0,none⟩) 1 1 [55] (by have h:=Rd.one_new w 5 (bv 55);exact h);go_enter func224,ntmps224;go_wp2;go_ret;exact⟨rfl,(jQ0 _ _).alloc _⟩
theorem jDk(w:World):Calls prog 224 #[.int .i64 8] w fun e w' =>e=.returned (.string ⟨#[56]⟩)/\Old w w' :=by
 have WU:=jj (P:=prog) (w.alloc (.cells #[.int .u8 56] 5)) (src:=33) (dst:=9) underlying33 underlying5 underlying9 (some ⟨w.heap.size,0,none⟩) 1 1 [56] (by have h:=Rd.one_new w 5 (bv 56);exact h);go_enter func224,ntmps224;go_wp2;go_ret;exact⟨rfl,(jQ0 _ _).alloc _⟩
theorem jDj(w:World):Calls prog 224 #[.int .i64 9] w fun e w' =>e=.returned (.string ⟨#[57]⟩)/\Old w w' :=by
 have WU:=jj (P:=prog) (w.alloc (.cells #[.int .u8 57] 5)) (src:=33) (dst:=9) underlying33 underlying5 underlying9 (some ⟨w.heap.size,0,none⟩) 1 1 [57] (by have h:=Rd.one_new w 5 (bv 57);exact h);go_enter func224,ntmps224;go_wp2;go_ret;exact⟨rfl,(jQ0 _ _).alloc _⟩
theorem zo(w:World)(n:Nat)(h:n<10):Calls prog 224 #[.int .i64 (n:Int)] w fun e w' =>e=.returned (.string ⟨#[UInt8.ofNat (48+n)]⟩)/\Old w w' :=by
 have:n=0\/n=1\/n=2\/n=3\/n=4\/n=5\/n=6\/n=7\/n=8\/n=9:=(by omega);rcases this with rfl|rfl|rfl|rfl|rfl|rfl|rfl|rfl|rfl|rfl
 ·exact jDs w
 ·exact jDr w
 ·exact jDq w
 ·exact jDp w
 ·exact jDo w
 ·exact jDn w
 ·exact jDm w
 ·exact jDl w
 ·exact jDk w
 ·exact jDj w
theorem Ya:∀(f n:Nat),n<10^(f+1)->n<9223372036854775808->f<=100->∀w:World,Calls prog 224 #[.int .i64 (n:Int)] w fun e w' =>e=.returned (.string ⟨(xl (f+1) n).toArray⟩)/\Old w w'
 |0,n,h,_,_,w=>by
  have h1:n<10:=(by simpa using h);rw[xl,jJ6 h1];exact zo w n h1
 |f+1,n,h,Mm,hf,w=>by
  rw[xl];by_cases h1:n<10
  ·rw[jJ6 h1];exact zo w n h1
  ·rw[jJ5 h1];have hq:n/10<10^(f+1):=by rw[Nat.pow_succ]at h;exact Nat.div_lt_of_lt_mul (by rw[Nat.mul_comm];exact h)
   have C1:=G (fun W=>Ya f (n/10) hq (by omega) (by omega) W);have C2:=G (fun W=>zo W (n% 10) (by omega));have b1:¬(n:Int)<10:=(by omega);obtain⟨q,DO⟩:∃q:Nat,n/10=q:=⟨_,rfl⟩;obtain⟨r,Wn⟩:∃r:Nat,n% 10=r:=⟨_,rfl⟩;rw[DO]at C1⊢;rw[Wn]at C2⊢;have b2:RowKit.wrap64 ((n:Int)/10)=(q:Int):=by
    rw[show(n:Int)/10=(q:Int)by omega];exact IntWalk.wrap64_in _ (by omega)
   have b3:(n:Int)% 10=(r:Int):=(by omega);have b4:RowKit.wrap64 (r:Int)=(r:Int):=IntWalk.wrap64_in _ (by omega);obtain⟨s1,NO⟩:∃s1:BA,s1=⟨(xl (f+1) q).toArray⟩:=⟨_,rfl⟩;obtain⟨s2,Mu⟩:∃s2:BA,s2=⟨#[UInt8.ofNat (48+r)]⟩:=⟨_,rfl⟩;rw[<-NO]at C1;rw[<-Mu]at C2;have HS:=G (show(⟨(xl (f+1) q++[UInt8.ofNat (48+r)]).toArray⟩:BA)=s1++s2 by
    rw[NO,Mu];apply ByteArray.ext;simp[ByteArray.data_append])
   rw[HS.out];have Gl:¬9223372036854775807<s1.size+s2.size:=by
    have h5:=Zz (f+1) q;have h6:s1.size=(xl (f+1) q).length:=by rw[NO];exact jJ8 ..
    have h7:s2.size=1:=by rw[Mu];rfl
    omega
   clear h h1 hq DO Wn Mm NO Mu hf;go_enter func224,ntmps224;go_wp2_with fail;refine(C1.out _).mono ?_;rintro e w1 ⟨rfl,hX⟩;have H1:=G hX;clear hX;go_wp2_with fail;refine(C2.out _).mono ?_;rintro e w2 ⟨rfl,hX⟩;have H2:=G hX;clear hX;go_wp2_with fail;go_ret;exact⟨rfl,H1.out.trans H2.out (fun _ _ e=>e)⟩
theorem jHK(w:World):Calls prog 194 #[.int .i64 7] w fun e w' =>e=.returned (.int .i64 (jD 7:Nat))/\w=w' :=by
 go_enter func194,ntmps194;go_wp2;go_ret;exact⟨rfl,rfl⟩
theorem jHJ(w:World):Calls prog 194 #[.int .i64 8] w fun e w' =>e=.returned (.int .i64 (jD 8:Nat))/\w=w' :=by
 go_enter func194,ntmps194;go_wp2;go_ret;exact⟨rfl,rfl⟩
theorem jHI(w:World):Calls prog 194 #[.int .i64 9] w fun e w' =>e=.returned (.int .i64 (jD 9:Nat))/\w=w' :=by
 go_enter func194,ntmps194;go_wp2;go_ret;exact⟨rfl,rfl⟩
theorem jF4(w:World):Calls prog 194 #[.int .i64 10] w fun e w' =>e=.returned (.int .i64 (jD 10:Nat))/\w=w' :=by
 go_enter func194,ntmps194;go_wp2;go_ret;exact⟨rfl,rfl⟩
theorem jF3(w:World):Calls prog 194 #[.int .i64 11] w fun e w' =>e=.returned (.int .i64 (jD 11:Nat))/\w=w' :=by
 go_enter func194,ntmps194;go_wp2;go_ret;exact⟨rfl,rfl⟩
theorem jF2(w:World):Calls prog 194 #[.int .i64 12] w fun e w' =>e=.returned (.int .i64 (jD 12:Nat))/\w=w' :=by
 go_enter func194,ntmps194;go_wp2;go_ret;exact⟨rfl,rfl⟩
theorem jF1(w:World):Calls prog 194 #[.int .i64 13] w fun e w' =>e=.returned (.int .i64 (jD 13:Nat))/\w=w' :=by
 go_enter func194,ntmps194;go_wp2;go_ret;exact⟨rfl,rfl⟩
theorem jF0(w:World):Calls prog 194 #[.int .i64 14] w fun e w' =>e=.returned (.int .i64 (jD 14:Nat))/\w=w' :=by
 go_enter func194,ntmps194;go_wp2;go_ret;exact⟨rfl,rfl⟩
theorem jFz(w:World):Calls prog 194 #[.int .i64 15] w fun e w' =>e=.returned (.int .i64 (jD 15:Nat))/\w=w' :=by
 go_enter func194,ntmps194;go_wp2;go_ret;exact⟨rfl,rfl⟩
theorem jFy(w:World):Calls prog 194 #[.int .i64 16] w fun e w' =>e=.returned (.int .i64 (jD 16:Nat))/\w=w' :=by
 go_enter func194,ntmps194;go_wp2;go_ret;exact⟨rfl,rfl⟩
theorem jFx(w:World):Calls prog 194 #[.int .i64 17] w fun e w' =>e=.returned (.int .i64 (jD 17:Nat))/\w=w' :=by
 go_enter func194,ntmps194;go_wp2;go_ret;exact⟨rfl,rfl⟩
theorem jFw(w:World):Calls prog 194 #[.int .i64 18] w fun e w' =>e=.returned (.int .i64 (jD 18:Nat))/\w=w' :=by
 go_enter func194,ntmps194;go_wp2;go_ret;exact⟨rfl,rfl⟩
theorem jFv(w:World):Calls prog 194 #[.int .i64 19] w fun e w' =>e=.returned (.int .i64 (jD 19:Nat))/\w=w' :=by
 go_enter func194,ntmps194;go_wp2;go_ret;exact⟨rfl,rfl⟩
theorem jFu(w:World):Calls prog 194 #[.int .i64 20] w fun e w' =>e=.returned (.int .i64 (jD 20:Nat))/\w=w' :=by
 go_enter func194,ntmps194;go_wp2;go_ret;exact⟨rfl,rfl⟩
theorem jFt(w:World):Calls prog 194 #[.int .i64 21] w fun e w' =>e=.returned (.int .i64 (jD 21:Nat))/\w=w' :=by
 go_enter func194,ntmps194;go_wp2;go_ret;exact⟨rfl,rfl⟩
theorem jFs(w:World):Calls prog 194 #[.int .i64 22] w fun e w' =>e=.returned (.int .i64 (jD 22:Nat))/\w=w' :=by
 go_enter func194,ntmps194;go_wp2;go_ret;exact⟨rfl,rfl⟩
theorem jFr(w:World):Calls prog 194 #[.int .i64 23] w fun e w' =>e=.returned (.int .i64 (jD 23:Nat))/\w=w' :=by
 go_enter func194,ntmps194;go_wp2;go_ret;exact⟨rfl,rfl⟩
theorem jBy(w:World)(op:Int):Calls prog 194 #[.int .i64 op] w fun e w' =>e=.returned (.int .i64 (jD op:Nat))/\w=w' :=by
 by_cases h:7<=op/\op<=23
 ·have:op=7\/op=8\/op=9\/op=10\/op=11\/op=12\/op=13\/op=14\/op=15\/op=16\/op=17\/op=18\/op=19\/op=20\/op=21\/op=22\/op=23:=(by omega);rcases this with rfl|rfl|rfl|rfl|rfl|rfl|rfl|rfl|rfl|rfl|rfl|rfl|rfl|rfl|rfl|rfl|rfl
  ·exact jHK w
  ·exact jHJ w
  ·exact jHI w
  ·exact jF4 w
  ·exact jF3 w
  ·exact jF2 w
  ·exact jF1 w
  ·exact jF0 w
  ·exact jFz w
  ·exact jFy w
  ·exact jFx w
  ·exact jFw w
  ·exact jFv w
  ·exact jFu w
  ·exact jFt w
  ·exact jFs w
  ·exact jFr w
 ·have hl:jD op=8:=by
   unfold jD;rw[jJ5 (by omega),jJ5 (by omega),jJ5 (by omega),jJ5 (by omega),jJ5 (by omega),jJ5 (by omega),jJ5 (by omega),jJ5 (by omega)]
  rw[hl];have q7:(op==7)=false:=jM3 (by omega);have q8:(op==8)=false:=jM3 (by omega);have q9:(op==9)=false:=jM3 (by omega);have q10:(op==10)=false:=jM3 (by omega);have q11:(op==11)=false:=jM3 (by omega);have q12:(op==12)=false:=jM3 (by omega);have q13:(op==13)=false:=jM3 (by omega);have q14:(op==14)=false:=jM3 (by omega);have q15:(op==15)=false:=jM3 (by omega);have q16:(op==16)=false:=jM3 (by omega);have q17:(op==17)=false:=jM3 (by omega);have q18:(op==18)=false:=jM3 (by omega);have q19:(op==19)=false:=jM3 (by omega);have q20:(op==20)=false:=jM3 (by omega);have q21:(op==21)=false:=jM3 (by omega);have q22:(op==22)=false:=jM3 (by omega);have q23:(op==23)=false:=jM3 (by omega);clear hl h;go_enter func194,ntmps194;go_wp2;go_ret;exact⟨rfl,rfl⟩
def kT:LB:=[116,121,112,101,32,97,32,123,32,109,105,108,101,115,116,111,110,101,32,109,32,114,101,97,99,104,101,100,32,119,104,101,110,32,110,111,116,32,98,32,61,32,49,50,32,59,32,125]
def kP:LB:=[116,121,112,101,32,97,32,123,10,109,105,108,101,115,116,111,110,101,32,109,32,114,101,97,99,104,101,100,32,119,104,101,110,32,110,111,116,32,98,32,61,32,49,50,32,59,10,125,10]
def kB:LB:=[116,121,112,101,32,105,110,32,123,32,115,116,97,103,101,32,115,116,97,103,101]
def kF:LB:=[116,121,112,101,32,97,32,123,32,115,116]
def kE:LB:=[97,103,101,9,97,123,125,125]
structure Small(r:Rdr):Prop where
 name:r.tree.name=⟨#[97]⟩
 at_:r.tree.at_=5
 miles:r.tree.miles.map (fun m=>(m.name,m.in_,m.when_,m.order))=[(⟨#[109]⟩,⟨#[]⟩,3,0)]
 attrs:r.tree.attrs=[]
 stages:r.tree.stages=[]
 steps:r.tree.steps=[]
 ats:r.tree.ats=[38,42,40,34]
 len:r.tree.nodes.length=4
 ops:r.tree.nodes.map (fun n=>(n.op,n.vn,n.kids))=[(5,0,[]),(1,12,[]),(11,0,[0,1]),(8,0,[2])]
 prints:vG r.tree=some kP
 rights:r.tree.nodes.all jK=true
 lay:(jv r.tree).l=[(3,0)]
theorem jGs:(match vv kT with| .ok m=>decide (m.stack=[])| .error _=>false)=true:=by decide+kernel
theorem jG0:(match vv kB with| .ok _=>false| .error k=>decide (k=7))=true:=by decide+kernel
theorem jGz:ud kF=some kE:=by decide+kernel
theorem jFQ:(Jj kT 100).isSome=true:=by decide+kernel
theorem jFS:(Jj kT 100).map (fun r=>r.tree.name)=some ⟨#[97]⟩:=by decide+kernel
theorem jHt:(Jj kT 100).map (fun r=>r.tree.at_)=some 5:=by decide+kernel
theorem jDL:(Jj kT 100).map (fun r=>r.tree.miles.map (fun m=>(m.name,m.in_,m.when_,m.order)))=some [(⟨#[109]⟩,⟨#[]⟩,3,0)]:=by decide+kernel
theorem jFR:(Jj kT 100).map (fun r=>(r.tree.attrs.length,r.tree.stages.length,r.tree.steps.length))=some (0,0,0):=by decide+kernel
theorem jGv:(Jj kT 100).map (fun r=>r.tree.ats)=some [38,42,40,34]:=by decide+kernel
theorem jGt:(Jj kT 100).map (fun r=>r.tree.nodes.map (fun n=>(n.op,n.vn,n.kids)))=some [(5,0,[]),(1,12,[]),(11,0,[0,1]),(8,0,[2])]:=by decide+kernel
theorem jBI:(Jj kT 100).bind (fun r=>vG r.tree)=some kP:=by decide+kernel
theorem jBH:(Jj kT 100).map (fun r=>r.tree.nodes.all jK)=some true:=by decide+kernel
theorem jGu:(Jj kT 100).map (fun r=>(jv r.tree).l)=some [(3,0)]:=by decide+kernel
theorem jCe{r:Rdr}(h:Jj kT 100=some r):Small r:=by
 have e1:=jFS;have e2:=jHt;have e3:=jDL;have e4:=jFR;have e5:=jGv;have e6:=jGt;have e7:=jBI;have e8:=jBH;have e9:=jGu;rw[h]at e1 e2 e3 e4 e5 e6 e7 e8 e9;simp only[Option.map_some,Option.some.injEq,Prod.mk.injEq,jL2]at e1 e2 e3 e4 e5 e6 e7 e8 e9;refine⟨e1,e2,e3,List.eq_nil_of_length_eq_zero e4.1,List.eq_nil_of_length_eq_zero e4.2.1,List.eq_nil_of_length_eq_zero e4.2.2,e5,?_,e6,e7,e8,e9⟩;have:=congrArg List.length e6;simpa using this
theorem jHs:∃m,vv kT=.ok m/\m.stack=[]:=by
 have h:=jGs;cases hb:vv kT with
 |ok m=>rw[hb]at h;exact⟨m,rfl,jM8 h⟩
 |error k=>rw[hb]at h;cases h
theorem jG1:vv kB=.error 7:=by
 have h:=jG0;cases hb:vv kB with
 |ok m=>rw[hb]at h;cases h
 |error k=>rw[hb]at h;rw[jM8 h]
end Go.Proofs.YtmmjcbbogokmfaaGreatDoor

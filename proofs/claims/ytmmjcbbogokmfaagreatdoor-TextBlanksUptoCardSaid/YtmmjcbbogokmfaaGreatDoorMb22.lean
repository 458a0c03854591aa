import Derived.Test.YtmmjcbbogokmfaaGreatDoorMb03
import Derived.Test.YtmmjcbbogokmfaaGreatDoorMb21
set_option maxRecDepth 100000
set_option maxHeartbeats 25600000
namespace Go.Proofs.YtmmjcbbogokmfaaGreatDoor
open Go.Proofs.Tryz
open Go.RowKit
def Ex(w:World)(g:Nat)(src:BA)(s:Sl)(r' :Rdr)(v:Value)(e:Ending)(w' :World):Prop:=e=.returned v/\∃s',St w' g src r' s' /\Fr g s s' w w'
theorem Ex.of{w w1 w' :World}{g:Nat}{src:BA}{s s1:Sl}{r' :Rdr}{v:Value}{e:Ending}(f:Fr g s s1 w w1)(h:Ex w1 g src s1 r' v e w'):Ex w g src s r' v e w' :=
 ⟨h.1,h.2.elim fun s' hs=>⟨s',hs.1,f.trans hs.2⟩⟩
theorem Sc.ex{w w' :World}{g:Nat}{src:BA}{s:Sl}{r' :Rdr}{v:Value}{e:Ending}(h:Sc w g src s r' v e w'):Ex w g src s r' v e w' :=⟨h.1,s,h.2⟩
theorem St.last{w:World}{g:Nat}{src:BA}{r:Rdr}{s:Sl}(h:St w g src r s){L:List Nd}{m:Nd}(hl:r.tree.nodes=L++[m]):
  ∃ns x ps,x.n=m/\ns.map (·.n)=L/\TRows w (AX g s) r.tree s (ns++[x]) ps:=by
 obtain⟨ns,ps,hR⟩:=h.rows;have hn:=hR.ne;rw[hl]at hn;obtain⟨n1,n2,rfl,h1,h2⟩:=List.map_eq_append_iff.1 hn;obtain⟨x,l,rfl,h3,h4⟩:=List.map_eq_cons_iff.1 h2;rw[List.map_eq_nil_iff.1 h4]at hR;exact⟨n1,x,ps,h3,h1,hR⟩
theorem St.turn{w w' :World}{g:Nat}{src:BA}{r:Rdr}{s:Sl}(h:St w g src r s){ns:List MNd}{x x' :MNd}{ps:List MSt}(hR:TRows w (AX g s) r.tree s (ns++[x]) ps)
  (hk:Kp (fun b=>s.nA.map (·.block)=some b) w w') (ho:w'.ownsRow 8 46 7 (.slice s.nA r.tree.nodes.length s.nc) r.tree.nodes.length (ns.flatMap ndC++ndC x')) (hx:OkN w (AX g s) x'):
  St w' g src {r with tree:={r.tree with nodes:=ns.map (·.n)++[x'.n]}} s/\Fr g s s w w' :=by
 have hf:Fr g s s w w' :=⟨hk.mono (fun b _ e=>by first|exact .inl e|exact .inr (.inl e)|exact .inr (.inr (.inl e))|exact .inr (.inr (.inr (.inl e)))|exact .inr (.inr (.inr (.inr (.inl e))))|exact .inr (.inr (.inr (.inr (.inr (.inl e)))))|exact .inr (.inr (.inr (.inr (.inr (.inr (e))))))),fun _ _ e=>e,rfl⟩;have hlen:(ns.map (·.n)++[x'.n]).length=r.tree.nodes.length:=by rw[<-hR.ne];simp
 have LZ:s.nA.map (·.block)≠some g:=by rw[<-jC];exact ja hR.rN h.box (by decide)
 have K:∀{e:TypeId} {z:Nat} {v:Value} {n:Nat} {xs:List Value},w.ownsRow 8 e z v n xs->e≠46->w'.ownsRow 8 e z v n xs:=fun ho Fa=>
  jW ho hk (fun k e e' =>zc ho hR.rN Fa k e (by rw[jC];exact e'))
 refine⟨⟨h.sgf hf,h.g8,h.small,?_,⟨ns++[x'],ps,?_⟩,h.from_,h.at_,h.t58,fun b hz=>jL8 (h.zlt b hz) hk.size,h.z8,h.zno⟩,hf⟩
 ·have hb:=h.box.kp hk LZ;unfold Rb at hb⊢;simp only[rdC,jJ,hlen]at hb⊢;exact hb
 ·constructor
  case rA=>exact K hR.rA (by decide)
  case rG=>exact K hR.rG (by decide)
  case rM=>exact K hR.rM (by decide)
  case rP=>exact K hR.rP (by decide)
  case rO=>exact K hR.rO (by decide)
  case rN=>
   simp only[hlen,jN5,List.flatMap_singleton];exact ho
  case pe=>exact hR.pe
  case ne=>simp
  case po=>exact fun y hy=>(hR.po y hy).fr hf
  case no=>exact fun y hy=>(jM6 hy).elim (fun hy=>(hR.no y (List.mem_append.2 (.inl hy))).fr hf) (fun hy=>by rw[jM7 hy];exact hx.fr hf)
theorem jDy(x:MNd):∀u∈ndC x,u.oneCell' =true:=by
 intro u hu;simp only[ndC,iv,List.mem_cons,List.mem_nil_iff,or_false]at hu;rcases hu with rfl|rfl|rfl|rfl|rfl|rfl|rfl<;>rfl
theorem Rd.one_at(w:World)(t:TypeId)(u:Value){n:Nat}(hn:n=w.heap.size):Rd (w.alloc (.cells #[u] t)) 1 (some ⟨n,0,none⟩) 1 [u]:=hn▸Rd.one_new w t u
theorem St.eight{w:World}{g:Nat}{src:BA}{r:Rdr}{s:Sl}(h:St w g src r s):8<=w.heap.size:=by have:=h.lt;have:=h.g8;omega
theorem St.pastA{w w1 w2:World}{g:Nat}{src:BA}{r:Rdr}{s:Sl}{ns:List MNd}{ps:List MSt}(hs:St w g src r s)(h:TRows w (AX g s) r.tree s ns ps)(h1:Old w w1)(G8:w1.grownBy w2 (s.aA.map (·.block))):Rb w2 g src r (jJ r.tree s):=
 (hs.box.old h1).kp (Kk G8) (by rw[<-jC];exact ja h.rA hs.box (by decide))
theorem St.pastG{w w1 w2:World}{g:Nat}{src:BA}{r:Rdr}{s:Sl}{ns:List MNd}{ps:List MSt}(hs:St w g src r s)(h:TRows w (AX g s) r.tree s ns ps)(h1:Old w w1)(G8:w1.grownBy w2 (s.gA.map (·.block))):Rb w2 g src r (jJ r.tree s):=
 (hs.box.old h1).kp (Kk G8) (by rw[<-jC];exact ja h.rG hs.box (by decide))
theorem St.pastM{w w1 w2:World}{g:Nat}{src:BA}{r:Rdr}{s:Sl}{ns:List MNd}{ps:List MSt}(hs:St w g src r s)(h:TRows w (AX g s) r.tree s ns ps)(h1:Old w w1)(G8:w1.grownBy w2 (s.mA.map (·.block))):Rb w2 g src r (jJ r.tree s):=
 (hs.box.old h1).kp (Kk G8) (by rw[<-jC];exact ja h.rM hs.box (by decide))
theorem St.pastP{w w1 w2:World}{g:Nat}{src:BA}{r:Rdr}{s:Sl}{ns:List MNd}{ps:List MSt}(hs:St w g src r s)(h:TRows w (AX g s) r.tree s ns ps)(h1:Old w w1)(G8:w1.grownBy w2 (s.pA.map (·.block))):Rb w2 g src r (jJ r.tree s):=
 (hs.box.old h1).kp (Kk G8) (by rw[<-jC];exact ja h.rP hs.box (by decide))
theorem St.pastN{w w1 w2:World}{g:Nat}{src:BA}{r:Rdr}{s:Sl}{ns:List MNd}{ps:List MSt}(hs:St w g src r s)(h:TRows w (AX g s) r.tree s ns ps)(h1:Old w w1)(G8:w1.grownBy w2 (s.nA.map (·.block))):Rb w2 g src r (jJ r.tree s):=
 (hs.box.old h1).kp (Kk G8) (by rw[<-jC];exact ja h.rN hs.box (by decide))
theorem St.pastO{w w1 w2:World}{g:Nat}{src:BA}{r:Rdr}{s:Sl}{ns:List MNd}{ps:List MSt}(hs:St w g src r s)(h:TRows w (AX g s) r.tree s ns ps)(h1:Old w w1)(G8:w1.grownBy w2 (s.oA.map (·.block))):Rb w2 g src r (jJ r.tree s):=
 (hs.box.old h1).kp (Kk G8) (by rw[<-jC];exact ja h.rO hs.box (by decide))
def jCy(op:Int)(kids:List Int)(A:OA)(c:Nat):MNd:=⟨kg op kids,A,c,none,0⟩
theorem yP(w:World)(g:Nat)(src:BA)(r r' :Rdr)(s:Sl)(op x:Int)(at_:Nat)(A:OA)(c:Nat)(kids:List Int)(h:St w g src r s)(hr:Rd w 1 A kids.length (kids.map iv))(ha:Av (AX g s) kids.length A)
  (hn:yA (kg op kids) at_ r=some (x,r')):
  Calls prog 201 #[.pointer (some ⟨g,0,none⟩),iv op,iv (at_:Int),.slice A kids.length c] w (Ex w g src s r' (iv x)):=by
 unfold yA at hn;split at hn
 case isFalse=>cases hn
 rename_i hlt;injection hn with hn;injection hn with e1 e2;subst e1 e2;obtain⟨ns,ps,hR⟩:=h.rows;have HS:=G h;have HR:=G hR;have MF:=G (show OkN w (AX g s) (jCy op kids A c)from⟨hr,ha,Rd.none_,fun h0=>absurd h0 (Nat.lt_irrefl 0)⟩);have Nu:w.cell? ⟨g,11,none⟩=some (.slice s.nA r.tree.nodes.length s.nc):=Blk.at_ h.box 11 rfl;have HO:=G ((jQ0 NoX w).alloc (.cells (ndC (jCy op kids A c)).toArray 46));have H8:=G (show 8<=w.heap.size by have:=h.lt;have:=h.g8;omega);obtain⟨i0,hi,FF,Ft,FM⟩:=info_parts jEX;obtain⟨i1,hj,V4,V3,Lp⟩:=info_parts jCN;have GB:=G (show r.tree.nodes.length+1<=maxLen by unfold maxLen;omega);have GH:=G (show(r.tree.nodes.length+1)*104<=140737488355328 by omega);have J63:=G (show r.tree.ats.length+1<=maxLen by unfold maxLen;omega);have J47:=G (show(r.tree.ats.length+1)*8<=140737488355328 by omega);have q1:IntKind.i64.wrap ((r.tree.nodes.length:Int)+1-1)=(r.tree.nodes.length:Int):=by rw[show(r.tree.nodes.length:Int)+1-1=(r.tree.nodes.length:Int)by omega];exact jQ3 _ (by omega)
 have q2:RowKit.wrap64 (r.tree.nodes.length:Int)=(r.tree.nodes.length:Int):=IntWalk.wrap64_in _ (by omega);clear h hR hr ha hlt;unfold iv;go_enter func201,ntmps201;go_wp2_with (first|(at_builtin;refine jF _ rfl (.tmp 14) (.tmp 18) 26 rfl 8 46 i0 _ 7 104 underlying26 hi FF Ft FM rfl (by decide) (.slice s.nA r.tree.nodes.length s.nc) r.tree.nodes.length (ns.flatMap ndC) rfl (jW HR.out.rN HO.out (fun _ _ e=>e)) _ 1 1 (ndC (jCy op kids A c)) rfl (Rd.row_new _ _ 7 1 _ rfl) (jDy _) GB.out GH.out (jL4 H8.out HO.out.size) ?_;intro A1 c1 w2 Hh hgrow Ff;rw[jC]at hgrow Ff;have Fk:=HS.out.pastN HR.out HO.out hgrow;have Nu:w2.cell? ⟨g,11,none⟩=some (.slice s.nA r.tree.nodes.length s.nc):=Blk.at_ Fk 11 rfl;have Db:=Fk.z 11;have TL:w2.cell? ⟨g,12,none⟩=some (.slice s.oA r.tree.ats.length s.oc):=Blk.at_ Fk 12 rfl;have T7:=Fk.z 12;have H1:=G (HS.out.growN HR.out (jCy op kids A c) MF.out HO.out hgrow Ff Hh);obtain⟨ns2,ps2,WP⟩:=H1.out.1.rows;have GQ:=G WP;clear Fk Hh hgrow Ff WP)|(at_builtin;refine jF _ rfl (.tmp 28) (.tmp 30) 27 rfl 8 3 i1 _ 1 8 underlying27 hj V4 V3 Lp rfl (by decide) (.slice s.oA r.tree.ats.length s.oc) r.tree.ats.length (r.tree.ats.flatMap oC) rfl (jW GQ.out.rO ((jQ0 NoX _).alloc _) (fun _ _ e=>e)) _ 1 1 _ rfl (Rd.one_at _ _ _ (by simp[World.setCell])) (kK _ rfl) J63.out J47.out (jL4 H1.out.1.eight ((jQ0 NoX _).alloc _).size) ?_;intro A2 c2 w5 Hh hgrow Ff;rw[jC]at hgrow Ff;have SE:=H1.out.1.pastO GQ.out ((jQ0 NoX _).alloc _) hgrow;have Nu:=Blk.at_ SE 11 (v:=.slice A1 (r.tree.nodes++[(jCy op kids A c).n]).length c1) rfl;rw[jJ4,List.length_singleton]at Nu;have TL:w5.cell? ⟨g,12,none⟩=some (.slice s.oA r.tree.ats.length s.oc):=Blk.at_ SE 12 rfl;have T7:=SE.z 12;have H2:=G (H1.out.1.growO GQ.out (at_:Int) True.intro ((jQ0 NoX _).alloc _) hgrow Ff Hh);clear SE Hh hgrow Ff)|fail);go_ret;exact⟨rfl,_,H2.out.1,H1.out.2.trans H2.out.2⟩
def ZH(k:Nat):Nat->Prop:=fun b=>k<=b
def ptC(t:Tre)(s:Sl)(next:Nat)(B:OA)(n bc:Nat):List Value:=jJ t s++[Value.int .i64 (next:Int),Value.slice B n bc]
structure Pr(w:World)(t:Tre)(s:Sl)(next:Nat)(l:LB)(B:OA)(bc:Nat)(W:World):Prop where
 box:Blk W w.heap.size 129 (ptC t s next B l.length bc).toArray
 own:W.ownsRow w.heap.size 5 1 (.slice B l.length bc) l.length (l.map bv)
 kp:Kp (ZH w.heap.size) w W
structure FrP(W W' :World):Prop where
 size:W.heap.size<=W'.heap.size
 blk:∀(q:Nat) (T:TypeId) (cs:Array Value),T≠129->T≠5->Blk W q T cs->Blk W' q T cs
theorem FrP.refl(W:World):FrP W W:=⟨jL3 _,fun _ _ _ _ _ h=>h⟩
theorem FrP.trans{W W1 W2:World}(h:FrP W W1)(k:FrP W1 W2):FrP W W2:=⟨jL4 h.size k.size,fun q T cs a b h1=>k.blk q T cs a b (h.blk q T cs a b h1)⟩
theorem FrP.of_old{W W1:World}(h:Old W W1):FrP W W1:=⟨h.size,fun _ _ _ _ _ h1=>h1.old h⟩
def PrR(w:World)(t:Tre)(s:Sl)(next:Nat)(l:LB)(W:World)(e:Ending)(W' :World):Prop:=e=.returned (.tuple #[])/\∃B bc,Pr w t s next l B bc W' /\FrP W W'
theorem PrR.of{w W W1 W' :World}{t:Tre}{s:Sl}{next:Nat}{l:LB}{e:Ending}(f:FrP W W1)(h:PrR w t s next l W1 e W'):PrR w t s next l W e W' :=⟨h.1,h.2.elim fun B h2=>h2.elim fun bc h3=>⟨B,bc,h3.1,f.trans h3.2⟩⟩
section
variable{w W W1 W2:World}{t:Tre}{s:Sl}{next:Nat}{l:LB}{B:OA}{bc:Nat}
theorem Pr.old(h:Pr w t s next l B bc W)(ho:Old W W1):Pr w t s next l B bc W1:=⟨h.box.old ho,jW h.own ho (fun _ _ e=>e),h.kp.old ho⟩
theorem Pr.drewN(h:Pr w t s next l B bc W)(n:Nat):Pr w t s next l B bc (W.drewN n):=h.old ((jQ0 _ _).drewN n)
theorem Pr.c8(h:Pr w t s next l B bc W):W.cell? ⟨w.heap.size,8,none⟩=some (.int .i64 (next:Int)):=h.box.at_ 8 rfl
theorem Pr.c9(h:Pr w t s next l B bc W):W.cell? ⟨w.heap.size,9,none⟩=some (.slice B l.length bc):=h.box.at_ 9 rfl
theorem Pr.c6(h:Pr w t s next l B bc W):W.cell? ⟨w.heap.size,6,none⟩=some (.slice s.nA t.nodes.length s.nc):=h.box.at_ 6 rfl
theorem Pr.z(h:Pr w t s next l B bc W)(i:Nat):W.frozen? ⟨w.heap.size,i,none⟩=false:=h.box.frozen i
theorem Pr.sg(h:Pr w t s next l B bc W)(hg:Sg w)(h8:8<=w.heap.size):Sg W:=hg.kp h.kp (fun e:w.heap.size<=0=>by omega) (fun e:w.heap.size<=2=>by omega)
theorem Pr.grow(h:Pr w t s next l B bc W)(ho:Old W W1){B' :OA}{c' :Nat}{l' :LB}(hg:W1.grownBy W2 (B.map (·.block)))(Hh:W2.ownsRow w.heap.size 5 1 (.slice B' l'.length c') l'.length (l'.map bv)):
  Blk W2 w.heap.size 129 (ptC t s next B l.length bc).toArray/\Pr w t s next l' B' c' (W2.setCell ⟨w.heap.size,9,none⟩ (.slice B' l'.length c'))/\FrP W (W2.setCell ⟨w.heap.size,9,none⟩ (.slice B' l'.length c')):=by
 have Fa:B.map (·.block)≠some w.heap.size:=by rw[<-jC];exact ja h.own h.box (by decide)
 have Fg:Kp (fun b=>B.map (·.block)=some b) W W2:=Kp.grown (ho.mono (fun _ _ e=>e.elim)) hg (fun _ e _=>e);have Fk:=h.box.kp Fg Fa;have Gu:Kp (fun k=>k=w.heap.size) W2 (W2.setCell ⟨w.heap.size,9,none⟩ (.slice B' l'.length c')):=(jQ0 (fun k=>k=w.heap.size) W2).setCell (p:=⟨w.heap.size,9,none⟩) (fun _=>rfl) _;have Na:=(Blk.set_ Fk 9 (.slice B' l'.length c'));rw[jJ1]at Na;refine⟨Fk,⟨Na,jW Hh Gu (fun k e e2=>ja Hh Fk (by decide) (by rw[e];exact congrArg some e2)),(h.kp.trans Fg (fun b hb e=> ?_)).trans Gu (fun b hb e=> ?_)⟩,⟨jL4 Fg.size Gu.size,fun q T cs h1 h2 hq=> ?_⟩⟩
 ·exact(ye h.own e).1
 ·show w.heap.size<=b;have:b=w.heap.size:=e;omega
 ·have Wz:Blk W2 q T cs:=hq.kp Fg (fun e=>ja h.own hq (fun e2=>h2 e2.symm) (by rw[jC];exact e));exact Wz.kp Gu (fun e=>Blk.ne_ Wz Fk h1 e)
end
theorem jH(b x:LB):b.length<=(jI b x).length/\x.length<=(jI b x).length:=by
 unfold jI;split
 ·simp only[jJ4];omega
 ·simp only[jJ4,List.length_singleton];omega
theorem vN(ws:List LB):∀b,b.length<=(jU b ws).length:=by
 induction ws with
 |nil=>exact fun b=>jL3 _
 |cons x l ih=>exact fun b=>jL4 (jH b x).1 (ih _)
theorem jBZ(l2:LB)(z:UInt8)(x:LB):jI (l2++[z]) x=(if z.toNat=10 then l2++[z]else l2++[z]++[32])++x:=by
 unfold jI;rw[List.getLastD_concat];by_cases GM:z.toNat=10
 ·rw[jJ6 GM,jJ6 (.inr (UInt8.toNat_inj.1 GM))]
 ·rw[jJ5 GM,jJ5 (fun e=>e.elim (fun e=>by simp at e) (fun e=>GM (by rw[e];rfl)))]
theorem jBX(l2:LB)(z:UInt8)(x:BA)(h:((if z.toNat=10 then l2++[z]else l2++[z]++[32])++sb x).length<=10000000000000):(l2++[z]).length+x.size<=10000000000000/\(¬z.toNat=10->(l2++[z]).length+1+x.size<=10000000000000):=by
 rw[jJ4,jB]at h;split at h
 ·rename_i h1;exact⟨h,fun e=>absurd h1 e⟩
 ·rw[jJ4,List.length_singleton]at h;exact⟨by omega,fun _=>h⟩
theorem Qb:10000000000000<=maxLen:=by unfold maxLen;omega
theorem jB4:10000000000000<=140737488355328:=by omega
theorem jCs{n:Nat}(h:¬n=10):((n:Int) !=10)=true:=by rw[bne,jM3 (show(n:Int)≠10 by omega)];rfl
theorem jAS(m:Nat)(h:m+1<=10000000000000):(0:Int)<(m:Int)+1/\IntKind.i64.wrap ((m:Int)+1-1)=(m:Int)/\RowKit.wrap64 (m:Int)=(m:Int)/\(0:Int)<=(m:Int)/\(m:Int).toNat=m:=by
 refine⟨by omega,?_,IntWalk.wrap64_in _ (by omega),by omega,by omega⟩;rw[show(m:Int)+1-1=(m:Int)by omega];exact jQ3 _ (by omega)
def jv:Nat:=10000000000000
theorem Zz:(prog.info? 5).map (fun i=>(i.zero,i.size,i.bytes))=some (some (.int .u8 0),1,1):=by kernel_rfl
theorem jAG{P:Program}{f:FuncId}{fn:Func}{c:Code}{args:Array Value}{w:World}{R:Ending->World->Prop}(hf:P.funcs[f]? =some fn)(hb:fn.body=some c)
  (h:c.wp P (bodyPost P fn R) {tmps:=args++Array.replicate (fn.ntmps-args.size) undef,defers:=[]} w):Calls P f args w R/\∀u,CallsD P f args u w (fun e u' w' =>u' =u/\R e w'):=
 ⟨calls_of_wp hf hb h,fun _=>callsD_of_wp hf hb h⟩
theorem XZ(w W:World)(t:Tre)(s:Sl)(next:Nat)(l:LB)(B:OA)(bc:Nat)(h:Pr w t s next l B bc W)(q:Nat)(ws:List BA)(hq:Blk W q 9 (ws.map sv).toArray)(hl:(jU l (ws.map sb)).length<=jv)(NZ:ws.length<=1000):
  Calls prog 53 #[.pointer (some ⟨w.heap.size,0,none⟩),.slice (some ⟨q,0,none⟩) ws.length ws.length] W (PrR w t s next (jU l (ws.map sb)) W)/\
  ∀u,CallsD prog 53 #[.pointer (some ⟨w.heap.size,0,none⟩),.slice (some ⟨q,0,none⟩) ws.length ws.length] u W (fun e u' w' =>u' =u/\PrR w t s next (jU l (ws.map sb)) W e w'):=by
 obtain⟨i0,hi,FF,Ft,FM⟩:=info_parts Zz;have H0:=G h;have HQ:=G hq;have HL:=G hl;clear h hq hl;refine jAG func53 rfl ?_;simp only[ntmps53,jJ8,jK6,jN2,Nat.reduceAdd,Nat.reduceSub,Array.replicate_succ,Array.replicate_zero,List.push_toArray,List.append_toArray,jN8,jN6];go_wp2;go_loopw [9] (fun i wr=>∃(j:Nat) (l1:LB) (B1:OA) (c1:Nat),j<=ws.length/\i=.int .i64 (j:Int)/\jU l (ws.map sb)=jU l1 ((ws.drop j).map sb)/\Pr w t s next l1 B1 c1 wr/\FrP W wr) (fun i _=>ws.length-(intOf i).toNat)
 case atStart=>exact⟨0,l,B,bc,Nat.zero_le _,rfl,rfl,H0.out,FrP.refl _⟩
 case round=>
  clear H0;obtain⟨j,l1,B1,c1,hj,rfl,Fi,hp,hf⟩:=hrel;have Hp:=G hp;have Hf:=G hf;have WH:=G Fi;by_cases hlt:j<ws.length
  ·have hx:(ws.map sv)[j]? =some (.string ws[j]):=by rw[jM1,jJ9 hlt];rfl
   have Ad:=(hf.blk _ _ _ (by decide) (by decide) HQ.out).at_ j (v:=.string ws[j]) (by rw[jJ7];exact hx);have hd:ws.drop j=ws[j]::ws.drop (j+1):=jM9 hlt;rw[hd,List.map_cons]at Fi;have HE:=G (show jU l (ws.map sb)=jU (jI l1 (sb ws[j])) ((ws.drop (j+1)).map sb)from Fi);have hlen:(jI l1 (sb ws[j])).length<=jv:=by have:=vN ((ws.drop (j+1)).map sb) (jI l1 (sb ws[j]));rw[<-HE.out]at this;exact jL4 this HL.out
   generalize ws[j]=x at*;have WO:=hp.c9;have M9:=hp.z 9;have b1:(0:Int)<=(j:Int):=(by omega);have b2:(j:Int).toNat=j:=(by omega);have b3:(j:Int)<(ws.length:Int):=(by omega);have b4:IntKind.i64.wrap ((j:Int)+1)=(j:Int)+1:=jQ3 _ (by omega);have FN:w.heap.size<=wr.heap.size:=hp.kp.size;unfold jv at hlen;clear hf Fi hx hd;rcases List.eq_nil_or_concat l1 with rfl|⟨l2,z,rfl⟩
   ·have Rg:jI [] (sb x)=sb x:=by unfold jI;rw[jJ6 (.inl rfl)];rfl
    rw[Rg]at HE hlen;have GB:=G (show 0+x.size<=maxLen by rw[jB]at hlen;unfold maxLen;omega);have GH:=G (show 0+x.size<=140737488355328 by rw[jB]at hlen;omega);have WO:wr.cell? ⟨w.heap.size,9,none⟩=some (.slice B1 0 c1):=hp.c9;have Q5:=G (show wr.ownsRow w.heap.size 5 1 (.slice B1 0 c1) 0 []from hp.own);clear hp Rg hlen;go_wp2_with (first|(at_builtin;refine jq _ rfl (.tmp 44) (.tmp 45) 33 9 rfl w.heap.size 5 i0 underlying33 underlying9 hi FF Ft FM (.slice B1 0 c1) 0 [] rfl Q5.out x rfl GB.out GH.out FN ?_;intro B2 c2 w2 Hh hgrow Ff;rw[jC]at hgrow;rw[Nat.zero_add,jN8,<-jB]at Hh;have HG:=Hp.out.grow (jQ0 NoX _) hgrow Hh;have WO:=HG.1.at_ 9 (v:=.slice B1 0 c1) rfl;have M9:=HG.1.frozen 9;have HN:=G HG.2;clear Hh hgrow Ff HG)|fail);rw[jB]at HN;exact⟨⟨j+1,sb x,B2,c2,by omega,by rw[show((j+1:Nat):Int)=(j:Int)+1 by omega],HE.out,HN.out.1,Hf.out.trans HN.out.2⟩,by simp only[intOf];omega⟩
   ·rw[List.concat_eq_append]at hp Hp WH HE hlen;clear WO;have WD:(l2++[z]).length=l2.length+1:=by rw[jJ4];rfl
    have TI:=hp.c9;have WA:=hp.own;rw[WD]at TI WA;obtain⟨b,o,u,hB,hu,DQ⟩:=(Rd.of_own WA).at_ (k:=l2.length) (Nat.lt_succ_self _);have Nk:bv z=u:=by
     rw[jM1,List.getElem?_append_right (jL3 _),Nat.sub_self]at hu;injection hu
    subst Nk;subst hB;unfold bv at DQ;have Q5:=G WA;have Rg:=jBZ l2 z (sb x);have MY:l2.length+1<=10000000000000:=by have:=(jH (l2++[z]) (sb x)).1;rw[WD]at this;omega
    rw[Rg]at HE hlen;obtain⟨g1,-,-,g4,g5⟩:=jAS l2.length MY;clear hp Rg WA hu WH;have Mo:(l2++[z]).length+x.size<=10000000000000/\(¬z.toNat=10->(l2++[z]).length+1+x.size<=10000000000000):=jBX l2 z x hlen;rw[WD]at Mo;clear hlen WD;by_cases GM:z.toNat=10
    ·rw[jJ6 GM]at HE;have e10:((z.toNat:Int) !=10)=false:=by rw[GM];rfl
     have GB:=G (show l2.length+1+x.size<=maxLen from jL4 Mo.1 Qb);have GH:=G (show l2.length+1+x.size<=140737488355328 from jL4 Mo.1 jB4);have NY:=G (show l2.length+1+x.size=((l2++[z])++sb x).length by simp only[jJ4,List.length_singleton,jB]);clear GM Mo;go_wp2_with (first|(at_builtin;refine jq _ rfl (.tmp 44) (.tmp 45) 33 9 rfl w.heap.size 5 i0 underlying33 underlying9 hi FF Ft FM (.slice (some ⟨b,o,none⟩) (l2.length+1) c1) (l2.length+1) ((l2++[z]).map bv) rfl Q5.out x rfl GB.out GH.out FN ?_;intro B2 c2 w2 Hh hgrow Ff;rw[jC]at hgrow;rw[<-jN3,NY.out]at Hh;have HG:=Hp.out.grow (jQ0 NoX _) hgrow Hh;have WO:=HG.1.at_ 9 rfl;have M9:=HG.1.frozen 9;have HN:=G HG.2;clear Hh hgrow Ff HG)|fail);rw[<-NY.out]at HN;exact⟨⟨j+1,(l2++[z])++sb x,B2,c2,by omega,by rw[show((j+1:Nat):Int)=(j:Int)+1 by omega],HE.out,HN.out.1,Hf.out.trans HN.out.2⟩,by simp only[intOf];omega⟩
    ·rw[jJ5 GM]at HE;have Gg:=Mo.2 GM;have e10:((z.toNat:Int) !=10)=true:=jCs GM;have J63:=G (show l2.length+1+1<=maxLen from jL4 (jL4 (Nat.le_add_right _ _) Gg) Qb);have J47:=G (show(l2.length+1+1)*1<=140737488355328 from by rw[Nat.mul_one];exact jL4 (jL4 (Nat.le_add_right _ _) Gg) jB4);have GB:=G (show l2.length+1+1+x.size<=maxLen from jL4 Gg Qb);have GH:=G (show l2.length+1+1+x.size<=140737488355328 from jL4 Gg jB4);have SY:=G (show l2.length+1+1=((l2++[z])++[32]).length by simp only[jJ4,List.length_singleton]);have NY:=G (show l2.length+1+1+x.size=(((l2++[z])++[32])++sb x).length by simp only[jJ4,List.length_singleton,jB]);clear GM Mo;go_wp2_with (first|(at_builtin;refine jq _ rfl (.tmp 44) (.tmp 45) 33 9 rfl w.heap.size 5 i0 underlying33 underlying9 hi FF Ft FM (.slice B2 (l2.length+1+1) c2) (l2.length+1+1) (((l2++[z])++[32]).map bv) rfl S9.out x rfl GB.out GH.out Fk ?_;intro B3 c3 w3 Hh hgrow Ff;rw[jC]at hgrow;rw[<-jN3,NY.out]at Hh;have HG:=GO.out.1.grow (jQ0 NoX _) hgrow Hh;have WO:=HG.1.at_ 9 rfl;have M9:=HG.1.frozen 9;have GG:=G HG.2;clear Hh hgrow Ff HG)|(at_builtin;refine jF _ rfl (.tmp 35) (.tmp 36) 33 rfl w.heap.size 5 i0 (.int .u8 0) 1 1 underlying33 hi FF Ft FM rfl (by decide) (.slice (some ⟨b,o,none⟩) (l2.length+1) c1) (l2.length+1) ((l2++[z]).map bv) rfl (jW Q5.out ((jQ0 NoX _).alloc _) (fun _ _ e=>e)) _ 1 1 [bv 32] rfl (Rd.one_new _ _ _) (kK _ rfl) J63.out J47.out (jL4 FN ((jQ0 NoX _).alloc _).size) ?_;intro B2 c2 w2 Hh hgrow Ff;rw[jC]at hgrow;rw[show(l2++[z]).map bv++[bv 32]=((l2++[z])++[32]).map bv by rw[jN3 (l₂:=[32])];rfl,SY.out]at Hh;have HG:=Hp.out.grow ((jQ0 NoX _).alloc _) hgrow Hh;have WO:=HG.1.at_ 9 rfl;have M9:=HG.1.frozen 9;have GO:=G HG.2;clear Hh hgrow Ff HG;rw[<-SY.out]at GO;have d9:=GO.out.1.c9;rw[<-SY.out]at d9;have y9:=GO.out.1.z 9;have S9:=G GO.out.1.own;rw[<-SY.out]at S9;have Fk:=GO.out.1.kp.size)|fail);rw[<-NY.out]at GG;exact⟨⟨j+1,((l2++[z])++[32])++sb x,B3,c3,by omega,by rw[show((j+1:Nat):Int)=(j:Int)+1 by omega],HE.out,GG.out.1,(Hf.out.trans GO.out.2).trans GG.out.2⟩,by simp only[intOf];omega⟩
  ·obtain rfl:j=ws.length:=(by omega);have HF:=G (show jU l (ws.map sb)=l1 by rw[Fi,List.drop_length];rfl);clear hp hf Fi;go_wp2;go_end0;rw[HF.out];exact⟨rfl,B1,c1,Hp.out,Hf.out⟩
theorem jBY(w W:World)(t:Tre)(s:Sl)(next:Nat)(l:LB)(B:OA)(bc:Nat)(h:Pr w t s next l B bc W)(q:Nat)(ws:List BA)(hq:Blk W q 9 (ws.map sv).toArray)(hl:(jU l (ws.map sb)).length<=jv)(NZ:ws.length<=1000):
  Calls prog 53 #[.pointer (some ⟨w.heap.size,0,none⟩),.slice (some ⟨q,0,none⟩) ws.length ws.length] W (PrR w t s next (jU l (ws.map sb)) W):=
 (XZ w W t s next l B bc h q ws hq hl NZ).1
theorem jDr(w W:World)(t:Tre)(s:Sl)(next:Nat)(l:LB)(B:OA)(bc:Nat)(h:Pr w t s next l B bc W)(q:Nat)(ws:List BA)(hq:Blk W q 9 (ws.map sv).toArray)(hl:(jU l (ws.map sb)).length<=jv)(NZ:ws.length<=1000)(u:FrameMode):
  CallsD prog 53 #[.pointer (some ⟨w.heap.size,0,none⟩),.slice (some ⟨q,0,none⟩) ws.length ws.length] u W (fun e u' w' =>u' =u/\PrR w t s next (jU l (ws.map sb)) W e w'):=
 (XZ w W t s next l B bc h q ws hq hl NZ).2 u
theorem jIQ(w:World):Calls prog 191 #[.int .i64 7] w fun e w' =>e=.returned (.int .i64 (jD 7:Nat))/\w=w' :=by
 go_enter func191,ntmps191;go_wp2;go_ret;exact⟨rfl,rfl⟩
theorem jIP(w:World):Calls prog 191 #[.int .i64 8] w fun e w' =>e=.returned (.int .i64 (jD 8:Nat))/\w=w' :=by
 go_enter func191,ntmps191;go_wp2;go_ret;exact⟨rfl,rfl⟩
theorem jIO(w:World):Calls prog 191 #[.int .i64 9] w fun e w' =>e=.returned (.int .i64 (jD 9:Nat))/\w=w' :=by
 go_enter func191,ntmps191;go_wp2;go_ret;exact⟨rfl,rfl⟩
theorem jGv(w:World):Calls prog 191 #[.int .i64 10] w fun e w' =>e=.returned (.int .i64 (jD 10:Nat))/\w=w' :=by
 go_enter func191,ntmps191;go_wp2;go_ret;exact⟨rfl,rfl⟩
theorem jGu(w:World):Calls prog 191 #[.int .i64 11] w fun e w' =>e=.returned (.int .i64 (jD 11:Nat))/\w=w' :=by
 go_enter func191,ntmps191;go_wp2;go_ret;exact⟨rfl,rfl⟩
theorem jGt(w:World):Calls prog 191 #[.int .i64 12] w fun e w' =>e=.returned (.int .i64 (jD 12:Nat))/\w=w' :=by
 go_enter func191,ntmps191;go_wp2;go_ret;exact⟨rfl,rfl⟩
theorem jGs(w:World):Calls prog 191 #[.int .i64 13] w fun e w' =>e=.returned (.int .i64 (jD 13:Nat))/\w=w' :=by
 go_enter func191,ntmps191;go_wp2;go_ret;exact⟨rfl,rfl⟩
theorem jGr(w:World):Calls prog 191 #[.int .i64 14] w fun e w' =>e=.returned (.int .i64 (jD 14:Nat))/\w=w' :=by
 go_enter func191,ntmps191;go_wp2;go_ret;exact⟨rfl,rfl⟩
theorem jGq(w:World):Calls prog 191 #[.int .i64 15] w fun e w' =>e=.returned (.int .i64 (jD 15:Nat))/\w=w' :=by
 go_enter func191,ntmps191;go_wp2;go_ret;exact⟨rfl,rfl⟩
theorem jGp(w:World):Calls prog 191 #[.int .i64 16] w fun e w' =>e=.returned (.int .i64 (jD 16:Nat))/\w=w' :=by
 go_enter func191,ntmps191;go_wp2;go_ret;exact⟨rfl,rfl⟩
theorem jGo(w:World):Calls prog 191 #[.int .i64 17] w fun e w' =>e=.returned (.int .i64 (jD 17:Nat))/\w=w' :=by
 go_enter func191,ntmps191;go_wp2;go_ret;exact⟨rfl,rfl⟩
theorem jGn(w:World):Calls prog 191 #[.int .i64 18] w fun e w' =>e=.returned (.int .i64 (jD 18:Nat))/\w=w' :=by
 go_enter func191,ntmps191;go_wp2;go_ret;exact⟨rfl,rfl⟩
theorem jGm(w:World):Calls prog 191 #[.int .i64 19] w fun e w' =>e=.returned (.int .i64 (jD 19:Nat))/\w=w' :=by
 go_enter func191,ntmps191;go_wp2;go_ret;exact⟨rfl,rfl⟩
theorem jGl(w:World):Calls prog 191 #[.int .i64 20] w fun e w' =>e=.returned (.int .i64 (jD 20:Nat))/\w=w' :=by
 go_enter func191,ntmps191;go_wp2;go_ret;exact⟨rfl,rfl⟩
theorem jGk(w:World):Calls prog 191 #[.int .i64 21] w fun e w' =>e=.returned (.int .i64 (jD 21:Nat))/\w=w' :=by
 go_enter func191,ntmps191;go_wp2;go_ret;exact⟨rfl,rfl⟩
theorem jGj(w:World):Calls prog 191 #[.int .i64 22] w fun e w' =>e=.returned (.int .i64 (jD 22:Nat))/\w=w' :=by
 go_enter func191,ntmps191;go_wp2;go_ret;exact⟨rfl,rfl⟩
theorem jGi(w:World):Calls prog 191 #[.int .i64 23] w fun e w' =>e=.returned (.int .i64 (jD 23:Nat))/\w=w' :=by
 go_enter func191,ntmps191;go_wp2;go_ret;exact⟨rfl,rfl⟩
theorem yC(w:World)(op:Int):Calls prog 191 #[.int .i64 op] w fun e w' =>e=.returned (.int .i64 (jD op:Nat))/\w=w' :=by
 by_cases h:7<=op/\op<=23
 ·have:op=7\/op=8\/op=9\/op=10\/op=11\/op=12\/op=13\/op=14\/op=15\/op=16\/op=17\/op=18\/op=19\/op=20\/op=21\/op=22\/op=23:=(by omega);rcases this with rfl|rfl|rfl|rfl|rfl|rfl|rfl|rfl|rfl|rfl|rfl|rfl|rfl|rfl|rfl|rfl|rfl
  ·exact jIQ w
  ·exact jIP w
  ·exact jIO w
  ·exact jGv w
  ·exact jGu w
  ·exact jGt w
  ·exact jGs w
  ·exact jGr w
  ·exact jGq w
  ·exact jGp w
  ·exact jGo w
  ·exact jGn w
  ·exact jGm w
  ·exact jGl w
  ·exact jGk w
  ·exact jGj w
  ·exact jGi w
 ·have hl:jD op=8:=by
   unfold jD;rw[jJ5 (by omega),jJ5 (by omega),jJ5 (by omega),jJ5 (by omega),jJ5 (by omega),jJ5 (by omega),jJ5 (by omega),jJ5 (by omega)]
  rw[hl];have q23:(op==23)=false:=jM3 (by omega);have q10:(op==10)=false:=jM3 (by omega);have q9:(op==9)=false:=jM3 (by omega);have q8:(op==8)=false:=jM3 (by omega);have q18:(op==18)=false:=jM3 (by omega);have q19:(op==19)=false:=jM3 (by omega);have q7:(op==7)=false:=jM3 (by omega);rcases Int.lt_or_le op 7 with h7|h7
  ·have r1:¬11<=op:=(by omega);have r2:¬20<=op:=(by omega);clear hl h h7;go_enter func191,ntmps191;go_wp2;go_ret;exact⟨rfl,rfl⟩
  ·have r1:11<=op:=(by omega);have r2:20<=op:=(by omega);have r3:¬op<=17:=(by omega);have r4:¬op<=22:=(by omega);clear hl h h7;go_enter func191,ntmps191;go_wp2;go_ret;exact⟨rfl,rfl⟩
theorem jDd(w:World):Calls prog 192 #[.int .i64 7] w fun e w' =>e=.returned (.string ⟨(jA 7).toArray⟩)/\w=w' :=by
 go_enter func192,ntmps192;go_wp2;go_ret;exact⟨rfl,rfl⟩
theorem jDc(w:World):Calls prog 192 #[.int .i64 8] w fun e w' =>e=.returned (.string ⟨(jA 8).toArray⟩)/\w=w' :=by
 go_enter func192,ntmps192;go_wp2;go_ret;exact⟨rfl,rfl⟩
theorem jDb(w:World):Calls prog 192 #[.int .i64 9] w fun e w' =>e=.returned (.string ⟨(jA 9).toArray⟩)/\w=w' :=by
 go_enter func192,ntmps192;go_wp2;go_ret;exact⟨rfl,rfl⟩
theorem jA2(w:World):Calls prog 192 #[.int .i64 10] w fun e w' =>e=.returned (.string ⟨(jA 10).toArray⟩)/\w=w' :=by
 go_enter func192,ntmps192;go_wp2;go_ret;exact⟨rfl,rfl⟩
theorem jAv(w:World):Calls prog 192 #[.int .i64 17] w fun e w' =>e=.returned (.string ⟨(jA 17).toArray⟩)/\w=w' :=by
 go_enter func192,ntmps192;go_wp2;go_ret;exact⟨rfl,rfl⟩
theorem jAu(w:World):Calls prog 192 #[.int .i64 18] w fun e w' =>e=.returned (.string ⟨(jA 18).toArray⟩)/\w=w' :=by
 go_enter func192,ntmps192;go_wp2;go_ret;exact⟨rfl,rfl⟩
theorem jAt(w:World):Calls prog 192 #[.int .i64 19] w fun e w' =>e=.returned (.string ⟨(jA 19).toArray⟩)/\w=w' :=by
 go_enter func192,ntmps192;go_wp2;go_ret;exact⟨rfl,rfl⟩
theorem jAp(w:World):Calls prog 192 #[.int .i64 24] w fun e w' =>e=.returned (.string ⟨(jA 24).toArray⟩)/\w=w' :=by
 go_enter func192,ntmps192;go_wp2;go_ret;exact⟨rfl,rfl⟩
theorem jAo(w:World):Calls prog 192 #[.int .i64 25] w fun e w' =>e=.returned (.string ⟨(jA 25).toArray⟩)/\w=w' :=by
 go_enter func192,ntmps192;go_wp2;go_ret;exact⟨rfl,rfl⟩
theorem jAn(w:World):Calls prog 192 #[.int .i64 26] w fun e w' =>e=.returned (.string ⟨(jA 26).toArray⟩)/\w=w' :=by
 go_enter func192,ntmps192;go_wp2;go_ret;exact⟨rfl,rfl⟩
theorem jAm(w:World):Calls prog 192 #[.int .i64 27] w fun e w' =>e=.returned (.string ⟨(jA 27).toArray⟩)/\w=w' :=by
 go_enter func192,ntmps192;go_wp2;go_ret;exact⟨rfl,rfl⟩
theorem jAl(w:World):Calls prog 192 #[.int .i64 28] w fun e w' =>e=.returned (.string ⟨(jA 28).toArray⟩)/\w=w' :=by
 go_enter func192,ntmps192;go_wp2;go_ret;exact⟨rfl,rfl⟩
theorem jA1(w:World)(hg:Sg w):Calls prog 192 #[.int .i64 11] w fun e w' =>e=.returned (.string ⟨(jA 11).toArray⟩)/\w=w' :=by
 have hc:w.cell? ⟨2,8,none⟩=some (.string ⟨(jA 11).toArray⟩):=hg.sig 8 _ rfl;clear hg;go_enter func192,ntmps192;go_wp2;go_ret;exact⟨rfl,rfl⟩
theorem jA0(w:World)(hg:Sg w):Calls prog 192 #[.int .i64 12] w fun e w' =>e=.returned (.string ⟨(jA 12).toArray⟩)/\w=w' :=by
 have hc:w.cell? ⟨2,9,none⟩=some (.string ⟨(jA 12).toArray⟩):=hg.sig 9 _ rfl;clear hg;go_enter func192,ntmps192;go_wp2;go_ret;exact⟨rfl,rfl⟩
theorem jAz(w:World)(hg:Sg w):Calls prog 192 #[.int .i64 13] w fun e w' =>e=.returned (.string ⟨(jA 13).toArray⟩)/\w=w' :=by
 have hc:w.cell? ⟨2,10,none⟩=some (.string ⟨(jA 13).toArray⟩):=hg.sig 10 _ rfl;clear hg;go_enter func192,ntmps192;go_wp2;go_ret;exact⟨rfl,rfl⟩
theorem jAy(w:World)(hg:Sg w):Calls prog 192 #[.int .i64 14] w fun e w' =>e=.returned (.string ⟨(jA 14).toArray⟩)/\w=w' :=by
 have hc:w.cell? ⟨2,11,none⟩=some (.string ⟨(jA 14).toArray⟩):=hg.sig 11 _ rfl;clear hg;go_enter func192,ntmps192;go_wp2;go_ret;exact⟨rfl,rfl⟩
theorem jAx(w:World)(hg:Sg w):Calls prog 192 #[.int .i64 15] w fun e w' =>e=.returned (.string ⟨(jA 15).toArray⟩)/\w=w' :=by
 have hc:w.cell? ⟨2,12,none⟩=some (.string ⟨(jA 15).toArray⟩):=hg.sig 12 _ rfl;clear hg;go_enter func192,ntmps192;go_wp2;go_ret;exact⟨rfl,rfl⟩
theorem jAw(w:World)(hg:Sg w):Calls prog 192 #[.int .i64 16] w fun e w' =>e=.returned (.string ⟨(jA 16).toArray⟩)/\w=w' :=by
 have hc:w.cell? ⟨2,13,none⟩=some (.string ⟨(jA 16).toArray⟩):=hg.sig 13 _ rfl;clear hg;go_enter func192,ntmps192;go_wp2;go_ret;exact⟨rfl,rfl⟩
theorem jAs(w:World)(hg:Sg w):Calls prog 192 #[.int .i64 20] w fun e w' =>e=.returned (.string ⟨(jA 20).toArray⟩)/\w=w' :=by
 have hc:w.cell? ⟨2,16,none⟩=some (.string ⟨(jA 20).toArray⟩):=hg.sig 16 _ rfl;clear hg;go_enter func192,ntmps192;go_wp2;go_ret;exact⟨rfl,rfl⟩
theorem jAr(w:World)(hg:Sg w):Calls prog 192 #[.int .i64 21] w fun e w' =>e=.returned (.string ⟨(jA 21).toArray⟩)/\w=w' :=by
 have hc:w.cell? ⟨2,17,none⟩=some (.string ⟨(jA 21).toArray⟩):=hg.sig 17 _ rfl;clear hg;go_enter func192,ntmps192;go_wp2;go_ret;exact⟨rfl,rfl⟩
theorem jAq(w:World)(hg:Sg w):Calls prog 192 #[.int .i64 22] w fun e w' =>e=.returned (.string ⟨(jA 22).toArray⟩)/\w=w' :=by
 have hc:w.cell? ⟨2,18,none⟩=some (.string ⟨(jA 22).toArray⟩):=hg.sig 18 _ rfl;clear hg;go_enter func192,ntmps192;go_wp2;go_ret;exact⟨rfl,rfl⟩
theorem jAk(w:World)(hg:Sg w):Calls prog 192 #[.int .i64 29] w fun e w' =>e=.returned (.string ⟨(jA 29).toArray⟩)/\w=w' :=by
 have hc:w.cell? ⟨0,30,none⟩=some (.string ⟨(jA 29).toArray⟩):=hg.res 30 _ rfl;clear hg;go_enter func192,ntmps192;go_wp2;go_ret;exact⟨rfl,rfl⟩
theorem jAj(w:World)(hg:Sg w):Calls prog 192 #[.int .i64 30] w fun e w' =>e=.returned (.string ⟨(jA 30).toArray⟩)/\w=w' :=by
 have hc:w.cell? ⟨0,31,none⟩=some (.string ⟨(jA 30).toArray⟩):=hg.res 31 _ rfl;clear hg;go_enter func192,ntmps192;go_wp2;go_ret;exact⟨rfl,rfl⟩
theorem jAi(w:World)(hg:Sg w):Calls prog 192 #[.int .i64 31] w fun e w' =>e=.returned (.string ⟨(jA 31).toArray⟩)/\w=w' :=by
 have hc:w.cell? ⟨0,32,none⟩=some (.string ⟨(jA 31).toArray⟩):=hg.res 32 _ rfl;clear hg;go_enter func192,ntmps192;go_wp2;go_ret;exact⟨rfl,rfl⟩
theorem jAh(w:World)(hg:Sg w):Calls prog 192 #[.int .i64 32] w fun e w' =>e=.returned (.string ⟨(jA 32).toArray⟩)/\w=w' :=by
 have hc:w.cell? ⟨0,33,none⟩=some (.string ⟨(jA 32).toArray⟩):=hg.res 33 _ rfl;clear hg;go_enter func192,ntmps192;go_wp2;go_ret;exact⟨rfl,rfl⟩
theorem jAg(w:World)(hg:Sg w):Calls prog 192 #[.int .i64 33] w fun e w' =>e=.returned (.string ⟨(jA 33).toArray⟩)/\w=w' :=by
 have hc:w.cell? ⟨0,34,none⟩=some (.string ⟨(jA 33).toArray⟩):=hg.res 34 _ rfl;clear hg;go_enter func192,ntmps192;go_wp2;go_ret;exact⟨rfl,rfl⟩
theorem vi(w:World)(hg:Sg w)(op:Int)(h:7<=op/\op<=33/\op≠23):Calls prog 192 #[.int .i64 op] w fun e w' =>e=.returned (.string ⟨(jA op).toArray⟩)/\w=w' :=by
 have:op=7\/op=8\/op=9\/op=10\/op=11\/op=12\/op=13\/op=14\/op=15\/op=16\/op=17\/op=18\/op=19\/op=20\/op=21\/op=22\/op=24\/op=25\/op=26\/op=27\/op=28\/op=29\/op=30\/op=31\/op=32\/op=33:=(by omega);rcases this with rfl|rfl|rfl|rfl|rfl|rfl|rfl|rfl|rfl|rfl|rfl|rfl|rfl|rfl|rfl|rfl|rfl|rfl|rfl|rfl|rfl|rfl|rfl|rfl|rfl|rfl
 ·exact jDd w
 ·exact jDc w
 ·exact jDb w
 ·exact jA2 w
 ·exact jA1 w hg
 ·exact jA0 w hg
 ·exact jAz w hg
 ·exact jAy w hg
 ·exact jAx w hg
 ·exact jAw w hg
 ·exact jAv w
 ·exact jAu w
 ·exact jAt w
 ·exact jAs w hg
 ·exact jAr w hg
 ·exact jAq w hg
 ·exact jAp w
 ·exact jAo w
 ·exact jAn w
 ·exact jAm w
 ·exact jAl w
 ·exact jAk w hg
 ·exact jAj w hg
 ·exact jAi w hg
 ·exact jAh w hg
 ·exact jAg w hg
theorem Jf(s:BA):s.toList.isEmpty=decide (s.size=0):=by
 rw[ByteArray.toList_eq,<-jB];unfold sb;cases s.data.toList<;>rfl
theorem tl_size{s:BA}:s.toList=[]↔s.size=0:=by
 rw[ByteArray.toList_eq,<-jB];exact List.length_eq_zero_iff.symm
theorem stages(P:Prop)(Q:Prop)(vt:BA)(vs:List BA)(kids:List Int)(k:Int):
  ¬P\/(P/\¬Q)\/(P/\Q/\¬vt.toList=[])\/(P/\Q/\vt.toList=[]/\0<vs.length)\/(P/\Q/\vt.toList=[]/\vs=[]/\((kids.length:Int) !=k)=true)\/(P/\Q/\vt.toList=[]/\vs=[]/\((kids.length:Int) !=k)=false):=by
 by_cases h1:P
 ·by_cases h2:Q
  ·by_cases h3:vt.toList=[]
   ·by_cases h4:vs=[]
    ·cases h5:((kids.length:Int) !=k)
     ·exact .inr (.inr (.inr (.inr (.inr ⟨h1,h2,h3,h4,rfl⟩))))
     ·exact .inr (.inr (.inr (.inr (.inl ⟨h1,h2,h3,h4,rfl⟩))))
    ·exact .inr (.inr (.inr (.inl ⟨h1,h2,h3,List.length_pos_iff.2 h4⟩)))
   ·exact .inr (.inr (.inl ⟨h1,h2,h3⟩))
  ·exact .inr (.inl ⟨h1,h2⟩)
 ·exact .inl h1
theorem bnf{a b:Int}(h:a=b):(a !=b)=false:=by rw[bne,beq_iff_eq.2 h];rfl
theorem bnt{a b:Int}(h:a≠b):(a !=b)=true:=by rw[bne,jM3 h];rfl
theorem Qz(E:Int):bits BinOp.and IntKind.i64 E 1=E% 2:=by
 have hb:(2:Int)^IntKind.i64.bits=18446744073709551616:=rfl;have h1:(1% 2^IntKind.i64.bits:Nat)=1:=(by decide);unfold bits;simp;rw[h1,Nat.and_one_is_mod,hb,jQ3 _ (by omega)];omega
def jKU(op vn:Int)(vt:BA)(n:Nat)(K k:Int)(kN:Nat)(Q:Prop)(vt' :BA):Prop:=
 (0=K/\(vn=0)=Q/\vt=vt' /\((op=4\/op=29\/op=30\/op=5\/op=24\/op=25\/op=26)/\0=k/\0=kN\/(op=7\/op=8\/op=27)/\1=k/\1=kN\/op=23/\3=k/\3=kN\/op=6/\(n:Int)=k/\n=kN\/
  ((op==1)=false/\(op==2)=false/\(op==3)=false/\(op==4)=false/\(op==29)=false/\(op==30)=false/\(op==5)=false/\(op==24)=false/\(op==25)=false/\(op==26)=false/\(op==6)=false/\(op==7)=false/\(op==8)=false/\(op==27)=false/\(op==23)=false)/\2=k/\2=kN))\/
 op=1/\1=K/\(0<=vn)=Q/\vt=vt' /\0=k/\0=kN\/op=2/\2=K/\(vn% 2=vn)=Q/\vt=vt' /\0=k/\0=kN\/op=3/\3=K/\(vn=0)=Q/\⟨#[]⟩=vt' /\0=k/\0=kN
theorem jKP(op vn:Int)(vt:BA)(n:Nat):∃K k kN Q vt',jKU op vn vt n K k kN Q vt' :=by
 by_cases h1:op=1
 ·exact⟨_,_,_,_,_,.inr (.inl ⟨h1,rfl,rfl,rfl,rfl,rfl⟩)⟩
 by_cases h2:op=2
 ·exact⟨_,_,_,_,_,.inr (.inr (.inl ⟨h2,rfl,rfl,rfl,rfl,rfl⟩))⟩
 by_cases h3:op=3
 ·exact⟨_,_,_,_,_,.inr (.inr (.inr ⟨h3,rfl,rfl,rfl,rfl,rfl⟩))⟩
 by_cases h4:op=4\/op=29\/op=30\/op=5\/op=24\/op=25\/op=26
 ·exact⟨_,_,_,_,_,.inl ⟨rfl,rfl,rfl,.inl ⟨h4,rfl,rfl⟩⟩⟩
 by_cases h5:op=7\/op=8\/op=27
 ·exact⟨_,_,_,_,_,.inl ⟨rfl,rfl,rfl,.inr (.inl ⟨h5,rfl,rfl⟩)⟩⟩
 by_cases h6:op=23
 ·exact⟨_,_,_,_,_,.inl ⟨rfl,rfl,rfl,.inr (.inr (.inl ⟨h6,rfl,rfl⟩))⟩⟩
 by_cases h7:op=6
 ·exact⟨_,_,_,_,_,.inl ⟨rfl,rfl,rfl,.inr (.inr (.inr (.inl ⟨h7,rfl,rfl⟩)))⟩⟩
 exact⟨_,_,_,_,_,.inl ⟨rfl,rfl,rfl,.inr (.inr (.inr (.inr ⟨by simp only[beq_eq_false_iff_ne];omega,rfl,rfl⟩)))⟩⟩
end Go.Proofs.YtmmjcbbogokmfaaGreatDoor

import Derived.Test.YtmmjcbbogokmfaaGreatDoorMp09
set_option maxRecDepth 100000
set_option maxHeartbeats 25600000
namespace Go.Proofs.YtmmjcbbogokmfaaGreatDoor
open Go.Proofs.Tryz
def tb(s:BA):LB:=s.data.toList
def jb(s:BA):Bool:=js (tb s)
def jK(n:Nd):Bool:=
 if n.op=1 then decide (n.vk=1/\0<=n.vn)&&decide (n.vt.size=0)&&decide (n.vs=[])&&decide (n.kids.length=0)&&decide (n.name.size=0)
 else if n.op=2 then decide (n.vk=2/\(n.vn=0\/n.vn=1))&&decide (n.vt.size=0)&&decide (n.vs=[])&&decide (n.kids.length=0)&&decide (n.name.size=0)
 else if n.op=3 then decide (n.vk=3/\n.vn=0)&&decide (n.vs=[])&&decide (n.kids.length=0)&&decide (n.name.size=0)
 else decide (n.vk=0/\n.vn=0)&&decide (n.vt.size=0)&&decide (n.vs=[])&&
  (if n.op=4\/n.op=29\/n.op=30 then decide (n.kids.length=0)&&decide (n.name.size=0)
   else if n.op=5\/n.op=24\/n.op=25\/n.op=26 then decide (n.kids.length=0)&&jb n.name
   else if n.op=6 then decide (n.name.size=0)
   else if n.op=7\/n.op=8\/n.op=27 then decide (n.kids.length=1)&&decide (n.name.size=0)
   else if n.op=23 then decide (n.kids.length=3)&&decide (n.name.size=0)
   else decide (1<=n.op/\n.op<34)&&decide (n.kids.length=2)&&decide (n.name.size=0))
structure LayP where
 l:List (Int×Int)
 last:Int
 ok:Bool
def JX(fam:Int)(i:Nat)(order:Int)(s:LayP):LayP:=
 let last:=if i=0 then-1 else s.last
 if order<=last\/(s.l.length:Int)<=order\/s.l.getD order.toNat (0,0)≠(0,0)then⟨s.l,last,false⟩
 else⟨s.l.set order.toNat (fam,(i:Int)),order,s.ok⟩
def ja(fam:Int):List Int->Nat->LayP->LayP
 |[],_,s=>s
 |o::l,i,s=>ja fam l (i+1) (JX fam i o s)
def Tre.count(t:Tre):Nat:=t.attrs.length+t.stages.length+t.miles.length+t.steps.length
def jv(t:Tre):LayP:=
 ja 4 (t.steps.map Stp.order) 0 (ja 3 (t.miles.map Mil.order) 0 (ja 2 (t.stages.map Stg.order) 0 (ja 1 (t.attrs.map Atr.order) 0 ⟨List.replicate t.count (0,0),-1,true⟩)))
def kQ(nodes:List Nd):Nat->Int->Nat->Option Nat
 |0,_,_=>none
 |f+1,root,next=>
  if root<0\/(nodes.length:Int)<=root then none
  else match nodes[root.toNat]? with
   |none=>none
   |some n=>if jK n=false then none
    else(n.kids.foldl (fun(s:Option Nat) k=>s.bind fun nx=>if root<=k then none else kQ nodes f k nx) (some next)).bind fun nx=>if root=(nx:Int)then some (nx+1)else none
def jI(b w:LB):LB:=(if b=[]\/b.getLastD 0=10 then b else b++[32])++w
def jT(b:LB)(ws:List LB):LB:=ws.foldl jI b
def jD(op:Int):Nat:=
 if op=23 then 0 else if op=10 then 1 else if op=9 then 2 else if op=8 then 3 else if 11<=op/\op<=17 then 4 else if op=18\/op=19 then 5 else if 20<=op/\op<=22 then 6 else if op=7 then 7 else 8
def jA(op:Int):LB:=
 if 11<=op/\op<=16 then signL.getD (op.toNat-3) []
 else if 20<=op/\op<=22 then signL.getD (op.toNat-4) []
 else if 29<=op/\op<=33 then resL.getD (op.toNat+1) []
 else if op=8 then [110,111,116]else if op=9 then [97,110,100]else if op=10 then [111,114]else if op=17 then [105,110]else if op=18 then [43]else if op=7\/op=19 then [45]
 else if op=24 then [104,97,115]else if op=25 then [111,112,101,110]else if op=26 then [114,101,97,99,104,101,100]else if op=27 then [115,105,122,101]else [106,111,105,110]
def Vj(n:Nat):UInt8:=UInt8.ofNat (if n<10 then 48+n else 87+n)
def yQ(c:UInt8):LB:=
 if c.toNat=34\/c.toNat=92 then [92,c]else if c.toNat=10 then [92,110]else if c.toNat=9 then [92,116]
 else if c.toNat<32\/126<c.toNat then [92,120,Vj (c.toNat/16),Vj (c.toNat% 16)]else [c]
def kw(s:LB):LB:=34::(s.flatMap yQ++[34])
def xl:Nat->Nat->LB
 |0,_=>[]
 |f+1,n=>if n<10 then [UInt8.ofNat (48+n)]else xl f (n/10)++[UInt8.ofNat (48+n% 10)]
def qF(n:Int):LB:=xl 20 n.toNat
def opens(own least:Nat)(b:LB):LB:=if own<least then jI b [40]else b
def JE(own least:Nat)(b:LB):LB:=if own<least then jI b [41]else b
def exprP(nodes:List Nd):Nat->Int->Nat->LB->Option LB
 |0,_,_,_=>none
 |f+1,root,least,b=>
  if root<0 then none
  else match nodes[root.toNat]? with
   |none=>none
   |some n=>
    let own:=jD n.op
    let b0:=opens own least b
    let two (l r:Nat) (w:LB):Option LB:=match n.kids with
     |k::q::_=>(exprP nodes f k l b0).bind fun b1=>exprP nodes f q r (jI b1 w)
     |_=>none
    let one:Option LB:=match n.kids with
     |k::_=>exprP nodes f k own (jI b0 (jA n.op))
     |_=>none
    (if own=0 then(match n.kids with
      |a::c::d::_=>(exprP nodes f a 0 (jI b0 [105,102])).bind fun b1=>(exprP nodes f c 0 (jI b1 [116,104,101,110])).bind fun b2=>exprP nodes f d 0 (jI b2 [101,108,115,101])
      |_=>none)
     else if own=1\/own=2\/own=5\/own=6 then two own (own+1) (jA n.op)
     else if own=3\/own=7 then one
     else if own=4 then two 5 5 (jA n.op)
     else if n.op=1 then some (jI b0 (qF n.vn))
     else if n.op=2 then some (jI b0 (if n.vn=1 then [116,114,117,101]else [102,97,108,115,101]))
     else if n.op=3 then some (jI b0 (kw (tb n.vt)))
     else if n.op=5 then some (jI b0 (tb n.name))
     else if n.op=4 then some (jI b0 [110,111,116,104,105,110,103])
     else if n.op=6 then(listP (exprP nodes f) n.kids 0 (jI b0 [123])).map fun b1=>jI b1 [125]
     else(listP (exprP nodes f) n.kids 0 (let b1:=jI (jI b0 (jA n.op)) [40];if n.name.size=0 then b1 else jI b1 (tb n.name))).map fun b1=>jI b1 [41]).map (JE own least)
where
 listP (g:Int->Nat->LB->Option LB):List Int->Nat->LB->Option LB
  |[],_,b=>some b
  |k::l,i,b=>(g k 0 (if 0<i then jI b [44]else b)).bind fun b1=>listP g l (i+1) b1
def jX(nodes:List Nd)(root:Int)(next:Nat):Option Nat:=if root= -1 then some next else kQ nodes (nodes.length+1) root next
def vL(s:BA):Bool:=decide (s.size=0)||jb s
def kq(k:Int):Bool:=decide (1<=k/\k<=5)
def KI(ns:List Nd)(a:Atr)(nx:Nat):Option Nat:=if jb a.name=true/\kq a.kind=true then(jX ns a.dflt nx).bind (jX ns a.when_)else none
def VM(ns:List Nd)(s:Stg)(nx:Nat):Option Nat:=if jb s.name=true/\vL s.in_=true then(jX ns s.opens nx).bind (jX ns s.closes)else none
def Jd(ns:List Nd)(m:Mil)(nx:Nat):Option Nat:=if jb m.name=true/\vL m.in_=true then kQ ns (ns.length+1) m.when_ nx else none
def vE(ns:List Nd):List Eff->Nat->Option Nat
 |[],nx=>some nx
 |e::l,nx=>if jb e.name=true then(jX ns e.worth nx).bind (vE ns l)else none
def Jc(ns:List Nd)(s:Stp)(nx:Nat):Option Nat:=
 if jb s.name=true/\vL s.in_=true/\s.params.all (fun p=>jb p.name&&kq p.kind)=true then(jX ns s.when_ nx).bind (vE ns s.effects)else none
def kZ(t:Tre)(d:Int×Int)(nx:Nat):Option Nat:=
 if d.1=1 then(t.attrs[d.2.toNat]?).bind fun a=>KI t.nodes a nx
 else if d.1=2 then(t.stages[d.2.toNat]?).bind fun a=>VM t.nodes a nx
 else if d.1=3 then(t.miles[d.2.toNat]?).bind fun a=>Jd t.nodes a nx
 else(t.steps[d.2.toNat]?).bind fun a=>Jc t.nodes a nx
def jw(t:Tre):List (Int×Int)->Nat->Option Nat
 |[],nx=>some nx
 |d::l,nx=>(kZ t d nx).bind (jw t l)
def YX(k:Int):LB:=resL.getD (k.toNat+10) []
def exP(ns:List Nd)(root:Int)(b:LB):Option LB:=exprP ns (ns.length+1) root 0 b
def vY(ns:List Nd)(root:Int)(ws:List LB)(b:LB):Option LB:=if 0<=root then exP ns root (jT b ws)else some b
def inP(s:BA)(b:LB):LB:=if s.size=0 then b else jT b [[105,110],tb s]
def xd(ns:List Nd)(a:Atr)(b:LB):Option LB:=
 let b1:=jT b [[97,116,116,114,105,98,117,116,101],tb a.name,[58]]
 let b2:=if a.opt=true then jI b1 [111,112,116,105,111,110,97,108]else b1
 (vY ns a.dflt [[61]] (jI b2 (YX a.kind))).bind fun b3=>(vY ns a.when_ [[119,104,101,110]] b3).map fun b4=>jI b4 [59]
def Ym(ns:List Nd)(root:Int)(w:LB)(b:LB):Option LB:=if 0<=root then(vY ns root [w,[119,104,101,110]] b).map fun b1=>jI b1 [59]else some b
def xb(ns:List Nd)(s:Stg)(b:LB):Option LB:=
 (Ym ns s.opens [111,112,101,110,115] (jI (inP s.in_ (jT b [[115,116,97,103,101],tb s.name])) [123])).bind fun b1=>(Ym ns s.closes [99,108,111,115,101,115] b1).map fun b2=>jI b2 [125]
def Yt(ns:List Nd)(m:Mil)(b:LB):Option LB:=
 (vY ns m.when_ [[114,101,97,99,104,101,100],[119,104,101,110]] (inP m.in_ (jT b [[109,105,108,101,115,116,111,110,101],tb m.name]))).map fun b1=>jI b1 [59]
def vW:List Prm->Nat->LB->LB
 |[],_,b=>b
 |p::l,i,b=>vW l (i+1) (jT (if 0<i then jI b [44]else b) [tb p.name,[58],YX p.kind])
def vQ(ns:List Nd):List Eff->LB->Option LB
 |[],b=>some b
 |e::l,b=>(if e.worth<0 then some (jT b [[114,101,111,112,101,110],tb e.name])else vY ns e.worth [tb e.name,[58,61]] b).bind fun b1=>vQ ns l (jI b1 [59])
def Zy(ns:List Nd)(s:Stp)(b:LB):Option LB:=
 (vY ns s.when_ [[119,104,101,110]] (inP s.in_ (jI (vW s.params 0 (jT b [[115,116,101,112],tb s.name,[40]])) [41]))).bind fun b1=>(vQ ns s.effects (jI b1 [123])).map fun b2=>jI b2 [125]
def Kg(t:Tre)(d:Int×Int)(b:LB):Option LB:=
 (if d.1=1 then(t.attrs[d.2.toNat]?).bind fun a=>xd t.nodes a b
 else if d.1=2 then(t.stages[d.2.toNat]?).bind fun a=>xb t.nodes a b
 else if d.1=3 then(t.miles[d.2.toNat]?).bind fun a=>Yt t.nodes a b
 else(t.steps[d.2.toNat]?).bind fun a=>Zy t.nodes a b).map (· ++[10])
def yu(t:Tre):List (Int×Int)->LB->Option LB
 |[],b=>some b
 |d::l,b=>(Kg t d b).bind (yu t l)
def ua(t:Tre):Bool:=(jv t).ok&&jb t.name&&decide (jw t (jv t).l 0=some t.nodes.length)
def ZR(t:Tre):Option LB:=(yu t (jv t).l (jT [] [[116,121,112,101],tb t.name,[123]]++[10])).map (· ++[125,10])
def vG(t:Tre):Option LB:=if ua t=true then ZR t else none
open Go.RowKit
def Jo(k:Nat):Nat->Prop:=fun b=>k<=b
def ptC(t:Tre)(s:Sl)(next:Nat)(B:OA)(n bc:Nat):List Value:=jF t s++[Value.int .i64 (next:Int),Value.slice B n bc]
structure Pr(w:World)(t:Tre)(s:Sl)(next:Nat)(l:LB)(B:OA)(bc:Nat)(W:World):Prop where
 box:Blk W w.heap.size 129 (ptC t s next B l.length bc).toArray
 own:W.ownsRow w.heap.size 5 1 (.slice B l.length bc) l.length (l.map bv)
 kp:Kp (Jo w.heap.size) w W
structure FrP(W W' :World):Prop where
 size:W.heap.size<=W'.heap.size
 blk:∀(q:Nat) (T:TypeId) (cs:Array Value),T≠129->T≠5->Blk W q T cs->Blk W' q T cs
theorem FrP.refl(W:World):FrP W W:=⟨jL3 _,fun _ _ _ _ _ h=>h⟩
theorem FrP.trans{W W1 W2:World}(h:FrP W W1)(k:FrP W1 W2):FrP W W2:=⟨jL4 h.size k.size,fun q T cs a b h1=>k.blk q T cs a b (h.blk q T cs a b h1)⟩
theorem FrP.of_old{W W1:World}(h:Old W W1):FrP W W1:=⟨h.size,fun _ _ _ _ _ h1=>h1.old h⟩
def PrR(w:World)(t:Tre)(s:Sl)(next:Nat)(l:LB)(W:World)(e:Ending)(W' :World):Prop:=e=.returned (.tuple #[])/\∃B bc,Pr w t s next l B bc W' /\FrP W W'
theorem PrR.of{w W W1 W' :World}{t:Tre}{s:Sl}{next:Nat}{l:LB}{e:Ending}(f:FrP W W1)(h:PrR w t s next l W1 e W'):PrR w t s next l W e W' :=⟨h.1,h.2.elim fun B h2=>h2.elim fun bc h3=>⟨B,bc,h3.1,f.trans h3.2⟩⟩
section
variable{w W W1 W2:World}{t:Tre}{s:Sl}{next:Nat}{l:LB}{B:OA}{bc:Nat}
theorem Pr.old(h:Pr w t s next l B bc W)(ho:Old W W1):Pr w t s next l B bc W1:=⟨h.box.old ho,jV h.own ho (fun _ _ e=>e),h.kp.old ho⟩
theorem Pr.drewN(h:Pr w t s next l B bc W)(n:Nat):Pr w t s next l B bc (W.drewN n):=h.old ((jQ0 _ _).drewN n)
theorem Pr.c8(h:Pr w t s next l B bc W):W.cell? ⟨w.heap.size,8,none⟩=some (.int .i64 (next:Int)):=h.box.at_ 8 rfl
theorem Pr.c9(h:Pr w t s next l B bc W):W.cell? ⟨w.heap.size,9,none⟩=some (.slice B l.length bc):=h.box.at_ 9 rfl
theorem Pr.c6(h:Pr w t s next l B bc W):W.cell? ⟨w.heap.size,6,none⟩=some (.slice s.nA t.nodes.length s.nc):=h.box.at_ 6 rfl
theorem Pr.z(h:Pr w t s next l B bc W)(i:Nat):W.frozen? ⟨w.heap.size,i,none⟩=false:=h.box.frozen i
theorem Pr.sg(h:Pr w t s next l B bc W)(hg:Sg w)(h8:8<=w.heap.size):Sg W:=hg.kp h.kp (fun e:w.heap.size<=0=>by omega) (fun e:w.heap.size<=2=>by omega)
theorem Pr.grow(h:Pr w t s next l B bc W)(ho:Old W W1){B' :OA}{c' :Nat}{l' :LB}(hg:W1.grownBy W2 (B.map (·.block)))(Hi:W2.ownsRow w.heap.size 5 1 (.slice B' l'.length c') l'.length (l'.map bv)):
  Blk W2 w.heap.size 129 (ptC t s next B l.length bc).toArray/\Pr w t s next l' B' c' (W2.setCell ⟨w.heap.size,9,none⟩ (.slice B' l'.length c'))/\FrP W (W2.setCell ⟨w.heap.size,9,none⟩ (.slice B' l'.length c')):=by
 have Fh:B.map (·.block)≠some w.heap.size:=by rw[<-jC];exact jY h.own h.box (by decide)
 have hU:Kp (fun b=>B.map (·.block)=some b) W W2:=Kp.grown (ho.mono (fun _ _ e=>e.elim)) hg (fun _ e _=>e);have Fj:=h.box.kp hU Fh;have GO:Kp (fun k=>k=w.heap.size) W2 (W2.setCell ⟨w.heap.size,9,none⟩ (.slice B' l'.length c')):=(jQ0 (fun k=>k=w.heap.size) W2).setCell (p:=⟨w.heap.size,9,none⟩) (fun _=>rfl) _;have Nm:=(Blk.set_ Fj 9 (.slice B' l'.length c'));rw[jJ1]at Nm;refine⟨Fj,⟨Nm,jV Hi GO (fun k e e2=>jY Hi Fj (by decide) (by rw[e];exact congrArg some e2)),(h.kp.trans hU (fun b hb e=> ?_)).trans GO (fun b hb e=> ?_)⟩,⟨jL4 hU.size GO.size,fun q T cs h1 h2 hq=> ?_⟩⟩
 ·exact(JL h.own e).1
 ·show w.heap.size<=b;have:b=w.heap.size:=e;omega
 ·have Wo:Blk W2 q T cs:=hq.kp hU (fun e=>jY h.own hq (fun e2=>h2 e2.symm) (by rw[jC];exact e));exact Wo.kp GO (fun e=>Blk.ne_ Wo Fj h1 e)
end
theorem jG(b x:LB):b.length<=(jI b x).length/\x.length<=(jI b x).length:=by
 unfold jI;split
 ·simp only[jJ4];omega
 ·simp only[jJ4,List.length_singleton];omega
theorem vF(ws:List LB):∀b,b.length<=(jT b ws).length:=by
 induction ws with
 |nil=>exact fun b=>jL3 _
 |cons x l ih=>exact fun b=>jL4 (jG b x).1 (ih _)
theorem qi(l2:LB)(z:UInt8)(x:LB):jI (l2++[z]) x=(if z.toNat=10 then l2++[z]else l2++[z]++[32])++x:=by
 unfold jI;rw[List.getLastD_concat];by_cases GK:z.toNat=10
 ·rw[jJ6 GK,jJ6 (.inr (UInt8.toNat_inj.1 GK))]
 ·rw[jJ5 GK,jJ5 (fun e=>e.elim (fun e=>by simp at e) (fun e=>GK (by rw[e];rfl)))]
theorem qh(l2:LB)(z:UInt8)(x:BA)(h:((if z.toNat=10 then l2++[z]else l2++[z]++[32])++sb x).length<=10000000000000):(l2++[z]).length+x.size<=10000000000000/\(¬z.toNat=10->(l2++[z]).length+1+x.size<=10000000000000):=by
 rw[jJ4,jB]at h;split at h
 ·rename_i h1;exact⟨h,fun e=>absurd h1 e⟩
 ·rw[jJ4,List.length_singleton]at h;exact⟨by omega,fun _=>h⟩
theorem Kw:10000000000000<=maxLen:=by unfold maxLen;omega
theorem ZF:10000000000000<=140737488355328:=by omega
theorem xg{n:Nat}(h:¬n=10):((n:Int) !=10)=true:=by rw[bne,jM3 (show(n:Int)≠10 by omega)];rfl
theorem qH(m:Nat)(h:m+1<=10000000000000):(0:Int)<(m:Int)+1/\IntKind.i64.wrap ((m:Int)+1-1)=(m:Int)/\RowKit.wrap64 (m:Int)=(m:Int)/\(0:Int)<=(m:Int)/\(m:Int).toNat=m:=by
 refine⟨by omega,?_,IntWalk.wrap64_in _ (by omega),by omega,by omega⟩;rw[show(m:Int)+1-1=(m:Int)by omega];exact jQ3 _ (by omega)
def jN:Nat:=10000000000000
theorem VN:(prog.info? 5).map (fun i=>(i.zero,i.size,i.bytes))=some (some (.int .u8 0),1,1):=by kernel_rfl
theorem Xv{P:Program}{f:FuncId}{fn:Func}{c:Code}{args:Array Value}{w:World}{R:Ending->World->Prop}(hf:P.funcs[f]? =some fn)(hb:fn.body=some c)
  (h:c.wp P (bodyPost P fn R) {tmps:=args++Array.replicate (fn.ntmps-args.size) undef,defers:=[]} w):Calls P f args w R/\∀u,CallsD P f args u w (fun e u' w' =>u' =u/\R e w'):=
 ⟨calls_of_wp hf hb h,fun _=>callsD_of_wp hf hb h⟩
theorem QO(w W:World)(t:Tre)(s:Sl)(next:Nat)(l:LB)(B:OA)(bc:Nat)(h:Pr w t s next l B bc W)(q:Nat)(ws:List BA)(hq:Blk W q 9 (ws.map sv).toArray)(hl:(jT l (ws.map sb)).length<=jN)(Wm:ws.length<=1000):
  Calls prog 53 #[.pointer (some ⟨w.heap.size,0,none⟩),.slice (some ⟨q,0,none⟩) ws.length ws.length] W (PrR w t s next (jT l (ws.map sb)) W)/\
  ∀u,CallsD prog 53 #[.pointer (some ⟨w.heap.size,0,none⟩),.slice (some ⟨q,0,none⟩) ws.length ws.length] u W (fun e u' w' =>u' =u/\PrR w t s next (jT l (ws.map sb)) W e w'):=by
 obtain⟨i0,hi,Fm,Fi,Fl⟩:=info_parts VN;have H0:=G h;have HQ:=G hq;have HL:=G hl;clear h hq hl;refine Xv func53 rfl ?_;simp only[ntmps53,jJ8,jK6,jN2,Nat.reduceAdd,Nat.reduceSub,Array.replicate_succ,Array.replicate_zero,List.push_toArray,List.append_toArray,jN8,jN6];go_wp2;go_loopw [9] (fun i wr=>∃(j:Nat) (l1:LB) (B1:OA) (c1:Nat),j<=ws.length/\i=.int .i64 (j:Int)/\jT l (ws.map sb)=jT l1 ((ws.drop j).map sb)/\Pr w t s next l1 B1 c1 wr/\FrP W wr) (fun i _=>ws.length-(intOf i).toNat)
 case atStart=>exact⟨0,l,B,bc,Nat.zero_le _,rfl,rfl,H0.out,FrP.refl _⟩
 case round=>
  clear H0;obtain⟨j,l1,B1,c1,hj,rfl,Ht,hp,hf⟩:=hrel;have Hp:=G hp;have Hf:=G hf;have Mo:=G Ht;by_cases hlt:j<ws.length
  ·have hx:(ws.map sv)[j]? =some (.string ws[j]):=by rw[jM1,jJ9 hlt];rfl
   have Ip:=(hf.blk _ _ _ (by decide) (by decide) HQ.out).at_ j (v:=.string ws[j]) (by rw[jJ7];exact hx);have hd:ws.drop j=ws[j]::ws.drop (j+1):=jM9 hlt;rw[hd,List.map_cons]at Ht;have HE:=G (show jT l (ws.map sb)=jT (jI l1 (sb ws[j])) ((ws.drop (j+1)).map sb)from Ht);have hlen:(jI l1 (sb ws[j])).length<=jN:=by have:=vF ((ws.drop (j+1)).map sb) (jI l1 (sb ws[j]));rw[<-HE.out]at this;exact jL4 this HL.out
   generalize ws[j]=x at*;have Mx:=hp.c9;have MZ:=hp.z 9;have b1:(0:Int)<=(j:Int):=(by omega);have b2:(j:Int).toNat=j:=(by omega);have b3:(j:Int)<(ws.length:Int):=(by omega);have b4:IntKind.i64.wrap ((j:Int)+1)=(j:Int)+1:=jQ3 _ (by omega);have Fk:w.heap.size<=wr.heap.size:=hp.kp.size;unfold jN at hlen;clear hf Ht hx hd;rcases List.eq_nil_or_concat l1 with rfl|⟨l2,z,rfl⟩
   ·have L7:jI [] (sb x)=sb x:=by unfold jI;rw[jJ6 (.inl rfl)];rfl
    rw[L7]at HE hlen;have GA:=G (show 0+x.size<=maxLen by rw[jB]at hlen;unfold maxLen;omega);have GH:=G (show 0+x.size<=140737488355328 by rw[jB]at hlen;omega);have Mx:wr.cell? ⟨w.heap.size,9,none⟩=some (.slice B1 0 c1):=hp.c9;have Wz:=G (show wr.ownsRow w.heap.size 5 1 (.slice B1 0 c1) 0 []from hp.own);clear hp L7 hlen;go_wp2_with (first|(at_builtin;refine jh _ rfl (.tmp 44) (.tmp 45) 33 9 rfl w.heap.size 5 i0 underlying33 underlying9 hi Fm Fi Fl (.slice B1 0 c1) 0 [] rfl Wz.out x rfl GA.out GH.out Fk ?_;intro B2 c2 w2 Hi hgrow Fc;rw[jC]at hgrow;rw[Nat.zero_add,jN8,<-jB]at Hi;have HG:=Hp.out.grow (jQ0 NoX _) hgrow Hi;have Mx:=HG.1.at_ 9 (v:=.slice B1 0 c1) rfl;have MZ:=HG.1.frozen 9;have HN:=G HG.2;clear Hi hgrow Fc HG)|fail);rw[jB]at HN;exact⟨⟨j+1,sb x,B2,c2,by omega,by rw[show((j+1:Nat):Int)=(j:Int)+1 by omega],HE.out,HN.out.1,Hf.out.trans HN.out.2⟩,by simp only[intOf];omega⟩
   ·rw[List.concat_eq_append]at hp Hp Mo HE hlen;clear Mx;have Gy:(l2++[z]).length=l2.length+1:=by rw[jJ4];rfl
    have Cy:=hp.c9;have N5:=hp.own;rw[Gy]at Cy N5;obtain⟨b,o,u,hB,hu,SZ⟩:=(Rd.of_own N5).at_ (k:=l2.length) (Nat.lt_succ_self _);have G9:bv z=u:=by
     rw[jM1,List.getElem?_append_right (jL3 _),Nat.sub_self]at hu;injection hu
    subst G9;subst hB;unfold bv at SZ;have Wz:=G N5;have L7:=qi l2 z (sb x);have Mj:l2.length+1<=10000000000000:=by have:=(jG (l2++[z]) (sb x)).1;rw[Gy]at this;omega
    rw[L7]at HE hlen;obtain⟨g1,-,-,g4,g5⟩:=qH l2.length Mj;clear hp L7 N5 hu Mo;have Wk:(l2++[z]).length+x.size<=10000000000000/\(¬z.toNat=10->(l2++[z]).length+1+x.size<=10000000000000):=qh l2 z x hlen;rw[Gy]at Wk;clear hlen Gy;by_cases GK:z.toNat=10
    ·rw[jJ6 GK]at HE;have e10:((z.toNat:Int) !=10)=false:=by rw[GK];rfl
     have GA:=G (show l2.length+1+x.size<=maxLen from jL4 Wk.1 Kw);have GH:=G (show l2.length+1+x.size<=140737488355328 from jL4 Wk.1 ZF);have NF:=G (show l2.length+1+x.size=((l2++[z])++sb x).length by simp only[jJ4,List.length_singleton,jB]);clear GK Wk;go_wp2_with (first|(at_builtin;refine jh _ rfl (.tmp 44) (.tmp 45) 33 9 rfl w.heap.size 5 i0 underlying33 underlying9 hi Fm Fi Fl (.slice (some ⟨b,o,none⟩) (l2.length+1) c1) (l2.length+1) ((l2++[z]).map bv) rfl Wz.out x rfl GA.out GH.out Fk ?_;intro B2 c2 w2 Hi hgrow Fc;rw[jC]at hgrow;rw[<-jN3,NF.out]at Hi;have HG:=Hp.out.grow (jQ0 NoX _) hgrow Hi;have Mx:=HG.1.at_ 9 rfl;have MZ:=HG.1.frozen 9;have HN:=G HG.2;clear Hi hgrow Fc HG)|fail);rw[<-NF.out]at HN;exact⟨⟨j+1,(l2++[z])++sb x,B2,c2,by omega,by rw[show((j+1:Nat):Int)=(j:Int)+1 by omega],HE.out,HN.out.1,Hf.out.trans HN.out.2⟩,by simp only[intOf];omega⟩
    ·rw[jJ5 GK]at HE;have FM:=Wk.2 GK;have e10:((z.toNat:Int) !=10)=true:=xg GK;have J63:=G (show l2.length+1+1<=maxLen from jL4 (jL4 (Nat.le_add_right _ _) FM) Kw);have J47:=G (show(l2.length+1+1)*1<=140737488355328 from by rw[Nat.mul_one];exact jL4 (jL4 (Nat.le_add_right _ _) FM) ZF);have GA:=G (show l2.length+1+1+x.size<=maxLen from jL4 FM Kw);have GH:=G (show l2.length+1+1+x.size<=140737488355328 from jL4 FM ZF);have GV:=G (show l2.length+1+1=((l2++[z])++[32]).length by simp only[jJ4,List.length_singleton]);have NF:=G (show l2.length+1+1+x.size=(((l2++[z])++[32])++sb x).length by simp only[jJ4,List.length_singleton,jB]);clear GK Wk;go_wp2_with (first|(at_builtin;refine jh _ rfl (.tmp 44) (.tmp 45) 33 9 rfl w.heap.size 5 i0 underlying33 underlying9 hi Fm Fi Fl (.slice B2 (l2.length+1+1) c2) (l2.length+1+1) (((l2++[z])++[32]).map bv) rfl MG.out x rfl GA.out GH.out Fj ?_;intro B3 c3 w3 Hi hgrow Fc;rw[jC]at hgrow;rw[<-jN3,NF.out]at Hi;have HG:=NC.out.1.grow (jQ0 NoX _) hgrow Hi;have Mx:=HG.1.at_ 9 rfl;have MZ:=HG.1.frozen 9;have GL:=G HG.2;clear Hi hgrow Fc HG)|(at_builtin;refine jE _ rfl (.tmp 35) (.tmp 36) 33 rfl w.heap.size 5 i0 (.int .u8 0) 1 1 underlying33 hi Fm Fi Fl rfl (by decide) (.slice (some ⟨b,o,none⟩) (l2.length+1) c1) (l2.length+1) ((l2++[z]).map bv) rfl (jV Wz.out ((jQ0 NoX _).alloc _) (fun _ _ e=>e)) _ 1 1 [bv 32] rfl (Rd.one_new _ _ _) (ji _ rfl) J63.out J47.out (jL4 Fk ((jQ0 NoX _).alloc _).size) ?_;intro B2 c2 w2 Hi hgrow Fc;rw[jC]at hgrow;rw[show(l2++[z]).map bv++[bv 32]=((l2++[z])++[32]).map bv by rw[jN3 (l₂:=[32])];rfl,GV.out]at Hi;have HG:=Hp.out.grow ((jQ0 NoX _).alloc _) hgrow Hi;have Mx:=HG.1.at_ 9 rfl;have MZ:=HG.1.frozen 9;have NC:=G HG.2;clear Hi hgrow Fc HG;rw[<-GV.out]at NC;have d9:=NC.out.1.c9;rw[<-GV.out]at d9;have y9:=NC.out.1.z 9;have MG:=G NC.out.1.own;rw[<-GV.out]at MG;have Fj:=NC.out.1.kp.size)|fail);rw[<-NF.out]at GL;exact⟨⟨j+1,((l2++[z])++[32])++sb x,B3,c3,by omega,by rw[show((j+1:Nat):Int)=(j:Int)+1 by omega],HE.out,GL.out.1,(Hf.out.trans NC.out.2).trans GL.out.2⟩,by simp only[intOf];omega⟩
  ·obtain rfl:j=ws.length:=(by omega);have HF:=G (show jT l (ws.map sb)=l1 by rw[Ht,List.drop_length];rfl);clear hp hf Ht;go_wp2;go_end0;rw[HF.out];exact⟨rfl,B1,c1,Hp.out,Hf.out⟩
theorem jAY(w W:World)(t:Tre)(s:Sl)(next:Nat)(l:LB)(B:OA)(bc:Nat)(h:Pr w t s next l B bc W)(q:Nat)(ws:List BA)(hq:Blk W q 9 (ws.map sv).toArray)(hl:(jT l (ws.map sb)).length<=jN)(Wm:ws.length<=1000):
  Calls prog 53 #[.pointer (some ⟨w.heap.size,0,none⟩),.slice (some ⟨q,0,none⟩) ws.length ws.length] W (PrR w t s next (jT l (ws.map sb)) W):=
 (QO w W t s next l B bc h q ws hq hl Wm).1
theorem jCq(w W:World)(t:Tre)(s:Sl)(next:Nat)(l:LB)(B:OA)(bc:Nat)(h:Pr w t s next l B bc W)(q:Nat)(ws:List BA)(hq:Blk W q 9 (ws.map sv).toArray)(hl:(jT l (ws.map sb)).length<=jN)(Wm:ws.length<=1000)(u:FrameMode):
  CallsD prog 53 #[.pointer (some ⟨w.heap.size,0,none⟩),.slice (some ⟨q,0,none⟩) ws.length ws.length] u W (fun e u' w' =>u' =u/\PrR w t s next (jT l (ws.map sb)) W e w'):=
 (QO w W t s next l B bc h q ws hq hl Wm).2 u
theorem jGp(w:World):Calls prog 191 #[.int .i64 7] w fun e w' =>e=.returned (.int .i64 (jD 7:Nat))/\w=w' :=by
 go_enter func191,ntmps191;go_wp2;go_ret;exact⟨rfl,rfl⟩
theorem jGo(w:World):Calls prog 191 #[.int .i64 8] w fun e w' =>e=.returned (.int .i64 (jD 8:Nat))/\w=w' :=by
 go_enter func191,ntmps191;go_wp2;go_ret;exact⟨rfl,rfl⟩
theorem jGn(w:World):Calls prog 191 #[.int .i64 9] w fun e w' =>e=.returned (.int .i64 (jD 9:Nat))/\w=w' :=by
 go_enter func191,ntmps191;go_wp2;go_ret;exact⟨rfl,rfl⟩
theorem jFM(w:World):Calls prog 191 #[.int .i64 10] w fun e w' =>e=.returned (.int .i64 (jD 10:Nat))/\w=w' :=by
 go_enter func191,ntmps191;go_wp2;go_ret;exact⟨rfl,rfl⟩
theorem jFL(w:World):Calls prog 191 #[.int .i64 11] w fun e w' =>e=.returned (.int .i64 (jD 11:Nat))/\w=w' :=by
 go_enter func191,ntmps191;go_wp2;go_ret;exact⟨rfl,rfl⟩
theorem jFK(w:World):Calls prog 191 #[.int .i64 12] w fun e w' =>e=.returned (.int .i64 (jD 12:Nat))/\w=w' :=by
 go_enter func191,ntmps191;go_wp2;go_ret;exact⟨rfl,rfl⟩
theorem jFJ(w:World):Calls prog 191 #[.int .i64 13] w fun e w' =>e=.returned (.int .i64 (jD 13:Nat))/\w=w' :=by
 go_enter func191,ntmps191;go_wp2;go_ret;exact⟨rfl,rfl⟩
theorem jFI(w:World):Calls prog 191 #[.int .i64 14] w fun e w' =>e=.returned (.int .i64 (jD 14:Nat))/\w=w' :=by
 go_enter func191,ntmps191;go_wp2;go_ret;exact⟨rfl,rfl⟩
theorem jFH(w:World):Calls prog 191 #[.int .i64 15] w fun e w' =>e=.returned (.int .i64 (jD 15:Nat))/\w=w' :=by
 go_enter func191,ntmps191;go_wp2;go_ret;exact⟨rfl,rfl⟩
theorem jFG(w:World):Calls prog 191 #[.int .i64 16] w fun e w' =>e=.returned (.int .i64 (jD 16:Nat))/\w=w' :=by
 go_enter func191,ntmps191;go_wp2;go_ret;exact⟨rfl,rfl⟩
theorem jFF(w:World):Calls prog 191 #[.int .i64 17] w fun e w' =>e=.returned (.int .i64 (jD 17:Nat))/\w=w' :=by
 go_enter func191,ntmps191;go_wp2;go_ret;exact⟨rfl,rfl⟩
theorem jFE(w:World):Calls prog 191 #[.int .i64 18] w fun e w' =>e=.returned (.int .i64 (jD 18:Nat))/\w=w' :=by
 go_enter func191,ntmps191;go_wp2;go_ret;exact⟨rfl,rfl⟩
theorem jFD(w:World):Calls prog 191 #[.int .i64 19] w fun e w' =>e=.returned (.int .i64 (jD 19:Nat))/\w=w' :=by
 go_enter func191,ntmps191;go_wp2;go_ret;exact⟨rfl,rfl⟩
theorem jFC(w:World):Calls prog 191 #[.int .i64 20] w fun e w' =>e=.returned (.int .i64 (jD 20:Nat))/\w=w' :=by
 go_enter func191,ntmps191;go_wp2;go_ret;exact⟨rfl,rfl⟩
theorem jFB(w:World):Calls prog 191 #[.int .i64 21] w fun e w' =>e=.returned (.int .i64 (jD 21:Nat))/\w=w' :=by
 go_enter func191,ntmps191;go_wp2;go_ret;exact⟨rfl,rfl⟩
theorem jFA(w:World):Calls prog 191 #[.int .i64 22] w fun e w' =>e=.returned (.int .i64 (jD 22:Nat))/\w=w' :=by
 go_enter func191,ntmps191;go_wp2;go_ret;exact⟨rfl,rfl⟩
theorem jE9(w:World):Calls prog 191 #[.int .i64 23] w fun e w' =>e=.returned (.int .i64 (jD 23:Nat))/\w=w' :=by
 go_enter func191,ntmps191;go_wp2;go_ret;exact⟨rfl,rfl⟩
theorem vp(w:World)(op:Int):Calls prog 191 #[.int .i64 op] w fun e w' =>e=.returned (.int .i64 (jD op:Nat))/\w=w' :=by
 by_cases h:7<=op/\op<=23
 ·have:op=7\/op=8\/op=9\/op=10\/op=11\/op=12\/op=13\/op=14\/op=15\/op=16\/op=17\/op=18\/op=19\/op=20\/op=21\/op=22\/op=23:=(by omega);rcases this with rfl|rfl|rfl|rfl|rfl|rfl|rfl|rfl|rfl|rfl|rfl|rfl|rfl|rfl|rfl|rfl|rfl
  ·exact jGp w
  ·exact jGo w
  ·exact jGn w
  ·exact jFM w
  ·exact jFL w
  ·exact jFK w
  ·exact jFJ w
  ·exact jFI w
  ·exact jFH w
  ·exact jFG w
  ·exact jFF w
  ·exact jFE w
  ·exact jFD w
  ·exact jFC w
  ·exact jFB w
  ·exact jFA w
  ·exact jE9 w
 ·have hl:jD op=8:=by
   unfold jD;rw[jJ5 (by omega),jJ5 (by omega),jJ5 (by omega),jJ5 (by omega),jJ5 (by omega),jJ5 (by omega),jJ5 (by omega),jJ5 (by omega)]
  rw[hl];have q23:(op==23)=false:=jM3 (by omega);have q10:(op==10)=false:=jM3 (by omega);have q9:(op==9)=false:=jM3 (by omega);have q8:(op==8)=false:=jM3 (by omega);have q18:(op==18)=false:=jM3 (by omega);have q19:(op==19)=false:=jM3 (by omega);have q7:(op==7)=false:=jM3 (by omega);rcases Int.lt_or_le op 7 with h7|h7
  ·have r1:¬11<=op:=(by omega);have r2:¬20<=op:=(by omega);clear hl h h7;go_enter func191,ntmps191;go_wp2;go_ret;exact⟨rfl,rfl⟩
  ·have r1:11<=op:=(by omega);have r2:20<=op:=(by omega);have r3:¬op<=17:=(by omega);have r4:¬op<=22:=(by omega);clear hl h h7;go_enter func191,ntmps191;go_wp2;go_ret;exact⟨rfl,rfl⟩
theorem jCd(w:World):Calls prog 192 #[.int .i64 7] w fun e w' =>e=.returned (.string ⟨(jA 7).toArray⟩)/\w=w' :=by
 go_enter func192,ntmps192;go_wp2;go_ret;exact⟨rfl,rfl⟩
theorem jCc(w:World):Calls prog 192 #[.int .i64 8] w fun e w' =>e=.returned (.string ⟨(jA 8).toArray⟩)/\w=w' :=by
 go_enter func192,ntmps192;go_wp2;go_ret;exact⟨rfl,rfl⟩
theorem jCb(w:World):Calls prog 192 #[.int .i64 9] w fun e w' =>e=.returned (.string ⟨(jA 9).toArray⟩)/\w=w' :=by
 go_enter func192,ntmps192;go_wp2;go_ret;exact⟨rfl,rfl⟩
theorem Us(w:World):Calls prog 192 #[.int .i64 10] w fun e w' =>e=.returned (.string ⟨(jA 10).toArray⟩)/\w=w' :=by
 go_enter func192,ntmps192;go_wp2;go_ret;exact⟨rfl,rfl⟩
theorem Ul(w:World):Calls prog 192 #[.int .i64 17] w fun e w' =>e=.returned (.string ⟨(jA 17).toArray⟩)/\w=w' :=by
 go_enter func192,ntmps192;go_wp2;go_ret;exact⟨rfl,rfl⟩
theorem Uk(w:World):Calls prog 192 #[.int .i64 18] w fun e w' =>e=.returned (.string ⟨(jA 18).toArray⟩)/\w=w' :=by
 go_enter func192,ntmps192;go_wp2;go_ret;exact⟨rfl,rfl⟩
theorem Uj(w:World):Calls prog 192 #[.int .i64 19] w fun e w' =>e=.returned (.string ⟨(jA 19).toArray⟩)/\w=w' :=by
 go_enter func192,ntmps192;go_wp2;go_ret;exact⟨rfl,rfl⟩
theorem Uf(w:World):Calls prog 192 #[.int .i64 24] w fun e w' =>e=.returned (.string ⟨(jA 24).toArray⟩)/\w=w' :=by
 go_enter func192,ntmps192;go_wp2;go_ret;exact⟨rfl,rfl⟩
theorem Ue(w:World):Calls prog 192 #[.int .i64 25] w fun e w' =>e=.returned (.string ⟨(jA 25).toArray⟩)/\w=w' :=by
 go_enter func192,ntmps192;go_wp2;go_ret;exact⟨rfl,rfl⟩
theorem Ud(w:World):Calls prog 192 #[.int .i64 26] w fun e w' =>e=.returned (.string ⟨(jA 26).toArray⟩)/\w=w' :=by
 go_enter func192,ntmps192;go_wp2;go_ret;exact⟨rfl,rfl⟩
theorem Uc(w:World):Calls prog 192 #[.int .i64 27] w fun e w' =>e=.returned (.string ⟨(jA 27).toArray⟩)/\w=w' :=by
 go_enter func192,ntmps192;go_wp2;go_ret;exact⟨rfl,rfl⟩
theorem Ua(w:World):Calls prog 192 #[.int .i64 28] w fun e w' =>e=.returned (.string ⟨(jA 28).toArray⟩)/\w=w' :=by
 go_enter func192,ntmps192;go_wp2;go_ret;exact⟨rfl,rfl⟩
theorem Ur(w:World)(hg:Sg w):Calls prog 192 #[.int .i64 11] w fun e w' =>e=.returned (.string ⟨(jA 11).toArray⟩)/\w=w' :=by
 have hc:w.cell? ⟨2,8,none⟩=some (.string ⟨(jA 11).toArray⟩):=hg.sig 8 _ rfl;clear hg;go_enter func192,ntmps192;go_wp2;go_ret;exact⟨rfl,rfl⟩
theorem Uq(w:World)(hg:Sg w):Calls prog 192 #[.int .i64 12] w fun e w' =>e=.returned (.string ⟨(jA 12).toArray⟩)/\w=w' :=by
 have hc:w.cell? ⟨2,9,none⟩=some (.string ⟨(jA 12).toArray⟩):=hg.sig 9 _ rfl;clear hg;go_enter func192,ntmps192;go_wp2;go_ret;exact⟨rfl,rfl⟩
theorem Up(w:World)(hg:Sg w):Calls prog 192 #[.int .i64 13] w fun e w' =>e=.returned (.string ⟨(jA 13).toArray⟩)/\w=w' :=by
 have hc:w.cell? ⟨2,10,none⟩=some (.string ⟨(jA 13).toArray⟩):=hg.sig 10 _ rfl;clear hg;go_enter func192,ntmps192;go_wp2;go_ret;exact⟨rfl,rfl⟩
theorem Uo(w:World)(hg:Sg w):Calls prog 192 #[.int .i64 14] w fun e w' =>e=.returned (.string ⟨(jA 14).toArray⟩)/\w=w' :=by
 have hc:w.cell? ⟨2,11,none⟩=some (.string ⟨(jA 14).toArray⟩):=hg.sig 11 _ rfl;clear hg;go_enter func192,ntmps192;go_wp2;go_ret;exact⟨rfl,rfl⟩
theorem Un(w:World)(hg:Sg w):Calls prog 192 #[.int .i64 15] w fun e w' =>e=.returned (.string ⟨(jA 15).toArray⟩)/\w=w' :=by
 have hc:w.cell? ⟨2,12,none⟩=some (.string ⟨(jA 15).toArray⟩):=hg.sig 12 _ rfl;clear hg;go_enter func192,ntmps192;go_wp2;go_ret;exact⟨rfl,rfl⟩
theorem Um(w:World)(hg:Sg w):Calls prog 192 #[.int .i64 16] w fun e w' =>e=.returned (.string ⟨(jA 16).toArray⟩)/\w=w' :=by
 have hc:w.cell? ⟨2,13,none⟩=some (.string ⟨(jA 16).toArray⟩):=hg.sig 13 _ rfl;clear hg;go_enter func192,ntmps192;go_wp2;go_ret;exact⟨rfl,rfl⟩
theorem Ui(w:World)(hg:Sg w):Calls prog 192 #[.int .i64 20] w fun e w' =>e=.returned (.string ⟨(jA 20).toArray⟩)/\w=w' :=by
 have hc:w.cell? ⟨2,16,none⟩=some (.string ⟨(jA 20).toArray⟩):=hg.sig 16 _ rfl;clear hg;go_enter func192,ntmps192;go_wp2;go_ret;exact⟨rfl,rfl⟩
theorem Uh(w:World)(hg:Sg w):Calls prog 192 #[.int .i64 21] w fun e w' =>e=.returned (.string ⟨(jA 21).toArray⟩)/\w=w' :=by
 have hc:w.cell? ⟨2,17,none⟩=some (.string ⟨(jA 21).toArray⟩):=hg.sig 17 _ rfl;clear hg;go_enter func192,ntmps192;go_wp2;go_ret;exact⟨rfl,rfl⟩
theorem Ug(w:World)(hg:Sg w):Calls prog 192 #[.int .i64 22] w fun e w' =>e=.returned (.string ⟨(jA 22).toArray⟩)/\w=w' :=by
 have hc:w.cell? ⟨2,18,none⟩=some (.string ⟨(jA 22).toArray⟩):=hg.sig 18 _ rfl;clear hg;go_enter func192,ntmps192;go_wp2;go_ret;exact⟨rfl,rfl⟩
theorem UZ(w:World)(hg:Sg w):Calls prog 192 #[.int .i64 29] w fun e w' =>e=.returned (.string ⟨(jA 29).toArray⟩)/\w=w' :=by
 have hc:w.cell? ⟨0,30,none⟩=some (.string ⟨(jA 29).toArray⟩):=hg.res 30 _ rfl;clear hg;go_enter func192,ntmps192;go_wp2;go_ret;exact⟨rfl,rfl⟩
theorem UY(w:World)(hg:Sg w):Calls prog 192 #[.int .i64 30] w fun e w' =>e=.returned (.string ⟨(jA 30).toArray⟩)/\w=w' :=by
 have hc:w.cell? ⟨0,31,none⟩=some (.string ⟨(jA 30).toArray⟩):=hg.res 31 _ rfl;clear hg;go_enter func192,ntmps192;go_wp2;go_ret;exact⟨rfl,rfl⟩
theorem UX(w:World)(hg:Sg w):Calls prog 192 #[.int .i64 31] w fun e w' =>e=.returned (.string ⟨(jA 31).toArray⟩)/\w=w' :=by
 have hc:w.cell? ⟨0,32,none⟩=some (.string ⟨(jA 31).toArray⟩):=hg.res 32 _ rfl;clear hg;go_enter func192,ntmps192;go_wp2;go_ret;exact⟨rfl,rfl⟩
theorem UW(w:World)(hg:Sg w):Calls prog 192 #[.int .i64 32] w fun e w' =>e=.returned (.string ⟨(jA 32).toArray⟩)/\w=w' :=by
 have hc:w.cell? ⟨0,33,none⟩=some (.string ⟨(jA 32).toArray⟩):=hg.res 33 _ rfl;clear hg;go_enter func192,ntmps192;go_wp2;go_ret;exact⟨rfl,rfl⟩
theorem UV(w:World)(hg:Sg w):Calls prog 192 #[.int .i64 33] w fun e w' =>e=.returned (.string ⟨(jA 33).toArray⟩)/\w=w' :=by
 have hc:w.cell? ⟨0,34,none⟩=some (.string ⟨(jA 33).toArray⟩):=hg.res 34 _ rfl;clear hg;go_enter func192,ntmps192;go_wp2;go_ret;exact⟨rfl,rfl⟩
theorem vR(w:World)(hg:Sg w)(op:Int)(h:7<=op/\op<=33/\op≠23):Calls prog 192 #[.int .i64 op] w fun e w' =>e=.returned (.string ⟨(jA op).toArray⟩)/\w=w' :=by
 have:op=7\/op=8\/op=9\/op=10\/op=11\/op=12\/op=13\/op=14\/op=15\/op=16\/op=17\/op=18\/op=19\/op=20\/op=21\/op=22\/op=24\/op=25\/op=26\/op=27\/op=28\/op=29\/op=30\/op=31\/op=32\/op=33:=(by omega);rcases this with rfl|rfl|rfl|rfl|rfl|rfl|rfl|rfl|rfl|rfl|rfl|rfl|rfl|rfl|rfl|rfl|rfl|rfl|rfl|rfl|rfl|rfl|rfl|rfl|rfl|rfl
 ·exact jCd w
 ·exact jCc w
 ·exact jCb w
 ·exact Us w
 ·exact Ur w hg
 ·exact Uq w hg
 ·exact Up w hg
 ·exact Uo w hg
 ·exact Un w hg
 ·exact Um w hg
 ·exact Ul w
 ·exact Uk w
 ·exact Uj w
 ·exact Ui w hg
 ·exact Uh w hg
 ·exact Ug w hg
 ·exact Uf w
 ·exact Ue w
 ·exact Ud w
 ·exact Uc w
 ·exact Ua w
 ·exact UZ w hg
 ·exact UY w hg
 ·exact UX w hg
 ·exact UW w hg
 ·exact UV w hg
theorem ke(s:BA):s.toList.isEmpty=decide (s.size=0):=by
 rw[ByteArray.toList_eq,<-jB];unfold sb;cases s.data.toList<;>rfl
theorem tl_size{s:BA}:s.toList=[]↔s.size=0:=by
 rw[ByteArray.toList_eq,<-jB];exact List.length_eq_zero_iff.symm
theorem stages(P:Prop)(Q:Prop)(vt:BA)(vs:List BA)(kids:List Int)(k:Int):
  ¬P\/(P/\¬Q)\/(P/\Q/\¬vt.toList=[])\/(P/\Q/\vt.toList=[]/\0<vs.length)\/(P/\Q/\vt.toList=[]/\vs=[]/\((kids.length:Int) !=k)=true)\/(P/\Q/\vt.toList=[]/\vs=[]/\((kids.length:Int) !=k)=false):=by
 by_cases h1:P
 ·by_cases h2:Q
  ·by_cases h3:vt.toList=[]
   ·by_cases h4:vs=[]
    ·cases h5:((kids.length:Int) !=k)
     ·exact .inr (.inr (.inr (.inr (.inr ⟨h1,h2,h3,h4,rfl⟩))))
     ·exact .inr (.inr (.inr (.inr (.inl ⟨h1,h2,h3,h4,rfl⟩))))
    ·exact .inr (.inr (.inr (.inl ⟨h1,h2,h3,List.length_pos_iff.2 h4⟩)))
   ·exact .inr (.inr (.inl ⟨h1,h2,h3⟩))
  ·exact .inr (.inl ⟨h1,h2⟩)
 ·exact .inl h1
theorem bnf{a b:Int}(h:a=b):(a !=b)=false:=by rw[bne,beq_iff_eq.2 h];rfl
theorem bnt{a b:Int}(h:a≠b):(a !=b)=true:=by rw[bne,jM3 h];rfl
theorem uo(E:Int):bits BinOp.and IntKind.i64 E 1=E% 2:=by
 have hb:(2:Int)^IntKind.i64.bits=18446744073709551616:=rfl;have h1:(1% 2^IntKind.i64.bits:Nat)=1:=(by decide);unfold bits;simp;rw[h1,Nat.and_one_is_mod,hb,jQ3 _ (by omega)];omega
def jIE(op vn:Int)(vt:BA)(n:Nat)(K k:Int)(kN:Nat)(Q:Prop)(vt' :BA):Prop:=
 (0=K/\(vn=0)=Q/\vt=vt' /\((op=4\/op=29\/op=30\/op=5\/op=24\/op=25\/op=26)/\0=k/\0=kN\/(op=7\/op=8\/op=27)/\1=k/\1=kN\/op=23/\3=k/\3=kN\/op=6/\(n:Int)=k/\n=kN\/
  ((op==1)=false/\(op==2)=false/\(op==3)=false/\(op==4)=false/\(op==29)=false/\(op==30)=false/\(op==5)=false/\(op==24)=false/\(op==25)=false/\(op==26)=false/\(op==6)=false/\(op==7)=false/\(op==8)=false/\(op==27)=false/\(op==23)=false)/\2=k/\2=kN))\/
 op=1/\1=K/\(0<=vn)=Q/\vt=vt' /\0=k/\0=kN\/op=2/\2=K/\(vn% 2=vn)=Q/\vt=vt' /\0=k/\0=kN\/op=3/\3=K/\(vn=0)=Q/\⟨#[]⟩=vt' /\0=k/\0=kN
theorem jIB(op vn:Int)(vt:BA)(n:Nat):∃K k kN Q vt',jIE op vn vt n K k kN Q vt' :=by
 by_cases h1:op=1
 ·exact⟨_,_,_,_,_,.inr (.inl ⟨h1,rfl,rfl,rfl,rfl,rfl⟩)⟩
 by_cases h2:op=2
 ·exact⟨_,_,_,_,_,.inr (.inr (.inl ⟨h2,rfl,rfl,rfl,rfl,rfl⟩))⟩
 by_cases h3:op=3
 ·exact⟨_,_,_,_,_,.inr (.inr (.inr ⟨h3,rfl,rfl,rfl,rfl,rfl⟩))⟩
 by_cases h4:op=4\/op=29\/op=30\/op=5\/op=24\/op=25\/op=26
 ·exact⟨_,_,_,_,_,.inl ⟨rfl,rfl,rfl,.inl ⟨h4,rfl,rfl⟩⟩⟩
 by_cases h5:op=7\/op=8\/op=27
 ·exact⟨_,_,_,_,_,.inl ⟨rfl,rfl,rfl,.inr (.inl ⟨h5,rfl,rfl⟩)⟩⟩
 by_cases h6:op=23
 ·exact⟨_,_,_,_,_,.inl ⟨rfl,rfl,rfl,.inr (.inr (.inl ⟨h6,rfl,rfl⟩))⟩⟩
 by_cases h7:op=6
 ·exact⟨_,_,_,_,_,.inl ⟨rfl,rfl,rfl,.inr (.inr (.inr (.inl ⟨h7,rfl,rfl⟩)))⟩⟩
 exact⟨_,_,_,_,_,.inl ⟨rfl,rfl,rfl,.inr (.inr (.inr (.inr ⟨by simp only[beq_eq_false_iff_ne];omega,rfl,rfl⟩)))⟩⟩
theorem JJ(w W:World)(t:Tre)(s:Sl)(next:Nat)(l:LB)(B:OA)(bc:Nat)(h:Pr w t s next l B bc W)(ws:List BA)(hl:(jT l (ws.map sb)).length<=jN)(Wm:ws.length<=1000):
  Calls prog 53 #[.pointer (some ⟨w.heap.size,0,none⟩),.slice (some ⟨W.heap.size,0,none⟩) ws.length ws.length] (W.alloc (.cells (ws.map sv).toArray 9)) (PrR w t s next (jT l (ws.map sb)) W):=by
 have ho:=(jQ0 NoX W).alloc (.cells (ws.map sv).toArray 9);exact(jAY w _ t s next l B bc (h.old ho) W.heap.size ws (jQ2 _ _ _) hl Wm).mono (fun _ _ hX=>PrR.of (FrP.of_old ho) hX)
theorem Zt(w W:World)(t:Tre)(s:Sl)(next:Nat)(l:LB)(B:OA)(bc:Nat)(h:Pr w t s next l B bc W)(x:BA)(hl:(inP x l).length<=jN):
  Calls prog 119 #[.pointer (some ⟨w.heap.size,0,none⟩),.string x] W (PrR w t s next (inP x l) W):=by
 have H:=G h;unfold inP at hl⊢;by_cases hx:x.size=0
 ·rw[jJ6 hx];have L1:(!x.toList.isEmpty)=false:=by rw[ke,jK5 hx];rfl
  clear h hl hx;go_enter func119,ntmps119;go_wp2;go_end0;exact⟨rfl,B,bc,H.out,FrP.refl _⟩
 ·rw[jJ5 hx]at hl⊢;have L1:(!x.toList.isEmpty)=true:=by rw[ke,jK3 hx];rfl
  have HP:=G (JJ w W t s next l B bc h [⟨#[105,110]⟩,x] hl (show 2<=1000 by decide));clear h hl hx;go_enter func119,ntmps119;go_wp2_with (first|(go_at_call 53;refine HP.out.mono ?_;rintro e w1 ⟨rfl,hX⟩)|fail);go_end0;exact⟨rfl,hX⟩
structure PxAll(w:World)(t:Tre)(s:Sl)(f:Nat):Prop where
 ex:∀(W:World) (next:Nat) (l l' :LB) (B:OA) (bc:Nat) (root:Int) (least:Nat),Pr w t s next l B bc W->least<=8->exprP t.nodes f root least l=some l' ->l'.length<=jN->
  Calls prog 156 #[.pointer (some ⟨w.heap.size,0,none⟩),iv root,iv (least:Int)] W (PrR w t s next l' W)
theorem xv(w W:World)(t:Tre)(s:Sl)(f:Nat)(PX:PxAll w t s f)(next:Nat)(l l' :LB)(B:OA)(bc:Nat)(h:Pr w t s next l B bc W)(q:Nat)(ws:List BA)(hq:Blk W q 9 (ws.map sv).toArray)(root:Int)(h0:0<=root)
  (hk:exprP t.nodes f root 0 (jT l (ws.map sb))=some l') (hp:(jT l (ws.map sb)).length<=jN) (hl:l'.length<=jN) (Wm:ws.length<=1000):
  Calls prog 118 #[.pointer (some ⟨w.heap.size,0,none⟩),iv root,.slice (some ⟨q,0,none⟩) ws.length ws.length] W (PrR w t s next l' W):=by
 have HP:=G (jAY w W t s next l B bc h q ws hq hp Wm);have HE:=G (fun W1 B1 c1 (h1:Pr w t s next (jT l (ws.map sb)) B1 c1 W1)=>PX.ex W1 next _ l' B1 c1 root 0 h1 (by decide) hk hl);clear h hq hk hp hl Wm PX;unfold iv at*;go_enter func118,ntmps118;go_wp2_with (first|(go_at_call 53;refine HP.out.mono ?_;rintro e w1 ⟨rfl,B1,c1,hX,hf⟩;have HX:=G hX;have HF:=G hf;clear hX hf)|(go_at_call 156;refine(HE.out _ _ _ HX.out).mono ?_;rintro e w2 ⟨rfl,B2,c2,hX,hf⟩)|fail);go_end0;exact⟨rfl,B2,c2,hX,HF.out.trans hf⟩
theorem JO(g:Int->Nat->LB->Option LB)(hg:∀k m b b',g k m b=some b' ->b.length<=b'.length):∀(kids:List Int) (i:Nat) (b b' :LB),exprP.listP g kids i b=some b' ->b.length<=b'.length:=by
 intro kids
 induction kids with
 |nil=>intro i b b' h;rw[exprP.listP]at h;injection h with h;rw[h];exact jL3 _
 |cons k l ih=>
  intro i b b' h;rw[exprP.listP]at h;obtain⟨b1,h1,h2⟩:=jM2 h;have e1:=hg _ _ _ _ h1;have e2:=ih _ _ _ h2;split at e1
  ·have:=(jG b [44]).1;omega
  ·omega
theorem jAj(a c:Nat)(b:LB):b.length<=(opens a c b).length:=by
 unfold opens;split
 ·exact(jG b _).1
 ·exact jL3 _
theorem Uy(a c:Nat)(b:LB):b.length<=(JE a c b).length:=by
 unfold JE;split
 ·exact(jG b _).1
 ·exact jL3 _
theorem jm(ns:List Nd):∀(f:Nat) (root:Int) (least:Nat) (b b' :LB),exprP ns f root least b=some b' ->b.length<=b'.length:=by
 intro f
 induction f with
 |zero=>intro root least b b' h;rw[exprP]at h;cases h
 |succ f ih=>
  intro root least b b' h;rw[exprP]at h;by_cases hr:root<0
  ·rw[jJ6 hr]at h;cases h
  rw[jJ5 hr]at h;cases hn:ns[root.toNat]? with
  |none=>rw[hn]at h;cases h
  |some n=>
   rw[hn]at h;simp only at h;obtain⟨b1,h1,e⟩:=jM4 h;have g1:=Uy (jD n.op) least b1;have g0:=jAj (jD n.op) least b;rw[<-e];refine jL4 g0 (jL4 ?_ g1);generalize opens (jD n.op) least b=b0 at*;clear h e g0 g1 hn hr;have two:∀(l r:Nat),(match n.kids with|k::q::_=>(exprP ns f k l b0).bind fun b1=>exprP ns f q r (jI b1 (jA n.op))|_=>none)=some b1->b0.length<=b1.length:=by
    intro l r h;rcases hk:n.kids with _ |⟨a,_ |⟨c,tl⟩⟩
    ·rw[hk]at h;cases h
    ·rw[hk]at h;cases h
    ·rw[hk]at h;obtain⟨c1,k1,h⟩:=jM2 h;have q1:=ih _ _ _ _ k1;have q2:=ih _ _ _ _ h;have p1:=(jG c1 (jA n.op)).1;omega
   by_cases c0:jD n.op=0
   ·rw[jJ6 c0]at h1;rcases hk:n.kids with _ |⟨a,_ |⟨c,_ |⟨d,tl⟩⟩⟩
    ·rw[hk]at h1;cases h1
    ·rw[hk]at h1;cases h1
    ·rw[hk]at h1;cases h1
    ·rw[hk]at h1;obtain⟨c1,k1,h1⟩:=jM2 h1;obtain⟨c2,k2,h1⟩:=jM2 h1;have q1:=ih _ _ _ _ k1;have q2:=ih _ _ _ _ k2;have q3:=ih _ _ _ _ h1;have p1:=(jG b0 [105,102]).1;have p2:=(jG c1 [116,104,101,110]).1;have p3:=(jG c2 [101,108,115,101]).1;omega
   rw[jJ5 c0]at h1;by_cases c1:jD n.op=1\/jD n.op=2\/jD n.op=5\/jD n.op=6
   ·rw[jJ6 c1]at h1;exact two _ _ h1
   rw[jJ5 c1]at h1;by_cases c2:jD n.op=3\/jD n.op=7
   ·rw[jJ6 c2]at h1;rcases hk:n.kids with _ |⟨a,tl⟩
    ·rw[hk]at h1;cases h1
    ·rw[hk]at h1;have q1:=ih _ _ _ _ h1;have p1:=(jG b0 (jA n.op)).1;omega
   rw[jJ5 c2]at h1;by_cases c3:jD n.op=4
   ·rw[jJ6 c3]at h1;exact two _ _ h1
   rw[jJ5 c3]at h1;by_cases o1:n.op=1
   ·rw[jJ6 o1]at h1;injection h1 with h1;rw[<-h1];exact(jG b0 _).1
   rw[jJ5 o1]at h1;by_cases o2:n.op=2
   ·rw[jJ6 o2]at h1;injection h1 with h1;rw[<-h1];exact(jG b0 _).1
   rw[jJ5 o2]at h1;by_cases o3:n.op=3
   ·rw[jJ6 o3]at h1;injection h1 with h1;rw[<-h1];exact(jG b0 _).1
   rw[jJ5 o3]at h1;by_cases o5:n.op=5
   ·rw[jJ6 o5]at h1;injection h1 with h1;rw[<-h1];exact(jG b0 _).1
   rw[jJ5 o5]at h1;by_cases o4:n.op=4
   ·rw[jJ6 o4]at h1;injection h1 with h1;rw[<-h1];exact(jG b0 _).1
   rw[jJ5 o4]at h1;by_cases o6:n.op=6
   ·rw[jJ6 o6]at h1;obtain⟨c1,k1,e1⟩:=jM4 h1;have q1:=JO _ (fun k m b b' h=>ih k m b b' h) _ _ _ _ k1;have p1:=(jG b0 [123]).1;have p2:=(jG c1 [125]).1;rw[<-e1];omega
   rw[jJ5 o6]at h1;obtain⟨c1,k1,e1⟩:=jM4 h1;have q1:=JO _ (fun k m b b' h=>ih k m b b' h) _ _ _ _ k1;have p2:=(jG c1 [41]).1;rw[<-e1];refine jL4 ?_ p2;refine jL4 ?_ q1;have p0:=(jG b0 (jA n.op)).1;have p1:=(jG (jI b0 (jA n.op)) [40]).1;by_cases z:n.name.size=0
   ·rw[jJ6 z];omega
   ·rw[jJ5 z];have p3:=(jG (jI (jI b0 (jA n.op)) [40]) (tb n.name)).1;omega
end Go.Proofs.YtmmjcbbogokmfaaGreatDoor

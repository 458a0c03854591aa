import Derived.Test.YtmmjcbbogokmfaaGreatDoorMb20
set_option maxRecDepth 100000
set_option maxHeartbeats 25600000
namespace Go.Proofs.YtmmjcbbogokmfaaGreatDoor
open Go.Proofs.Tryz
open Go.RowKit
def iv(i:Int):Value:=.int .i64 i
structure MNd where
 n:Nd
 A:OA
 c:Nat
 vA:OA
 vc:Nat
structure MSt where
 s:Stp
 pA:OA
 pc:Nat
 eA:OA
 ec:Nat
def ndC(x:MNd):List Value:=[iv x.n.op,.string x.n.name,iv x.n.vk,iv x.n.vn,.string x.n.vt,.slice x.vA x.n.vs.length x.vc,.slice x.A x.n.kids.length x.c]
def prC(p:Prm):List Value:=[.string p.name,iv p.at_,iv p.kind]
def efC(p:Eff):List Value:=[.string p.name,iv p.at_,iv p.worth]
def stC(x:MSt):List Value:=[.string x.s.name,iv x.s.at_,iv x.s.order,.slice x.pA x.s.params.length x.pc,.string x.s.in_,iv x.s.inAt,iv x.s.when_,.slice x.eA x.s.effects.length x.ec]
def atC(a:Atr):List Value:=[.string a.name,iv a.at_,iv a.order,iv a.kind,.bool a.opt,iv a.dflt,iv a.when_]
def sgC(a:Stg):List Value:=[.string a.name,iv a.at_,iv a.order,.string a.in_,iv a.inAt,iv a.opens,iv a.closes]
def miC(a:Mil):List Value:=[.string a.name,iv a.at_,iv a.order,.string a.in_,iv a.inAt,iv a.when_]
def oC(x:Int):List Value:=[iv x]
structure Sl where
 aA:OA
 ac:Nat
 gA:OA
 gc:Nat
 mA:OA
 mc:Nat
 pA:OA
 pc:Nat
 nA:OA
 nc:Nat
 oA:OA
 oc:Nat
 z:Nat->Prop
def jJ(t:Tre)(s:Sl):List Value:=[.string t.name,iv t.at_,.slice s.aA t.attrs.length s.ac,.slice s.gA t.stages.length s.gc,.slice s.mA t.miles.length s.mc,.slice s.pA t.steps.length s.pc,.slice s.nA t.nodes.length s.nc,.slice s.oA t.ats.length s.oc]
def OX(g:Nat)(s:Sl):Nat->Prop:=fun b=>b=g\/s.aA.map (·.block)=some b\/s.gA.map (·.block)=some b\/s.mA.map (·.block)=some b\/s.pA.map (·.block)=some b\/s.nA.map (·.block)=some b\/s.oA.map (·.block)=some b
def AX(g:Nat)(s:Sl):Nat->Prop:=fun b=>OX g s b\/s.z b
structure Fr(g:Nat)(s s' :Sl)(w w' :World):Prop where
 kp:Kp (OX g s) w w'
 own:∀b,b<w.heap.size->OX g s' b->OX g s b
 z:s'.z=s.z
theorem Fr.refl(g:Nat)(s:Sl)(w:World):Fr g s s w w:=⟨jQ0 _ _,fun _ _ h=>h,rfl⟩
theorem Fr.trans{g:Nat}{s s1 s2:Sl}{w w1 w2:World}(h:Fr g s s1 w w1)(k:Fr g s1 s2 w1 w2):Fr g s s2 w w2:=
 ⟨h.kp.trans k.kp h.own,fun b hb e=>h.own b hb (k.own b (jL8 hb h.kp.size) e),k.z.trans h.z⟩
theorem Fr.of_g{g:Nat}(s:Sl){w w' :World}(h:Kp (GX g) w w'):Fr g s s w w' :=⟨h.mono (fun _ _ e=>.inl e),fun _ _ h=>h,rfl⟩
theorem Fr.of_old{g:Nat}(s:Sl){w w' :World}(h:Old w w'):Fr g s s w w' :=⟨h.mono (fun _ _ e=>e.elim),fun _ _ h=>h,rfl⟩
theorem uV{g:Nat}{s s' :Sl}{w w' :World}{z n:Nat}{A:OA}{xs:List Value}(h:Rd w z A n xs)(ha:Av (AX g s) n A)(hz:0<z)(f:Fr g s s' w w'):Rd w' z A n xs/\Av (AX g s') n A:=
 ⟨h.kp f.kp (fun hn ad ea hx=>ha hn ad ea (.inl hx)),fun hn ad ea hx=>ha hn ad ea (hx.elim (fun e=>.inl (f.own _ (h.lt hz hn ea) e)) (fun e=>.inr (by rw[<-f.z];exact e)))⟩
structure OkN(w:World)(X:Nat->Prop)(x:MNd):Prop where
 kids:Rd w 1 x.A x.n.kids.length (x.n.kids.map iv)
 kav:Av X x.n.kids.length x.A
 vs:Rd w 1 x.vA x.n.vs.length (x.n.vs.map sv)
 vav:Av X x.n.vs.length x.vA
structure OkP(w:World)(X:Nat->Prop)(x:MSt):Prop where
 ps:Rd w 3 x.pA x.s.params.length (x.s.params.flatMap prC)
 pav:Av X x.s.params.length x.pA
 es:Rd w 3 x.eA x.s.effects.length (x.s.effects.flatMap efC)
 eav:Av X x.s.effects.length x.eA
def OkA(_:World)(_:Nat->Prop)(_:Atr):Prop:=True
def OkG(_:World)(_:Nat->Prop)(_:Stg):Prop:=True
def OkM(_:World)(_:Nat->Prop)(_:Mil):Prop:=True
def OkO(_:World)(_:Nat->Prop)(_:Int):Prop:=True
theorem OkN.fr{g:Nat}{s s' :Sl}{w w' :World}{x:MNd}(h:OkN w (AX g s) x)(f:Fr g s s' w w'):OkN w' (AX g s') x:=
 ⟨(uV h.kids h.kav (by decide) f).1,(uV h.kids h.kav (by decide) f).2,(uV h.vs h.vav (by decide) f).1,(uV h.vs h.vav (by decide) f).2⟩
theorem OkP.fr{g:Nat}{s s' :Sl}{w w' :World}{x:MSt}(h:OkP w (AX g s) x)(f:Fr g s s' w w'):OkP w' (AX g s') x:=
 ⟨(uV h.ps h.pav (by decide) f).1,(uV h.ps h.pav (by decide) f).2,(uV h.es h.eav (by decide) f).1,(uV h.es h.eav (by decide) f).2⟩
structure TRows(w:World)(X:Nat->Prop)(t:Tre)(s:Sl)(ns:List MNd)(ps:List MSt):Prop where
 rA:w.ownsRow 8 114 7 (.slice s.aA t.attrs.length s.ac) t.attrs.length (t.attrs.flatMap atC)
 rG:w.ownsRow 8 117 7 (.slice s.gA t.stages.length s.gc) t.stages.length (t.stages.flatMap sgC)
 rM:w.ownsRow 8 64 6 (.slice s.mA t.miles.length s.mc) t.miles.length (t.miles.flatMap miC)
 rP:w.ownsRow 8 111 8 (.slice s.pA t.steps.length s.pc) t.steps.length (ps.flatMap stC)
 rN:w.ownsRow 8 46 7 (.slice s.nA t.nodes.length s.nc) t.nodes.length (ns.flatMap ndC)
 rO:w.ownsRow 8 3 1 (.slice s.oA t.ats.length s.oc) t.ats.length (t.ats.flatMap oC)
 pe:ps.map (·.s)=t.steps
 ne:ns.map (·.n)=t.nodes
 po:∀x∈ps,OkP w X x
 no:∀x∈ns,OkN w X x
structure St(w:World)(g:Nat)(src:BA)(r:Rdr)(s:Sl):Prop where
 sg:Sg w
 g8:8<=g
 small:src.size<=1000000
 box:Rb w g src r (jJ r.tree s)
 rows:∃ns ps,TRows w (AX g s) r.tree s ns ps
 from_:r.from_ <=r.at_
 at_:r.at_ <=src.size
 t58:r.t<58
 zlt:∀b,s.z b->b<w.heap.size
 z8:∀b,s.z b->¬b<8
 zno:∀b,OX g s b->¬s.z b
theorem zc{w:World}{b1 b2:Nat}{e1 e2:TypeId}{z1 z2:Nat}{v1 v2:Value}{n1 n2:Nat}{x1 x2:List Value}(h1:w.ownsRow b1 e1 z1 v1 n1 x1)(h2:w.ownsRow b2 e2 z2 v2 n2 x2)(Fa:e1≠e2):
  ∀k,v1.ownBlock=some k->v2.ownBlock≠some k:=by
 intro k hk;rcases h1.2 with⟨rfl,_⟩|⟨g',cap,cur,rfl,_,hh,_⟩
 ·cases hk
 ·have:g' =k:=(by simpa [Value.ownBlock]using hk);subst this;exact ja (t:=e1) h2 hh (fun e=>Fa e.symm)
section
variable{w w' w1 w2:World}{g:Nat}{src:BA}{r r' :Rdr}{s s' :Sl}{ns:List MNd}{ps:List MSt}{t:Tre}
theorem TRows.keep(h:TRows w (AX g s) t s ns ps){cs:Array Value}(hb:Blk w g 165 cs)(hk:Kp (GX g) w w'):TRows w' (AX g s) t s ns ps:=by
 have f:Fr g s s w w' :=Fr.of_g s hk;have K:∀{e:TypeId} {z:Nat} {v:Value} {n:Nat} {xs:List Value},w.ownsRow 8 e z v n xs->e≠165->w'.ownsRow 8 e z v n xs:=fun ho Fa=>
  jW ho hk (fun k e e' =>ja ho hb Fa (by rw[e];exact congrArg some e'))
 exact⟨K h.rA (by decide),K h.rG (by decide),K h.rM (by decide),K h.rP (by decide),K h.rN (by decide),K h.rO (by decide),h.pe,h.ne,fun x hx=>(h.po x hx).fr f,fun x hx=>(h.no x hx).fr f⟩
theorem TRows.ox8(h:TRows w (AX g s) t s ns ps)(hg:8<=g)(b:Nat)(hb:OX g s b):8<=b/\(b=g\/b<w.heap.size):=by
 have K:∀{e:TypeId} {z:Nat} {A:OA} {c n:Nat} {xs:List Value},w.ownsRow 8 e z (.slice A n c) n xs->A.map (·.block)=some b->8<=b/\(b=g\/b<w.heap.size):=fun ho e=>
  have:=ho.lt b (by rw[jC];exact e)
  ⟨this.1,.inr this.2⟩
 rcases hb with e|e|e|e|e|e|e
 ·exact⟨by omega,.inl e⟩
 ·exact K h.rA e
 ·exact K h.rG e
 ·exact K h.rM e
 ·exact K h.rP e
 ·exact K h.rN e
 ·exact K h.rO e
theorem St.ox8(h:St w g src r s)(b:Nat)(hb:OX g s b):8<=b/\b<w.heap.size:=by
 obtain⟨ns,ps,hR⟩:=h.rows;have h1:=hR.ox8 h.g8 b hb;have h2:=h.box.lt;exact⟨h1.1,h1.2.elim (fun e=>by omega) id⟩
theorem St.sgf(h:St w g src r s)(f:Fr g s s' w w'):Sg w' :=h.sg.kp f.kp (fun e=>by have:=(h.ox8 _ e).1;omega) (fun e=>by have:=(h.ox8 _ e).1;omega)
theorem St.scan(h:St w g src r s)(hb:Rb w' g src r' (jJ r.tree s))(ht:r'.tree=r.tree)(hk:Kp (GX g) w w')(h1:r'.from_ <=r'.at_)(h2:r'.at_ <=src.size)(h3:r'.t<58):St w' g src r' s/\Fr g s s w w' :=by
 obtain⟨ns,ps,hR⟩:=h.rows;exact⟨⟨h.sgf (Fr.of_g s hk),h.g8,h.small,by rw[ht];exact hb,⟨ns,ps,by rw[ht];exact hR.keep h.box hk⟩,h1,h2,h3,fun b hz=>jL8 (h.zlt b hz) hk.size,h.z8,h.zno⟩,Fr.of_g s hk⟩
theorem St.old(h:St w g src r s)(ho:Old w w'):St w' g src r s:=(h.scan (h.box.old ho) rfl (ho.mono (fun _ _ e=>e.elim)) h.from_ h.at_ h.t58).1
theorem St.drewN(h:St w g src r s)(n:Nat):St (w.drewN n) g src r s:=h.old ((jQ0 _ _).drewN n)
theorem St.lt(h:St w g src r s):g<w.heap.size:=h.box.lt
theorem St.zgrow(h:St w g src r s){Y:Nat->Prop}(hk:Kp Y w w')(hY:∀b,Y b->s.z b)(Z:Nat->Prop)(hZ:∀b,Z b->(s.z b\/w.heap.size<=b)/\b<w'.heap.size):St w' g src r {s with z:=Z}:=by
 obtain⟨ns,ps,hR⟩:=h.rows;have MP:∀b,OX g s b->¬Y b:=fun b hx hy=>h.zno b hx (hY b hy);have LA:=fun{z n:Nat} {A:OA} {xs:List Value} (hr:Rd w z A n xs) (hz:0<z) (ha:Av (AX g s) n A)=>
  (show Rd w' z A n xs/\Av (AX g {s with z:=Z}) n A from⟨hr.kp hk (fun hn ad ea hy=>ha hn ad ea (.inr (hY _ hy))),fun hn ad ea hx=>hx.elim (fun e=>ha hn ad ea (.inl e)) (fun e=>(hZ _ e).1.elim (fun e=>ha hn ad ea (.inr e)) (fun e=>by have:=hr.lt hz hn ea;omega))⟩)
 have K:∀{e:TypeId} {z:Nat} {A:OA} {c n:Nat} {xs:List Value},w.ownsRow 8 e z (.slice A n c) n xs->(∀b,A.map (·.block)=some b->OX g s b)->w'.ownsRow 8 e z (.slice A n c) n xs:=fun ho FB=>
  jW ho hk (fun b e=>MP b (FB b (by rw[<-jC];exact e)))
 refine⟨h.sg.kp hk (fun e=> ?_) (fun e=> ?_),h.g8,h.small,h.box.kp hk (MP _ (.inl rfl)),⟨ns,ps,?_⟩,h.from_,h.at_,h.t58,fun b hz=>(hZ b hz).2,fun b hz=>(hZ b hz).1.elim (h.z8 b) (fun e=>by have:=h.lt;have:=h.g8;omega),fun b hx hz=>(hZ b hz).1.elim (h.zno b hx) (fun e=>by have:=(h.ox8 b hx).2;omega)⟩
 ·exact h.z8 _ (hY _ e) (by decide)
 ·exact h.z8 _ (hY _ e) (by decide)
 ·exact⟨K hR.rA (fun b e=>.inr (.inl e)),K hR.rG (fun b e=>.inr (.inr (.inl e))),K hR.rM (fun b e=>.inr (.inr (.inr (.inl e)))),K hR.rP (fun b e=>.inr (.inr (.inr (.inr (.inl e))))),K hR.rN (fun b e=>.inr (.inr (.inr (.inr (.inr (.inl e)))))),K hR.rO (fun b e=>.inr (.inr (.inr (.inr (.inr (.inr e)))))),hR.pe,hR.ne,
   fun x hx=>⟨(LA (hR.po x hx).ps (by decide) (hR.po x hx).pav).1,(LA (hR.po x hx).ps (by decide) (hR.po x hx).pav).2,(LA (hR.po x hx).es (by decide) (hR.po x hx).eav).1,(LA (hR.po x hx).es (by decide) (hR.po x hx).eav).2⟩,
   fun x hx=>⟨(LA (hR.no x hx).kids (by decide) (hR.no x hx).kav).1,(LA (hR.no x hx).kids (by decide) (hR.no x hx).kav).2,(LA (hR.no x hx).vs (by decide) (hR.no x hx).vav).1,(LA (hR.no x hx).vs (by decide) (hR.no x hx).vav).2⟩⟩
theorem St.growc(hs:St w g src r s)(r' :Rdr)(s' :Sl)(i:Nat){T:TypeId}{z n0 c0 n:Nat}{A0:OA}{xs0 xs:List Value}(NC:w.ownsRow 8 T z (.slice A0 n0 c0) n0 xs0)(hT:T≠165)(h1:Old w w1){A' :OA}{c' :Nat}(G8:w1.grownBy w2 (A0.map (·.block)))
  (hA:A'.map (·.block)=A0.map (·.block)\/A'.map (·.block)=some w1.heap.size) (ho:w2.ownsRow 8 T z (.slice A' n c') n xs)
  (hC:(rdC src r (jJ r.tree s)).set i (.slice A' n c')=rdC src r' (jJ r'.tree s')) (hX:∀b,A0.map (·.block)=some b->OX g s b) (DW:∀b,OX g s' b->A'.map (·.block)=some b\/OX g s b) (hz:s'.z=s.z) (h2:r'.from_=r.from_) (h3:r'.at_=r.at_) (h4:r'.t=r.t)
  (hR:Fr g s s' w (w2.setCell ⟨g,i,none⟩ (.slice A' n c'))->(w2.setCell ⟨g,i,none⟩ (.slice A' n c')).ownsRow 8 T z (.slice A' n c') n xs->(∀{e:TypeId} {z:Nat} {v:Value} {n1:Nat} {xs:List Value},w.ownsRow 8 e z v n1 xs->e≠165->e≠T->(w2.setCell ⟨g,i,none⟩ (.slice A' n c')).ownsRow 8 e z v n1 xs)->∃ns ps,TRows (w2.setCell ⟨g,i,none⟩ (.slice A' n c')) (AX g s') r'.tree s' ns ps):
  St (w2.setCell ⟨g,i,none⟩ (.slice A' n c')) g src r' s' /\Fr g s s' w (w2.setCell ⟨g,i,none⟩ (.slice A' n c')):=by
 have hb:=hs.box;have LZ:A0.map (·.block)≠some g:=by rw[<-jC];exact ja NC hb hT
 have Fk:Rb w2 g src r (jJ r.tree s):=(hb.old h1).kp (Kp.grown (jQ0 (fun b=>A0.map (·.block)=some b) w1) G8 (fun _ e _=>e)) LZ;have Fg:Kp (fun b=>A0.map (·.block)=some b) w w2:=Kp.grown (h1.mono (fun _ _ e=>e.elim)) G8 (fun _ e _=>e);have Gu:Kp (GX g) w2 (w2.setCell ⟨g,i,none⟩ (.slice A' n c')):=(jQ0 (GX g) _).setCell (p:=⟨g,i,none⟩) (fun _=>rfl) _;have hf:Fr g s s' w (w2.setCell ⟨g,i,none⟩ (.slice A' n c')):=⟨(Fg.mono (fun b _ e=>hX b e)).trans Gu (fun b _ e=>.inl e),fun b hlt hx=>(DW b hx).elim (fun e=>hX b (hA.elim (fun hA=>by rw[<-hA];exact e) (fun hA=>by rw[hA]at e;injection e with e;have:=h1.size;omega))) id,hz⟩;refine⟨⟨hs.sgf hf,hs.g8,hs.small,?_,hR hf (jW ho Gu (fun k e e' =>ja ho Fk hT (by rw[e];exact congrArg some e'))) (fun ho Fa Mj=>
  jW (jW ho Fg (fun k e e' =>zc ho NC Mj k e (by rw[jC];exact e'))) Gu (fun k e e' =>ja ho hb Fa (by rw[e];exact congrArg some e'))),by rw[h2,h3];exact hs.from_,by rw[h3];exact hs.at_,by rw[h4];exact hs.t58,fun b hx=>jL8 (hs.zlt b (by rw[<-hz];exact hx)) hf.kp.size,fun b hx=>hs.z8 b (by rw[<-hz];exact hx),fun b hx hy=>hs.zno b (hf.own b (hs.zlt b (by rw[<-hz];exact hy)) hx) (by rw[<-hz];exact hy)⟩,hf⟩
 have:=Blk.set_ Fk i (.slice A' n c');unfold Rb;rw[jJ1,hC]at this;exact this
theorem St.growA(hs:St w g src r s)(h:TRows w (AX g s) r.tree s ns ps)(x:Atr)(_hx:OkA w (AX g s) x)(h1:Old w w1){A' :OA}{c' :Nat}(G8:w1.grownBy w2 (s.aA.map (·.block)))
  (hA:A'.map (·.block)=s.aA.map (·.block)\/A'.map (·.block)=some w1.heap.size) (ho:w2.ownsRow 8 114 7 (.slice A' (r.tree.attrs.length+1) c') (r.tree.attrs.length+1) (r.tree.attrs.flatMap atC++atC x)):
  St (w2.setCell ⟨g,7,none⟩ (.slice A' (r.tree.attrs.length+1) c')) g src {r with tree:={r.tree with attrs:=r.tree.attrs++[x]}} {s with aA:=A',ac:=c'}/\
  Fr g s {s with aA:=A',ac:=c'} w (w2.setCell ⟨g,7,none⟩ (.slice A' (r.tree.attrs.length+1) c')):=by
 refine hs.growc _ _ 7 h.rA (by decide) h1 G8 hA ho (by simp[rdC,jJ]) (fun b e=>by simp[OX,e]) (fun b e=>by unfold OX at e⊢;simp only at e;rcases e with e|e|e|e|e|e|e<;>simp[e]) rfl rfl rfl rfl fun hf HO K=>⟨ns,ps,?_⟩;constructor
 case pe=>first|exact h.pe|(rw[jN3,h.pe];rfl)
 case ne=>first|exact h.ne|(rw[jN3,h.ne];rfl)
 case po=>first|exact fun y hy=>(h.po y hy).fr hf|exact fun y hy=>(jM6 hy).elim (fun hy=>(h.po y hy).fr hf) (fun hy=>by rw[jM7 hy];exact _hx.fr hf)
 case no=>first|exact fun y hy=>(h.no y hy).fr hf|exact fun y hy=>(jM6 hy).elim (fun hy=>(h.no y hy).fr hf) (fun hy=>by rw[jM7 hy];exact _hx.fr hf)
 all_goals first|exact K (by first|exact h.rA|exact h.rG|exact h.rM|exact h.rP|exact h.rN|exact h.rO) (by decide) (by decide)|(rw[<-List.flatMap_singleton atC x,<-jN5]at HO;simpa using HO)
theorem St.growG(hs:St w g src r s)(h:TRows w (AX g s) r.tree s ns ps)(x:Stg)(_hx:OkG w (AX g s) x)(h1:Old w w1){A' :OA}{c' :Nat}(G8:w1.grownBy w2 (s.gA.map (·.block)))
  (hA:A'.map (·.block)=s.gA.map (·.block)\/A'.map (·.block)=some w1.heap.size) (ho:w2.ownsRow 8 117 7 (.slice A' (r.tree.stages.length+1) c') (r.tree.stages.length+1) (r.tree.stages.flatMap sgC++sgC x)):
  St (w2.setCell ⟨g,8,none⟩ (.slice A' (r.tree.stages.length+1) c')) g src {r with tree:={r.tree with stages:=r.tree.stages++[x]}} {s with gA:=A',gc:=c'}/\
  Fr g s {s with gA:=A',gc:=c'} w (w2.setCell ⟨g,8,none⟩ (.slice A' (r.tree.stages.length+1) c')):=by
 refine hs.growc _ _ 8 h.rG (by decide) h1 G8 hA ho (by simp[rdC,jJ]) (fun b e=>by simp[OX,e]) (fun b e=>by unfold OX at e⊢;simp only at e;rcases e with e|e|e|e|e|e|e<;>simp[e]) rfl rfl rfl rfl fun hf HO K=>⟨ns,ps,?_⟩;constructor
 case pe=>first|exact h.pe|(rw[jN3,h.pe];rfl)
 case ne=>first|exact h.ne|(rw[jN3,h.ne];rfl)
 case po=>first|exact fun y hy=>(h.po y hy).fr hf|exact fun y hy=>(jM6 hy).elim (fun hy=>(h.po y hy).fr hf) (fun hy=>by rw[jM7 hy];exact _hx.fr hf)
 case no=>first|exact fun y hy=>(h.no y hy).fr hf|exact fun y hy=>(jM6 hy).elim (fun hy=>(h.no y hy).fr hf) (fun hy=>by rw[jM7 hy];exact _hx.fr hf)
 all_goals first|exact K (by first|exact h.rA|exact h.rG|exact h.rM|exact h.rP|exact h.rN|exact h.rO) (by decide) (by decide)|(rw[<-List.flatMap_singleton sgC x,<-jN5]at HO;simpa using HO)
theorem St.growM(hs:St w g src r s)(h:TRows w (AX g s) r.tree s ns ps)(x:Mil)(_hx:OkM w (AX g s) x)(h1:Old w w1){A' :OA}{c' :Nat}(G8:w1.grownBy w2 (s.mA.map (·.block)))
  (hA:A'.map (·.block)=s.mA.map (·.block)\/A'.map (·.block)=some w1.heap.size) (ho:w2.ownsRow 8 64 6 (.slice A' (r.tree.miles.length+1) c') (r.tree.miles.length+1) (r.tree.miles.flatMap miC++miC x)):
  St (w2.setCell ⟨g,9,none⟩ (.slice A' (r.tree.miles.length+1) c')) g src {r with tree:={r.tree with miles:=r.tree.miles++[x]}} {s with mA:=A',mc:=c'}/\
  Fr g s {s with mA:=A',mc:=c'} w (w2.setCell ⟨g,9,none⟩ (.slice A' (r.tree.miles.length+1) c')):=by
 refine hs.growc _ _ 9 h.rM (by decide) h1 G8 hA ho (by simp[rdC,jJ]) (fun b e=>by simp[OX,e]) (fun b e=>by unfold OX at e⊢;simp only at e;rcases e with e|e|e|e|e|e|e<;>simp[e]) rfl rfl rfl rfl fun hf HO K=>⟨ns,ps,?_⟩;constructor
 case pe=>first|exact h.pe|(rw[jN3,h.pe];rfl)
 case ne=>first|exact h.ne|(rw[jN3,h.ne];rfl)
 case po=>first|exact fun y hy=>(h.po y hy).fr hf|exact fun y hy=>(jM6 hy).elim (fun hy=>(h.po y hy).fr hf) (fun hy=>by rw[jM7 hy];exact _hx.fr hf)
 case no=>first|exact fun y hy=>(h.no y hy).fr hf|exact fun y hy=>(jM6 hy).elim (fun hy=>(h.no y hy).fr hf) (fun hy=>by rw[jM7 hy];exact _hx.fr hf)
 all_goals first|exact K (by first|exact h.rA|exact h.rG|exact h.rM|exact h.rP|exact h.rN|exact h.rO) (by decide) (by decide)|(rw[<-List.flatMap_singleton miC x,<-jN5]at HO;simpa using HO)
theorem St.growP(hs:St w g src r s)(h:TRows w (AX g s) r.tree s ns ps)(x:MSt)(_hx:OkP w (AX g s) x)(h1:Old w w1){A' :OA}{c' :Nat}(G8:w1.grownBy w2 (s.pA.map (·.block)))
  (hA:A'.map (·.block)=s.pA.map (·.block)\/A'.map (·.block)=some w1.heap.size) (ho:w2.ownsRow 8 111 8 (.slice A' (r.tree.steps.length+1) c') (r.tree.steps.length+1) (ps.flatMap stC++stC x)):
  St (w2.setCell ⟨g,10,none⟩ (.slice A' (r.tree.steps.length+1) c')) g src {r with tree:={r.tree with steps:=r.tree.steps++[x.s]}} {s with pA:=A',pc:=c'}/\
  Fr g s {s with pA:=A',pc:=c'} w (w2.setCell ⟨g,10,none⟩ (.slice A' (r.tree.steps.length+1) c')):=by
 refine hs.growc _ _ 10 h.rP (by decide) h1 G8 hA ho (by simp[rdC,jJ]) (fun b e=>by simp[OX,e]) (fun b e=>by unfold OX at e⊢;simp only at e;rcases e with e|e|e|e|e|e|e<;>simp[e]) rfl rfl rfl rfl fun hf HO K=>⟨ns,(ps++[x]),?_⟩;constructor
 case pe=>first|exact h.pe|(rw[jN3,h.pe];rfl)
 case ne=>first|exact h.ne|(rw[jN3,h.ne];rfl)
 case po=>first|exact fun y hy=>(h.po y hy).fr hf|exact fun y hy=>(jM6 hy).elim (fun hy=>(h.po y hy).fr hf) (fun hy=>by rw[jM7 hy];exact _hx.fr hf)
 case no=>first|exact fun y hy=>(h.no y hy).fr hf|exact fun y hy=>(jM6 hy).elim (fun hy=>(h.no y hy).fr hf) (fun hy=>by rw[jM7 hy];exact _hx.fr hf)
 all_goals first|exact K (by first|exact h.rA|exact h.rG|exact h.rM|exact h.rP|exact h.rN|exact h.rO) (by decide) (by decide)|(rw[<-List.flatMap_singleton stC x,<-jN5]at HO;simpa using HO)
theorem St.growN(hs:St w g src r s)(h:TRows w (AX g s) r.tree s ns ps)(x:MNd)(_hx:OkN w (AX g s) x)(h1:Old w w1){A' :OA}{c' :Nat}(G8:w1.grownBy w2 (s.nA.map (·.block)))
  (hA:A'.map (·.block)=s.nA.map (·.block)\/A'.map (·.block)=some w1.heap.size) (ho:w2.ownsRow 8 46 7 (.slice A' (r.tree.nodes.length+1) c') (r.tree.nodes.length+1) (ns.flatMap ndC++ndC x)):
  St (w2.setCell ⟨g,11,none⟩ (.slice A' (r.tree.nodes.length+1) c')) g src {r with tree:={r.tree with nodes:=r.tree.nodes++[x.n]}} {s with nA:=A',nc:=c'}/\
  Fr g s {s with nA:=A',nc:=c'} w (w2.setCell ⟨g,11,none⟩ (.slice A' (r.tree.nodes.length+1) c')):=by
 refine hs.growc _ _ 11 h.rN (by decide) h1 G8 hA ho (by simp[rdC,jJ]) (fun b e=>by simp[OX,e]) (fun b e=>by unfold OX at e⊢;simp only at e;rcases e with e|e|e|e|e|e|e<;>simp[e]) rfl rfl rfl rfl fun hf HO K=>⟨(ns++[x]),ps,?_⟩;constructor
 case pe=>first|exact h.pe|(rw[jN3,h.pe];rfl)
 case ne=>first|exact h.ne|(rw[jN3,h.ne];rfl)
 case po=>first|exact fun y hy=>(h.po y hy).fr hf|exact fun y hy=>(jM6 hy).elim (fun hy=>(h.po y hy).fr hf) (fun hy=>by rw[jM7 hy];exact _hx.fr hf)
 case no=>first|exact fun y hy=>(h.no y hy).fr hf|exact fun y hy=>(jM6 hy).elim (fun hy=>(h.no y hy).fr hf) (fun hy=>by rw[jM7 hy];exact _hx.fr hf)
 all_goals first|exact K (by first|exact h.rA|exact h.rG|exact h.rM|exact h.rP|exact h.rN|exact h.rO) (by decide) (by decide)|(rw[<-List.flatMap_singleton ndC x,<-jN5]at HO;simpa using HO)
theorem St.growO(hs:St w g src r s)(h:TRows w (AX g s) r.tree s ns ps)(x:Int)(_hx:OkO w (AX g s) x)(h1:Old w w1){A' :OA}{c' :Nat}(G8:w1.grownBy w2 (s.oA.map (·.block)))
  (hA:A'.map (·.block)=s.oA.map (·.block)\/A'.map (·.block)=some w1.heap.size) (ho:w2.ownsRow 8 3 1 (.slice A' (r.tree.ats.length+1) c') (r.tree.ats.length+1) (r.tree.ats.flatMap oC++oC x)):
  St (w2.setCell ⟨g,12,none⟩ (.slice A' (r.tree.ats.length+1) c')) g src {r with tree:={r.tree with ats:=r.tree.ats++[x]}} {s with oA:=A',oc:=c'}/\
  Fr g s {s with oA:=A',oc:=c'} w (w2.setCell ⟨g,12,none⟩ (.slice A' (r.tree.ats.length+1) c')):=by
 refine hs.growc _ _ 12 h.rO (by decide) h1 G8 hA ho (by simp[rdC,jJ]) (fun b e=>by simp[OX,e]) (fun b e=>by unfold OX at e⊢;simp only at e;rcases e with e|e|e|e|e|e|e<;>simp[e]) rfl rfl rfl rfl fun hf HO K=>⟨ns,ps,?_⟩;constructor
 case pe=>first|exact h.pe|(rw[jN3,h.pe];rfl)
 case ne=>first|exact h.ne|(rw[jN3,h.ne];rfl)
 case po=>first|exact fun y hy=>(h.po y hy).fr hf|exact fun y hy=>(jM6 hy).elim (fun hy=>(h.po y hy).fr hf) (fun hy=>by rw[jM7 hy];exact _hx.fr hf)
 case no=>first|exact fun y hy=>(h.no y hy).fr hf|exact fun y hy=>(jM6 hy).elim (fun hy=>(h.no y hy).fr hf) (fun hy=>by rw[jM7 hy];exact _hx.fr hf)
 all_goals first|exact K (by first|exact h.rA|exact h.rG|exact h.rM|exact h.rP|exact h.rN|exact h.rO) (by decide) (by decide)|(rw[<-List.flatMap_singleton oC x,<-jN5]at HO;simpa using HO)
end
theorem Yd:∀(l:LB) (k:Nat),strLen l=some k->k<=l.length
 |[],k,h=>by rw[strLen]at h;cases h
 |[c],k,h=>by
  rw[strLen]at h;split at h
  ·injection h with h;simp only[jK6,jN2];omega
  ·split at h
   ·cases h
   ·obtain⟨q,hq,rfl⟩:=jM4 h;rw[strLen]at hq;cases hq
 |c::d::l,k,h=>by
  rw[strLen]at h;split at h
  ·injection h with h;simp only[jK6];omega
  ·split at h
   ·obtain⟨q,hq,rfl⟩:=jM4 h;have:=Yd l q hq;simp only[jK6];omega
   ·obtain⟨q,hq,rfl⟩:=jM4 h;have:=Yd (d::l) q hq;simp only[jK6]at this⊢;omega
theorem jEL(l:LB)(n t:Nat)(h:ZB l=some (n,t)):n<=l.length/\t<58:=by
 cases l with
 |nil=>cases h
 |cons c l=>
  rw[ZB]at h;split at h
  ·injection h with h;injection h with h1 h2;rw[<-h1,<-h2];exact⟨vo _ _,JS _⟩
  ·split at h
   ·obtain⟨q,hq,e⟩:=jM4 h;injection e with e1 e2;have:=Yd l q hq;rw[<-e1,<-e2];exact⟨by simp only[jK6];omega,by decide⟩
   ·split at h
    ·rename_i hh;injection h with h;injection h with h1 h2;rw[<-h1,<-h2];refine⟨?_,ku _⟩;cases l with
     |nil=>exact absurd hh.1 (by decide)
     |cons d l=>simp only[jK6];omega
    ·injection h with h;injection h with h1 h2;rw[<-h1,<-h2];exact⟨by simp only[jK6];omega,ku _⟩
theorem jBs(src:LB)(r r' :Rdr)(h:jw src r=some r')(ha:r.at_ <=src.length)(ht:r.t<58):r'.from_ <=r'.at_ /\r'.at_ <=src.length/\r'.t<58/\r'.tree=r.tree/\r'.order=r.order:=by
 have hK:=VK false (src.drop r.at_);rw[jK8]at hK;unfold jw at h;have hk:r.at_ +jN false (src.drop r.at_)<=src.length:=(by omega);generalize r.at_ +jN false (src.drop r.at_)=K at*;simp only at h;split at h
 ·injection h with h;rw[<-h];exact⟨jL3 _,hk,ht,rfl,rfl⟩
 ·obtain⟨x,hx,e⟩:=jM4 h;obtain⟨n,t⟩:=x;have:=jEL _ n t hx;rw[jK8]at this;rw[<-e];exact⟨by simp only;omega,by simp only;omega,this.2,rfl,rfl⟩
def Sc(w:World)(g:Nat)(src:BA)(s:Sl)(r' :Rdr)(v:Value)(e:Ending)(w' :World):Prop:=e=.returned v/\St w' g src r' s/\Fr g s s w w'
theorem jX(w:World)(g:Nat)(src:BA)(r r' :Rdr)(s:Sl)(h:St w g src r s)(hn:jw (sb src) r=some r'):
  Calls prog 135 #[.pointer (some ⟨g,0,none⟩)] w (Sc w g src s r' (.tuple #[])):=by
 refine(jD8 w h.sg g h.g8 src r r' _ h.box h.at_ h.small hn).mono ?_;rintro e w' ⟨rfl,hb,hk⟩;have hf:=jBs (sb src) r r' hn (by rw[jB];exact h.at_) h.t58;rw[jB]at hf;exact⟨rfl,h.scan hb hf.2.2.2.1 hk hf.1 hf.2.1 hf.2.2.1⟩
theorem yu(w:World)(g:Nat)(src:BA)(r:Rdr)(s:Sl)(h:St w g src r s):
  Calls prog 165 #[.pointer (some ⟨g,0,none⟩)] w fun e w' =>e=.returned (.string ⟨(kC (sb src) r).toArray⟩)/\∃n,w' =w.drewN n:=by
 have:=VZ w g src r _ h.box h.from_ h.at_
 rwa [<-jBu (src.extract r.from_ r.at_),jBA]at this
noncomputable def least (p:Nat->Prop):Nat:=Classical.epsilon fun n=>p n/\∀m,p m->n<=m
theorem Zx{p:Nat->Prop}(h:∃n,p n):p (least p)/\∀m,p m->least p<=m:=by
 refine Classical.epsilon_spec (p:=fun n=>p n/\∀m,p m->n<=m) ?_;obtain⟨n,hn⟩:=h
 induction n using Nat.strongRecOn with
 |_ n ih=>
  rcases Classical.em (∃m,m<n/\p m)with⟨m,hm,hp⟩|MP
  ·exact ih m hm hp
  ·exact⟨n,hn,fun m hm=>Nat.le_of_not_lt fun hlt=>MP ⟨m,hlt,hm⟩⟩
theorem zI{p:Nat->Prop}(h:∃n,p n):∃n,p n/\least p=n:=⟨_,(Zx h).1,rfl⟩
theorem vZ{p:Nat->Prop}{n m:Nat}(h:p n)(k:n<m):least p<m:=Nat.lt_of_le_of_lt ((Zx ⟨n,h⟩).2 n h) k
theorem St.setOrder{w:World}{g:Nat}{src:BA}{r:Rdr}{s:Sl}(h:St w g src r s)(k:Nat):
  St (w.setCell ⟨g,4,none⟩ (.int .i64 (k:Int))) g src {r with order:=k} s/\Fr g s s w (w.setCell ⟨g,4,none⟩ (.int .i64 (k:Int))):=
 h.scan (h.box.setOrder k).1 rfl (h.box.setOrder k).2 h.from_ h.at_ h.t58
theorem jm(w:World)(g:Nat)(src:BA)(r r' :Rdr)(s:Sl)(t:Nat)(b:Bool)(h:St w g src r s)(hk:jn (sb src) t r=some (b,r')):
  Calls prog 167 #[.pointer (some ⟨g,0,none⟩),.int .u8 (t:Int)] w (Sc w g src s r' (.bool b)):=by
 have Fh:=h.box.c3;have HS:=G h;unfold jn at hk;by_cases ht:r.t=t
 ·rw[jJ6 ht]at hk;obtain⟨r1,hn,he⟩:=jM4 hk;injection he with e1 e2;subst e1 e2;have HN:=G hn;have e1:((r.t:Int)==(t:Int))=true:=beq_iff_eq.2 (by omega);clear h hk hn ht;go_enter func167,ntmps167;go_wp2_with (go_at_call 135;refine(jX _ g src _ _ s HS.out HN.out).mono ?_;rintro e w1 ⟨rfl,hX⟩);go_ret;exact⟨rfl,hX⟩
 ·rw[jJ5 ht]at hk;injection hk with hk;injection hk with e1 e2;subst e1 e2;have e1:((r.t:Int)==(t:Int))=false:=jM3 (by omega);clear h ht;go_enter func167,ntmps167;go_wp2;go_ret;exact⟨rfl,HS.out,Fr.refl _ _ _⟩
theorem zt(w:World)(g:Nat)(src:BA)(r r' :Rdr)(s:Sl)(x:BA)(at_:Int)(h:St w g src r s)(hk:ze (sb src) r=some (x,at_,r')):
  Calls prog 136 #[.pointer (some ⟨g,0,none⟩)] w (Sc w g src s r' (.tuple #[.string x,iv at_])):=by
 have Fq:=h.box.c2;have HS:=G h;unfold ze at hk;obtain⟨r1,hn,he⟩:=jM4 hk;injection he with e1 e2;injection e2 with e2 e3;subst e1 e2 e3;have HN:=G hn;have HL:=G (fun n=>yu (w.drewN n) g src r s (h.drewN n));generalize kC (sb src) r=lx at*;clear h hk hn;go_enter func136,ntmps136;go_wp2;go_quiet ((go_at_call 165;exact Calls.quiet_of (HL.out _)));go_wp2_with (go_at_call 135;refine(jX _ g src _ _ s (HS.out.drewN _) HN.out).mono ?_;rintro e w1 ⟨rfl,hX⟩)
 go_ret2
 exact⟨rfl,hX.1,(Fr.of_old s ((jQ0 _ _).drewN _)).trans hX.2⟩
theorem zK(w:World)(g:Nat)(src:BA)(r r' :Rdr)(s:Sl)(x:BA)(at_ o:Int)(h:St w g src r s)(hk:Zf (sb src) r=some (x,at_,o,r')):
  Calls prog 166 #[.pointer (some ⟨g,0,none⟩)] w (Sc w g src s r' (.tuple #[.string x,iv at_,iv o])):=by
 have HS:=G h;unfold Zf at hk;obtain⟨r1,hn,hk⟩:=jM2 hk;obtain⟨y,hm,hk⟩:=jM2 hk;obtain⟨x1,a1,r2⟩:=y;simp only at hk;split at hk
 case isFalse=>cases hk
 rename_i ho;injection hk with he;injection he with e1 e2;injection e2 with e2 e3;injection e3 with e3 e4;subst e1 e2 e3 e4;have HN:=G hn;have HM:=G hm;have q0:IntKind.i64.wrap ((r2.order:Int)+1)=(r2.order:Int)+1:=jQ3 _ (by omega);have q1:RowKit.wrap64 (r2.order:Int)=(r2.order:Int):=IntWalk.wrap64_in _ (by omega);clear h hn hm ho hk;go_enter func166,ntmps166;go_wp2_with (first|(go_at_call 135;refine(jX _ g src _ _ s HS.out HN.out).mono ?_;rintro e w1 ⟨rfl,hX⟩;have HX:=G hX;clear hX)|(go_at_call 136;refine(zt _ g src _ _ s _ _ HX.out.1 HM.out).mono ?_;rintro e w2 ⟨rfl,hY⟩;have Ms:=hY.1.box.c4;have R0:=hY.1.box.z 4;have HZ:=hY.1.setOrder (r2.order+1);rw[show((r2.order+1:Nat):Int)=(r2.order:Int)+1 by omega]at HZ;have HZ:=G HZ;have HF:=G (HX.out.2.trans hY.2);clear hY));generalize hW:World.setCell _ _ _=W at*;have Ms:=HZ.out.1.box.c4;simp only[show((r2.order+1:Nat):Int)=(r2.order:Int)+1 by omega]at Ms;clear hW;go_quiet (fail);go_wp2
 go_ret3
 exact⟨by rw[q1];rfl,HZ.out.1.drewN _,HF.out.trans (HZ.out.2.trans (Fr.of_old s ((jQ0 _ _).drewN _)))⟩
theorem jCO(w:World)(g:Nat)(src:BA)(r r' :Rdr)(s:Sl)(x:BA)(at_:Int)(h:St w g src r s)(hk:inN (sb src) r=some (x,at_,r')):
  Calls prog 170 #[.pointer (some ⟨g,0,none⟩)] w (Sc w g src s r' (.tuple #[.string x,iv at_])):=by
 have HS:=G h;unfold inN at hk;by_cases h28:r.t=28
 ·rw[jJ6 h28]at hk;obtain⟨r1,hn,hm⟩:=jM2 hk;have HK:=G (show jn (sb src) 28 r=some (true,r1)by rw[jn,jJ6 h28,hn];rfl);have HM:=G hm;clear h hn hm hk h28;go_enter func170,ntmps170;go_wp2_with (first|(go_at_call 167;refine(jm _ g src _ _ s 28 _ HS.out HK.out).mono ?_;rintro e w1 ⟨rfl,hX⟩;have HX:=G hX;clear hX)|(go_at_call 136;refine(zt _ g src _ _ s _ _ HX.out.1 HM.out).mono ?_;rintro e w2 ⟨rfl,hY⟩))
  go_ret2
  exact⟨rfl,hY.1,HX.out.2.trans hY.2⟩
 ·rw[jJ5 h28]at hk;injection hk with hk;injection hk with e1 e2;injection e2 with e2 e3;subst e1 e2 e3;have HK:=G (show jn (sb src) 28 r=some (false,r)by rw[jn,jJ5 h28]);clear h h28;go_enter func170,ntmps170;go_wp2_with (first|(go_at_call 167;refine(jm _ g src _ _ s 28 _ HS.out HK.out).mono ?_;rintro e w1 ⟨rfl,hX⟩))
  go_ret2
  exact⟨rfl,hX⟩
theorem Xu(w:World)(g:Nat)(src:BA)(r r' :Rdr)(s:Sl)(k:Int)(h:St w g src r s)(hk:qx (sb src) r=some (k,r')):
  Calls prog 168 #[.pointer (some ⟨g,0,none⟩)] w (Sc w g src s r' (iv k)):=by
 have HS:=G h;have Fh:=h.box.c3;unfold qx at hk;split at hk
 case isFalse=>cases hk
 rename_i ht;obtain⟨r1,hn,he⟩:=jM2 hk;injection he with he;injection he with e1 e2;subst e1 e2;have HN:=G hn;obtain⟨q,hq,Ae⟩:∃q,r.t=q+34/\q<=4:=⟨r.t-34,by omega,by omega⟩;clear h hn hk ht;go_enter func168,ntmps168;go_wp2_with (first|(go_at_call 135;refine(jX _ g src _ _ s HS.out HN.out).mono ?_;rintro e w1 ⟨rfl,hX⟩));go_ret;exact⟨congrArg Ending.returned (congrArg (Value.int .i64) (show 1+(q:Int)=(r.t:Int)-33 by omega)),hX⟩
def nth:List Oper->Nat->Option Oper
 |[],_=>none
 |o::_,0=>some o
 |_::l,i+1=>nth l i
theorem jBp:∀(l:List Oper) (i:Nat),nth l i=l.toArray[i]?
 |[],i=>by simp[nth]
 |o::l,0=>by simp[nth]
 |o::l,i+1=>by
  have:=jBp l i;simpa [nth]using this
def chk(md:Region.Mode)(l:List Oper)(listed:Array Bool)(i:Nat):Bool:=Region.noSelect l.toArray&&(Region.free md l.toArray listed i&&(Region.ready md l.toArray listed).contains i)
theorem jIx{md:Region.Mode}{l:List Oper}{listed:Array Bool}{i:Nat}(h:chk md l listed i=true):Region.noSelect l.toArray=true/\Region.free md l.toArray listed i=true/\(Region.ready md l.toArray listed).contains i=true:=by
 unfold chk at h;rw[Bool.and_eq_true,Bool.and_eq_true]at h;exact h
section
variable{P:Program}{l:List Oper}{Q:Exit->Act->World->Prop}{S:World->Prop}{md:Region.Mode}
theorem jM(i:Nat){oi:Oper}{d:Option Tmp}{v:Value}{fuel:Nat}{listed:Array Bool}{a:Act}{w:World}(hi:nth l i=some oi)(hd:oi.dst=d)
  (hk:chk md l listed i=true)
  (hQ:∀c a w,Q (.panic c) (a.put oi.dst v) w->Q (.panic c) a w) (hw:Region.wanted oi (yielded l.toArray a.tmps)=true) (hS:S w) (hy:∀w,S w->(execOp a.eval oi).run P w=.ok (.value v) w)
  (h:wpAnyH P md l.toArray Q S fuel (listed.setIfInBounds i true) (a.put d v) w):wpAnyH P md l.toArray Q S (fuel+1) listed a w:=by
 subst hd;obtain⟨hs,hf,hr⟩:=jIx hk;exact wpAnyH_take ((jBp l i).symm.trans hi) hs hf hr hQ (.inl ⟨hw,hy⟩) hS h
theorem jh(i:Nat){oi:Oper}{fuel:Nat}{listed:Array Bool}{a:Act}{w:World}(hi:nth l i=some oi)(hr:Region.ready md l.toArray listed=[i])
  (h:∀K' :Act->World->Prop,Shut (∀a w,S w->(S w->wpAnyH P md l.toArray Q S fuel (listed.setIfInBounds i true) a w)->K' a w)->if Region.wanted oi (yielded l.toArray a.tmps)=true then Oper.wp P oi a w K' Q else K' (a.put oi.dst undef) w):
  wpAnyH P md l.toArray Q S (fuel+1) listed a w:=
 wpAnyH_ready hr (by simp) (AllReadyH.cons ((jBp l i).symm.trans hi) h AllReadyH.nil)
end
def tkn(i n:Nat):List Bool:=List.replicate i true++List.replicate (n-i) false
theorem XK{i n:Nat}(h:i<n):(tkn i n).set i true=tkn (i+1) n:=by
 obtain⟨k,hk⟩:∃k,n-i=k+1:=⟨n-i-1,by omega⟩;rw[tkn,tkn,hk,show n-(i+1)=k by omega,List.set_append_right _ _ (by simp),List.length_replicate,Nat.sub_self,List.replicate_succ,jJ2,List.replicate_succ',jK1];rfl
section
variable{P:Program}{l:List Oper}{Q:Exit->Act->World->Prop}{S:World->Prop}{md:Region.Mode}{i n fuel:Nat}{oi:Oper}{d:Option Tmp}{v:Value}{a:Act}{w:World}
theorem jd{id:Nat}(n:Nat)(hn:l.length=n)(hm:P.follows .mixedOrders=true)(hS:S w.drew)(h:S w.drew->wpAnyH P .any l.toArray Q S n (tkn 0 n).toArray a w.drew):(Code.region id l.toArray true).wp P Q a w:=by
 refine wp_region_held_drew hm hS (fun hs=> ?_);have:=h hs;subst hn;simpa [tkn]using this
theorem tOn(hi:nth l i=some oi)(hd:oi.dst=d)(hk:(decide (i<n)&&chk md l (tkn i n).toArray i)=true)
  (hQ:∀c a w,Q (.panic c) (a.put oi.dst v) w->Q (.panic c) a w) (hw:Region.wanted oi (yielded l.toArray a.tmps)=true) (hS:S w) (hy:∀w,S w->(execOp a.eval oi).run P w=.ok (.value v) w)
  (h:wpAnyH P md l.toArray Q S fuel (tkn (i+1) n).toArray (a.put d v) w):wpAnyH P md l.toArray Q S (fuel+1) (tkn i n).toArray a w:=by
 obtain⟨FB,hk⟩:=Bool.and_eq_true _ _ ▸hk;refine jM i hi hd hk hQ hw hS hy ?_;rw[jJ1,XK (jM8 FB)];exact h
theorem Vy(hi:nth l i=some oi)(hr:Region.ready md l.toArray (tkn i n).toArray=[i])(FB:i<n)
  (h:∀K' :Act->World->Prop,Shut (∀a w,S w->(S w->wpAnyH P md l.toArray Q S fuel (tkn (i+1) n).toArray a w)->K' a w)->if Region.wanted oi (yielded l.toArray a.tmps)=true then Oper.wp P oi a w K' Q else K' (a.put oi.dst undef) w):
  wpAnyH P md l.toArray Q S (fuel+1) (tkn i n).toArray a w:=by
 refine jh i hi hr (fun K' hK=>h K' (fun a w hS k=>hK.out a w hS (fun hs=> ?_)));rw[jJ1,XK FB];exact k hs
theorem XL{ls ls' :Array Bool}(e:ls=ls')(h:wpAnyH P md l.toArray Q S fuel ls' a w):wpAnyH P md l.toArray Q S fuel ls a w:=e▸h
end
theorem Rd.row_new(w:World)(t:TypeId)(s n:Nat)(l:List Value)(hl:l.length=n*s):Rd (w.alloc (.cells l.toArray t)) s (some ⟨w.heap.size,0,none⟩) n l:=by
 refine⟨hl,fun _=>⟨_,_,rfl,fun j u hu=> ?_⟩⟩;have hb:=jQ2 w t l.toArray;rw[Nat.zero_add,hb.cell j];simpa using hu
theorem ye{w:World}{base:Nat}{e:TypeId}{size:Nat}{A:OA}{n c:Nat}{xs:List Value}(h:w.ownsRow base e size (.slice A n c) n xs){b:Nat}(e:A.map (·.block)=some b):base<=b/\b<w.heap.size:=by
 rcases h.2 with⟨e',_⟩|⟨g',cap,cur,e',W5,hg,_⟩
 ·injection e' with e1;subst e1;cases e
 ·injection e' with e1;subst e1;injection e with e;subst e;exact⟨W5,(Array.getElem?_eq_some_iff.1 hg).1⟩
theorem Jl{w:World}{base:Nat}{e:TypeId}{size:Nat}{A:OA}{n c:Nat}{xs:List Value}(h:w.ownsRow base e size (.slice A n c) n xs)(hn:0<n):∃k,A=some ⟨k,0,none⟩:=by
 rcases h.2 with⟨e,h0⟩|⟨g,cap,cur,e,_⟩
 ·omega
 ·injection e with e1 e2 e3;exact⟨g,e1⟩
theorem VT{w:World}{base:Nat}{e:TypeId}{z k n c:Nat}{xs:List Value}(h:w.ownsRow base e z (.slice (some ⟨k,0,none⟩) n c) n xs)(j:Nat)(u:Value):
  (w.setCell ⟨k,j,none⟩ u).ownsRow base e z (.slice (some ⟨k,0,none⟩) n c) n (xs.set j u):=by
 rcases h.2 with⟨e',_⟩|⟨g,cap,cur,e',hb,hg,h1,h2,h3,h4⟩
 ·injection e' with e1;cases e1
 ·injection e' with e1 e2 e3;injection e1 with e1;injection e1 with e1;subst e1;subst e3;refine⟨by rw[List.length_set];exact h.1,.inr ⟨k,c,cur.setIfInBounds j u,rfl,hb,?_,h1,h2,by rw[Array.size_setIfInBounds];exact h3,?_⟩⟩
  ·simp[World.setCell,Array.getElem?_modify,hg]
  ·rw[Array.toList_setIfInBounds,List.take_set,h4]
theorem zG{w:World}{base:Nat}{e:TypeId}{z k n c:Nat}{xs:List Value}(h:w.ownsRow base e z (.slice (some ⟨k,0,none⟩) n c) n xs)(j:Nat){u:Value}(hu:xs[j]? =some u):w.cell? ⟨k,j,none⟩=some u/\w.frozen? ⟨k,j,none⟩=false:=by
 rcases h.2 with⟨e',_⟩|⟨g,cap,cur,e',hb,hg,h1,h2,h3,h4⟩
 ·injection e' with e1;cases e1
 ·injection e' with e1 e2 e3;injection e1 with e1;injection e1 with e1;subst e1;rw[<-h4,List.getElem?_take]at hu;split at hu
  ·exact⟨by rw[cell_of_row w k j cur e (0,0) hg,<-Array.getElem?_toList];exact hu,by simp[World.frozen?,hg]⟩
  ·cases hu
theorem Kk{wr w' :World}{row:Option Nat}(hg:wr.grownBy w' row):Kp (fun b=>row=some b) wr w' :=(jQ0 _ wr).grown hg (fun _ e _=>e)
theorem jCN:(prog.info? 3).map (fun i=>(i.zero,i.size,i.bytes))=some (some (.int .i64 0),1,8):=by kernel_rfl
theorem jEX:(prog.info? 46).map (fun i=>(i.zero,i.size,i.bytes))=some (some (.agg #[.int .i64 0,.string ⟨#[]⟩,.int .i64 0,.int .i64 0,.string ⟨#[]⟩,.slice none 0 0,.slice none 0 0]),7,104):=by kernel_rfl
theorem Xz:(prog.info? 114).map (fun i=>(i.zero,i.size,i.bytes))=some (some (.agg #[.string ⟨#[]⟩,.int .i64 0,.int .i64 0,.int .i64 0,.bool false,.int .i64 0,.int .i64 0]),7,64):=by kernel_rfl
theorem uP:(prog.info? 117).map (fun i=>(i.zero,i.size,i.bytes))=some (some (.agg #[.string ⟨#[]⟩,.int .i64 0,.int .i64 0,.string ⟨#[]⟩,.int .i64 0,.int .i64 0,.int .i64 0]),7,72):=by kernel_rfl
theorem Xy:(prog.info? 64).map (fun i=>(i.zero,i.size,i.bytes))=some (some (.agg #[.string ⟨#[]⟩,.int .i64 0,.int .i64 0,.string ⟨#[]⟩,.int .i64 0,.int .i64 0]),6,64):=by kernel_rfl
theorem Xx:(prog.info? 111).map (fun i=>(i.zero,i.size,i.bytes))=some (some (.agg #[.string ⟨#[]⟩,.int .i64 0,.int .i64 0,.slice none 0 0,.string ⟨#[]⟩,.int .i64 0,.int .i64 0,.slice none 0 0]),8,112):=by kernel_rfl
theorem uQ:(prog.info? 122).map (fun i=>(i.zero,i.size,i.bytes))=some (some (.agg #[.string ⟨#[]⟩,.int .i64 0,.int .i64 0]),3,32):=by kernel_rfl
theorem qA:(prog.info? 125).map (fun i=>(i.zero,i.size,i.bytes))=some (some (.agg #[.string ⟨#[]⟩,.int .i64 0,.int .i64 0]),3,32):=by kernel_rfl
end Go.Proofs.YtmmjcbbogokmfaaGreatDoor

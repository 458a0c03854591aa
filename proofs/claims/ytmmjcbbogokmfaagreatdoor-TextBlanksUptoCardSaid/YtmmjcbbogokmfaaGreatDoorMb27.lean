import Derived.Test.YtmmjcbbogokmfaaGreatDoorMb15
import Derived.Test.YtmmjcbbogokmfaaGreatDoorMb26
import Derived.Laws.ResultCell
import Derived.StillTail
set_option maxRecDepth 100000
set_option maxHeartbeats 25600000
namespace Go.Proofs.YtmmjcbbogokmfaaGreatDoor
open Go.Proofs.Tryz
open Go.RowKit
theorem kU{a b c:World}(h:Old a b)(k:Old b c):Old a c:=h.trans k (fun _ _ e=>e)
structure TrF(w:World)(t:Tre)(s:Sl)(ns:List MNd)(ps:List MSt):Prop where
 rA:Rd w 7 s.aA t.attrs.length (t.attrs.flatMap atC)
 rG:Rd w 7 s.gA t.stages.length (t.stages.flatMap sgC)
 rM:Rd w 6 s.mA t.miles.length (t.miles.flatMap miC)
 rP:Rd w 8 s.pA t.steps.length (ps.flatMap stC)
 rN:Rd w 7 s.nA t.nodes.length (ns.flatMap ndC)
 rO:Rd w 1 s.oA t.ats.length (t.ats.map iv)
 pe:ps.map (·.s)=t.steps
 ne:ns.map (·.n)=t.nodes
 po:∀x∈ps,Rd w 3 x.pA x.s.params.length (x.s.params.flatMap prC)/\Rd w 3 x.eA x.s.effects.length (x.s.effects.flatMap efC)
 no:∀x∈ns,Rd w 1 x.A x.n.kids.length (x.n.kids.map iv)/\Rd w 1 x.vA x.n.vs.length (x.n.vs.map sv)
structure TrB(t:Tre):Prop where
 nA:t.attrs.length<=1000000
 nG:t.stages.length<=1000000
 nM:t.miles.length<=1000000
 nP:t.steps.length<=1000000
 nN:t.nodes.length<=1000000
 nO:t.ats.length<=2000000
 nS:∀x∈t.steps,x.params.length<=1000000/\x.effects.length<=1000000
 nK:∀n∈t.nodes,n.kids.length<=2000000/\n.vs.length<=2000000
structure Pr9(t:Tre):Prop where
 b:TrB t
 v:∀n∈t.nodes,n.vn<=9223372036854775807/\n.vt.size<=100000000
 f:Ze t<=jv
theorem TrF.old{w w' :World}{t:Tre}{s:Sl}{ns:List MNd}{ps:List MSt}(h:TrF w t s ns ps)(ho:Old w w'):TrF w' t s ns ps:=
 ⟨h.rA.old ho,h.rG.old ho,h.rM.old ho,h.rP.old ho,h.rN.old ho,h.rO.old ho,h.pe,h.ne,fun x hx=>⟨(h.po x hx).1.old ho,(h.po x hx).2.old ho⟩,fun x hx=>⟨(h.no x hx).1.old ho,(h.no x hx).2.old ho⟩⟩
theorem TrF.trd{w:World}{t:Tre}{s:Sl}{ns:List MNd}{ps:List MSt}(h:TrF w t s ns ps)(b:TrB t):TrD w t s ns ps:=
 ⟨⟨h.rN,h.ne,b.nN,fun x hx=>⟨(h.no x hx).1,by have:=(b.nK x.n (by rw[<-h.ne];exact List.mem_map_of_mem hx)).1;omega⟩⟩,h.rA,h.rG,h.rM,h.rP,h.pe,fun x hx=>⟨⟨(h.po x hx).1,(b.nS x.s (by rw[<-h.pe];exact List.mem_map_of_mem hx)).1⟩,(h.po x hx).2,(b.nS x.s (by rw[<-h.pe];exact List.mem_map_of_mem hx)).2⟩,b.nA,b.nG,b.nM,b.nP⟩
theorem jFP{α β:Type}{f:α->β}{xs ys:List α}(h:xs.map f=ys.map f){k:Nat}{x y:α}(hx:xs[k]? =some x)(hy:ys[k]? =some y):f x=f y:=by
 have h1:=congrArg (fun l=>l[k]?) h;simp only[jM1,hx,hy,Option.map_some,Option.some.injEq]at h1;exact h1
section
variable{w:World}{t:Tre}{s s2:Sl}{ns ns2:List MNd}{ps ps2:List MSt}
theorem TrF.nd2(h:TrF w t s ns ps)(k:TrF w t s2 ns2 ps2)(b:TrB t):∀(i:Nat) (x y:MNd),ns[i]? =some x->ns2[i]? =some y->Nd2 w x y:=fun i x y hx hy=>by
 have e:=jFP (h.ne.trans k.ne.symm) hx hy;have h1:=h.no x (List.mem_of_getElem? hx);have h2:=k.no y (List.mem_of_getElem? hy);have hb:=b.nK x.n (by rw[<-h.ne];exact List.mem_map_of_mem (List.mem_of_getElem? hx));rw[<-e]at h2;exact⟨e,h1.1,h2.1,h1.2,h2.2,by omega,by omega⟩
theorem TrF.st2(h:TrF w t s ns ps)(k:TrF w t s2 ns2 ps2)(b:TrB t):∀(i:Nat) (x y:MSt),ps[i]? =some x->ps2[i]? =some y->St2 w x y:=fun i x y hx hy=>by
 have e:=jFP (h.pe.trans k.pe.symm) hx hy;have h1:=h.po x (List.mem_of_getElem? hx);have h2:=k.po y (List.mem_of_getElem? hy);have hb:=b.nS x.s (by rw[<-h.pe];exact List.mem_map_of_mem (List.mem_of_getElem? hx));rw[<-e]at h2;exact⟨e,h1.1,h2.1,h1.2,h2.2,by omega,by omega⟩
theorem TrF.lenN(h:TrF w t s ns ps):ns.length=t.nodes.length:=by rw[<-h.ne,jK7]
theorem TrF.lenP(h:TrF w t s ns ps):ps.length=t.steps.length:=by rw[<-h.pe,jK7]
end
theorem jBB(w:World)(t:Tre)(s s2:Sl)(ns ns2:List MNd)(ps ps2:List MSt)(h:TrF w t s ns ps)(k:TrF w t s2 ns2 ps2)(b:TrB t):
  Calls prog 30 #[.agg (jJ t s).toArray,.agg (jJ t s2).toArray] w fun e w' =>e=.returned (.bool true)/\Old w w' :=by
 have HI:=G (fun W (hO:Old w W)=>jHw W s.oA s2.oA s.oc s2.oc t.ats (h.rO.old hO) (k.rO.old hO) (by have:=b.nO;omega));have HN:=G (fun W (hO:Old w W)=>XB W s.nA s2.nA s.nc s2.nc ns ns2 (by rw[h.lenN,k.lenN]) (by rw[h.lenN];exact h.rN.old hO) (by rw[h.lenN];exact k.rN.old hO) (by rw[h.lenN];have:=b.nN;omega) ((h.old hO).nd2 (k.old hO) b));rw[h.lenN]at HN;have HS:=G (fun W (hO:Old w W)=>XA W s.pA s2.pA s.pc s2.pc ps ps2 (by rw[h.lenP,k.lenP]) (by rw[h.lenP];exact h.rP.old hO) (by rw[h.lenP];exact k.rP.old hO) (by rw[h.lenP];have:=b.nP;omega) ((h.old hO).st2 (k.old hO) b));rw[h.lenP]at HS;have HA:=G (fun W (hO:Old w W)=>Yj W s.aA s2.aA s.ac s2.ac t.attrs (h.rA.old hO) (k.rA.old hO) (by have:=b.nA;omega));have HG:=G (fun W (hO:Old w W)=>QH W s.gA s2.gA s.gc s2.gc t.stages (h.rG.old hO) (k.rG.old hO) (by have:=b.nG;omega));have HM:=G (fun W (hO:Old w W)=>Yi W s.mA s2.mA s.mc s2.mc t.miles (h.rM.old hO) (k.rM.old hO) (by have:=b.nM;omega));have q1:(t.name.toList !=t.name.toList)=false:=bne_self_eq_false _;have B1:=G ((jQ2 w 29 (jJ t s).toArray).old ((jQ0 NoX _).alloc (.cells (jJ t s2).toArray 29)));have B2:=G (jQ2 (w.alloc (.cells (jJ t s).toArray 29)) 29 (jJ t s2).toArray);rw[show(w.alloc (.cells (jJ t s).toArray 29)).heap.size=w.heap.size+1 by simp]at B2;clear h k b;unfold jJ iv at*;go_enter func30,ntmps30;go_wp2_with (first|(go_at_call 85;refine(HM.out _ OW5.out).mono ?_;rintro e w6 ⟨rfl,hX⟩;have OW6:=G (kU OW5.out hX);have K6a:=G (K5a.out.old hX);have K6b:=G (K5b.out.old hX);clear hX)|(go_at_call 84;refine(HG.out _ OW4.out).mono ?_;rintro e w5 ⟨rfl,hX⟩;have OW5:=G (kU OW4.out hX);have K5a:=G (K4a.out.old hX);have K5b:=G (K4b.out.old hX);have n4:=K5a.out.at_ 4 (v:=.slice s.mA t.miles.length s.mc) rfl;have m4:=K5b.out.at_ 4 (v:=.slice s2.mA t.miles.length s2.mc) rfl;clear hX)|(go_at_call 83;refine(HA.out _ OW3.out).mono ?_;rintro e w4 ⟨rfl,hX⟩;have OW4:=G (kU OW3.out hX);have K4a:=G (K3a.out.old hX);have K4b:=G (K3b.out.old hX);have n3:=K4a.out.at_ 3 (v:=.slice s.gA t.stages.length s.gc) rfl;have m3:=K4b.out.at_ 3 (v:=.slice s2.gA t.stages.length s2.gc) rfl;clear hX)|(go_at_call 82;refine(HS.out _ OW2.out).mono ?_;rintro e w3 ⟨rfl,hX⟩;have OW3:=G (kU OW2.out hX);have K3a:=G (K2a.out.old hX);have K3b:=G (K2b.out.old hX);have n2:=K3a.out.at_ 2 (v:=.slice s.aA t.attrs.length s.ac) rfl;have m2:=K3b.out.at_ 2 (v:=.slice s2.aA t.attrs.length s2.ac) rfl;clear hX)|(go_at_call 81;refine(HN.out _ OW1.out).mono ?_;rintro e w2 ⟨rfl,hX⟩;have OW2:=G (kU OW1.out hX);have K2a:=G (K1a.out.old hX);have K2b:=G (K1b.out.old hX);have n5:=K2a.out.at_ 5 (v:=.slice s.pA t.steps.length s.pc) rfl;have m5:=K2b.out.at_ 5 (v:=.slice s2.pA t.steps.length s2.pc) rfl;clear hX)|(go_at_call 74;refine(HI.out _ (((jQ0 NoX w).alloc _).alloc _)).mono ?_;rintro e w1 ⟨rfl,hX⟩;have OW1:=G (kU (((jQ0 NoX w).alloc _).alloc _) hX);have K1a:=G (B1.out.old hX);have K1b:=G (B2.out.old hX);have n6:=K1a.out.at_ 6 (v:=.slice s.nA t.nodes.length s.nc) rfl;have m6:=K1b.out.at_ 6 (v:=.slice s2.nA t.nodes.length s2.nc) rfl;clear hX)|fail);go_ret;exact⟨rfl,OW6.out⟩
theorem zp{P:Program}{fn:Func}{R:Ending->World->Prop}{a:Act}{w:World}{p:Tmp}{ty:TypeId}{g:Nat}{t:TypeId}{cs:Array Value}{d:TypeDesc}(h:fn.results= #[.cell p ty])
  (hp:a.tmps.getD p undef=.pointer (some ⟨g,0,none⟩)) (hb:Blk w g t cs) (hu:P.underlying ty=some d) (hd:(match d with| .struct _ | .array _ _=>true|_=>false)=true) (hi:(P.info? ty).map (·.size)=some cs.size)
  (TF:a.defers=[]) (hR:R (.returned (.agg cs)) w):bodyPost P fn R .ret a w:=by
 refine bodyPost_ret ?_ TF hR;have hl:=run_loadVar_row (P:=P) w g t ty cs (0,0) d hb hu hd hi;simp only[results,h];simp only[Array.getD_eq_getD_getElem?]at hp;simp[hp,asAddr,hl]
def jKA:MSt:=⟨⟨QX,0,0,[],⟨#[]⟩,0,0,[]⟩,none,0,none,0⟩
def jKB:MNd:=⟨⟨-77,⟨#[]⟩,0,0,⟨#[]⟩,[],[]⟩,none,0,none,0⟩
structure Mk9 where
 gO:Nat
 gA:Nat
 gG:Nat
 gM:Nat
 gP:Nat
 gN:Nat
def MarkS(w:World)(x:MSt):Prop:=∃g h,x.pA=some ⟨g,0,none⟩/\x.pc=x.s.params.length+80/\Blk w g 122 ((jBN x.s.params jGb).flatMap prC).toArray/\x.eA=some ⟨h,0,none⟩/\x.ec=x.s.effects.length+80/\Blk w h 125 ((jBN x.s.effects jEC).flatMap efC).toArray
def MarkN(w:World)(x:MNd):Prop:=∃g h,x.A=some ⟨g,0,none⟩/\x.c=x.n.kids.length+80/\Blk w g 3 (jF0 (x.n.kids.map iv) (.int .i64 (-77))).toArray/\x.vA=some ⟨h,0,none⟩/\x.vc=x.n.vs.length+80/\Blk w h 9 (jF0 (x.n.vs.map sv) (.string QX)).toArray
structure TrM(w:World)(t:Tre)(m:Mk9)(ns:List MNd)(ps:List MSt):Prop where
 bO:Blk w m.gO 3 (jF0 (t.ats.map iv) (.int .i64 (-77))).toArray
 bA:Blk w m.gA 114 ((jBN t.attrs QV).flatMap atC).toArray
 bG:Blk w m.gG 117 ((jBN t.stages jGa).flatMap sgC).toArray
 bM:Blk w m.gM 64 ((jBN t.miles QU).flatMap miC).toArray
 bP:Blk w m.gP 111 ((ps++List.replicate 8 jKA).flatMap stC).toArray
 bN:Blk w m.gN 46 ((ns++List.replicate 8 jKB).flatMap ndC).toArray
 pe:ps.map (·.s)=t.steps
 ne:ns.map (·.n)=t.nodes
 po:∀x∈ps,MarkS w x
 no:∀x∈ns,MarkN w x
theorem MarkS.old{w w' :World}{x:MSt}(h:MarkS w x)(ho:Old w w'):MarkS w' x:=by
 obtain⟨g,k,a,b,c,d,e,f⟩:=h;exact⟨g,k,a,b,c.old ho,d,e,f.old ho⟩
theorem MarkN.old{w w' :World}{x:MNd}(h:MarkN w x)(ho:Old w w'):MarkN w' x:=by
 obtain⟨g,k,a,b,c,d,e,f⟩:=h;exact⟨g,k,a,b,c.old ho,d,e,f.old ho⟩
theorem TrM.old{w w' :World}{t:Tre}{m:Mk9}{ns:List MNd}{ps:List MSt}(h:TrM w t m ns ps)(ho:Old w w'):TrM w' t m ns ps:=
 ⟨h.bO.old ho,h.bA.old ho,h.bG.old ho,h.bM.old ho,h.bP.old ho,h.bN.old ho,h.pe,h.ne,fun x hx=>(h.po x hx).old ho,fun x hx=>(h.no x hx).old ho⟩
theorem zX(t:Tre)(s:Sl):(prog.info? 29).map (·.size)=some (jJ t s).length:=by
 rw[show(jJ t s).length=8 from rfl]
 kernel_rfl
section
variable{w:World}{t:Tre}{m:Mk9}{s:Sl}{ns ns2:List MNd}{ps ps2:List MSt}
end
def wpT(P:Program)(md:Region.Mode)(ops:Array Oper)(Q:Exit->Act->World->Prop)(S:World->Prop)(z:Nat):Nat->Array Bool->Act->World->Prop
 |0,listed,a,w=>Region.ready md ops listed=[]/\Q .normal a w
 |fuel+1,listed,a,w=>(Region.ready md ops listed=[]->Q .normal a w)/\∀i∈Region.ready md ops listed,wpOp P ops Q i (fun a' w' =>(i≠z->S w')/\wpT P md ops Q S z fuel (listed.setIfInBounds i true) a' w') a w
section
variable{P:Program}{ops:Array Oper}{Q:Exit->Act->World->Prop}{S:World->Prop}{md:Region.Mode}{z:Nat}
theorem wpT.any:∀(fuel:Nat) (listed:Array Bool) (a:Act) (w:World),wpT P md ops Q S z fuel listed a w->wpAny P md ops Q fuel listed a w
 |0,_,_,_,h=>h
 |fuel+1,_,_,_,h=>⟨h.1,fun i hi=>wpOp_mono (fun a' w' h' =>wpT.any fuel _ a' w' h'.2) (h.2 i hi)⟩
def ClosedT(md:Region.Mode)(ops:Array Oper)(listed:Array Bool):Prop:=∀j oj,ops[j]? =some oj->listed.getD j false=true->∀e∈oj.after,Region.binds md e=true->listed.getD e.on false=true
theorem ClosedT.set{listed:Array Bool}{i:Nat}(h:ClosedT md ops listed)(hi:i∈Region.ready md ops listed):ClosedT md ops (listed.setIfInBounds i true):=fun j oj hj hl e he hb=>by
 obtain⟨_,oi,Dw,G9⟩:=mem_ready.1 hi;by_cases TC:i=j
 ·subst TC;cases jL5 (hj.symm.trans Dw);exact getD_set_true (G9 e he hb)
 ·rw[getD_set_ne false TC]at hl;exact getD_set_true (h j oj hj hl e he hb)
theorem QF{listed:Array Bool}(hs:Region.sinkB md ops z=true)(hc:ClosedT md ops listed)(hz:z∈Region.ready md ops listed):∀(d i:Nat),z-i=d->i<z->listed.getD i false=true:=by
 intro d
 induction d using Nat.strongRecOn with
 |_ d ih=>
  intro i hd hi;obtain⟨_,oz,Du,G9⟩:=mem_ready.1 hz;obtain⟨j,hj,Sx⟩:=List.any_eq_true.1 (List.all_eq_true.1 hs i (List.mem_range.2 hi));simp only[Bool.and_eq_true,decide_eq_true_eq]at Sx;obtain⟨oj,PI,e,he,hb,rfl⟩:=Region.waitsFor_spec Sx.2;have DF:=List.mem_range.1 hj;by_cases L5:j=z
  ·subst L5;cases jL5 (PI.symm.trans Du);exact G9 e he hb
  ·exact hc j oj PI (ih (z-j) (by omega) j rfl (by omega)) e he hb
theorem wpT.first{i:Nat}{oi:Oper}{v:Value}(hi:ops[i]? =some oi)(Rf:∀(j:Nat) (o:Oper) cs b,ops[j]? =some o->o.op≠ .select cs b)
  (hQ:∀c a w,Q (.panic c) (a.put oi.dst v) w->Q (.panic c) a w) (hs:Region.sinkB md ops z=true) (DH:i<z):
  ∀(fuel:Nat) (listed:Array Bool) (a:Act) (w:World),ClosedT md ops listed->
   (∀j oj,ops[j]? =some oj->j≠i->listed.getD j true=false->(∀e∈oj.after,Region.binds md e=true->e.on≠i)->oi.apart ops oj=true)->
   i∈Region.ready md ops listed->YieldsIf P ops S oi v a->S w->
   wpT P md ops Q S z fuel (listed.setIfInBounds i true) (a.put oi.dst v) w->wpT P md ops Q S z (fuel+1) listed a w:=by
 intro fuel
 induction fuel with
 |zero=>
  intro listed a w Ly _ hr hy hS H;refine⟨fun h=>(by rw[h]at hr;cases hr),fun j hj=> ?_⟩;by_cases hji:j=i
  ·subst hji;exact hy.wpOp hi hS ⟨fun _=>hS,H⟩
  ·have:=ready_mono hj hji;rw[H.1]at this;cases this
 |succ fuel ih=>
  intro listed a w Ly Lx hr hy hS H;refine⟨fun h=>(by rw[h]at hr;cases hr),fun j hj=> ?_⟩;by_cases hji:j=i
  ·subst hji;exact hy.wpOp hi hS ⟨fun _=>hS,H⟩
  ·have L5:j≠z:=fun e=>by
    subst e;have h1:=QF hs Ly hj _ i rfl DH;have h0:=(mem_ready.1 hr).1;rw[getD_both h0]at h1;cases h1
   obtain⟨Rr,oj,PI,G9⟩:=mem_ready.1 hj;have Tx:∀e∈oj.after,Region.binds md e=true->e.on≠i:=fun e he hb Fi=>by
    have h1:=G9 e he hb;have h0:=(mem_ready.1 hr).1;rw[Fi,getD_both h0]at h1;cases h1
   have h2:=wpOp_putIf PI (Lx j oj PI hji Rr Tx) (fun cs b=>Rf i oi cs b hi) (fun cs b=>Rf j oj cs b PI) hQ hy (H.2 j (ready_mono hj hji));have P6:∀k ok,ops[k]? =some ok->k≠i->(listed.setIfInBounds j true).getD k true=false->
     (∀e∈ok.after,Region.binds md e=true->e.on≠i)->oi.apart ops ok=true:=fun k ok hk WN Dl MP=>by
    refine Lx k ok hk WN ?_ MP;by_cases hjk:j=k
    ·subst hjk;exact Rr
    ·rwa [getD_set_ne true hjk]at Dl
   refine wpOp_mono (fun a' w' h3=>⟨fun _=>h3.2.1 L5,ih (listed.setIfInBounds j true) a' w' (Ly.set hj) P6 (ready_mono hr (Ne.symm hji)) h3.1 (h3.2.1 L5) ?_⟩) h2;rw[Array.setIfInBounds_comm _ _ hji];exact h3.2.2
end
section
variable{P:Program}{l:List Oper}{Q:Exit->Act->World->Prop}{S:World->Prop}{md:Region.Mode}{z n fuel i:Nat}{a:Act}{w:World}{oi:Oper}{d:Option Tmp}{v:Value}
end
theorem Blk.next8{α:Type}{C:α->List Value}{z:Nat}(hz:∀x,(C x).length=z){w:World}{g:Nat}{T:TypeId}{qs:List α}{mk:α}{n k:Nat}(hk:k<n)(hq:qs.length=k)(h:Blk w g T ((qs++List.replicate (n-k) mk).flatMap C).toArray)(y:α):Blk (w.setCells g (k*z) (C y)) g T (((qs++[y])++List.replicate (n-(k+1)) mk).flatMap C).toArray:=by
 rw[show n-k=(n-(k+1))+1 by omega,List.replicate_succ,jN5,jL9]at h;have h2:=Blk.setCells h (C y) (by rw[hz,hz]);rw[uY hz,hq]at h2;rw[jN5,jN5,List.flatMap_singleton,jK1];exact h2
theorem Je{W:World}{g:Nat}{T:TypeId}{cs:List Value}(h:Blk W g T cs.toArray):W.rangeAt g 0 cs:=fun j v hv=>by
 rw[Nat.zero_add];exact h.at_ j (by rw[jJ7];exact hv)
structure WhS(w:World)(t:Tre)(s:Sl)(uc:List Value)(W:World):Prop where
 ho:Old w W
 bt:Blk W w.heap.size 29 (jJ t s).toArray
 br:∃z:List Value,z.length=8/\Blk W (w.heap.size+1) 29 z.toArray
 bu:Blk W (w.heap.size+1+1) 29 uc.toArray
def FrT(T:TypeId)(w W:World):Prop:=∀g T' cs,T' ≠T->Blk w g T' cs->Blk W g T' cs
section
variable{w W W1:World}{t:Tre}{s:Sl}{uc:List Value}{T:TypeId}
theorem Blk.setL9{g:Nat}{cs:List Value}(h:Blk w g T cs.toArray)(i:Nat)(u:Value):Blk (w.setCell ⟨g,i,none⟩ u) g T (cs.set i u).toArray:=by
 have:=h.set_ i u
 rwa [jJ1]at this
theorem FrT.refl(T:TypeId)(w:World):FrT T w w:=fun _ _ _ _ h=>h
theorem FrT.old{w0:World}(h:FrT T w0 W)(ho:Old W W1):FrT T w0 W1:=fun g T' cs hT hb=>(h g T' cs hT hb).old ho
theorem FrT.set{w0:World}(h:FrT T w0 W){g:Nat}{cs:Array Value}(hg:Blk W g T cs)(o:Nat)(vs:List Value):FrT T w0 (W.setCells g o vs):=fun g' T' cs' hT hb=>(h g' T' cs' hT hb).kp (Kp.setCells _ _ _ _) (fun e=>(h g' T' cs' hT hb).ne_ hg hT e)
theorem FrT.set1{w0:World}(h:FrT T w0 W){g:Nat}{cs:Array Value}(hg:Blk W g T cs)(o:Nat)(v:Value):FrT T w0 (W.setCell ⟨g,o,none⟩ v):=fun g' T' cs' hT hb=>(h g' T' cs' hT hb).far (fun e=>(h g' T' cs' hT hb).ne_ hg hT e) v
theorem WhS.old(h:WhS w t s uc W)(ho:Old W W1):WhS w t s uc W1:=⟨kU h.ho ho,h.bt.old ho,h.br.imp fun _ hz=>⟨hz.1,hz.2.old ho⟩,h.bu.old ho⟩
theorem WhS.frt(h:WhS w t s uc W)(ho:Old w W1)(hf:FrT T W W1)(hT:T≠29):WhS w t s uc W1:=⟨ho,hf _ _ _ (Ne.symm hT) h.bt,h.br.imp fun _ hz=>⟨hz.1,hf _ _ _ (Ne.symm hT) hz.2⟩,hf _ _ _ (Ne.symm hT) h.bu⟩
theorem WhS.set(h:WhS w t s uc W)(i:Nat)(u:Value):WhS w t s (uc.set i u) (W.setCell ⟨w.heap.size+1+1,i,none⟩ u)/\FrT 29 W (W.setCell ⟨w.heap.size+1+1,i,none⟩ u):=
 ⟨⟨h.ho.setCell (p:=⟨w.heap.size+1+1,i,none⟩) (fun hb=>absurd hb (by show¬w.heap.size+1+1<w.heap.size;omega)) u,h.bt.far (show w.heap.size≠w.heap.size+1+1 by omega) u,h.br.imp fun _ hz=>⟨hz.1,hz.2.far (show w.heap.size+1≠w.heap.size+1+1 by omega) u⟩,Blk.setL9 h.bu i u⟩,(FrT.refl _ W).set1 h.bu i u⟩
theorem MarkS.frt{x:MSt}(h:MarkS W x)(hf:FrT 111 W W1):MarkS W1 x:=by
 obtain⟨g,k,a,b,c,d,e,f⟩:=h;exact⟨g,k,a,b,hf _ _ _ (by decide) c,d,e,hf _ _ _ (by decide) f⟩
theorem MarkN.frt{x:MNd}(h:MarkN W x)(hf:FrT 46 W W1):MarkN W1 x:=by
 obtain⟨g,k,a,b,c,d,e,f⟩:=h;exact⟨g,k,a,b,hf _ _ _ (by decide) c,d,e,hf _ _ _ (by decide) f⟩
end
theorem Zt(t:Tre)(s:Sl):∀u∈jJ t s,u.oneCell' =true:=by
 unfold jJ;simp[Value.oneCell',iv]
structure WcStep(w wr:World)(g:Nat)(qs:List MSt)(n:Nat)(W:World):Prop where
 qM:∀x∈qs,MarkS W x
 row:Blk W g 111 ((qs++List.replicate n jKA).flatMap stC).toArray
 fr:FrT 111 wr W
 ho:Old w W
section
variable{w wr W W1:World}{g:Nat}{qs:List MSt}{n:Nat}
theorem WcStep.old(h:WcStep w wr g qs n W)(ho:Old W W1):WcStep w wr g qs n W1:=⟨fun x hx=>(h.qM x hx).old ho,h.row.old ho,h.fr.old ho,kU h.ho ho⟩
theorem WcStep.set1(h:WcStep w wr g qs n W){b:Nat}{cs:List Value}(hb:Blk W b 111 cs.toArray)(hg:g<b)(hw:w.heap.size<=b)(i:Nat)(u:Value):WcStep w wr g qs n (W.setCell ⟨b,i,none⟩ u)/\Blk (W.setCell ⟨b,i,none⟩ u) b 111 (cs.set i u).toArray/\FrT 111 W (W.setCell ⟨b,i,none⟩ u):=by
 have hf:=(FrT.refl 111 W).set1 hb i u;exact⟨⟨fun x hx=>(h.qM x hx).frt hf,h.row.far (show g≠b by omega) u,h.fr.set1 hb i u,h.ho.setCell (p:=⟨b,i,none⟩) (fun hx=>absurd hx (by show¬b<w.heap.size;omega)) u⟩,Blk.setL9 hb i u,hf⟩
theorem WcStep.next{k:Nat}(h:WcStep w wr g qs (n-k) W)(hk:k<n)(hq:qs.length=k)(hw:w.heap.size<=g){y:MSt}(hy:MarkS W y):WcStep w wr g (qs++[y]) (n-(k+1)) (W.setCells g (k*8) (stC y)):=by
 have hf:=(FrT.refl 111 W).set h.row (k*8) (stC y);refine⟨fun x hx=> ?_,Blk.next8 (C:=stC) (z:=8) (fun _=>rfl) hk hq h.row y,h.fr.set h.row _ _,h.ho.trans (Kp.setCells _ _ _ _) (fun b hb e=>by have:b=g:=e;omega)⟩;rcases jM6 hx with hx|hx
 ·exact(h.qM x hx).frt hf
 ·rw[jM7 hx];exact hy.frt hf
end
structure WcNode(w wr:World)(g:Nat)(qs:List MNd)(n:Nat)(W:World):Prop where
 qM:∀x∈qs,MarkN W x
 row:Blk W g 46 ((qs++List.replicate n jKB).flatMap ndC).toArray
 fr:FrT 46 wr W
 ho:Old w W
section
variable{w wr W W1:World}{g:Nat}{qs:List MNd}{n:Nat}
theorem WcNode.old(h:WcNode w wr g qs n W)(ho:Old W W1):WcNode w wr g qs n W1:=⟨fun x hx=>(h.qM x hx).old ho,h.row.old ho,h.fr.old ho,kU h.ho ho⟩
theorem WcNode.set1(h:WcNode w wr g qs n W){b:Nat}{cs:List Value}(hb:Blk W b 46 cs.toArray)(hg:g<b)(hw:w.heap.size<=b)(i:Nat)(u:Value):WcNode w wr g qs n (W.setCell ⟨b,i,none⟩ u)/\Blk (W.setCell ⟨b,i,none⟩ u) b 46 (cs.set i u).toArray/\FrT 46 W (W.setCell ⟨b,i,none⟩ u):=by
 have hf:=(FrT.refl 46 W).set1 hb i u;exact⟨⟨fun x hx=>(h.qM x hx).frt hf,h.row.far (show g≠b by omega) u,h.fr.set1 hb i u,h.ho.setCell (p:=⟨b,i,none⟩) (fun hx=>absurd hx (by show¬b<w.heap.size;omega)) u⟩,Blk.setL9 hb i u,hf⟩
theorem WcNode.next{k:Nat}(h:WcNode w wr g qs (n-k) W)(hk:k<n)(hq:qs.length=k)(hw:w.heap.size<=g){y:MNd}(hy:MarkN W y):WcNode w wr g (qs++[y]) (n-(k+1)) (W.setCells g (k*7) (ndC y)):=by
 have hf:=(FrT.refl 46 W).set h.row (k*7) (ndC y);refine⟨fun x hx=> ?_,Blk.next8 (C:=ndC) (z:=7) (fun _=>rfl) hk hq h.row y,h.fr.set h.row _ _,h.ho.trans (Kp.setCells _ _ _ _) (fun b hb e=>by have:b=g:=e;omega)⟩;rcases jM6 hx with hx|hx
 ·exact(h.qM x hx).frt hf
 ·rw[jM7 hx];exact hy.frt hf
end
theorem yY{α:Type}{C:α->List Value}{z:Nat}(hz:∀x,(C x).length=z){x x' :α}{i:Nat}{v:Value}(hi:i<z)(hc:C x' =(C x).set i v):∀(l:List α) (k:Nat),l[k]? =some x->(l.flatMap C).set (k*z+i) v=(l.set k x').flatMap C
 |[],k,h=>by simp at h
 |y::l,0,h=>by
  have e:y=x:=(by simpa using h);subst e;rw[jJ2,jL9,jL9,hc,Nat.zero_mul,Nat.zero_add,List.set_append_left _ _ (by rw[hz];exact hi)]
 |y::l,k+1,h=>by
  rw[jJ3,jL9,jL9,List.set_append_right _ _ (by rw[hz,Nat.succ_mul];omega),hz,Nat.succ_mul,show k*z+z+i-z=k*z+i by omega,yY hz hi hc l k (by simpa using h)]
section
variable{w:World}{t:Tre}{m:Mk9}{ns:List MNd}{ps:List MSt}
end
theorem xd{m m' :Mc}{c:UInt8}{l:LB}(h5:∀n∈m.stack,n<85)(h:vh m (c::l)=.ok m'):m'.stack.length<=m.stack.length+12:=by
 rw[vh]at h;split at h
 ·injection h with h;rw[<-h];exact Nat.le_add_right _ _
 ·split at h
  ·unfold vT at h;simp only at h;injection h with h;split at h<;>(rw[<-h];exact Nat.le_add_right _ _)
  ·split at h
   ·unfold vJ at h;split at h
    ·cases h
    ·rename_i hm;split at h
     ·cases h
     ·exact JI (by decide) h5 (by simpa using hm) h
     ·injection h with h;rw[<-h];exact Nat.le_add_right _ _
   ·split at h
    ·unfold vS at h;simp only at h;split at h
     ·rename_i hc;exact JI (JS _) h5 hc.2.2 h
     ·unfold yR at h;split at h
      ·cases h
      ·injection h with h;rw[<-h];exact Nat.le_add_right _ _
    ·unfold vK at h;simp only at h;split at h
     ·rename_i hc;split at h
      ·rename_i hh;exact JI (ku _) h5 hh.2.1 h
      ·exact JI (ku _) h5 hc.2 h
     ·split at h
      ·cases h
      ·rename_i hn;split at h
       ·injection h with h;rw[<-h];exact Nat.le_add_right _ _
       ·split at h
        ·cases h
        ·refine JI (ku _) h5 ?_ h;rw[not_or]at hn;simpa using hn.2
theorem jHv(s:BA)(a:Nat)(h:a<s.size):¬(sb s).length<=a:=by rw[jB];omega
structure RunSt(w:World)(g:Nat)(r:Option Nat)(src:BA)(X:Out)(f:Nat)(m:Mc)(wr:World)(A:OA)(c:Nat)(r' :Option Nat):Prop where
 go:X=Vs (sb src) f m
 fuel:src.size+1<=f+m.at_
 le:m.at_ <=src.size
 len:m.stack.length<=5+12*m.at_
 mac:Mac wr g r' src m A c
 kp:Kp (MX g r) w wr
 fr:MFr w r r'
theorem RunSt.next{w wr w' :World}{g:Nat}{r r' :Option Nat}{src:BA}{X:Out}{f:Nat}{m m' :Mc}{A:OA}{c:Nat}(h:RunSt w g r src X f m wr A c r')(hlt:m.at_ <src.size)
  (hs:vh m ((sb src).drop m.at_)=.ok m') (Hm:MStep wr g r' w' src m'):
  (∃f m' A c r',RunSt w g r src X f m' w' A c r')/\src.size-atOf g w' <src.size-atOf g wr:=by
 obtain⟨r2,A2,c2,hM,hk,hf⟩:=Hm;have Fj:=h.go;have Co:=h.fuel;obtain⟨f',rfl⟩:∃f',f=f' +1:=⟨f-1,by omega⟩;rw[Vs,jJ5 (jHv src m.at_ hlt),hs]at Fj;have Cd:=hs;rw[yI src m.at_ hlt]at hs;have h1:=YE hs;have h2:=xd h.mac.sym hs;have h3:=h.len;rw[<-yI src m.at_ hlt,jK8,jB]at h1;refine⟨⟨f',m',A2,c2,r2,Fj,by omega,by omega,by omega,hM,h.kp.trans hk (MX.trans h.fr),h.fr.trans h.kp.size hf⟩,?_⟩;rw[hM.atOf,h.mac.atOf];omega
theorem RunSt.wrong{w wr w' :World}{g:Nat}{r r' :Option Nat}{src:BA}{X:Out}{f k:Nat}{m:Mc}{A:OA}{c:Nat}(h:RunSt w g r src X f m wr A c r')(hlt:m.at_ <src.size)
  (hs:vh m ((sb src).drop m.at_)=.error k) (hk:Kp (MX g r') wr w'):X=.error k/\Kp (MX g r) w w' :=by
 have Fj:=h.go;have Co:=h.fuel;obtain⟨f',rfl⟩:∃f',f=f' +1:=⟨f-1,by omega⟩;rw[Vs,jJ5 (jHv src m.at_ hlt),hs]at Fj;exact⟨Fj,h.kp.trans hk (MX.trans h.fr)⟩
theorem jFt(w:World)(hg:Sg w)(g:Nat)(r:Option Nat)(src:BA)(A:OA)(c:Nat)(h:Mac w g r src startM A c)(hs:src.size<=60000):
  Calls prog 134 #[.pointer (some ⟨g,0,none⟩)] w (MOut w g r src (ka (sb src))):=by
 have H0:=G (show RunSt w g r src (ka (sb src)) (src.size+1) startM w A c r from⟨by rw[ka,jB],jL3 _,Nat.zero_le _,by decide,h,jQ0 _ _,.inl rfl⟩);have HG:=G (fun W (hk:Kp (MX g r) w W)=>hg.mx h hk);clear hg h;generalize ka (sb src)=X at*;go_enter func134,ntmps134;go_wp2;go_loopw [] (fun wr=>∃f m A c r',RunSt w g r src X f m wr A c r') (fun wr=>src.size-atOf g wr)
 case atStart=>exact⟨_,_,_,_,_,H0.out⟩
 case round=>
  clear H0;obtain⟨f,m,A,c,r',Fd⟩:=hrel;have GY:=Fd.mac.c0;have FE:=Fd.mac.c1;have Ft:=Fd.mac.z 1;have hlen:m.stack.length<=1000000:=by have:=Fd.len;have:=Fd.le;omega
  by_cases hlt:m.at_ <src.size
  ·have FZ:=G Fd;have Se:=G (HG.out wr Fd.kp);have a1:(m.at_:Int)<(src.size:Int):=(by omega);have a2:(0:Int)<=(m.at_:Int):=(by omega);have a3:(m.at_:Int).toNat=m.at_:=(by omega);have a4:IntKind.i64.wrap ((m.at_:Int)+1)=(m.at_:Int)+1:=jQ3 _ (by omega);have F0:vh m ((sb src).drop m.at_)=if kL src[m.at_]=true then .ok {m with at_:=m.at_ +1}else if src[m.at_].toNat=35 then vT m ((sb src).drop m.at_)else if src[m.at_].toNat=34 then vJ m ((sb src).drop m.at_)
     else if jS src[m.at_]=true then vS m ((sb src).drop m.at_)else vK m src[m.at_] ((sb src).drop (m.at_ +1)):=by
    rw[yI src m.at_ hlt,vh]
   by_cases hb:kL src[m.at_]=true
   ·rw[jJ6 hb]at F0;have Gs:=jM8 hb;have Hn:=G (fun W (hO:Old wr W)=>by
     obtain⟨m1,k1⟩:=(Fd.mac.old hO).setAt (m.at_ +1);rw[show((m.at_ +1:Nat):Int)=(m.at_:Int)+1 by omega]at m1 k1;exact Fd.next (w' :=W.setCell ⟨g,1,none⟩ (.int .i64 ((m.at_:Int)+1))) hlt F0 ⟨r',A,c,m1,(hO.mx).trans k1 (fun _ _ h=>h),.inl rfl⟩)
    clear F0 Fd hb;rcases Gs with Gs|Gs|Gs|Gs
    all_goals
     have d1:((src[m.at_].toNat:Int)==32)=decide (src[m.at_].toNat=32):=by rw[Gs];rfl
     have d2:((src[m.at_].toNat:Int)==9)=decide (src[m.at_].toNat=9):=by rw[Gs];rfl
     have d3:((src[m.at_].toNat:Int)==10)=decide (src[m.at_].toNat=10):=by rw[Gs];rfl
     have d4:((src[m.at_].toNat:Int)==13)=decide (src[m.at_].toNat=13):=by rw[Gs];rfl
     simp only[Gs]at d1 d2 d3 d4;go_wp2;go_quiet (fail);go_wp2;go_quiet (fail);go_wp2;exact Hn.out _ (by first|exact jQ0 _ _ |exact(jQ0 _ _).drewN _ |exact((jQ0 _ _).drewN _).drewN _)
   ·rw[jJ5 hb]at F0;have d1:((src[m.at_].toNat:Int)==32)=false:=jM3 (fun e=>hb (jK5 (by omega)));have d2:((src[m.at_].toNat:Int)==9)=false:=jM3 (fun e=>hb (jK5 (by omega)));have d3:((src[m.at_].toNat:Int)==10)=false:=jM3 (fun e=>hb (jK5 (by omega)));have d4:((src[m.at_].toNat:Int)==13)=false:=jM3 (fun e=>hb (jK5 (by omega)));clear hb;by_cases Nj:src[m.at_].toNat=35
    ·rw[jJ6 Nj]at F0;have d5:((src[m.at_].toNat:Int)==35)=true:=by rw[Nj];rfl
     have HC:=G (fun W (hO:Old wr W)=>Qo W g r' src m A c (Fd.mac.old hO) (by omega) (by omega));have HN:=G (fun W (hO:Old wr W) w' m' (hm:vT m ((sb src).drop m.at_)=.ok m') (hX:MStep W g r' w' src m')=>Fd.next (w' :=w') hlt (F0.trans hm) (MStep.trans hO.mx (.inl rfl) hX));clear F0 Fd Nj;go_wp2;go_quiet (fail);go_wp2;go_quiet (fail);go_wp2_with (go_at_call 160;refine(HC.out _ (by first|exact jQ0 _ _ |exact(jQ0 _ _).drewN _ |exact((jQ0 _ _).drewN _).drewN _)).mono ?_;rintro e w1 ⟨rfl,m',hm,hX⟩);exact HN.out _ (by first|exact jQ0 _ _ |exact(jQ0 _ _).drewN _ |exact((jQ0 _ _).drewN _).drewN _) _ _ hm hX
    ·rw[jJ5 Nj]at F0;have d5:((src[m.at_].toNat:Int)==35)=false:=jM3 (by omega);clear Nj;by_cases Gw:src[m.at_].toNat=34
     ·rw[jJ6 Gw]at F0;have d6:((src[m.at_].toNat:Int)==34)=true:=by rw[Gw];rfl
      clear Gw;have HC:=G (fun W (hO:Old wr W)=>jDR W g r' src m A c (Fd.mac.old hO) (by omega) hlt hlen);generalize hSP:vJ m ((sb src).drop m.at_)=SP at*;cases SP with
      |ok m' =>
       have HN:=G (fun W (hO:Old wr W) w' (hX:MStep W g r' w' src m')=>Fd.next (w' :=w') hlt F0 (MStep.trans hO.mx (.inl rfl) hX));clear F0 Fd hSP;go_wp2;go_quiet (fail);go_wp2;go_quiet (fail);go_wp2_with (go_at_call 161;refine(HC.out _ (by first|exact jQ0 _ _ |exact(jQ0 _ _).drewN _ |exact((jQ0 _ _).drewN _).drewN _)).mono ?_;rintro e w1 ⟨rfl,hX⟩);exact HN.out _ (by first|exact jQ0 _ _ |exact(jQ0 _ _).drewN _ |exact((jQ0 _ _).drewN _).drewN _) _ hX
      |error k=>
       have HN:=G (fun W (hO:Old wr W) w' (hX:Kp (MX g r') W w')=>Fd.wrong (w' :=w') hlt F0 ((hO.mx).trans hX (fun _ _ h=>h)));clear F0 Fd hSP;go_wp2;go_quiet (fail);go_wp2;go_quiet (fail);go_wp2_with (go_at_call 161;refine(HC.out _ (by first|exact jQ0 _ _ |exact(jQ0 _ _).drewN _ |exact((jQ0 _ _).drewN _).drewN _)).mono ?_;rintro e w1 ⟨rfl,hX⟩);refine⟨rfl,?_⟩;obtain⟨h1,h2⟩:=HN.out _ (by first|exact jQ0 _ _ |exact(jQ0 _ _).drewN _ |exact((jQ0 _ _).drewN _).drewN _) _ hX;rw[h1];exact⟨rfl,h2⟩
     ·rw[jJ5 Gw]at F0;have d6:((src[m.at_].toNat:Int)==34)=false:=jM3 (by omega);clear Gw;have Hw:=G (fun W=>vr W src[m.at_]);unfold bv at Hw;by_cases hw:jS src[m.at_]=true
      ·rw[jJ6 hw]at F0;rw[hw]at Hw;have HC:=G (fun W (hO:Old wr W)=>jAU W (Se.out.old hO) g r' src m A c (Fd.mac.old hO) (by omega) hlt hw hlen);clear hw;generalize hSP:vS m ((sb src).drop m.at_)=SP at*;cases SP with
       |ok m' =>
        have HN:=G (fun W (hO:Old wr W) w' (hX:MStep W g r' w' src m')=>Fd.next (w' :=w') hlt F0 (MStep.trans hO.mx (.inl rfl) hX));clear F0 Fd hSP;go_wp2;go_quiet (fail);go_wp2;go_quiet (fail);go_wp2_with (first|(go_at_call 129;refine(Hw.out _).mono ?_;rintro e w1 ⟨rfl,rfl⟩)|(go_at_call 162;refine(HC.out _ (by first|exact jQ0 _ _ |exact(jQ0 _ _).drewN _ |exact((jQ0 _ _).drewN _).drewN _)).mono ?_;rintro e w1 ⟨rfl,hX⟩));exact HN.out _ (by first|exact jQ0 _ _ |exact(jQ0 _ _).drewN _ |exact((jQ0 _ _).drewN _).drewN _) _ hX
       |error k=>
        have HN:=G (fun W (hO:Old wr W) w' (hX:Kp (MX g r') W w')=>Fd.wrong (w' :=w') hlt F0 ((hO.mx).trans hX (fun _ _ h=>h)));clear F0 Fd hSP;go_wp2;go_quiet (fail);go_wp2;go_quiet (fail);go_wp2_with (first|(go_at_call 129;refine(Hw.out _).mono ?_;rintro e w1 ⟨rfl,rfl⟩)|(go_at_call 162;refine(HC.out _ (by first|exact jQ0 _ _ |exact(jQ0 _ _).drewN _ |exact((jQ0 _ _).drewN _).drewN _)).mono ?_;rintro e w1 ⟨rfl,hX⟩));refine⟨rfl,?_⟩;obtain⟨h1,h2⟩:=HN.out _ (by first|exact jQ0 _ _ |exact(jQ0 _ _).drewN _ |exact((jQ0 _ _).drewN _).drewN _) _ hX;rw[h1];exact⟨rfl,h2⟩
      ·rw[jJ5 hw]at F0;rw[Bool.not_eq_true]at hw;rw[hw]at Hw;have HC:=G (fun W (hO:Old wr W)=>jDf W (Se.out.old hO) g r' src m A c (Fd.mac.old hO) (by omega) hlt hlen);clear hw;generalize hSP:vK m src[m.at_] ((sb src).drop (m.at_ +1))=SP at*;cases SP with
       |ok m' =>
        have HN:=G (fun W (hO:Old wr W) w' (hX:MStep W g r' w' src m')=>Fd.next (w' :=w') hlt F0 (MStep.trans hO.mx (.inl rfl) hX));clear F0 Fd hSP;go_wp2;go_quiet (fail);go_wp2;go_quiet (fail);go_wp2_with (first|(go_at_call 129;refine(Hw.out _).mono ?_;rintro e w1 ⟨rfl,rfl⟩)|(go_at_call 163;refine(HC.out _ (by first|exact jQ0 _ _ |exact(jQ0 _ _).drewN _ |exact((jQ0 _ _).drewN _).drewN _)).mono ?_;rintro e w1 ⟨rfl,hX⟩));exact HN.out _ (by first|exact jQ0 _ _ |exact(jQ0 _ _).drewN _ |exact((jQ0 _ _).drewN _).drewN _) _ hX
       |error k=>
        have HN:=G (fun W (hO:Old wr W) w' (hX:Kp (MX g r') W w')=>Fd.wrong (w' :=w') hlt F0 ((hO.mx).trans hX (fun _ _ h=>h)));clear F0 Fd hSP;go_wp2;go_quiet (fail);go_wp2;go_quiet (fail);go_wp2_with (first|(go_at_call 129;refine(Hw.out _).mono ?_;rintro e w1 ⟨rfl,rfl⟩)|(go_at_call 163;refine(HC.out _ (by first|exact jQ0 _ _ |exact(jQ0 _ _).drewN _ |exact((jQ0 _ _).drewN _).drewN _)).mono ?_;rintro e w1 ⟨rfl,hX⟩));refine⟨rfl,?_⟩;obtain⟨h1,h2⟩:=HN.out _ (by first|exact jQ0 _ _ |exact(jQ0 _ _).drewN _ |exact((jQ0 _ _).drewN _).drewN _) _ hX;rw[h1];exact⟨rfl,h2⟩
  ·have W5:src.size<=m.at_:=(by omega);have Fj:=Fd.go;have Co:=Fd.fuel;have Fc:=Fd.le;obtain⟨f',rfl⟩:∃f',f=f' +1:=⟨f-1,by omega⟩;rw[Vs,jJ6 (by rw[jB];exact W5)]at Fj;have HR:=G Fj;have a1:¬(m.at_:Int)<(src.size:Int):=(by omega);have Hs:=G (fun n=>(⟨r',A,c,Fd.mac.drewN n,Fd.kp.drewN n,Fd.fr⟩:MStep w g r (wr.drewN n) src m));clear Fd Fj hlt;go_wp2;go_quiet (fail);go_wp2;go_end0;rw[HR.out];exact⟨rfl,Hs.out _⟩
end Go.Proofs.YtmmjcbbogokmfaaGreatDoor

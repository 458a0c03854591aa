import Derived.Test.YtmmjcbbogokmfaaGreatDoorMb10
set_option maxRecDepth 100000
set_option maxHeartbeats 25600000
namespace Go.Proofs.YtmmjcbbogokmfaaGreatDoor
open Go.Proofs.Tryz
section
variable{src:LB}
theorem XX:∀(f:Nat) (ps:List Prm) (l:List (LB×Nat)) (i:Nat) (r:Rdr) (I:List It) (y:List Prm×Rdr),(∀p∈l,jQ p.1=true/\JC p.2)->Li src r (prI l i++kw 7::I)->yc src f ps r=some y->
  y.1.map Prm.str=ps.map Prm.str++l.map jDs/\Li src y.2 (kw 7::I)/\y.2.tree=r.tree/\y.2.order=r.order
 |0,_,_,_,_,_,_,_,_,hy=>by cases hy
 |f+1,ps,[],i,r,I,y,_,h,hy=>by
  have h:Li src r (kw 7::I):=h;rw[yc,jJ6 h.head.1]at hy;obtain rfl:=jL5 hy;exact⟨by simp,h,rfl,rfl⟩
 |f+1,ps,p::l,i,r,I,y,ho,h,hy=>by
  have hp:=ho p (List.mem_cons_self ..);have body:∀r1,Li src r1 (nmI p.1::kw 10::kw (33+p.2)::(prI l (i+1)++kw 7::I))->((ze src r1).bind fun w=>(jw src w.2.2).bind fun r1=>(qx src r1).bind fun k=>yc src f (ps++[⟨w.1,w.2.1,k.1⟩]) k.2)=some y->
    y.1.map Prm.str=ps.map Prm.str++(p::l).map jDs/\Li src y.2 (kw 7::I)/\y.2.tree=r1.tree/\y.2.order=r1.order:=by
   intro r1 h hy;obtain⟨w,n1,hy⟩:=jM2 hy;obtain⟨r2,n2,hy⟩:=jM2 hy;obtain⟨k,n3,hy⟩:=jM2 hy;obtain⟨e1,l1,t1,o1⟩:=xq h n1;obtain⟨l2,t2,o2⟩:=l1.next n2;obtain⟨e3,l3,t3,o3⟩:=jFH hp.2 l2 n3;obtain⟨q1,q2,q3,q4⟩:=XX f _ l (i+1) k.2 I y (fun x hx=>ho x (jN1 _ hx)) l3 hy;refine⟨?_,q2,q3.trans (t3.trans (t2.trans t1)),q4.trans (o3.trans (o2.trans o1))⟩;rw[q1,jN3,jK1];simp[Prm.str,jDs,e1,e3]
  rw[yc]at hy;rcases Nat.eq_zero_or_pos i with h0|h0
  ·rw[prI,jJ5 (by omega)]at h;have h:Li src r (nmI p.1::kw 10::kw (33+p.2)::(prI l (i+1)++kw 7::I)):=h;have ht:r.t=1:=h.head.1;rw[jJ5 (by omega)]at hy;split at hy
   ·unfold jn at hy;rw[jJ5 (by omega)]at hy;simp only[jL2]at hy;exact body r h hy
   ·cases hy
  ·rw[prI,jJ6 h0]at h;have h:Li src r (kw 8::nmI p.1::kw 10::kw (33+p.2)::(prI l (i+1)++kw 7::I)):=h;have ht:r.t=8:=h.head.1;rw[jJ5 (by omega)]at hy;split at hy
   ·unfold jn at hy;rw[jJ6 ht]at hy;obtain⟨s,n0,hy⟩:=jM2 hy;obtain⟨r1,n1,rfl⟩:=jM4 n0;obtain⟨l1,t1,o1⟩:=h.next n1;obtain⟨q1,q2,q3,q4⟩:=body r1 l1 hy;exact⟨q1,q2,q3.trans t1,q4.trans o1⟩
   ·cases hy
theorem Ym:∀(f:Nat) (es:List Eff) (l:List (LB×Exp9)) (r:Rdr) (I:List It) (y:List Eff×Rdr),Li src r (efI l++kw 5::I)->vf src f es r=some y->
  y.1.map Eff.str=es.map Eff.str++efT l r.tree.nodes.length/\Ga src r y.2 (efL l r.tree.nodes.length) (kw 5::I)
 |0,_,_,_,_,_,_,hy=>by cases hy
 |f+1,es,[],r,I,y,h,hy=>by
  have h:Li src r (kw 5::I):=h;rw[vf,jJ6 h.head.1]at hy;obtain rfl:=jL5 hy;exact⟨by simp[efT],Ga.refl h⟩
 |f+1,es,p::l,r,I,y,h,hy=>by
  rw[vf]at hy;by_cases hn:p.2.isNil=true
  ·rw[efI,jJ6 hn]at h;have h:Li src r (kw 33::nmI p.1::kw 9::(efI l++kw 5::I)):=h;have ht:r.t=33:=h.head.1;rw[jJ5 (by omega)]at hy;split at hy
   ·unfold jn at hy;rw[jJ6 ht]at hy;obtain⟨s,n0,hy⟩:=jM2 hy;obtain⟨r1,n1,rfl⟩:=jM4 n0;obtain⟨w,n2,hy⟩:=jM2 hy;simp only[if_true,jL2]at hy;obtain⟨r3,n3,hy⟩:=jM2 hy;have g1:=(Ga.refl h).next n1;obtain⟨e2,l2,t2,o2⟩:=xq g1.li n2;have g2:Ga src r w.2.2 [] (kw 9::(efI l++kw 5::I)):=⟨l2,by rw[t2];exact g1.nodes,by rw[t2];exact g1.husk,o2.trans g1.order⟩;have g3:=g2.next n3;obtain⟨q1,q2⟩:=Ym f _ l r3 I y g3.li hy;have hz:=g3.len;simp only[jN2,Nat.add_zero]at hz;rw[hz]at q1 q2;have Mh:=Jr hn;refine⟨?_,?_⟩
    ·rw[q1,jN3,jK1,efT,Mh];simp[Eff.str,e2,Exp9.at_,Exp9.isNil,Exp9.size]
    ·rw[efL,Mh];exact g3.trans q2
   ·cases hy
  ·rw[efI,jJ5 hn]at h;have h:Li src r (nmI p.1::kw 11:: .ex p.2::kw 9::(efI l++kw 5::I)):=h;have ht:r.t=1:=h.head.1;rw[jJ5 (by omega)]at hy;split at hy
   ·unfold jn at hy;rw[jJ5 (by omega)]at hy;simp only[jL2]at hy;obtain⟨w,n2,hy⟩:=jM2 hy;rw[jJ5 (by decide)]at hy;obtain⟨x,n0,hy⟩:=jM2 hy;obtain⟨r3,n3,n4⟩:=jM2 n0;obtain⟨r5,n5,hy⟩:=jM2 hy;obtain⟨e2,l2,t2,o2⟩:=xq h n2;have g2:Ga src r w.2.2 [] (kw 11:: .ex p.2::kw 9::(efI l++kw 5::I)):=⟨l2,by rw[t2,jN7],by rw[t2],o2⟩;have g3:=g2.next n3;have hz:=g3.len;simp only[jN2,Nat.add_zero]at hz;obtain⟨e4,g4⟩:=g3.li.ex n4;rw[hz]at e4 g4;have g5:=(g3.trans g4).next n5;obtain⟨q1,q2⟩:=Ym f _ l r5 I y g5.li hy;have MJ:=g5.len;simp only[jN8,Exp9.lay_len]at MJ;rw[MJ]at q1 q2;refine⟨?_,?_⟩
    ·rw[q1,jN3,jK1,efT];simp[Eff.str,e2,e4,Exp9.at_,hn]
    ·rw[efL];exact g5.trans q2
   ·cases hy
theorem Jt{t t' :Tre}(h:t'.husk=t.husk):t'.name=t.name/\t'.at_=t.at_ /\t'.steps=t.steps/\t'.attrs=t.attrs/\t'.stages=t.stages/\t'.miles=t.miles:=by
 cases t;cases t';simp only[Tre.husk,Tre.mk.injEq]at h⊢;obtain⟨h1,h2,_,_,h5,h6,h7,h8⟩:=h;exact⟨h1,h2,h5,h6,h7,h8⟩
variable{f:Nat}{r:Rdr}
def jC9(src:LB)(r r' :Rdr)(d:Dcl)(I:List It):Prop:=Li src r' I/\r'.order=r.order+1/\r'.tree.str=d.add r.order r.tree.str
theorem jH7{nm:LB}{opt:Bool}{kind:Nat}{d w:Exp9}{I:List It}{r' :Rdr}(ho:(Dcl.attr nm opt kind d w).ok)(h:Li src r ((Dcl.attr nm opt kind d w).items++I))(hr:Qx src f r=some r'):jC9 src r r' (.attr nm opt kind d w) I:=by
 obtain⟨FS,Nq,hd,hw⟩:=ho;have h:Li src r (kw 24::nmI nm::kw 10::(((if opt=true then [kw 39]else [])++(kw (33+kind)::(gI 12 d++(gI 32 w++[kw 9]))))++I)):=h;simp only[jK1,jN6,jN8]at h;unfold Qx at hr;obtain⟨a,n1,hr⟩:=jM2 hr;obtain⟨r2,n2,hr⟩:=jM2 hr;obtain⟨o,n3,hr⟩:=jM2 hr;obtain⟨k,n4,hr⟩:=jM2 hr;obtain⟨x,n5,hr⟩:=jM2 hr;obtain⟨y,n6,hr⟩:=jM2 hr;obtain⟨r7,n7,hr⟩:=jM2 hr;obtain⟨e1,e2,l1,t1,o1⟩:=XY h n1;obtain⟨l2,t2,o2⟩:=l1.next n2;obtain⟨e3,l3,t3,o3⟩:=jJU Nq l2 n3;obtain⟨e4,l4,t4,o4⟩:=jFH Nq l3 n4;have WL:k.2.tree=r.tree:=t4.trans (t3.trans (t2.trans t1));have K9:k.2.order=r.order+1:=o4.trans (o3.trans (o2.trans o1));have g5:x.1=d.at_ k.2.tree.nodes.length/\Ga src k.2 x.2 (d.lay k.2.tree.nodes.length) (gI 32 w++kw 9::I):=by
  by_cases hwn:w.isNil=true
  ·have hg:gI 32 w=[]:=jJ6 hwn;rw[hg]at l4⊢;exact r_g (.inl rfl) (by decide) l4 n5
  ·have hg:gI 32 w=[kw 32,.ex w]:=jJ5 hwn;rw[hg]at l4⊢;exact r_g (q:=(32,jO 32)) (.inl rfl) (by decide) l4 n5
 obtain⟨e5,g5⟩:=g5;obtain⟨e6,g6⟩:=r_g (.inr rfl) (by decide) g5.li n6;have g7:=(g5.trans g6).next n7;have MJ:=g5.len;rw[Exp9.lay_len]at MJ;rw[MJ]at e6 g7;rw[WL]at e5 e6 g7 MJ;split at hr
 ·obtain rfl:=jL5 hr;obtain⟨p1,p2,p3,p4,p5,p6⟩:=Jt g7.husk;refine⟨?_,by show r7.order=_;rw[g7.order,K9],?_⟩
  ·obtain⟨K,hl,hp⟩:=g7.li;exact⟨K,yt hl rfl rfl rfl,hp⟩
  ·have FU:=g7.nodes;rw[WL]at FU p1 p2 p3 p4 p5 p6;simp only[Tre.str,Dcl.add,Dcl.nodes,p1,p3,p4,p5,p6,jN3,List.map_cons,List.map_nil,Atr.str,e1,e2,e3,e4,e5,e6,FU]
 ·cases hr
theorem jGD{nm inn:LB}{op c:Exp9}{I:List It}{r' :Rdr}(h:Li src r ((Dcl.stage nm inn op c).items++I))(hr:Ye src f r=some r'):jC9 src r r' (.stage nm inn op c) I:=by
 have h:Li src r (kw 25::nmI nm::((inI inn++(kw 4::(rI 29 op++(rI 30 c++[kw 5]))))++I)):=h;simp only[jK1,jN6,jN8]at h;unfold Ye at hr;obtain⟨a,n1,hr⟩:=jM2 hr;obtain⟨i,n2,hr⟩:=jM2 hr;obtain⟨r3,n3,hr⟩:=jM2 hr;obtain⟨x,n5,hr⟩:=jM2 hr;obtain⟨y,n6,hr⟩:=jM2 hr;obtain⟨r7,n7,hr⟩:=jM2 hr;obtain⟨e1,e2,l1,t1,o1⟩:=XY h n1;obtain⟨e3,l2,t2,o2⟩:=jJC (q:=(4,jO 4)) (by decide) l1 n2;obtain⟨l3,t3,o3⟩:=l2.next n3;have WL:r3.tree=r.tree:=t3.trans (t2.trans t1);have K9:r3.order=r.order+1:=o3.trans (o2.trans o1);have g5:x.1=op.at_ r3.tree.nodes.length/\Ga src r3 x.2 (op.lay r3.tree.nodes.length) (rI 30 c++kw 5::I):=by
  by_cases hwn:c.isNil=true
  ·have hg:rI 30 c=[]:=jJ6 hwn;rw[hg]at l3⊢;exact r_r (.inl rfl) (by decide) l3 n5
  ·have hg:rI 30 c=[kw 30,kw 32,.ex c,kw 9]:=jJ5 hwn;rw[hg]at l3⊢;exact r_r (q:=(30,jO 30)) (.inl rfl) (by decide) l3 n5
 obtain⟨e5,g5⟩:=g5;obtain⟨e6,g6⟩:=r_r (.inr rfl) (by decide) g5.li n6;have g7:=(g5.trans g6).next n7;have MJ:=g5.len;rw[Exp9.lay_len]at MJ;rw[MJ]at e6 g7;rw[WL]at e5 e6 g7 MJ;split at hr
 ·obtain rfl:=jL5 hr;obtain⟨p1,p2,p3,p4,p5,p6⟩:=Jt g7.husk;refine⟨?_,by show r7.order=_;rw[g7.order,K9],?_⟩
  ·obtain⟨K,hl,hp⟩:=g7.li;exact⟨K,yt hl rfl rfl rfl,hp⟩
  ·have FU:=g7.nodes;rw[WL]at FU p1 p2 p3 p4 p5 p6;simp only[Tre.str,Dcl.add,Dcl.nodes,p1,p3,p4,p5,p6,jN3,List.map_cons,List.map_nil,Stg.str,e1,e2,e3,e5,e6,FU]
 ·cases hr
theorem jH6{nm inn:LB}{w:Exp9}{I:List It}{r' :Rdr}(h:Li src r ((Dcl.mile nm inn w).items++I))(hr:QW src f r=some r'):jC9 src r r' (.mile nm inn w) I:=by
 have h:Li src r (kw 26::nmI nm::((inI inn++[kw 31,kw 32,.ex w,kw 9])++I)):=h;simp only[jK1,jN6,jN8]at h;unfold QW at hr;obtain⟨a,n1,hr⟩:=jM2 hr;obtain⟨i,n2,hr⟩:=jM2 hr;obtain⟨x,n3,hr⟩:=jM2 hr;obtain⟨e1,e2,l1,t1,o1⟩:=XY h n1;obtain⟨e3,l2,t2,o2⟩:=jJC (q:=(31,jO 31)) (by decide) l1 n2;obtain⟨e5,g7⟩:=jH5 l2 n3;have WL:i.2.2.tree=r.tree:=t2.trans t1;have K9:i.2.2.order=r.order+1:=o2.trans o1;rw[WL]at e5;split at hr
 ·obtain rfl:=jL5 hr;obtain⟨p1,p2,p3,p4,p5,p6⟩:=Jt g7.husk;refine⟨?_,by show x.2.order=_;rw[g7.order,K9],?_⟩
  ·obtain⟨K,hl,hp⟩:=g7.li;exact⟨K,yt hl rfl rfl rfl,hp⟩
  ·have FU:=g7.nodes;rw[WL]at FU p1 p2 p3 p4 p5 p6;simp only[Tre.str,Dcl.add,Dcl.nodes,p1,p3,p4,p5,p6,jN3,List.map_cons,List.map_nil,Mil.str,e1,e2,e3,e5,FU]
 ·cases hr
theorem jH4{nm:LB}{ps:List (LB×Nat)}{inn:LB}{w:Exp9}{es:List (LB×Exp9)}{I:List It}{r' :Rdr}(ho:(Dcl.step nm ps inn w es).ok)(h:Li src r ((Dcl.step nm ps inn w es).items++I))(hr:QB src f r=some r'):jC9 src r r' (.step nm ps inn w es) I:=by
 obtain⟨FS,Wj,FB,hw,WE⟩:=ho;have h:Li src r (kw 27::nmI nm::kw 6::((prI ps 0++(kw 7::(inI inn++(gI 32 w++(kw 4::(efI es++[kw 5]))))))++I)):=h;simp only[jK1,jN6,jN8]at h;unfold QB at hr;obtain⟨a,n1,hr⟩:=jM2 hr;obtain⟨r2,n2,hr⟩:=jM2 hr;obtain⟨p,n3,hr⟩:=jM2 hr;obtain⟨r4,n4,hr⟩:=jM2 hr;obtain⟨i,n5,hr⟩:=jM2 hr;obtain⟨g,n6,hr⟩:=jM2 hr;obtain⟨r7,n7,hr⟩:=jM2 hr;obtain⟨e,n8,hr⟩:=jM2 hr;obtain⟨r9,n9,hr⟩:=jM2 hr;obtain⟨e1,e2,l1,t1,o1⟩:=XY h n1;obtain⟨l2,t2,o2⟩:=l1.next n2;obtain⟨e3,l3,t3,o3⟩:=XX f [] ps 0 r2 _ p Wj l2 n3;obtain⟨l4,t4,o4⟩:=l3.next n4;have g5:i.1=⟨inn.toArray⟩/\Li src i.2.2 (gI 32 w++kw 4::(efI es++kw 5::I))/\i.2.2.tree=r4.tree/\i.2.2.order=r4.order:=by
  by_cases hwn:w.isNil=true
  ·have hg:gI 32 w=[]:=jJ6 hwn;rw[hg]at l4⊢;exact jJC (q:=(4,jO 4)) (by decide) l4 n5
  ·have hg:gI 32 w=[kw 32,.ex w]:=jJ5 hwn;rw[hg]at l4⊢;exact jJC (q:=(32,jO 32)) (by decide) l4 n5
 obtain⟨e5,l5,t5,o5⟩:=g5;have WL:i.2.2.tree=r.tree:=t5.trans (t4.trans (t3.trans (t2.trans t1)));have K9:i.2.2.order=r.order+1:=o5.trans (o4.trans (o3.trans (o2.trans o1)));obtain⟨e6,g6⟩:=r_g (.inr rfl) (by decide) l5 n6;have g7:=g6.next n7;have V2:=g7.len;rw[Exp9.lay_len]at V2;obtain⟨e8,g8⟩:=Ym f [] es r7 I e g7.li n8;rw[V2]at e8 g8;have g9:=(g7.trans g8).next n9;rw[WL]at e6 e8 g9 V2;split at hr
 ·obtain rfl:=jL5 hr;obtain⟨p1,p2,p3,p4,p5,p6⟩:=Jt g9.husk;refine⟨?_,by show r9.order=_;rw[g9.order,K9],?_⟩
  ·obtain⟨K,hl,hp⟩:=g9.li;exact⟨K,yt hl rfl rfl rfl,hp⟩
  ·have FU:=g9.nodes;rw[WL]at FU p1 p2 p3 p4 p5 p6;simp only[Tre.str,Dcl.add,Dcl.nodes,p1,p3,p4,p5,p6,jN3,List.map_cons,List.map_nil,Stp.str,e1,e2,e3,e5,e6,e8,FU,jN8]
 ·cases hr
theorem jBV:∀(f:Nat) (D:List Dcl) (r r' :Rdr) (I:List It),(∀d∈D,d.ok)->Li src r (D.flatMap Dcl.items++kw 5::I)->yy src f r=some r' ->r'.tree.str=vR D r.order r.tree.str
 |0,_,_,_,_,_,_,hr=>by cases hr
 |f+1,[],r,r',I,_,h,hr=>by
  have h:Li src r (kw 5::I):=h;have ht:r.t=5:=h.head.1;rw[yy,jJ5 (by omega),jJ5 (by omega),jJ5 (by omega),jJ5 (by omega)]at hr;obtain rfl:=jL5 hr;rfl
 |f+1,d::D,r,r',I,ho,h,hr=>by
  rw[jL9,jK1]at h;have hd:=ho d (List.mem_cons_self ..);have step:∀r1,jC9 src r r1 d (D.flatMap Dcl.items++kw 5::I)->yy src f r1=some r' ->r'.tree.str=vR (d::D) r.order r.tree.str:=by
   rintro r1 ⟨h1,h2,h3⟩ hr;rw[jBV f D r1 r' I (fun x hx=>ho x (jN1 _ hx)) h1 hr,h2,h3];rfl
  rw[yy]at hr;cases d with
  |attr nm opt kind d w=>
   have ht:r.t=24:=(show Li src r (kw 24::_)from h).head.1;rw[jJ6 ht]at hr;obtain⟨r1,n1,hr⟩:=jM2 hr;exact step r1 (jH7 hd h n1) hr
  |stage nm inn o c=>
   have ht:r.t=25:=(show Li src r (kw 25::_)from h).head.1;rw[jJ5 (by omega),jJ6 ht]at hr;obtain⟨r1,n1,hr⟩:=jM2 hr;exact step r1 (jGD h n1) hr
  |mile nm inn w=>
   have ht:r.t=26:=(show Li src r (kw 26::_)from h).head.1;rw[jJ5 (by omega),jJ5 (by omega),jJ6 ht]at hr;obtain⟨r1,n1,hr⟩:=jM2 hr;exact step r1 (jH6 h n1) hr
  |step nm ps inn w es=>
   have ht:r.t=27:=(show Li src r (kw 27::_)from h).head.1;rw[jJ5 (by omega),jJ5 (by omega),jJ5 (by omega),jJ6 ht]at hr;obtain⟨r1,n1,hr⟩:=jM2 hr;exact step r1 (jH4 hd h n1) hr
theorem VP{f:Nat}{r:Rdr}{ts:List Tk}{nm:LB}{D:List Dcl}(ht:Toks src 0 ts)(hp:Pit (tks src ts) (JF nm D) [])(ho:∀d∈D,d.ok)(hr:yh src f=some r):r.tree.str=jAX nm D:=by
 unfold yh at hr;obtain⟨r1,n1,hr⟩:=jM2 hr;obtain⟨r2,n2,hr⟩:=jM2 hr;obtain⟨w,n3,hr⟩:=jM2 hr;obtain⟨r4,n4,hr⟩:=jM2 hr;obtain⟨r',e,_,t1,o1,hl⟩:=Yv (r:=⟨0,0,0,0,Tre.none_⟩) ht;rw[n1]at e;obtain rfl:=jL5 e;have l1:Li src r1 (JF nm D):=⟨ts,hl,hp⟩;obtain⟨l2,t2,o2⟩:=l1.next n2;obtain⟨e3,l3,t3,o3⟩:=xq l2 n3;obtain⟨l4,t4,o4⟩:=l3.next n4;have WL:r4.tree=Tre.none_:=t4.trans (t3.trans (t2.trans t1));have K9:r4.order=0:=o4.trans (o3.trans (o2.trans o1));have l5:Li src {r4 with tree:={r4.tree with name:=w.1,at_:=w.2.1}} (D.flatMap Dcl.items++[kw 5]):=by
  obtain⟨K,hl,hp⟩:=l4;exact⟨K,yt hl rfl rfl rfl,hp⟩
 rw[jBV f D _ r [] ho l5 hr];simp only[WL,K9,e3];rfl
end
def Met(o:Option Nat)(ob:Option LB)(s:Wr9):Prop:=(∀nx,o=some nx->∃b,ob=some b/\s=⟨true,nx,b⟩)/\(o=none->s.ok=false)
theorem Met.yes(nx:Nat)(b:LB):Met (some nx) (some b) ⟨true,nx,b⟩:=⟨fun n e=>⟨b,rfl,by injection e with e;rw[e]⟩,fun e=>(by cases e)⟩
theorem Met.no{ob:Option LB}{s:Wr9}(h:s.ok=false):Met none ob s:=⟨fun n e=>(by cases e),fun _=>h⟩
theorem Met.next{o:Option Nat}{ob:Option LB}{s:Wr9}(h:Met o ob s){F:Nat->Option Nat}{jG9:LB->Option LB}{H:Wr9->Wr9}(hn:s.ok=false->(H s).ok=false)(hy:∀nx b,o=some nx->Met (F nx) (jG9 b) (H ⟨true,nx,b⟩)):Met (o.bind F) (ob.bind jG9) (H s):=by
 cases o with
 |none=>exact Met.no (hn (h.2 rfl))
 |some nx=>
  obtain⟨b,e1,e2⟩:=h.1 nx rfl;subst e1 e2;exact hy nx b rfl
theorem Met.map{o:Option Nat}{ob:Option LB}{s:Wr9}(h:Met o ob s){jG9:LB->LB}{H:Wr9->Wr9}(hn:s.ok=false->(H s).ok=false)(hy:∀nx b,o=some nx->H ⟨true,nx,b⟩=⟨true,nx,jG9 b⟩):Met o (ob.map jG9) (H s):=by
 cases o with
 |none=>exact Met.no (hn (h.2 rfl))
 |some nx=>
  obtain⟨b,e1,e2⟩:=h.1 nx rfl;subst e1 e2;rw[hy nx b rfl];exact Met.yes _ _
def jAR(ns:List Nd)(f:Nat)(root:Int)(l:List Int)(o:Option Nat):Option Nat:=l.foldl (fun(s:Option Nat) k=>s.bind fun nx=>if root<=k then none else kW ns f k nx) o
theorem jCH(ns:List Nd)(f:Nat)(root:Int)(l:List Int):jAR ns f root l none=none:=Kt (fun k nx=>if root<=k then none else kW ns f k nx) l
theorem Km(ns:List Nd)(f:Nat)(root k:Int)(l:List Int)(u:Nat):jAR ns f root (k::l) (some u)=(if root<=k then none else kW ns f k u).bind fun nx=>jAR ns f root l (some nx):=by
 show jAR ns f root l (if root<=k then none else kW ns f k u)=_;cases (if root<=k then none else kW ns f k u)with
 |none=>rw[jCH];rfl
 |some nx=>rfl
structure KidMet(ns:List Nd)(f:Nat)(root:Int)(g:Int->Nat->Wr9->Wr9):Prop where
 met:∀k l u b,Met (if root<=k then none else kW ns f k u) (exprP ns f k l b) (g k l ⟨true,u,b⟩)
 bad:∀k l s,s.ok=false->(g k l s).ok=false
theorem jB3{g:Int->Nat->Wr9->Wr9}(l:List Int)(i:Nat){s:Wr9}(h:s.ok=false):(KH g l i s).ok=false:=by
 cases l with
 |nil=>exact h
 |cons k l=>rw[KH,jJ5 (by rw[h];decide)];exact h
section
variable{ns:List Nd}{f:Nat}{root:Int}{g:Int->Nat->Wr9->Wr9}
theorem Xn(K:KidMet ns f root g):∀(l:List Int) (i u:Nat) (b:LB),Met (jAR ns f root l (some u)) (exprP.listP (exprP ns f) l i b) (KH g l i ⟨true,u,b⟩)
 |[],_,u,b=>Met.yes u b
 |k::l,i,u,b=>by
  rw[Km,exprP.listP,KH,jJ6 rfl];have e:(if 0<i then(⟨true,u,b⟩:Wr9).put [44]else⟨true,u,b⟩)=⟨true,u,if 0<i then jI b [44]else b⟩:=by split<;>rfl
  rw[e];exact(K.met k 0 u _).next (H:=KH g l (i+1)) (fun h=>jB3 _ _ h) (fun nx b1 _=>Xn K l (i+1) nx b1)
theorem jBl(K:KidMet ns f root g){kids:List Int}(h1:kids.length=1)(l u:Nat)(b:LB):Met (jAR ns f root kids (some u)) (match (generalizing:=false) kids with|k::_=>exprP ns f k l b|_=>none) (g (kids.getD 0 0) l ⟨true,u,b⟩):=by
 match kids,h1 with
 |[k],_=>
  rw[Km];have h2:=(K.met k l u b).next (F:=fun nx=>jAR ns f root [] (some nx)) (jG9:=some) (H:=id) (fun h=>h) (fun nx b _=>Met.yes nx b);rw[Option.bind_fun_some]at h2;exact h2
theorem uv(K:KidMet ns f root g){kids:List Int}(h1:kids.length=2)(l r u:Nat)(w b:LB):Met (jAR ns f root kids (some u)) (match (generalizing:=false) kids with|k::q::_=>(exprP ns f k l b).bind fun b1=>exprP ns f q r (jI b1 w)|_=>none) (g (kids.getD 1 0) r ((g (kids.getD 0 0) l ⟨true,u,b⟩).put w)):=by
 match kids,h1 with
 |[k,q],_=>
  rw[Km];refine(K.met k l u b).next (H:=fun s=>g q r (s.put w)) (fun h=>K.bad _ _ _ h) (fun nx b1 _=> ?_);exact jBl K (kids:=[q]) rfl r nx (jI b1 w)
theorem jAb(K:KidMet ns f root g){kids:List Int}(h1:kids.length=3)(u:Nat)(b x y:LB):Met (jAR ns f root kids (some u)) (match (generalizing:=false) kids with
      |a::c::d::_=>(exprP ns f a 0 b).bind fun b1=>(exprP ns f c 0 (jI b1 x)).bind fun b2=>exprP ns f d 0 (jI b2 y)
      |_=>none) (g (kids.getD 2 0) 0 ((g (kids.getD 1 0) 0 ((g (kids.getD 0 0) 0 ⟨true,u,b⟩).put x)).put y)):=by
 match kids,h1 with
 |[a,c,d],_=>
  rw[Km];refine(K.met a 0 u b).next (H:=fun s=>g d 0 ((g c 0 (s.put x)).put y)) (fun h=>K.bad _ _ _ (K.bad _ _ _ h)) (fun nx b1 _=> ?_);exact uv K (kids:=[c,d]) rfl 0 0 nx y (jI b1 x)
end
theorem Kl{ns:List Nd}{f:Nat}{root:Int}{l:List Int}(h:l.length=0)(o:Option Nat):jAR ns f root l o=o:=by
 match l,h with
 |[],_=>rfl
theorem jCG{n:Nd}(h:jR n=true)(h1:n.op=1\/n.op=2\/n.op=3\/n.op=4\/n.op=5):n.kids.length=0:=by
 unfold jR at h;rcases h1 with e|e|e|e|e
 ·rw[jJ6 e]at h;simp only[Bool.and_eq_true,decide_eq_true_eq]at h;exact h.1.2
 ·rw[jJ5 (by omega),jJ6 e]at h;simp only[Bool.and_eq_true,decide_eq_true_eq]at h;exact h.1.2
 ·rw[jJ5 (by omega),jJ5 (by omega),jJ6 e]at h;simp only[Bool.and_eq_true,decide_eq_true_eq]at h;exact h.1.2
 ·rw[jJ5 (by omega),jJ5 (by omega),jJ5 (by omega),jJ6 (by omega)]at h;simp only[Bool.and_eq_true,decide_eq_true_eq]at h;exact h.2.1
 ·rw[jJ5 (by omega),jJ5 (by omega),jJ5 (by omega),jJ5 (by omega),jJ6 (by omega)]at h;simp only[Bool.and_eq_true,decide_eq_true_eq]at h;exact h.2.1
theorem jEA{n:Nd}(h:jR n=true)(h1:n.op=6):n.name.size=0:=by
 unfold jR at h;rw[jJ5 (by omega),jJ5 (by omega),jJ5 (by omega),jJ5 (by omega),jJ5 (by omega),jJ6 h1]at h;simp only[Bool.and_eq_true,decide_eq_true_eq]at h;exact h.2
theorem jDx{n:Nd}(h:jR n=true):1<=n.op/\n.op<34:=by
 unfold jR at h;by_cases h1:n.op=1
 ·omega
 by_cases h2:n.op=2
 ·omega
 by_cases h3:n.op=3
 ·omega
 rw[jJ5 h1,jJ5 h2,jJ5 h3]at h;by_cases h4:n.op=4\/n.op=29\/n.op=30
 ·omega
 by_cases h5:n.op=5\/n.op=24\/n.op=25\/n.op=26
 ·omega
 by_cases h6:n.op=6
 ·omega
 by_cases h7:n.op=7\/n.op=8\/n.op=27
 ·omega
 by_cases h8:n.op=23
 ·omega
 rw[jJ5 h4,jJ5 h5,jJ5 h6,jJ5 h7,jJ5 h8]at h;simp only[Bool.and_eq_true,decide_eq_true_eq]at h;exact h.2.1.1
theorem Met.done{o:Option Nat}{ob:Option LB}{s:Wr9}(h:Met o ob s)(root:Int)(own least:Nat):Met (o.bind fun nx=>if root=(nx:Int)then some (nx+1)else none) (ob.map (JL own least)) ((if own<least then s.put [41]else s).done root):=by
 cases o with
 |none=>
  refine Met.no ?_;have h1:=h.2 rfl;unfold Wr9.done;split
  ·show(s.ok&&_)=false;rw[h1];rfl
  ·show(s.ok&&_)=false;rw[h1];rfl
 |some nx=>
  obtain⟨b,e1,e2⟩:=h.1 nx rfl;subst e1 e2;have e:(if own<least then(⟨true,nx,b⟩:Wr9).put [41]else⟨true,nx,b⟩)=⟨true,nx,JL own least b⟩:=by
   unfold JL;split<;>rfl
  rw[e];show Met (if root=(nx:Int)then some (nx+1)else none) (some (JL own least b)) ⟨true&&decide (root=(nx:Int)),nx+1,JL own least b⟩;by_cases hr:root=(nx:Int)
  ·rw[jJ6 hr,jK5 hr];exact Met.yes _ _
  ·rw[jJ5 hr,jK3 hr];exact Met.no rfl
theorem uJ{ns:List Nd}{f:Nat}{root:Int}{g:Int->Nat->Wr9->Wr9}(K:KidMet ns f root g)(l:List Int)(i u:Nat)(b z:LB):Met (jAR ns f root l (some u)) ((exprP.listP (exprP ns f) l i b).map fun b1=>jI b1 z) ((KH g l i ⟨true,u,b⟩).put z):=
 (Xn K l i u b).map (H:=fun s=>s.put z) (fun h=>h) (fun _ _ _=>rfl)
theorem jEq{ns:List Nd}{f:Nat}{root:Int}{g:Int->Nat->Wr9->Wr9}(K:KidMet ns f root g){n:Nd}(hr:jR n=true)(u:Nat)(b0:LB):
  Met (jAR ns f root n.kids (some u)) (if jD n.op=0 then(match n.kids with
      |a::c::d::_=>(exprP ns f a 0 (jI b0 [105,102])).bind fun b1=>(exprP ns f c 0 (jI b1 [116,104,101,110])).bind fun b2=>exprP ns f d 0 (jI b2 [101,108,115,101])
      |_=>none)
     else if jD n.op=1\/jD n.op=2\/jD n.op=5\/jD n.op=6 then(match n.kids with
     |k::q::_=>(exprP ns f k (jD n.op) b0).bind fun b1=>exprP ns f q (jD n.op+1) (jI b1 (jA n.op))
     |_=>none)
     else if jD n.op=3\/jD n.op=7 then(match n.kids with
     |k::_=>exprP ns f k (jD n.op) (jI b0 (jA n.op))
     |_=>none)
     else if jD n.op=4 then(match n.kids with
     |k::q::_=>(exprP ns f k 5 b0).bind fun b1=>exprP ns f q 5 (jI b1 (jA n.op))
     |_=>none)
     else if n.op=1 then some (jI b0 (Yu n.vn))
     else if n.op=2 then some (jI b0 (if n.vn=1 then [116,114,117,101]else [102,97,108,115,101]))
     else if n.op=3 then some (jI b0 (ji (tb n.vt)))
     else if n.op=5 then some (jI b0 (tb n.name))
     else if n.op=4 then some (jI b0 [110,111,116,104,105,110,103])
     else if n.op=6 then(exprP.listP (exprP ns f) n.kids 0 (jI b0 [123])).map fun b1=>jI b1 [125]
     else(exprP.listP (exprP ns f) n.kids 0 (let b1:=jI (jI b0 (jA n.op)) [40];if n.name.size=0 then b1 else jI b1 (tb n.name))).map fun b1=>jI b1 [41]) (zC g n ⟨true,u,b0⟩):=by
 have K2:=Xv hr;have K1:=Xw hr;have K3:=Zy hr;have K0:=jCG hr;have R:=jDx hr;unfold zC;have e1:jD n.op=1\/jD n.op=2\/jD n.op=5\/jD n.op=6->n.op=9\/n.op=10\/11<=n.op/\n.op<=22:=by unfold jD;((repeat' split)<;>omega)
 have e4:jD n.op=4->n.op=9\/n.op=10\/11<=n.op/\n.op<=22:=by unfold jD;((repeat' split)<;>omega)
 have e2:jD n.op=3\/jD n.op=7->n.op=7\/n.op=8:=by unfold jD;((repeat' split)<;>omega)
 have e0:jD n.op=0->n.op=23:=by unfold jD;((repeat' split)<;>omega)
 have e8:jD n.op<=8:=by unfold jD;((repeat' split)<;>omega)
 have e23:n.op=23->jD n.op=0:=fun e=>by unfold jD;rw[jJ6 e]
 generalize jD n.op=L at*;by_cases GZ:n.op=23
 ·rw[jJ6 (e23 GZ),jJ6 GZ];exact jAb K (K3 GZ) u _ _ _
 have l0:¬L=0:=fun e=>GZ (e0 e);rw[jJ5 GZ,jJ5 l0];by_cases l2:L=3\/L=7
 ·rw[jJ5 (show¬(L=1\/L=2\/L=5\/L=6)by omega),jJ6 l2,jJ6 l2];exact jBl K (K1 (e2 l2)) _ u _
 by_cases l4:L=4
 ·rw[jJ5 (show¬(L=1\/L=2\/L=5\/L=6)by omega),jJ5 l2,jJ6 l4,jJ5 l2,jJ6 (show L<8 by omega),jJ6 l4];rw[show L+1=5 by omega];exact uv K (K2 (e4 l4)) 5 5 u _ _
 by_cases l1:L=1\/L=2\/L=5\/L=6
 ·rw[jJ6 l1,jJ5 l2,jJ6 (show L<8 by omega),jJ5 l4];exact uv K (K2 (e1 l1)) _ _ u _ _
 rw[jJ5 l1,jJ5 l2,jJ5 l4,jJ5 l2,jJ5 (show¬L<8 by omega)];unfold jC3;by_cases h1:n.op=1
 ·rw[jJ6 h1,jJ6 h1,Kl (K0 (by omega))];exact Met.yes _ _
 rw[jJ5 h1,jJ5 h1];by_cases h2:n.op=2
 ·rw[jJ6 h2,jJ6 h2,Kl (K0 (by omega))];exact Met.yes _ _
 rw[jJ5 h2,jJ5 h2];by_cases h3:n.op=3
 ·rw[jJ6 h3,jJ6 h3,Kl (K0 (by omega))];exact Met.yes _ _
 rw[jJ5 h3,jJ5 h3];by_cases h4:n.op=4
 ·rw[jJ5 (show¬n.op=5 by omega),jJ6 h4,jJ6 h4,Kl (K0 (by omega))];exact Met.yes _ _
 by_cases h5:n.op=5
 ·rw[jJ6 h5,jJ5 h4,jJ6 h5,Kl (K0 (by omega))];exact Met.yes _ _
 rw[jJ5 h5,jJ5 h4,jJ5 h4,jJ5 h5];by_cases h6:n.op=6
 ·rw[jJ6 h6,jJ6 h6];simp only;rw[jJ6 (jEA hr h6)];exact uJ K _ _ _ _ _
 rw[jJ5 h6,jJ5 h6];simp only;have e:(if n.name.size=0 then((⟨true,u,b0⟩:Wr9).put (jA n.op)).put [40]else(((⟨true,u,b0⟩:Wr9).put (jA n.op)).put [40]).put (tb n.name))=⟨true,u,if n.name.size=0 then jI (jI b0 (jA n.op)) [40]else jI (jI (jI b0 (jA n.op)) [40]) (tb n.name)⟩:=by split<;>rfl
 rw[e];exact uJ K _ _ _ _ _
theorem Xh(ns:List Nd)(f:Nat)(root below:Int)(least:Nat){s:Wr9}(h:s.ok=false):(kz ns f root below least s).ok=false:=by
 cases f with
 |zero=>rfl
 |succ f=>
  rw[kz,jJ5 (fun e=>by rw[h]at e;cases e.1)];rfl
theorem Xg(ns:List Nd):∀(f:Nat) (root below:Int) (least u:Nat) (b:LB),Met (if below<=root then none else kW ns f root u) (exprP ns f root least b) (kz ns f root below least ⟨true,u,b⟩)
 |0,root,below,least,u,b=>by
  rw[kW,ite_self];exact Met.no rfl
 |f+1,root,below,least,u,b=>by
  rw[kW,exprP,kz];by_cases hb:below<=root
  ·rw[jJ6 hb,jJ5 (show¬((⟨true,u,b⟩:Wr9).ok=true/\0<=root/\root<below)from fun e=>by omega)];exact Met.no rfl
  rw[jJ5 hb];by_cases h0:root<0
  ·rw[jJ6 (show root<0\/(ns.length:Int)<=root from .inl h0),jJ5 (show¬((⟨true,u,b⟩:Wr9).ok=true/\0<=root/\root<below)from fun e=>by omega)];exact Met.no rfl
  rw[jJ5 h0,jJ6 (show(⟨true,u,b⟩:Wr9).ok=true/\0<=root/\root<below from⟨rfl,by omega,by omega⟩)];cases hn:ns[root.toNat]? with
  |none=>
   simp only;rw[ite_self];exact Met.no rfl
  |some n=>
   have hlt:=(jM5 hn).1;rw[jJ5 (show¬(root<0\/(ns.length:Int)<=root)by omega)];cases hr:jR n with
   |false=>
    simp only[hr,if_true,Bool.false_eq_true,if_false];exact Met.no rfl
   |true=>
    simp only[hr,if_true,Bool.true_eq_false,if_false];have K:KidMet ns f root (fun k l s=>kz ns f k root l s):=⟨fun k l u b=>Xg ns f k root l u b,fun k l s h=>Xh ns f k root l h⟩;unfold Uo;have e:(if jD n.op<least then(⟨true,u,b⟩:Wr9).put [40]else⟨true,u,b⟩)=⟨true,u,opens (jD n.op) least b⟩:=by
     unfold opens;split<;>rfl
    rw[e];exact(jEq K hr u (opens (jD n.op) least b)).done root (jD n.op) least
end Go.Proofs.YtmmjcbbogokmfaaGreatDoor

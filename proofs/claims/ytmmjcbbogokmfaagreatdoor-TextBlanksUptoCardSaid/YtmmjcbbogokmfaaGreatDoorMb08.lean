import Derived.Test.YtmmjcbbogokmfaaGreatDoorMb07
set_option maxRecDepth 100000
set_option maxHeartbeats 25600000
namespace Go.Proofs.YtmmjcbbogokmfaaGreatDoor
open Go.Proofs.Tryz
def Rep(e:Exp9):Prop:=∀L,Lvl L->AtL L (prt e L) e/\Hd (prt e L) L
def Exp9.each(p:Exp9->Prop):Exp9->Prop
 | .cons e l=>p e/\l.each p
 |_=>True
theorem YF:∀(l:Exp9),l.ok true->l.each Rep->∀(i last:Nat) (k:Tok) (r:List Tok),(last=5\/last=7)->k.1=last->Pa (.list last (decide (i=0))) (prt l i++k::r) l r
 | .nil,_,_,i,last,k,r,_,hk=>.shut hk
 | .lit _,h,_,_,_,_,_,_,_=>by cases h.1
 | .node _ _ _,h,_,_,_,_,_,_,_=>by cases h.1
 | .cons e l,h,hr,i,last,k,r,WQ,hk=>by
  have Me:=YF l h.2.2 hr.2 (i+1) last k r WQ hk;rw[jK3 (by omega)]at Me;obtain⟨a0,hd⟩:=hr.1 0 (.inl rfl);have a0:P0 (prt e 0) e:=a0;obtain⟨c,q,hc,_,_,h5,h7,h8⟩:=hd;have Hu:Pa .expr (prt e 0++(prt l (i+1)++k::r)) e (prt l (i+1)++k::r):=by
   cases l with
   |nil=>
    refine a0 k r ?_;rcases WQ with rfl|rfl<;>rw[hk]<;>decide
   |lit _=>cases h.2.2.1
   |node _ _ _=>cases h.2.2.1
   |cons e2 l2=>
    rw[prt,jJ6 (Nat.succ_pos i)];exact a0 _ _ (by show zi 8<1;decide)
  rw[prt];rcases Nat.eq_zero_or_pos i with h0|h0
  ·subst h0;rw[jJ5 (by decide),jN8,jK1,jK5 rfl];rw[hc,jN6]at Hu⊢;exact .elem (by rcases WQ with rfl|rfl<;>assumption) h8 Hu Me
  ·rw[jJ6 h0,jK3 (by omega),jK1,jK1];exact .comma (by omega) rfl Hu Me
theorem Kh(op:Int):(op=23->jD op=0)/\(op=10->jD op=1)/\(op=9->jD op=2)/\(op=8->jD op=3)/\(11<=op/\op<=17->jD op=4)/\(op=18\/op=19->jD op=5)/\(20<=op/\op<=22->jD op=6)/\(op=7->jD op=7)/\(op=6\/(24<=op/\op<=33)->jD op=8):=by
 refine⟨?_,?_,?_,?_,?_,?_,?_,?_,?_⟩<;>intro h<;>unfold jD
 ·rw[jJ6 h]
 ·rw[jJ5 (by omega),jJ6 h]
 ·rw[jJ5 (by omega),jJ5 (by omega),jJ6 h]
 ·rw[jJ5 (by omega),jJ5 (by omega),jJ5 (by omega),jJ6 h]
 ·rw[jJ5 (by omega),jJ5 (by omega),jJ5 (by omega),jJ5 (by omega),jJ6 h]
 ·rw[jJ5 (by omega),jJ5 (by omega),jJ5 (by omega),jJ5 (by omega),jJ5 (by omega),jJ6 h]
 ·rw[jJ5 (by omega),jJ5 (by omega),jJ5 (by omega),jJ5 (by omega),jJ5 (by omega),jJ5 (by omega),jJ6 h]
 ·rw[jJ5 (by omega),jJ5 (by omega),jJ5 (by omega),jJ5 (by omega),jJ5 (by omega),jJ5 (by omega),jJ5 (by omega),jJ6 h]
 ·rw[jJ5 (by omega),jJ5 (by omega),jJ5 (by omega),jJ5 (by omega),jJ5 (by omega),jJ5 (by omega),jJ5 (by omega),jJ5 (by omega)]
theorem zF{e:Exp9}{own o:Nat}{X:List Tok}(hp:∀L,Lvl L->prt e L=JE (decide (own<L)) X)(ho:Lvl o)(Ss:o<=own/\∀L,Lvl L->(own<L↔o<L))(h:AtL o X e)(hd:Hd X o):Rep e:=by
 intro L hL;rw[hp L hL];refine⟨jI4 own o ho Ss h hd (jL3 _) L hL,?_⟩;by_cases hlt:own<L
 ·rw[jK5 hlt];exact jAT X L
 ·rw[jK3 hlt];have:=(Ss.2 L hL).2;obtain⟨k,r,e1,NQ,Gv,h5⟩:=hd;exact⟨k,r,e1,fun e=>by have:=NQ e;omega,fun e=>by have:=Gv e;omega,h5⟩
theorem Hd.app{X Y:List Tok}{L M:Nat}(h:Hd X L)(NQ:L=0->M=0)(Gv:L<=3->M<=3):Hd (X++Y) M:=by
 obtain⟨k,r,rfl,a,b,c⟩:=h;exact⟨k,r++Y,rfl,fun e=>NQ (a e),fun e=>Gv (b e),c⟩
theorem Hd.mk(k:Tok)(r:List Tok){L:Nat}(NQ:k.1=40->L=0)(Gv:k.1=45->L<=3)(h:k.1≠5/\k.1≠7/\k.1≠8):Hd (k::r) L:=⟨k,r,rfl,NQ,Gv,h⟩
theorem jES{k:Exp9}(h:k.ok true)(hc:k.cnt=1):∃a,k=.cons a .nil/\a.ok false:=by
 cases k with
 |nil=>cases hc
 |lit _=>cases hc
 |node _ _ _=>cases hc
 |cons a l=>
  cases l with
  |nil=>exact⟨a,rfl,h.2.1⟩
  |lit _=>cases h.2.2.1
  |node _ _ _=>cases h.2.2.1
  |cons _ l=>simp only[Exp9.cnt]at hc;omega
theorem jER{k:Exp9}(h:k.ok true)(hc:k.cnt=2):∃a c,k=.cons a (.cons c .nil)/\a.ok false/\c.ok false:=by
 cases k with
 |nil=>cases hc
 |lit _=>cases hc
 |node _ _ _=>cases hc
 |cons a l=>
  obtain⟨c,rfl,h2⟩:=jES h.2.2 (by simp only[Exp9.cnt]at hc;omega);exact⟨a,c,rfl,h.2.1,h2⟩
theorem jGy{k:Exp9}(h:k.ok true)(hc:k.cnt=3):∃a c d,k=.cons a (.cons c (.cons d .nil))/\a.ok false/\c.ok false/\d.ok false:=by
 cases k with
 |nil=>cases hc
 |lit _=>cases hc
 |node _ _ _=>cases hc
 |cons a l=>
  obtain⟨c,d,rfl,h2,h3⟩:=jER h.2.2 (by simp only[Exp9.cnt]at hc;omega);exact⟨a,c,d,rfl,h.2.1,h2,h3⟩
theorem jGz{k:Exp9}(h:k.ok true)(hc:k.cnt=0):k=.nil:=by
 cases k with
 |nil=>rfl
 |lit _=>cases h.1
 |node _ _ _=>cases h.1
 |cons a l=>cases hc
theorem YQ{op:Int}{l:Nat}{a c:Exp9}{ts t2 r:List Tok}{e' :Exp9}(h:kJ l (ke op)=op)(h0:op≠0)(hc:Pa (.row (zS l)) ts c t2)(hm:Pa (.more l (.node op [] (a.pair c))) t2 e' r):Pa (.more l a) (vI op::ts) e' r:=by
 refine .go (k:=vI op) (by show kJ l (ke op)≠0;rw[h];exact h0) (.two hc) ?_;show Pa (.more l (.node (kJ l (ke op)) [] (a.pair c))) t2 e' r;rw[h];exact hm
theorem Xa{op:Int}{nm:LB}{a:Exp9}(h:jD op=3\/jD op=7)(GZ:op≠23)(L:Nat):prt (.node op nm (.cons a .nil)) L=JE (decide (jD op<L)) (vI op::prt a (jD op)):=by
 rw[prt,jJ5 GZ,jJ6 h]
theorem KA{op:Int}{nm:LB}{a c:Exp9}(h:jD op<8)(h3:¬(jD op=3\/jD op=7))(GZ:op≠23)(L:Nat):prt (.node op nm (.cons a (.cons c .nil))) L=JE (decide (jD op<L)) (prt a (if jD op=4 then 5 else jD op)++vI op::prt c (jD op+1)):=by
 rw[prt,jJ5 GZ,jJ5 h3,jJ6 h]
theorem jBc{nm:LB}{a c d:Exp9}(L:Nat):prt (.node 23 nm (.cons a (.cons c (.cons d .nil)))) L=JE (decide (0<L)) ((40,[105,102])::(prt a 0++(41,[116,104,101,110])::(prt c 0++(42,[101,108,115,101])::prt d 0))):=by
 rw[prt,jJ6 rfl];rfl
theorem yi{op:Int}{nm:LB}{ks:Exp9}(h8:jD op=8)(h6:op≠6)(L:Nat):prt (.node op nm ks) L=JE (decide (jD op<L)) (vI op::(6,[40])::((if nm=[]then []else [(1,nm)])++(prt ks 0++[(7,[41])]))):=by
 have GZ:op≠23:=fun e=>by subst e;cases h8
 conv=>lhs;unfold prt
 rw[jJ5 GZ,jJ5 (by omega),jJ5 (by omega),jJ5 h6]
theorem zv(o:Nat):o<=o/\∀L,Lvl L->(o<L↔o<L):=⟨jL3 _,fun _ _=>Iff.rfl⟩
theorem jGF{nm:LB}{ks:Exp9}(L:Nat)(hL:Lvl L):prt (.node 6 nm ks) L=(4,[123])::(prt ks 0++[(5,[125])]):=by
 conv=>lhs;unfold prt
 unfold Lvl at hL;have h8:jD 6=8:=rfl;rw[jJ5 (by decide),jJ5 (by decide),jJ5 (by decide),jJ6 rfl,h8,jK3 (by omega)];rfl
theorem jHn{own L:Nat}(h:own=8)(hL:Lvl L)(X:List Tok):JE (decide (own<L)) X=X:=by
 unfold Lvl at hL;rw[h,jK3 (by omega)];rfl
theorem jH2{op:Int}{a:Exp9}(hU:op=7\/op=8)(ha:Rep a):Rep (.node op [] (.cons a .nil)):=by
 rcases hU with rfl|rfl
 ·refine zF (own:=7) (o:=7) (fun L _=>Xa (.inr rfl) (by decide) L) (by unfold Lvl;omega) (zv 7) (show UU _ _ from fun k r=> ?_) (Hd.mk _ _ (by decide) (by decide) (by decide));have h7:UU (prt a 7) a:=(ha 7 (by unfold Lvl;omega)).1;exact .neg rfl (h7 k r)
 ·refine zF (own:=3) (o:=3) (fun L _=>Xa (.inl rfl) (by decide) L) (by unfold Lvl;omega) (zv 3) (show P3 _ _ from fun k r hc=> ?_) (Hd.mk _ _ (by decide) (by decide) (by decide));have h3:P3 (prt a 3) a:=(ha 3 (by unfold Lvl;omega)).1;exact .not_ rfl (h3 k r hc)
theorem jF6{op:Int}{a c:Exp9}(hU:9<=op/\op<=22)(ha:Rep a)(hc:Rep c):Rep (.node op [] (.cons a (.cons c .nil))):=by
 obtain⟨f0,f1,f2,f3,f4,f5,f6,f7,f8⟩:=Kh op;have hL:∀L,Lvl L↔(L=0\/L=1\/L=2\/L=3\/L=5\/L=6\/L=7):=fun L=>Iff.rfl;by_cases e10:op=10
 ·have hl:=f1 e10;subst e10;have Lc:M1 (prt a 1) a:=(ha 1 ((hL _).2 (by omega))).1;have FE:M2 (prt c 2) c:=(hc 2 ((hL _).2 (by omega))).1;refine zF (own:=1) (o:=1) (X:=prt a 1++vI 10::prt c 2) (fun L _=>KA (by decide) (by decide) (by decide) L) ((hL _).2 (by omega)) (zv 1) (show M1 _ _ from fun k r e' r' hk hm=> ?_) ((ha 1 ((hL _).2 (by omega))).2.app (by omega) (by omega));rw[jK1,jN6];exact Lc _ _ _ _ (by decide) (YQ rfl (by decide) (FE.p k r hk) hm)
 by_cases e9:op=9
 ·subst e9;have Lc:M2 (prt a 2) a:=(ha 2 ((hL _).2 (by omega))).1;have FE:P3 (prt c 3) c:=(hc 3 ((hL _).2 (by omega))).1;refine zF (own:=2) (o:=2) (X:=prt a 2++vI 9::prt c 3) (fun L _=>KA (by decide) (by decide) (by decide) L) ((hL _).2 (by omega)) (zv 2) (show M2 _ _ from fun k r e' r' hk hm=> ?_) ((ha 2 ((hL _).2 (by omega))).2.app (by omega) (by omega));rw[jK1,jN6];exact Lc _ _ _ _ (by decide) (YQ rfl (by decide) (FE k r hk) hm)
 by_cases e5:op=18\/op=19
 ·have Lc:M5 (prt a 5) a:=(ha 5 ((hL _).2 (by omega))).1;have FE:M6 (prt c 6) c:=(hc 6 ((hL _).2 (by omega))).1;have hl:=f5 e5;refine zF (own:=5) (o:=5) (X:=prt a 5++vI op::prt c 6) (fun L _=>by rw[KA (by omega) (by omega) (by omega) L,hl];rfl) ((hL _).2 (by omega)) (zv 5) (show M5 _ _ from fun k r e' r' hk hm=> ?_) ((ha 5 ((hL _).2 (by omega))).2.app (by omega) (by omega));rw[jK1,jN6];have hb:=YQ (op:=op) (l:=18) (a:=a) (c:=c) (ts:=prt c 6++k::r) (by rcases e5 with rfl|rfl<;>rfl) (by omega) (FE.p k r hk) hm;exact Lc _ _ _ _ (by rcases e5 with rfl|rfl<;>decide) hb
 by_cases e6:20<=op/\op<=22
 ·have Lc:M6 (prt a 6) a:=(ha 6 ((hL _).2 (by omega))).1;have FE:UU (prt c 7) c:=(hc 7 ((hL _).2 (by omega))).1;have hl:=f6 e6;have h3:op=20\/op=21\/op=22:=(by omega);refine zF (own:=6) (o:=6) (X:=prt a 6++vI op::prt c 7) (fun L _=>by rw[KA (by omega) (by omega) (by omega) L,hl];rfl) ((hL _).2 (by omega)) (zv 6) (show M6 _ _ from fun k r e' r' hm=> ?_) ((ha 6 ((hL _).2 (by omega))).2.app (by omega) (by omega));rw[jK1,jN6];have hb:=YQ (op:=op) (l:=20) (a:=a) (c:=c) (ts:=prt c 7++k::r) (by rcases h3 with rfl|rfl|rfl<;>rfl) (by omega) (.rowu (FE k r)) hm;exact Lc _ _ _ _ hb
 ·have h4:11<=op/\op<=17:=(by omega);have hl:=f4 h4;have Lc:M5 (prt a 5) a:=(ha 5 ((hL _).2 (by omega))).1;have FE:M5 (prt c 5) c:=(hc 5 ((hL _).2 (by omega))).1;have Ry:=(ha 5 ((hL _).2 (by omega))).2;refine zF (own:=4) (o:=3) (X:=prt a 5++vI op::prt c 5) (fun L _=>by rw[KA (by omega) (by omega) (by omega) L,hl];rfl) ((hL _).2 (by omega)) ⟨by decide,fun L h=>by unfold Lvl at h;omega⟩ (show P3 _ _ from fun k r hk=> ?_) (Ry.app (by omega) (by omega));rw[jK1,jN6];have Ti:(op=17/\ke op=28)\/(op≠17/\ke op=(op+1).toNat):=by
   unfold ke;by_cases e17:op=17
   ·exact .inl ⟨e17,by subst e17;rfl⟩
   ·refine .inr ⟨e17,?_⟩;rw[jJ5 e10,jJ5 e9,jJ5 (by omega),jJ5 e17,jJ5 (by omega),jJ6 (by omega)]
  have Rz:zi (ke op)<5:=by
   unfold zi;rw[jJ5 (by omega),jJ5 (by omega),jJ6 (by omega)];decide
  have h1:=Lc.p (vI op) (prt c 5++k::r) Rz;obtain⟨c0,q,GY,_,Gv,_⟩:=Ry;rw[GY,jN6]at h1⊢;have h2:=FE.p k r (by omega);rcases Ti with⟨e17,hs⟩|⟨e17,hs⟩
  ·refine .in_ (k2:=vI op) (fun e=>by have:=Gv e;omega) h1 (by exact hs) ?_;rw[e17];exact .two h2
  ·refine .rel (k2:=vI op) (fun e=>by have:=Gv e;omega) h1 (by show 12<=ke op/\ke op<=17;omega) ?_;rw[show(11:Int)+(((vI op).1:Int)-12)=op by show 11+((ke op:Int)-12)=op;omega];exact .two h2
theorem jH3{a c d:Exp9}(ha:Rep a)(hc:Rep c)(hd:Rep d):Rep (.node 23 [] (.cons a (.cons c (.cons d .nil)))):=by
 refine zF (own:=0) (o:=0) (fun L _=>jBc L) (.inl rfl) (zv 0) (show P0 _ _ from fun k r hk=> ?_) (Hd.mk _ _ (by decide) (by decide) (by decide));have h1:P0 (prt a 0) a:=(ha 0 (.inl rfl)).1;have h2:P0 (prt c 0) c:=(hc 0 (.inl rfl)).1;have h3:P0 (prt d 0) d:=(hd 0 (.inl rfl)).1;simp only[jN6,jK1];exact .expr_if rfl rfl rfl (h1 _ _ (by decide)) (h2 _ _ (by decide)) (h3 k r hk)
theorem qV:∀(e:Exp9),(e.ok false->Rep e)/\(e.ok true->e.each Rep)
 | .nil=>⟨fun h=>(by cases h),fun _=>trivial⟩
 | .cons e l=>⟨fun h=>(by cases h.1),fun h=>⟨(qV e).1 h.2.1,(qV l).2 h.2.2⟩⟩
 | .lit x=>⟨fun h=>by
   obtain⟨h1,h2⟩:=uH x h.2;refine zF (own:=8) (o:=7) (X:=[x.tok]) (fun L hL=>(jHn rfl hL _).symm) (by unfold Lvl;omega) ⟨by decide,fun L hL=>by unfold Lvl at hL;omega⟩ (show UU _ _ from fun k r=>.lit h1 h2) (Hd.mk _ _ (fun e=> ?_) (fun e=> ?_) ⟨fun e=> ?_,fun e=> ?_,fun e=> ?_⟩)
   all_goals (rw[e]at h1;cases h1),fun h=>(by cases h.1)⟩
 | .node op nm ks=>⟨fun h=>by
   have Gn:=(qV ks).2 h.2.1;have h8:∀op,op=6\/(24<=op/\op<=33)->jD op=8:=fun op=>(Kh op).2.2.2.2.2.2.2.2;have RN:7<=8/\∀L,Lvl L->(8<L↔7<L):=⟨by decide,fun L hL=>by unfold Lvl at hL;omega⟩;rcases h.2.2 with⟨rfl,rfl⟩|⟨ho,hn,hc⟩|⟨ho,rfl,hc⟩|⟨ho,rfl,hc⟩|⟨rfl,rfl,hc⟩|⟨ho,rfl,hc⟩
   ·refine zF (own:=8) (o:=7) (X:=(4,[123])::(prt ks 0++[(5,[125])])) (fun L hL=>by rw[jGF L hL,jHn rfl hL]) (by unfold Lvl;omega) RN (show UU _ _ from fun k r=> ?_) (Hd.mk _ _ (by decide) (by decide) (by decide));simp only[jN6,jK1,jN8];exact .set rfl (YF ks h.2.1 Gn 0 5 _ _ (.inl rfl) rfl)
   ·obtain rfl:=jGz h.2.1 hc;have hl:=h8 op (by omega);have Fa:nm≠ []:=fun e=>by subst e;cases hn
    refine zF (own:=jD op) (o:=7) (fun L hL=>yi hl (by omega) L) (by unfold Lvl;omega) (by rw[hl];exact RN) (show UU _ _ from fun k r=> ?_) (Hd.mk _ _ (fun e=> ?_) (fun e=> ?_) ⟨fun e=> ?_,fun e=> ?_,fun e=> ?_⟩)
    ·rw[jJ5 Fa];have hs:yL (ke op)=op/\(ke op=49\/ke op=52\/ke op=31):=by rcases ho with rfl|rfl|rfl<;>decide
     have:=Pa.named (k:=vI op) (k1:=(6,[40])) (k2:=(1,nm)) (k3:=(7,[41])) (ts:=k::r) hs.2 rfl rfl rfl;rw[show yL (vI op).1=op from hs.1]at this;exact this
    all_goals (rcases ho with rfl|rfl|rfl<;>revert e<;>decide)
   ·have hl:=h8 op (by omega);obtain rfl:=jGz h.2.1 hc;refine zF (own:=jD op) (o:=7) (fun L hL=>yi hl (by omega) L) (by unfold Lvl;omega) (by rw[hl];exact RN) (show UU _ _ from fun k r=> ?_) (Hd.mk _ _ (fun e=> ?_) (fun e=> ?_) ⟨fun e=> ?_,fun e=> ?_,fun e=> ?_⟩)
    ·have hs:yL (ke op)=op/\(ke op=53\/ke op=54)/\jAP (ke op)=0:=by rcases ho with rfl|rfl<;>decide
     have:=Pa.call (k:=vI op) (k1:=(6,[40])) (ts:=(7,[41])::k::r) (r:=k::r) (l:=.nil) (by have h7:=hs.2.1;show ke op=50\/ke op=51\/ke op=53\/ke op=54\/ke op=55\/ke op=56\/ke op=57;omega) rfl hs.2.2 (.shut rfl);rw[show yL (vI op).1=op from hs.1]at this;exact this
    all_goals (rcases ho with rfl|rfl<;>revert e<;>decide)
   ·obtain⟨a,rfl,ha⟩:=jES h.2.1 hc;by_cases WG:op=27
    ·subst WG;refine zF (own:=8) (o:=7) (fun L hL=>yi rfl (by decide) L) (by unfold Lvl;omega) RN (show UU _ _ from fun k r=> ?_) (Hd.mk _ _ (by decide) (by decide) (by decide));have:=YF _ h.2.1 Gn 0 7 (7,[41]) (k::r) (.inr rfl) rfl;have:=Pa.call (k:=vI 27) (k1:=(6,[40])) (by decide) rfl rfl this;rw[show yL (vI 27).1=27 from rfl]at this;simpa using this
    ·exact jH2 (by omega) Gn.1
   ·obtain⟨a,c,d,rfl,_,_,_⟩:=jGy h.2.1 hc;exact jH3 Gn.1 Gn.2.1 Gn.2.2.1
   ·obtain⟨a,c,rfl,_,_⟩:=jER h.2.1 hc;by_cases hb:9<=op/\op<=22
    ·exact jF6 hb Gn.1 Gn.2.1
    ·have hl:=h8 op (by omega);refine zF (own:=jD op) (o:=7) (fun L hL=>yi hl (by omega) L) (by unfold Lvl;omega) (by rw[hl];exact RN) (show UU _ _ from fun k r=> ?_) (Hd.mk _ _ (fun e=> ?_) (fun e=> ?_) ⟨fun e=> ?_,fun e=> ?_,fun e=> ?_⟩)
     ·have hs:yL (ke op)=op/\(ke op=51\/ke op=55\/ke op=56\/ke op=57)/\jAP (ke op)=2:=by
       have:op=28\/op=31\/op=32\/op=33:=(by omega);rcases this with rfl|rfl|rfl|rfl<;>decide
      have:=YF _ h.2.1 Gn 0 7 (7,[41]) (k::r) (.inr rfl) rfl;have:=Pa.call (k:=vI op) (k1:=(6,[40])) (by have h7:=hs.2.1;show ke op=50\/ke op=51\/ke op=53\/ke op=54\/ke op=55\/ke op=56\/ke op=57;omega) rfl (by rw[show jAP (vI op).1=2 from hs.2.2];rfl) this;rw[show yL (vI op).1=op from hs.1]at this;simpa using this
     all_goals (have h4:op=28\/op=31\/op=32\/op=33:=(by omega);rcases h4 with rfl|rfl|rfl|rfl<;>revert e<;>decide),fun h=>(by cases h.1)⟩
def RightIn(ns:List Nd)(a b:Nat):Prop:=a<=b/\∀i,a<=i->i<b->∃n,ns[i]? =some n/\jR n=true
theorem RightIn.refl(ns:List Nd)(a:Nat):RightIn ns a a:=⟨jL3 _,fun i h1 h2=>by omega⟩
theorem RightIn.trans{ns:List Nd}{a b c:Nat}(h:RightIn ns a b)(k:RightIn ns b c):RightIn ns a c:=
 ⟨jL4 h.1 k.1,fun i h1 h2=>by
  rcases Nat.lt_or_ge i b with h3|h3
  ·exact h.2 i h1 h3
  ·exact k.2 i h3 h2⟩
theorem Kt{α:Type}(g:α->Nat->Option Nat):∀(l:List α),l.foldl (fun(s:Option Nat) k=>s.bind fun nx=>g k nx) none=none
 |[]=>rfl
 |_::l=>Kt g l
theorem jCR{ns:List Nd}{α:Type}(g:α->Nat->Option Nat)(hg:∀k a b,g k a=some b->RightIn ns a b):∀(l:List α) (a b:Nat),l.foldl (fun(s:Option Nat) k=>s.bind fun nx=>g k nx) (some a)=some b->RightIn ns a b
 |[],a,b,h=>by
  injection h with h;subst h;exact RightIn.refl _ _
 |k::l,a,b,h=>by
  rw[List.foldl_cons,jL2]at h;cases e:g k a with
  |none=>rw[e,Kt]at h;cases h
  |some c=>
   rw[e]at h;exact(hg k a c e).trans (jCR g hg l c b h)
theorem uw(ns:List Nd):∀(f:Nat) (root:Int) (a b:Nat),kW ns f root a=some b->RightIn ns a b
 |0,_,_,_,h=>by cases h
 |f+1,root,a,b,h=>by
  rw[kW]at h;by_cases h1:root<0\/(ns.length:Int)<=root
  ·rw[jJ6 h1]at h;cases h
  ·rw[jJ5 h1]at h;cases hn:ns[root.toNat]? with
   |none=>rw[hn]at h;cases h
   |some n=>
    rw[hn]at h;simp only at h;by_cases h2:jR n=false
    ·rw[jJ6 h2]at h;cases h
    ·rw[jJ5 h2]at h;obtain⟨nx,hf,h3⟩:=jM2 h;have hk:=jCR (ns:=ns) (fun k nx=>if root<=k then none else kW ns f k nx) (fun k x y e=>by
      by_cases h4:root<=k
      ·rw[jJ6 h4]at e;cases e
      ·rw[jJ5 h4]at e;exact uw ns f k x y e) n.kids a nx hf
     by_cases h5:root=(nx:Int)
     ·rw[jJ6 h5]at h3;injection h3 with h3;subst h3;refine hk.trans ⟨by omega,fun i i1 i2=> ?_⟩;obtain rfl:i=root.toNat:=(by omega);exact⟨n,hn,by simpa using h2⟩
     ·rw[jJ5 h5]at h3;cases h3
theorem ym{ns:List Nd}{root:Int}{a b:Nat}(h:jV ns root a=some b):RightIn ns a b:=by
 unfold jV at h;split at h
 ·injection h with h;subst h;exact RightIn.refl _ _
 ·exact uw _ _ _ _ _ h
theorem jCe{ns:List Nd}:∀{l:List Eff} {a b:Nat},vM ns l a=some b->RightIn ns a b
 |[],a,b,h=>by
  injection h with h;subst h;exact RightIn.refl _ _
 |e::l,a,b,h=>by
  rw[vM]at h;split at h
  ·obtain⟨c,h1,h2⟩:=jM2 h;exact(ym h1).trans (jCe h2)
  ·cases h
theorem jHO{t:Tre}{d:Int×Int}{a b:Nat}(h:km t d a=some b):RightIn t.nodes a b:=by
 unfold km at h;split at h
 ·obtain⟨x,_,h⟩:=jM2 h;unfold KW at h;split at h
  ·obtain⟨c,h1,h2⟩:=jM2 h;exact(ym h1).trans (ym h2)
  ·cases h
 ·split at h
  ·obtain⟨x,_,h⟩:=jM2 h;unfold Vt at h;split at h
   ·obtain⟨c,h1,h2⟩:=jM2 h;exact(ym h1).trans (ym h2)
   ·cases h
  ·split at h
   ·obtain⟨x,_,h⟩:=jM2 h;unfold Jw at h;split at h
    ·exact uw _ _ _ _ _ h
    ·cases h
   ·obtain⟨x,_,h⟩:=jM2 h;unfold Jv at h;split at h
    ·obtain⟨c,h1,h2⟩:=jM2 h;exact(ym h1).trans (jCe h2)
    ·cases h
theorem jFa{t:Tre}:∀{l:List (Int×Int)} {a b:Nat},kG t l a=some b->RightIn t.nodes a b
 |[],a,b,h=>by
  injection h with h;subst h;exact RightIn.refl _ _
 |d::l,a,b,h=>by
  rw[kG]at h;obtain⟨c,h1,h2⟩:=jM2 h;exact(jHO h1).trans (jFa h2)
theorem jCU{t:Tre}(h:Qk t=true):∀n∈t.nodes,jR n=true:=by
 unfold Qk at h;rw[Bool.and_eq_true,Bool.and_eq_true,decide_eq_true_eq]at h;intro n hn;obtain⟨i,hi,rfl⟩:=List.mem_iff_getElem.1 hn;obtain⟨m,hm,hr⟩:=(jFa h.2).2 i (Nat.zero_le _) hi;rw[jJ9 hi]at hm;injection hm with hm;rw[hm];exact hr
theorem jBO{n:Nd}(h:jR n=true)(h1:n.op=1):0<=n.vn:=by
 unfold jR at h;rw[jJ6 h1]at h;simp only[Bool.and_eq_true,decide_eq_true_eq]at h;exact h.1.1.1.1.2
theorem Xv{n:Nd}(h:jR n=true)(h1:n.op=9\/n.op=10\/11<=n.op/\n.op<=22):n.kids.length=2:=by
 unfold jR at h;rw[jJ5 (by omega),jJ5 (by omega),jJ5 (by omega),jJ5 (by omega),jJ5 (by omega),jJ5 (by omega),jJ5 (by omega),jJ5 (by omega)]at h;simp only[Bool.and_eq_true,decide_eq_true_eq]at h;exact h.2.1.2
theorem Xw{n:Nd}(h:jR n=true)(h1:n.op=7\/n.op=8):n.kids.length=1:=by
 unfold jR at h;rw[jJ5 (by omega),jJ5 (by omega),jJ5 (by omega),jJ5 (by omega),jJ5 (by omega),jJ5 (by omega),jJ6 (by omega)]at h;simp only[Bool.and_eq_true,decide_eq_true_eq]at h;exact h.2.1
theorem Zy{n:Nd}(h:jR n=true)(h1:n.op=23):n.kids.length=3:=by
 unfold jR at h;rw[jJ5 (by omega),jJ5 (by omega),jJ5 (by omega),jJ5 (by omega),jJ5 (by omega),jJ5 (by omega),jJ5 (by omega),jJ6 (by omega)]at h;simp only[Bool.and_eq_true,decide_eq_true_eq]at h;exact h.2.1
theorem uX{ns:List Nd}{root:Int}{f:Nat}:∀(l:List Int) (a b:Nat),l.foldl (fun(s:Option Nat) k=>s.bind fun nx=>if root<=k then none else kW ns f k nx) (some a)=some b->∀k∈l,k<root/\∃x y,kW ns f k x=some y
 |[],_,_,_,_,hk=>by cases hk
 |q::l,a,b,h,k,hk=>by
  rw[List.foldl_cons,jL2]at h;cases e:(if root<=q then none else kW ns f q a)with
  |none=>
   rw[e]at h;have:=Kt (fun k nx=>if root<=k then none else kW ns f k nx) l;rw[this]at h;cases h
  |some c=>
   rw[e]at h;rcases jN4 hk with rfl|hk
   ·by_cases h4:root<=k
    ·rw[jJ6 h4]at e;cases e
    ·rw[jJ5 h4]at e;exact⟨by omega,a,c,e⟩
   ·exact uX l c b h k hk
def FitP(ns:List Nd)(root:Int):Prop:=∃f x y,kW ns f root x=some y
theorem FitP.node{ns:List Nd}{root:Int}(h:FitP ns root):0<=root/\∃n,ns[root.toNat]? =some n/\jR n=true/\∀k∈n.kids,k<root/\FitP ns k:=by
 obtain⟨f,x,y,h⟩:=h;cases f with
 |zero=>cases h
 |succ f=>
  rw[kW]at h;by_cases h1:root<0\/(ns.length:Int)<=root
  ·rw[jJ6 h1]at h;cases h
  ·rw[jJ5 h1]at h;cases hn:ns[root.toNat]? with
   |none=>rw[hn]at h;cases h
   |some n=>
    rw[hn]at h;simp only at h;by_cases h2:jR n=false
    ·rw[jJ6 h2]at h;cases h
    ·rw[jJ5 h2]at h;obtain⟨nx,hf,_⟩:=jM2 h;refine⟨by omega,n,rfl,by simpa using h2,fun k hk=> ?_⟩;obtain⟨h3,x,y,h4⟩:=uX n.kids x nx hf k hk;exact⟨h3,f,x,y,h4⟩
theorem uI{g:Int->Nat->LB->Option LB}:∀(l:List Int),(∀k∈l,∀r b,∃o,g k r b=some o)->∀i b,∃o,exprP.listP g l i b=some o
 |[],_,i,b=>⟨b,rfl⟩
 |k::l,h,i,b=>by
  obtain⟨o,ho⟩:=h k (List.mem_cons_self ..) 0 (if 0<i then jI b [44]else b);obtain⟨p,hp⟩:=uI l (fun q hq=>h q (jN1 _ hq)) (i+1) o;exact⟨p,by rw[exprP.listP,ho,jL2];exact hp⟩
theorem ua{ns:List Nd}:∀(g:Nat) (root:Int),FitP ns root->root.toNat<g->∀least b,∃o,exprP ns g root least b=some o
 |0,_,_,h,_,_=>absurd h (Nat.not_lt_zero _)
 |g+1,root,hF,hg,least,b=>by
  obtain⟨h0,n,hn,hr,hk⟩:=hF.node;have IH:∀k∈n.kids,∀r b,∃o,exprP ns g k r b=some o:=fun k DC r b=>by
   obtain⟨h1,h2⟩:=hk k DC;exact ua g k h2 (by have:=h2.node.1;omega) r b
  have K2:=Xv hr;have K1:=Xw hr;have K3:=Zy hr;rw[exprP,jJ5 (by omega),hn];simp only;generalize opens (jD n.op) least b=b0;have two:∀(l r:Nat) (w:LB),n.kids.length=2->∃o,(match n.kids with
     |k::q::_=>(exprP ns g k l b0).bind fun b1=>exprP ns g q r (jI b1 w)
     |_=>none)=some o:=fun l r w e=>by
   match Gn:n.kids,e with
   |[k,q],_=>
    rw[Gn]at IH;obtain⟨o1,e1⟩:=IH k (List.mem_cons_self ..) l b0;obtain⟨o2,e2⟩:=IH q (jN1 _ (List.mem_cons_self ..)) r (jI o1 w);exact⟨o2,by simp only[e1,jL2,e2]⟩
  have one:n.kids.length=1->∃o,(match n.kids with
     |k::_=>exprP ns g k (jD n.op) (jI b0 (jA n.op))
     |_=>none)=some o:=fun e=>by
   match Gn:n.kids,e with
   |[k],_=>
    rw[Gn]at IH;exact IH k (List.mem_cons_self ..) _ _
  have three:n.kids.length=3->∃o,(match n.kids with
      |a::c::d::_=>(exprP ns g a 0 (jI b0 [105,102])).bind fun b1=>(exprP ns g c 0 (jI b1 [116,104,101,110])).bind fun b2=>exprP ns g d 0 (jI b2 [101,108,115,101])
      |_=>none)=some o:=fun e=>by
   match Gn:n.kids,e with
   |[a,c,d],_=>
    rw[Gn]at IH;obtain⟨o1,e1⟩:=IH a (List.mem_cons_self ..) 0 (jI b0 [105,102]);obtain⟨o2,e2⟩:=IH c (jN1 _ (List.mem_cons_self ..)) 0 (jI o1 [116,104,101,110]);obtain⟨o3,e3⟩:=IH d (jN1 _ (jN1 _ (List.mem_cons_self ..))) 0 (jI o2 [101,108,115,101]);exact⟨o3,by simp only[e1,e2,jL2,e3]⟩
  have lst:∀(i:Nat) (b1 z:LB),∃o,(exprP.listP (exprP ns g) n.kids i b1).map (fun b2=>jI b2 z)=some o:=fun i b1 z=>by
   obtain⟨o,e⟩:=uI (g:=exprP ns g) n.kids IH i b1;exact⟨jI o z,by rw[e];rfl⟩
  have lift:∀{x:Option LB},(∃o,x=some o)->∃o,x.map (JL (jD n.op) least)=some o:=fun{x} h=>by
   obtain⟨o,e⟩:=h;exact⟨JL (jD n.op) least o,by rw[e];rfl⟩
  refine lift ?_;by_cases l0:jD n.op=0
  ·rw[jJ6 l0];exact three (K3 (by unfold jD at l0;((repeat' split at l0)<;>omega)))
  ·rw[jJ5 l0];by_cases l1:jD n.op=1\/jD n.op=2\/jD n.op=5\/jD n.op=6
   ·rw[jJ6 l1];exact two _ _ _ (K2 (by unfold jD at l1;((repeat' split at l1)<;>omega)))
   ·rw[jJ5 l1];by_cases l2:jD n.op=3\/jD n.op=7
    ·rw[jJ6 l2];exact one (K1 (by unfold jD at l2;((repeat' split at l2)<;>omega)))
    ·rw[jJ5 l2];by_cases l3:jD n.op=4
     ·rw[jJ6 l3];exact two _ _ _ (K2 (by unfold jD at l3;((repeat' split at l3)<;>omega)))
     ·rw[jJ5 l3]
      repeat' split
      all_goals first
       |exact⟨_,rfl⟩
       |exact lst _ _ _
theorem FitP.lt{ns:List Nd}{root:Int}(h:FitP ns root):root.toNat<ns.length+1:=by
 obtain⟨_,n,hn,_⟩:=h.node;have:=(jM5 hn).1;omega
theorem zY{ns:List Nd}{root:Int}(h:root<0\/FitP ns root)(ws:List LB)(b:LB):∃o,vq ns root ws b=some o:=by
 unfold vq;by_cases h0:0<=root
 ·rw[jJ6 h0];rcases h with h|h
  ·omega
  ·exact ua _ _ h h.lt _ _
 ·rw[jJ5 h0];exact⟨_,rfl⟩
theorem yK{ns:List Nd}{root:Int}{a c:Nat}(h:jV ns root a=some c):root<0\/FitP ns root:=by
 unfold jV at h;split at h
 ·left;omega
 ·exact .inr ⟨_,_,_,h⟩
theorem XV{ns:List Nd}{root:Int}(h:root<0\/FitP ns root)(w b:LB):∃o,ZZ ns root w b=some o:=by
 unfold ZZ;split
 ·obtain⟨o,e⟩:=zY h [w,[119,104,101,110]] b;exact⟨jI o [59],by rw[e];rfl⟩
 ·exact⟨_,rfl⟩
theorem KK{ns:List Nd}:∀{l:List Eff} {a c:Nat},vM ns l a=some c->∀b,∃o,ve ns l b=some o
 |[],_,_,_,b=>⟨b,rfl⟩
 |e::l,a,c,h,b=>by
  rw[vM]at h;split at h
  ·obtain⟨x,h1,h2⟩:=jM2 h;have hf:=yK h1;rw[ve];by_cases hw:e.worth<0
   ·rw[jJ6 hw,jL2];exact KK h2 _
   ·rw[jJ5 hw];obtain⟨o,eo⟩:=zY hf [tb e.name,[58,61]] b;rw[eo,jL2];exact KK h2 _
  ·cases h
theorem jEm{t:Tre}{d:Int×Int}{a c:Nat}(h:km t d a=some c)(b:LB):∃o,Kw t d b=some o:=by
 have lift:∀{x:Option LB},(∃o,x=some o)->∃o,x.map (· ++[10])=some o:=fun{x} h=>by
  obtain⟨o,e⟩:=h;exact⟨o++[10],by rw[e];rfl⟩
 unfold km at h;unfold Kw;refine lift ?_;by_cases h1:d.1=1
 ·rw[jJ6 h1]at h⊢;obtain⟨x,hx,h⟩:=jM2 h;rw[hx,jL2];unfold KW at h;split at h
  ·obtain⟨y,h2,h3⟩:=jM2 h;unfold ug;obtain⟨o1,e1⟩:=zY (yK h2) [[61]] (jI (if x.opt=true then jI (jU b [[97,116,116,114,105,98,117,116,101],tb x.name,[58]]) [111,112,116,105,111,110,97,108]else jU b [[97,116,116,114,105,98,117,116,101],tb x.name,[58]]) (Vz x.kind));obtain⟨o2,e2⟩:=zY (yK h3) [[119,104,101,110]] o1;exact⟨jI o2 [59],by simp only[e1,jL2,e2];rfl⟩
  ·cases h
 ·rw[jJ5 h1]at h⊢;by_cases h1:d.1=2
  ·rw[jJ6 h1]at h⊢;obtain⟨x,hx,h⟩:=jM2 h;rw[hx,jL2];unfold Vt at h;split at h
   ·obtain⟨y,h2,h3⟩:=jM2 h;unfold uf;obtain⟨o1,e1⟩:=XV (yK h2) [111,112,101,110,115] (jI (inP x.in_ (jU b [[115,116,97,103,101],tb x.name])) [123]);obtain⟨o2,e2⟩:=XV (yK h3) [99,108,111,115,101,115] o1;exact⟨jI o2 [125],by rw[e1,jL2,e2];rfl⟩
   ·cases h
  ·rw[jJ5 h1]at h⊢;by_cases h1:d.1=3
   ·rw[jJ6 h1]at h⊢;obtain⟨x,hx,h⟩:=jM2 h;rw[hx,jL2];unfold Jw at h;split at h
    ·unfold Zg;obtain⟨o1,e1⟩:=zY (.inr ⟨_,_,_,h⟩:x.when_ <0\/FitP t.nodes x.when_) [[114,101,97,99,104,101,100],[119,104,101,110]] (inP x.in_ (jU b [[109,105,108,101,115,116,111,110,101],tb x.name]));exact⟨jI o1 [59],by rw[e1];rfl⟩
    ·cases h
   ·rw[jJ5 h1]at h⊢;obtain⟨x,hx,h⟩:=jM2 h;rw[hx,jL2];unfold Jv at h;split at h
    ·obtain⟨y,h2,h3⟩:=jM2 h;unfold xM;obtain⟨o1,e1⟩:=zY (yK h2) [[119,104,101,110]] (inP x.in_ (jI (vj x.params 0 (jU b [[115,116,101,112],tb x.name,[40]])) [41]));obtain⟨o2,e2⟩:=KK h3 (jI o1 [123]);exact⟨jI o2 [125],by rw[e1,jL2,e2];rfl⟩
    ·cases h
theorem ue{t:Tre}:∀{l:List (Int×Int)} {a c:Nat},kG t l a=some c->∀b,∃o,yx t l b=some o
 |[],_,_,_,b=>⟨b,rfl⟩
 |d::l,a,c,h,b=>by
  rw[kG]at h;obtain⟨x,h1,h2⟩:=jM2 h;obtain⟨o,e⟩:=jEm h1 b;rw[yx,e,jL2];exact ue h2 o
theorem jCV{t:Tre}(h:Qk t=true):∃o,qI t=some o:=by
 unfold Qk at h;rw[Bool.and_eq_true,Bool.and_eq_true,decide_eq_true_eq]at h;obtain⟨o,e⟩:=ue h.2 (jU [] [[116,121,112,101],tb t.name,[123]]++[10]);exact⟨o++[125,10],by unfold qI;rw[e];rfl⟩
theorem Kj{fam:Int}{i:Nat}{o:Int}{s:LayP}(hl: -1<=s.last): -1<=(Jp fam i o s).last:=by
 unfold Jp;simp only;have h1:(-1:Int)<=(if i=0 then-1 else s.last):=by split<;>omega
 generalize (if i=0 then(-1:Int)else s.last)=L at*;split
 ·exact h1
 ·rename_i hc;have:¬o<=L:=fun e=>hc (.inl e);simp only;omega
theorem jGw{fam:Int}{i:Nat}{o:Int}{s:LayP}(h:(Jp fam i o s).ok=true)(hf:fam≠0)(hl: -1<=s.last):s.ok=true/\(Jp fam i o s).l.count (0,0)+1=s.l.count (0,0)/\∀d∈(Jp fam i o s).l,d∈s.l\/d=(fam,(i:Int)):=by
 unfold Jp at h⊢;simp only at h⊢;have h0:(-1:Int)<=(if i=0 then-1 else s.last):=by split<;>omega
 generalize (if i=0 then(-1:Int)else s.last)=L at*;by_cases hc:o<=L\/(s.l.length:Int)<=o\/s.l.getD o.toNat (0,0)≠(0,0)
 ·rw[jJ6 hc]at h;cases h
 ·rw[jJ5 hc]at h⊢;have h1:¬(s.l.length:Int)<=o:=fun e=>hc (.inr (.inl e));have h2:s.l.getD o.toNat (0,0)=(0,0):=Classical.not_not.1 fun e=>hc (.inr (.inr e));have h3:¬o<=L:=fun e=>hc (.inl e);have hlt:o.toNat<s.l.length:=(by omega);rw[List.getD_eq_getElem?_getD,jJ9 hlt,Option.getD_some]at h2;refine⟨h,?_,fun d hd=> ?_⟩
  ·show(s.l.set o.toNat (fam,(i:Int))).count (0,0)+1=_;rw[List.count_set hlt,h2];have h5:0<s.l.count (0,0):=List.count_pos_iff.2 (h2▸jL6 hlt);have h6:((fam,(i:Int))==((0:Int),(0:Int)))=false:=by
    rw[beq_eq_false_iff_ne];exact fun e=>hf (Prod.mk.inj e).1
   rw[h6];simp only[beq_self_eq_true,if_true,Bool.false_eq_true,if_false];omega
  ·rcases List.mem_or_eq_of_mem_set hd with q|q
   ·exact .inl q
   ·exact .inr q
theorem kf{fam:Int}:∀(os:List Int) (i:Nat) (s:LayP),-1<=s.last-> -1<=(jY fam os i s).last
 |[],_,_,h=>h
 |_::os,i,_,h=>kf os (i+1) _ (Kj h)
theorem yD{fam:Int}(hf:fam≠0):∀(os:List Int) (i:Nat) (s:LayP),-1<=s.last->(jY fam os i s).ok=true->s.ok=true/\(jY fam os i s).l.count (0,0)+os.length=s.l.count (0,0)/\∀d∈(jY fam os i s).l,d∈s.l\/(d.1=fam/\0<=d.2)
 |[],_,s,_,h=>⟨h,rfl,fun d hd=>.inl hd⟩
 |o::os,i,s,hl,h=>by
  obtain⟨h1,h2,h3⟩:=yD hf os (i+1) (Jp fam i o s) (Kj hl) h;obtain⟨k1,k2,k3⟩:=jGw h1 hf hl;refine⟨k1,?_,fun d hd=> ?_⟩
  ·rw[jK6];show(jY fam os (i+1) (Jp fam i o s)).l.count (0,0)+(os.length+1)=_;omega
  ·rcases h3 d hd with q|q
   ·rcases k3 d q with q|rfl
    ·exact .inl q
    ·exact .inr ⟨rfl,by simp⟩
   ·exact .inr q
theorem Xr{t:Tre}(h:(jx t).ok=true):∀d∈(jx t).l,(d.1=1\/d.1=2\/d.1=3\/d.1=4)/\0<=d.2:=by
 unfold jx at h⊢;have l0:(-1:Int)<=(⟨List.replicate t.count (0,0),-1,true⟩:LayP).last:=Int.le_refl _;obtain⟨h1,c1,m1⟩:=yD (by decide) _ _ _ (kf _ _ _ (kf _ _ _ (kf _ _ _ l0))) h;obtain⟨h2,c2,m2⟩:=yD (by decide) _ _ _ (kf _ _ _ (kf _ _ _ l0)) h1;obtain⟨h3,c3,m3⟩:=yD (by decide) _ _ _ (kf _ _ _ l0) h2;obtain⟨h4,c4,m4⟩:=yD (by decide) _ _ _ l0 h3;simp only[jK7]at c1 c2 c3 c4;rw[List.count_replicate_self]at c4;have hc:t.count=t.attrs.length+t.stages.length+t.miles.length+t.steps.length:=rfl;intro d hd;rcases m1 d hd with q|q
 ·rcases m2 d q with q|q
  ·rcases m3 d q with q|q
   ·rcases m4 d q with q|q
    ·exfalso;rw[List.mem_replicate]at q;rw[q.2]at hd;have:=List.count_pos_iff.2 hd;omega
    ·exact⟨.inl q.1,q.2⟩
   ·exact⟨.inr (.inl q.1),q.2⟩
  ·exact⟨.inr (.inr (.inl q.1)),q.2⟩
 ·exact⟨.inr (.inr (.inr q.1)),q.2⟩
end Go.Proofs.YtmmjcbbogokmfaaGreatDoor

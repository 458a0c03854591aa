import Derived.Test.YtmmjcbbogokmfaaGreatDoorMp12
set_option maxRecDepth 100000
set_option maxHeartbeats 25600000
namespace Go.Proofs.YtmmjcbbogokmfaaGreatDoor
open Go.Proofs.Tryz
theorem xT{ns:List Nd}:∀(g:Nat) (root:Int),FitP ns root->root.toNat<g->∀least b,∃o,exprP ns g root least b=some o
 |0,_,_,h,_,_=>absurd h (Nat.not_lt_zero _)
 |g+1,root,hF,hg,least,b=>by
  obtain⟨h0,n,hn,hr,hk⟩:=hF.node;have IH:∀k∈n.kids,∀r b,∃o,exprP ns g k r b=some o:=fun k AD r b=>by
   obtain⟨h1,h2⟩:=hk k AD;exact xT g k h2 (by have:=h2.node.1;omega) r b
  have K2:=Zo hr;have K1:=Zp hr;have K3:=Kz hr;rw[exprP,jJ5 (by omega),hn];simp only;generalize opens (jD n.op) least b=b0;have two:∀(l r:Nat) (w:LB),n.kids.length=2->∃o,(match n.kids with
     |k::q::_=>(exprP ns g k l b0).bind fun b1=>exprP ns g q r (jI b1 w)
     |_=>none)=some o:=fun l r w e=>by
   match LL:n.kids,e with
   |[k,q],_=>
    rw[LL]at IH;obtain⟨o1,e1⟩:=IH k (List.mem_cons_self ..) l b0;obtain⟨o2,e2⟩:=IH q (jN1 _ (List.mem_cons_self ..)) r (jI o1 w);exact⟨o2,by simp only[e1,jL2,e2]⟩
  have one:n.kids.length=1->∃o,(match n.kids with
     |k::_=>exprP ns g k (jD n.op) (jI b0 (jA n.op))
     |_=>none)=some o:=fun e=>by
   match LL:n.kids,e with
   |[k],_=>
    rw[LL]at IH;exact IH k (List.mem_cons_self ..) _ _
  have three:n.kids.length=3->∃o,(match n.kids with
      |a::c::d::_=>(exprP ns g a 0 (jI b0 [105,102])).bind fun b1=>(exprP ns g c 0 (jI b1 [116,104,101,110])).bind fun b2=>exprP ns g d 0 (jI b2 [101,108,115,101])
      |_=>none)=some o:=fun e=>by
   match LL:n.kids,e with
   |[a,c,d],_=>
    rw[LL]at IH;obtain⟨o1,e1⟩:=IH a (List.mem_cons_self ..) 0 (jI b0 [105,102]);obtain⟨o2,e2⟩:=IH c (jN1 _ (List.mem_cons_self ..)) 0 (jI o1 [116,104,101,110]);obtain⟨o3,e3⟩:=IH d (jN1 _ (jN1 _ (List.mem_cons_self ..))) 0 (jI o2 [101,108,115,101]);exact⟨o3,by simp only[e1,e2,jL2,e3]⟩
  have lst:∀(i:Nat) (b1 z:LB),∃o,(exprP.listP (exprP ns g) n.kids i b1).map (fun b2=>jI b2 z)=some o:=fun i b1 z=>by
   obtain⟨o,e⟩:=xF (g:=exprP ns g) n.kids IH i b1;exact⟨jI o z,by rw[e];rfl⟩
  have lift:∀{x:Option LB},(∃o,x=some o)->∃o,x.map (JE (jD n.op) least)=some o:=fun{x} h=>by
   obtain⟨o,e⟩:=h;exact⟨JE (jD n.op) least o,by rw[e];rfl⟩
  refine lift ?_;by_cases l0:jD n.op=0
  ·rw[jJ6 l0];exact three (K3 (by unfold jD at l0;((repeat' split at l0)<;>omega)))
  ·rw[jJ5 l0];by_cases l1:jD n.op=1\/jD n.op=2\/jD n.op=5\/jD n.op=6
   ·rw[jJ6 l1];exact two _ _ _ (K2 (by unfold jD at l1;((repeat' split at l1)<;>omega)))
   ·rw[jJ5 l1];by_cases l2:jD n.op=3\/jD n.op=7
    ·rw[jJ6 l2];exact one (K1 (by unfold jD at l2;((repeat' split at l2)<;>omega)))
    ·rw[jJ5 l2];by_cases l3:jD n.op=4
     ·rw[jJ6 l3];exact two _ _ _ (K2 (by unfold jD at l3;((repeat' split at l3)<;>omega)))
     ·rw[jJ5 l3]
      repeat' split
      all_goals first
       |exact⟨_,rfl⟩
       |exact lst _ _ _
theorem FitP.lt{ns:List Nd}{root:Int}(h:FitP ns root):root.toNat<ns.length+1:=by
 obtain⟨_,n,hn,_⟩:=h.node;have:=(jM5 hn).1;omega
theorem zW{ns:List Nd}{root:Int}(h:root<0\/FitP ns root)(ws:List LB)(b:LB):∃o,vY ns root ws b=some o:=by
 unfold vY;by_cases h0:0<=root
 ·rw[jJ6 h0];rcases h with h|h
  ·omega
  ·exact xT _ _ h h.lt _ _
 ·rw[jJ5 h0];exact⟨_,rfl⟩
theorem yC{ns:List Nd}{root:Int}{a c:Nat}(h:jX ns root a=some c):root<0\/FitP ns root:=by
 unfold jX at h;split at h
 ·left;omega
 ·exact .inr ⟨_,_,_,h⟩
theorem QG{ns:List Nd}{root:Int}(h:root<0\/FitP ns root)(w b:LB):∃o,Ym ns root w b=some o:=by
 unfold Ym;split
 ·obtain⟨o,e⟩:=zW h [w,[119,104,101,110]] b;exact⟨jI o [59],by rw[e];rfl⟩
 ·exact⟨_,rfl⟩
theorem Js{ns:List Nd}:∀{l:List Eff} {a c:Nat},vE ns l a=some c->∀b,∃o,vQ ns l b=some o
 |[],_,_,_,b=>⟨b,rfl⟩
 |e::l,a,c,h,b=>by
  rw[vE]at h;split at h
  ·obtain⟨x,h1,h2⟩:=jM2 h;have hf:=yC h1;rw[vQ];by_cases hw:e.worth<0
   ·rw[jJ6 hw,jL2];exact Js h2 _
   ·rw[jJ5 hw];obtain⟨o,eo⟩:=zW hf [tb e.name,[58,61]] b;rw[eo,jL2];exact Js h2 _
  ·cases h
theorem jDh{t:Tre}{d:Int×Int}{a c:Nat}(h:kZ t d a=some c)(b:LB):∃o,Kg t d b=some o:=by
 have lift:∀{x:Option LB},(∃o,x=some o)->∃o,x.map (· ++[10])=some o:=fun{x} h=>by
  obtain⟨o,e⟩:=h;exact⟨o++[10],by rw[e];rfl⟩
 unfold kZ at h;unfold Kg;refine lift ?_;by_cases h1:d.1=1
 ·rw[jJ6 h1]at h⊢;obtain⟨x,hx,h⟩:=jM2 h;rw[hx,jL2];unfold KI at h;split at h
  ·obtain⟨y,h2,h3⟩:=jM2 h;unfold xd;obtain⟨o1,e1⟩:=zW (yC h2) [[61]] (jI (if x.opt=true then jI (jT b [[97,116,116,114,105,98,117,116,101],tb x.name,[58]]) [111,112,116,105,111,110,97,108]else jT b [[97,116,116,114,105,98,117,116,101],tb x.name,[58]]) (YX x.kind));obtain⟨o2,e2⟩:=zW (yC h3) [[119,104,101,110]] o1;exact⟨jI o2 [59],by simp only[e1,jL2,e2];rfl⟩
  ·cases h
 ·rw[jJ5 h1]at h⊢;by_cases h1:d.1=2
  ·rw[jJ6 h1]at h⊢;obtain⟨x,hx,h⟩:=jM2 h;rw[hx,jL2];unfold VM at h;split at h
   ·obtain⟨y,h2,h3⟩:=jM2 h;unfold xb;obtain⟨o1,e1⟩:=QG (yC h2) [111,112,101,110,115] (jI (inP x.in_ (jT b [[115,116,97,103,101],tb x.name])) [123]);obtain⟨o2,e2⟩:=QG (yC h3) [99,108,111,115,101,115] o1;exact⟨jI o2 [125],by rw[e1,jL2,e2];rfl⟩
   ·cases h
  ·rw[jJ5 h1]at h⊢;by_cases h1:d.1=3
   ·rw[jJ6 h1]at h⊢;obtain⟨x,hx,h⟩:=jM2 h;rw[hx,jL2];unfold Jd at h;split at h
    ·unfold Yt;obtain⟨o1,e1⟩:=zW (.inr ⟨_,_,_,h⟩:x.when_ <0\/FitP t.nodes x.when_) [[114,101,97,99,104,101,100],[119,104,101,110]] (inP x.in_ (jT b [[109,105,108,101,115,116,111,110,101],tb x.name]));exact⟨jI o1 [59],by rw[e1];rfl⟩
    ·cases h
   ·rw[jJ5 h1]at h⊢;obtain⟨x,hx,h⟩:=jM2 h;rw[hx,jL2];unfold Jc at h;split at h
    ·obtain⟨y,h2,h3⟩:=jM2 h;unfold Zy;obtain⟨o1,e1⟩:=zW (yC h2) [[119,104,101,110]] (inP x.in_ (jI (vW x.params 0 (jT b [[115,116,101,112],tb x.name,[40]])) [41]));obtain⟨o2,e2⟩:=Js h3 (jI o1 [123]);exact⟨jI o2 [125],by rw[e1,jL2,e2];rfl⟩
    ·cases h
theorem xZ{t:Tre}:∀{l:List (Int×Int)} {a c:Nat},jw t l a=some c->∀b,∃o,yu t l b=some o
 |[],_,_,_,b=>⟨b,rfl⟩
 |d::l,a,c,h,b=>by
  rw[jw]at h;obtain⟨x,h1,h2⟩:=jM2 h;obtain⟨o,e⟩:=jDh h1 b;rw[yu,e,jL2];exact xZ h2 o
theorem jBX{t:Tre}(h:ua t=true):∃o,ZR t=some o:=by
 unfold ua at h;rw[Bool.and_eq_true,Bool.and_eq_true,decide_eq_true_eq]at h;obtain⟨o,e⟩:=xZ h.2 (jT [] [[116,121,112,101],tb t.name,[123]]++[10]);exact⟨o++[125,10],by unfold ZR;rw[e];rfl⟩
theorem KR{fam:Int}{i:Nat}{o:Int}{s:LayP}(hl: -1<=s.last): -1<=(JX fam i o s).last:=by
 unfold JX;simp only;have h1:(-1:Int)<=(if i=0 then-1 else s.last):=by split<;>omega
 generalize (if i=0 then(-1:Int)else s.last)=L at*;split
 ·exact h1
 ·rename_i hc;have:¬o<=L:=fun e=>hc (.inl e);simp only;omega
theorem jFN{fam:Int}{i:Nat}{o:Int}{s:LayP}(h:(JX fam i o s).ok=true)(hf:fam≠0)(hl: -1<=s.last):s.ok=true/\(JX fam i o s).l.count (0,0)+1=s.l.count (0,0)/\∀d∈(JX fam i o s).l,d∈s.l\/d=(fam,(i:Int)):=by
 unfold JX at h⊢;simp only at h⊢;have h0:(-1:Int)<=(if i=0 then-1 else s.last):=by split<;>omega
 generalize (if i=0 then(-1:Int)else s.last)=L at*;by_cases hc:o<=L\/(s.l.length:Int)<=o\/s.l.getD o.toNat (0,0)≠(0,0)
 ·rw[jJ6 hc]at h;cases h
 ·rw[jJ5 hc]at h⊢;have h1:¬(s.l.length:Int)<=o:=fun e=>hc (.inr (.inl e));have h2:s.l.getD o.toNat (0,0)=(0,0):=Classical.not_not.1 fun e=>hc (.inr (.inr e));have h3:¬o<=L:=fun e=>hc (.inl e);have hlt:o.toNat<s.l.length:=(by omega);rw[List.getD_eq_getElem?_getD,jJ9 hlt,Option.getD_some]at h2;refine⟨h,?_,fun d hd=> ?_⟩
  ·show(s.l.set o.toNat (fam,(i:Int))).count (0,0)+1=_;rw[List.count_set hlt,h2];have h5:0<s.l.count (0,0):=List.count_pos_iff.2 (h2▸jL6 hlt);have h6:((fam,(i:Int))==((0:Int),(0:Int)))=false:=by
    rw[beq_eq_false_iff_ne];exact fun e=>hf (Prod.mk.inj e).1
   rw[h6];simp only[beq_self_eq_true,if_true,Bool.false_eq_true,if_false];omega
  ·rcases List.mem_or_eq_of_mem_set hd with q|q
   ·exact .inl q
   ·exact .inr q
theorem kV{fam:Int}:∀(os:List Int) (i:Nat) (s:LayP),-1<=s.last-> -1<=(ja fam os i s).last
 |[],_,_,h=>h
 |_::os,i,_,h=>kV os (i+1) _ (KR h)
theorem vq{fam:Int}(hf:fam≠0):∀(os:List Int) (i:Nat) (s:LayP),-1<=s.last->(ja fam os i s).ok=true->s.ok=true/\(ja fam os i s).l.count (0,0)+os.length=s.l.count (0,0)/\∀d∈(ja fam os i s).l,d∈s.l\/(d.1=fam/\0<=d.2)
 |[],_,s,_,h=>⟨h,rfl,fun d hd=>.inl hd⟩
 |o::os,i,s,hl,h=>by
  obtain⟨h1,h2,h3⟩:=vq hf os (i+1) (JX fam i o s) (KR hl) h;obtain⟨k1,k2,k3⟩:=jFN h1 hf hl;refine⟨k1,?_,fun d hd=> ?_⟩
  ·rw[jK6];show(ja fam os (i+1) (JX fam i o s)).l.count (0,0)+(os.length+1)=_;omega
  ·rcases h3 d hd with q|q
   ·rcases k3 d q with q|rfl
    ·exact .inl q
    ·exact .inr ⟨rfl,by simp⟩
   ·exact .inr q
theorem Qh{t:Tre}(h:(jv t).ok=true):∀d∈(jv t).l,(d.1=1\/d.1=2\/d.1=3\/d.1=4)/\0<=d.2:=by
 unfold jv at h⊢;have l0:(-1:Int)<=(⟨List.replicate t.count (0,0),-1,true⟩:LayP).last:=Int.le_refl _;obtain⟨h1,c1,m1⟩:=vq (by decide) _ _ _ (kV _ _ _ (kV _ _ _ (kV _ _ _ l0))) h;obtain⟨h2,c2,m2⟩:=vq (by decide) _ _ _ (kV _ _ _ (kV _ _ _ l0)) h1;obtain⟨h3,c3,m3⟩:=vq (by decide) _ _ _ (kV _ _ _ l0) h2;obtain⟨h4,c4,m4⟩:=vq (by decide) _ _ _ l0 h3;simp only[jK7]at c1 c2 c3 c4;rw[List.count_replicate_self]at c4;have hc:t.count=t.attrs.length+t.stages.length+t.miles.length+t.steps.length:=rfl;intro d hd;rcases m1 d hd with q|q
 ·rcases m2 d q with q|q
  ·rcases m3 d q with q|q
   ·rcases m4 d q with q|q
    ·exfalso;rw[List.mem_replicate]at q;rw[q.2]at hd;have:=List.count_pos_iff.2 hd;omega
    ·exact⟨.inl q.1,q.2⟩
   ·exact⟨.inr (.inl q.1),q.2⟩
  ·exact⟨.inr (.inr (.inl q.1)),q.2⟩
 ·exact⟨.inr (.inr (.inr q.1)),q.2⟩
structure Wr9 where
 ok:Bool
 used:Nat
 b:LB
def Wr9.put(s:Wr9)(x:LB):Wr9:=⟨s.ok,s.used,jI s.b x⟩
def Wr9.bad(s:Wr9):Wr9:=⟨false,s.used,s.b⟩
def Wr9.named(s:Wr9)(x:BA):Wr9:=if jb x=true then s.put (tb x)else s.bad
def Wr9.inn(s:Wr9)(x:BA):Wr9:=if x.size=0 then s else(s.put [105,110]).named x
def Wr9.kind(s:Wr9)(k:Int):Wr9:=if kq k=true then s.put (YX k)else s.bad
def Wr9.done(s:Wr9)(root:Int):Wr9:=⟨s.ok&&decide (root=(s.used:Int)),s.used+1,s.b⟩
def ki(g:Int->Nat->Wr9->Wr9):List Int->Nat->Wr9->Wr9
 |[],_,s=>s
 |k::l,i,s=>if s.ok=true then ki g l (i+1) (g k 0 (if 0<i then s.put [44]else s))else s
def kK(g:Int->Nat->Wr9->Wr9)(n:Nd)(s:Wr9):Wr9:=
 if n.op=1 then s.put (qF n.vn)
 else if n.op=2 then s.put (if n.vn=1 then [116,114,117,101]else [102,97,108,115,101])
 else if n.op=3 then s.put (kw (tb n.vt))
 else if n.op=4 then s.put [110,111,116,104,105,110,103]
 else if n.op=5 then s.put (tb n.name)
 else if n.op=6 then(ki g n.kids 0 (let s1:=s.put [123];if n.name.size=0 then s1 else s1.put (tb n.name))).put [125]
 else(ki g n.kids 0 (let s1:=(s.put (jA n.op)).put [40];if n.name.size=0 then s1 else s1.put (tb n.name))).put [41]
def zf(g:Int->Nat->Wr9->Wr9)(n:Nd)(s:Wr9):Wr9:=
 if n.op=23 then g (n.kids.getD 2 0) 0 ((g (n.kids.getD 1 0) 0 ((g (n.kids.getD 0 0) 0 (s.put [105,102])).put [116,104,101,110])).put [101,108,115,101])
 else if jD n.op=3\/jD n.op=7 then g (n.kids.getD 0 0) (jD n.op) (s.put (jA n.op))
 else if jD n.op<8 then g (n.kids.getD 1 0) (jD n.op+1) ((g (n.kids.getD 0 0) (if jD n.op=4 then 5 else jD n.op) s).put (jA n.op))
 else kK g n s
def Zk(g:Int->Nat->Wr9->Wr9)(n:Nd)(root:Int)(least:Nat)(s:Wr9):Wr9:=
 let s1:=zf g n (if jD n.op<least then s.put [40]else s)
 (if jD n.op<least then s1.put [41]else s1).done root
def jU(ns:List Nd):Nat->Int->Int->Nat->Wr9->Wr9
 |0,_,_,_,s=>s.bad
 |f+1,root,below,least,s=>
  if s.ok=true/\0<=root/\root<below then
   match ns[root.toNat]? with
   |none=>s.bad
   |some n=>if jK n=true then Zk (fun k l s=>jU ns f k root l s) n root least s else s.bad
  else s.bad
def jx(ns:List Nd)(root:Int)(s:Wr9):Wr9:=jU ns (ns.length+1) root ns.length 0 s
def QK(ns:List Nd)(a:Atr)(s:Wr9):Wr9:=
 let s1:=((s.put [97,116,116,114,105,98,117,116,101]).named a.name).put [58]
 let s2:=(if a.opt=true then s1.put [111,112,116,105,111,110,97,108]else s1).kind a.kind
 let s3:=if a.dflt= -1 then s2 else jx ns a.dflt (s2.put [61])
 let s4:=if a.when_= -1 then s3 else jx ns a.when_ (s3.put [119,104,101,110])
 s4.put [59]
def yx(ns:List Nd)(w:LB)(root:Int)(s:Wr9):Wr9:=if root= -1 then s else(jx ns root ((s.put w).put [119,104,101,110])).put [59]
def XO(ns:List Nd)(a:Stg)(s:Wr9):Wr9:=
 (yx ns [99,108,111,115,101,115] a.closes (yx ns [111,112,101,110,115] a.opens ((((s.put [115,116,97,103,101]).named a.name).inn a.in_).put [123]))).put [125]
def XN(ns:List Nd)(a:Mil)(s:Wr9):Wr9:=
 (jx ns a.when_ (((((s.put [109,105,108,101,115,116,111,110,101]).named a.name).inn a.in_).put [114,101,97,99,104,101,100]).put [119,104,101,110])).put [59]
def JK:List Prm->Nat->Wr9->Wr9
 |[],_,s=>s
 |p::l,i,s=>JK l (i+1) ((((if 0<i then s.put [44]else s).named p.name).put [58]).kind p.kind)
def zm(ns:List Nd):List Eff->Wr9->Wr9
 |[],s=>s
 |e::l,s=>zm ns l ((if e.worth= -1 then(s.put [114,101,111,112,101,110]).named e.name else jx ns e.worth ((s.named e.name).put [58,61])).put [59])
def QJ(ns:List Nd)(a:Stp)(s:Wr9):Wr9:=
 let s1:=((JK a.params 0 (((s.put [115,116,101,112]).named a.name).put [40])).put [41]).inn a.in_
 let s2:=if a.when_= -1 then s1 else jx ns a.when_ (s1.put [119,104,101,110])
 (zm ns a.effects (s2.put [123])).put [125]
structure Mg9 where
 a:Nat
 s:Nat
 m:Nat
 p:Nat
def yd(l:List Int)(k:Nat)(i:Nat):Bool:=decide (l[k]? =some (i:Int))
def zQ(t:Tre)(c:Mg9)(i:Nat):Option (Int×Nat):=
 if yd (t.attrs.map Atr.order) c.a i=true then some (1,c.a)
 else if yd (t.stages.map Stg.order) c.s i=true then some (2,c.s)
 else if yd (t.miles.map Mil.order) c.m i=true then some (3,c.m)
 else if yd (t.steps.map Stp.order) c.p i=true then some (4,c.p)
 else none
def Mg9.go(c:Mg9)(fam:Int):Mg9:=if fam=1 then⟨c.a+1,c.s,c.m,c.p⟩else if fam=2 then⟨c.a,c.s+1,c.m,c.p⟩else if fam=3 then⟨c.a,c.s,c.m+1,c.p⟩else⟨c.a,c.s,c.m,c.p+1⟩
def qg(t:Tre)(d:Int×Nat)(s:Wr9):Wr9:=
 if d.1=1 then(match t.attrs[d.2]? with|some a=>QK t.nodes a s|none=>s)
 else if d.1=2 then(match t.stages[d.2]? with|some a=>XO t.nodes a s|none=>s)
 else if d.1=3 then(match t.miles[d.2]? with|some a=>XN t.nodes a s|none=>s)
 else(match t.steps[d.2]? with|some a=>QJ t.nodes a s|none=>s)
def Wr9.nl(s:Wr9):Wr9:=⟨s.ok,s.used,s.b++[10]⟩
def JM(t:Tre):Nat->Nat->Mg9->Wr9->Wr9
 |0,_,_,s=>s
 |n+1,i,c,s=>
  if s.ok=true then
   match zQ t c i with
   |some d=>JM t n (i+1) (c.go d.1) (qg t d s).nl
   |none=>JM t n (i+1) c s.bad.nl
  else s
def Yw(t:Tre):Wr9:=(((⟨true,0,[]⟩:Wr9).put [116,121,112,101]).named t.name).put [123]|>.nl
def xX(t:Tre):Wr9:=JM t t.count 0 ⟨0,0,0,0⟩ (Yw t)
def UD(t:Tre):Option LB:=if(xX t).ok=true/\(xX t).used=t.nodes.length then some ((xX t).b++[125,10])else none
--what is written only jFe
def Wr9.le(s s' :Wr9):Prop:=s.b.length<=s'.b.length
theorem Wr9.le.refl(s:Wr9):s.le s:=jL3 _
theorem Wr9.le.trans{s s1 s2:Wr9}(h:s.le s1)(k:s1.le s2):s.le s2:=jL4 h k
theorem jAZ(b x:LB):b.length<=(jI b x).length/\x.length<=(jI b x).length/\(jI b x).length<=b.length+1+x.length:=by
 unfold jI;split
 ·simp only[jJ4];omega
 ·simp only[jJ4,List.length_singleton];omega
theorem Wr9.le_put(s:Wr9)(x:LB):s.le (s.put x):=(jAZ s.b x).1
theorem Wr9.le_bad(s:Wr9):s.le s.bad:=jL3 _
theorem Wr9.le_done(s:Wr9)(r:Int):s.le (s.done r):=jL3 _
theorem Wr9.le_named(s:Wr9)(x:BA):s.le (s.named x):=by
 unfold Wr9.named;split
 ·exact s.le_put _
 ·exact s.le_bad
theorem Wr9.le_inn(s:Wr9)(x:BA):s.le (s.inn x):=by
 unfold Wr9.inn;split
 ·exact .refl _
 ·exact(s.le_put _).trans (Wr9.le_named _ _)
theorem Wr9.le_kind(s:Wr9)(k:Int):s.le (s.kind k):=by
 unfold Wr9.kind;split
 ·exact s.le_put _
 ·exact s.le_bad
theorem Wr9.le_nl(s:Wr9):s.le s.nl:=by
 unfold Wr9.le Wr9.nl;simp only[jJ4];omega
theorem KQ{p:Prop}[Decidable p]{s a b:Wr9}(h:s.le a)(k:s.le b):s.le (if p then a else b):=by
 split
 ·exact h
 ·exact k
theorem vo{g:Int->Nat->Wr9->Wr9}(hg:∀(k:Int) (l:Nat) (s:Wr9),s.le (g k l s)):∀(l:List Int) (i:Nat) (s:Wr9),s.le (ki g l i s)
 |[],_,s=>.refl s
 |k::l,i,s=>by
  rw[ki];split
  ·exact((KQ (s.le_put _) (.refl s)).trans (hg _ _ _)).trans (vo hg l _ _)
  ·exact .refl _
theorem jDv{g:Int->Nat->Wr9->Wr9}(hg:∀(k:Int) (l:Nat) (s:Wr9),s.le (g k l s))(n:Nd)(s:Wr9):s.le (zf g n s):=by
 unfold zf;split
 ·exact(((((s.le_put _).trans (hg _ _ _)).trans (Wr9.le_put _ _)).trans (hg _ _ _)).trans (Wr9.le_put _ _)).trans (hg _ _ _)
 split
 ·exact(s.le_put _).trans (hg _ _ _)
 split
 ·exact((hg _ _ _).trans (Wr9.le_put _ _)).trans (hg _ _ _)
 unfold kK;split
 ·exact s.le_put _
 split
 ·exact s.le_put _
 split
 ·exact s.le_put _
 split
 ·exact s.le_put _
 split
 ·exact s.le_put _
 split
 ·exact(((s.le_put [123]).trans (KQ (.refl _) (Wr9.le_put _ _))).trans (vo hg _ _ _)).trans (Wr9.le_put _ _)
 ·exact((((s.le_put (jA n.op)).trans (Wr9.le_put _ [40])).trans (KQ (.refl _) (Wr9.le_put _ _))).trans (vo hg _ _ _)).trans (Wr9.le_put _ _)
theorem jC0{g:Int->Nat->Wr9->Wr9}(hg:∀(k:Int) (l:Nat) (s:Wr9),s.le (g k l s))(n:Nd)(root:Int)(least:Nat)(s:Wr9):s.le (Zk g n root least s):=by
 unfold Zk;exact(((KQ (s.le_put _) (.refl s)).trans (jDv hg n _)).trans (KQ (Wr9.le_put _ _) (.refl _))).trans (Wr9.le_done _ _)
theorem yI(ns:List Nd):∀(f:Nat) (root below:Int) (least:Nat) (s:Wr9),s.le (jU ns f root below least s)
 |0,_,_,_,s=>s.le_bad
 |f+1,root,below,least,s=>by
  rw[jU];split
  ·split
   ·exact s.le_bad
   ·split
    ·exact jC0 (fun k l s=>yI ns f k root l s) _ _ _ _
    ·exact s.le_bad
  ·exact s.le_bad
theorem yM(ns:List Nd)(root:Int)(s:Wr9):s.le (jx ns root s):=yI _ _ _ _ _ _
def Met(o:Option Nat)(ob:Option LB)(s:Wr9):Prop:=(∀nx,o=some nx->∃b,ob=some b/\s=⟨true,nx,b⟩)/\(o=none->s.ok=false)
theorem Met.yes(nx:Nat)(b:LB):Met (some nx) (some b) ⟨true,nx,b⟩:=⟨fun n e=>⟨b,rfl,by injection e with e;rw[e]⟩,fun e=>(by cases e)⟩
theorem Met.no{ob:Option LB}{s:Wr9}(h:s.ok=false):Met none ob s:=⟨fun n e=>(by cases e),fun _=>h⟩
theorem Met.next{o:Option Nat}{ob:Option LB}{s:Wr9}(h:Met o ob s){F:Nat->Option Nat}{jG9:LB->Option LB}{H:Wr9->Wr9}(hn:s.ok=false->(H s).ok=false)(hy:∀nx b,o=some nx->Met (F nx) (jG9 b) (H ⟨true,nx,b⟩)):Met (o.bind F) (ob.bind jG9) (H s):=by
 cases o with
 |none=>exact Met.no (hn (h.2 rfl))
 |some nx=>
  obtain⟨b,e1,e2⟩:=h.1 nx rfl;subst e1 e2;exact hy nx b rfl
theorem Met.map{o:Option Nat}{ob:Option LB}{s:Wr9}(h:Met o ob s){jG9:LB->LB}{H:Wr9->Wr9}(hn:s.ok=false->(H s).ok=false)(hy:∀nx b,o=some nx->H ⟨true,nx,b⟩=⟨true,nx,jG9 b⟩):Met o (ob.map jG9) (H s):=by
 cases o with
 |none=>exact Met.no (hn (h.2 rfl))
 |some nx=>
  obtain⟨b,e1,e2⟩:=h.1 nx rfl;subst e1 e2;rw[hy nx b rfl];exact Met.yes _ _
def UE(ns:List Nd)(f:Nat)(root:Int)(l:List Int)(o:Option Nat):Option Nat:=l.foldl (fun(s:Option Nat) k=>s.bind fun nx=>if root<=k then none else kQ ns f k nx) o
theorem jBG(ns:List Nd)(f:Nat)(root:Int)(l:List Int):UE ns f root l none=none:=KZ (fun k nx=>if root<=k then none else kQ ns f k nx) l
theorem KT(ns:List Nd)(f:Nat)(root k:Int)(l:List Int)(u:Nat):UE ns f root (k::l) (some u)=(if root<=k then none else kQ ns f k u).bind fun nx=>UE ns f root l (some nx):=by
 show UE ns f root l (if root<=k then none else kQ ns f k u)=_;cases (if root<=k then none else kQ ns f k u)with
 |none=>rw[jBG];rfl
 |some nx=>rfl
structure KidMet(ns:List Nd)(f:Nat)(root:Int)(g:Int->Nat->Wr9->Wr9):Prop where
 met:∀k l u b,Met (if root<=k then none else kQ ns f k u) (exprP ns f k l b) (g k l ⟨true,u,b⟩)
 bad:∀k l s,s.ok=false->(g k l s).ok=false
theorem jA3{g:Int->Nat->Wr9->Wr9}(l:List Int)(i:Nat){s:Wr9}(h:s.ok=false):(ki g l i s).ok=false:=by
 cases l with
 |nil=>exact h
 |cons k l=>rw[ki,jJ5 (by rw[h];decide)];exact h
section
variable{ns:List Nd}{f:Nat}{root:Int}{g:Int->Nat->Wr9->Wr9}
theorem Qf(K:KidMet ns f root g):∀(l:List Int) (i u:Nat) (b:LB),Met (UE ns f root l (some u)) (exprP.listP (exprP ns f) l i b) (ki g l i ⟨true,u,b⟩)
 |[],_,u,b=>Met.yes u b
 |k::l,i,u,b=>by
  rw[KT,exprP.listP,ki,jJ6 rfl];have e:(if 0<i then(⟨true,u,b⟩:Wr9).put [44]else⟨true,u,b⟩)=⟨true,u,if 0<i then jI b [44]else b⟩:=by split<;>rfl
  rw[e];exact(K.met k 0 u _).next (H:=ki g l (i+1)) (fun h=>jA3 _ _ h) (fun nx b1 _=>Qf K l (i+1) nx b1)
theorem jAp(K:KidMet ns f root g){kids:List Int}(h1:kids.length=1)(l u:Nat)(b:LB):Met (UE ns f root kids (some u)) (match (generalizing:=false) kids with|k::_=>exprP ns f k l b|_=>none) (g (kids.getD 0 0) l ⟨true,u,b⟩):=by
 match kids,h1 with
 |[k],_=>
  rw[KT];have h2:=(K.met k l u b).next (F:=fun nx=>UE ns f root [] (some nx)) (jG9:=some) (H:=id) (fun h=>h) (fun nx b _=>Met.yes nx b);rw[Option.bind_fun_some]at h2;exact h2
theorem xn(K:KidMet ns f root g){kids:List Int}(h1:kids.length=2)(l r u:Nat)(w b:LB):Met (UE ns f root kids (some u)) (match (generalizing:=false) kids with|k::q::_=>(exprP ns f k l b).bind fun b1=>exprP ns f q r (jI b1 w)|_=>none) (g (kids.getD 1 0) r ((g (kids.getD 0 0) l ⟨true,u,b⟩).put w)):=by
 match kids,h1 with
 |[k,q],_=>
  rw[KT];refine(K.met k l u b).next (H:=fun s=>g q r (s.put w)) (fun h=>K.bad _ _ _ h) (fun nx b1 _=> ?_);exact jAp K (kids:=[q]) rfl r nx (jI b1 w)
theorem UO(K:KidMet ns f root g){kids:List Int}(h1:kids.length=3)(u:Nat)(b x y:LB):Met (UE ns f root kids (some u)) (match (generalizing:=false) kids with
      |a::c::d::_=>(exprP ns f a 0 b).bind fun b1=>(exprP ns f c 0 (jI b1 x)).bind fun b2=>exprP ns f d 0 (jI b2 y)
      |_=>none) (g (kids.getD 2 0) 0 ((g (kids.getD 1 0) 0 ((g (kids.getD 0 0) 0 ⟨true,u,b⟩).put x)).put y)):=by
 match kids,h1 with
 |[a,c,d],_=>
  rw[KT];refine(K.met a 0 u b).next (H:=fun s=>g d 0 ((g c 0 (s.put x)).put y)) (fun h=>K.bad _ _ _ (K.bad _ _ _ h)) (fun nx b1 _=> ?_);exact xn K (kids:=[c,d]) rfl 0 0 nx y (jI b1 x)
end
theorem KS{ns:List Nd}{f:Nat}{root:Int}{l:List Int}(h:l.length=0)(o:Option Nat):UE ns f root l o=o:=by
 match l,h with
 |[],_=>rfl
theorem jBF{n:Nd}(h:jK n=true)(h1:n.op=1\/n.op=2\/n.op=3\/n.op=4\/n.op=5):n.kids.length=0:=by
 unfold jK at h;rcases h1 with e|e|e|e|e
 ·rw[jJ6 e]at h;simp only[Bool.and_eq_true,decide_eq_true_eq]at h;exact h.1.2
 ·rw[jJ5 (by omega),jJ6 e]at h;simp only[Bool.and_eq_true,decide_eq_true_eq]at h;exact h.1.2
 ·rw[jJ5 (by omega),jJ5 (by omega),jJ6 e]at h;simp only[Bool.and_eq_true,decide_eq_true_eq]at h;exact h.1.2
 ·rw[jJ5 (by omega),jJ5 (by omega),jJ5 (by omega),jJ6 (by omega)]at h;simp only[Bool.and_eq_true,decide_eq_true_eq]at h;exact h.2.1
 ·rw[jJ5 (by omega),jJ5 (by omega),jJ5 (by omega),jJ5 (by omega),jJ6 (by omega)]at h;simp only[Bool.and_eq_true,decide_eq_true_eq]at h;exact h.2.1
theorem QY{n:Nd}(h:jK n=true)(h1:n.op=6):n.name.size=0:=by
 unfold jK at h;rw[jJ5 (by omega),jJ5 (by omega),jJ5 (by omega),jJ5 (by omega),jJ5 (by omega),jJ6 h1]at h;simp only[Bool.and_eq_true,decide_eq_true_eq]at h;exact h.2
theorem Vd{n:Nd}(h:jK n=true):1<=n.op/\n.op<34:=by
 unfold jK at h;by_cases h1:n.op=1
 ·omega
 by_cases h2:n.op=2
 ·omega
 by_cases h3:n.op=3
 ·omega
 rw[jJ5 h1,jJ5 h2,jJ5 h3]at h;by_cases h4:n.op=4\/n.op=29\/n.op=30
 ·omega
 by_cases h5:n.op=5\/n.op=24\/n.op=25\/n.op=26
 ·omega
 by_cases h6:n.op=6
 ·omega
 by_cases h7:n.op=7\/n.op=8\/n.op=27
 ·omega
 by_cases h8:n.op=23
 ·omega
 rw[jJ5 h4,jJ5 h5,jJ5 h6,jJ5 h7,jJ5 h8]at h;simp only[Bool.and_eq_true,decide_eq_true_eq]at h;exact h.2.1.1
theorem Met.done{o:Option Nat}{ob:Option LB}{s:Wr9}(h:Met o ob s)(root:Int)(own least:Nat):Met (o.bind fun nx=>if root=(nx:Int)then some (nx+1)else none) (ob.map (JE own least)) ((if own<least then s.put [41]else s).done root):=by
 cases o with
 |none=>
  refine Met.no ?_;have h1:=h.2 rfl;unfold Wr9.done;split
  ·show(s.ok&&_)=false;rw[h1];rfl
  ·show(s.ok&&_)=false;rw[h1];rfl
 |some nx=>
  obtain⟨b,e1,e2⟩:=h.1 nx rfl;subst e1 e2;have e:(if own<least then(⟨true,nx,b⟩:Wr9).put [41]else⟨true,nx,b⟩)=⟨true,nx,JE own least b⟩:=by
   unfold JE;split<;>rfl
  rw[e];show Met (if root=(nx:Int)then some (nx+1)else none) (some (JE own least b)) ⟨true&&decide (root=(nx:Int)),nx+1,JE own least b⟩;by_cases hr:root=(nx:Int)
  ·rw[jJ6 hr,jK5 hr];exact Met.yes _ _
  ·rw[jJ5 hr,jK3 hr];exact Met.no rfl
theorem xG{ns:List Nd}{f:Nat}{root:Int}{g:Int->Nat->Wr9->Wr9}(K:KidMet ns f root g)(l:List Int)(i u:Nat)(b z:LB):Met (UE ns f root l (some u)) ((exprP.listP (exprP ns f) l i b).map fun b1=>jI b1 z) ((ki g l i ⟨true,u,b⟩).put z):=
 (Qf K l i u b).map (H:=fun s=>s.put z) (fun h=>h) (fun _ _ _=>rfl)
theorem jDu{ns:List Nd}{f:Nat}{root:Int}{g:Int->Nat->Wr9->Wr9}(K:KidMet ns f root g){n:Nd}(hr:jK n=true)(u:Nat)(b0:LB):
  Met (UE ns f root n.kids (some u)) (if jD n.op=0 then(match n.kids with
      |a::c::d::_=>(exprP ns f a 0 (jI b0 [105,102])).bind fun b1=>(exprP ns f c 0 (jI b1 [116,104,101,110])).bind fun b2=>exprP ns f d 0 (jI b2 [101,108,115,101])
      |_=>none)
     else if jD n.op=1\/jD n.op=2\/jD n.op=5\/jD n.op=6 then(match n.kids with
     |k::q::_=>(exprP ns f k (jD n.op) b0).bind fun b1=>exprP ns f q (jD n.op+1) (jI b1 (jA n.op))
     |_=>none)
     else if jD n.op=3\/jD n.op=7 then(match n.kids with
     |k::_=>exprP ns f k (jD n.op) (jI b0 (jA n.op))
     |_=>none)
     else if jD n.op=4 then(match n.kids with
     |k::q::_=>(exprP ns f k 5 b0).bind fun b1=>exprP ns f q 5 (jI b1 (jA n.op))
     |_=>none)
     else if n.op=1 then some (jI b0 (qF n.vn))
     else if n.op=2 then some (jI b0 (if n.vn=1 then [116,114,117,101]else [102,97,108,115,101]))
     else if n.op=3 then some (jI b0 (kw (tb n.vt)))
     else if n.op=5 then some (jI b0 (tb n.name))
     else if n.op=4 then some (jI b0 [110,111,116,104,105,110,103])
     else if n.op=6 then(exprP.listP (exprP ns f) n.kids 0 (jI b0 [123])).map fun b1=>jI b1 [125]
     else(exprP.listP (exprP ns f) n.kids 0 (let b1:=jI (jI b0 (jA n.op)) [40];if n.name.size=0 then b1 else jI b1 (tb n.name))).map fun b1=>jI b1 [41]) (zf g n ⟨true,u,b0⟩):=by
 have K2:=Zo hr;have K1:=Zp hr;have K3:=Kz hr;have K0:=jBF hr;have R:=Vd hr;unfold zf;have e1:jD n.op=1\/jD n.op=2\/jD n.op=5\/jD n.op=6->n.op=9\/n.op=10\/11<=n.op/\n.op<=22:=by unfold jD;((repeat' split)<;>omega)
 have e4:jD n.op=4->n.op=9\/n.op=10\/11<=n.op/\n.op<=22:=by unfold jD;((repeat' split)<;>omega)
 have e2:jD n.op=3\/jD n.op=7->n.op=7\/n.op=8:=by unfold jD;((repeat' split)<;>omega)
 have e0:jD n.op=0->n.op=23:=by unfold jD;((repeat' split)<;>omega)
 have e8:jD n.op<=8:=by unfold jD;((repeat' split)<;>omega)
 have e23:n.op=23->jD n.op=0:=fun e=>by unfold jD;rw[jJ6 e]
 generalize jD n.op=L at*;by_cases h23:n.op=23
 ·rw[jJ6 (e23 h23),jJ6 h23];exact UO K (K3 h23) u _ _ _
 have l0:¬L=0:=fun e=>h23 (e0 e);rw[jJ5 h23,jJ5 l0];by_cases l2:L=3\/L=7
 ·rw[jJ5 (show¬(L=1\/L=2\/L=5\/L=6)by omega),jJ6 l2,jJ6 l2];exact jAp K (K1 (e2 l2)) _ u _
 by_cases l4:L=4
 ·rw[jJ5 (show¬(L=1\/L=2\/L=5\/L=6)by omega),jJ5 l2,jJ6 l4,jJ5 l2,jJ6 (show L<8 by omega),jJ6 l4];rw[show L+1=5 by omega];exact xn K (K2 (e4 l4)) 5 5 u _ _
 by_cases l1:L=1\/L=2\/L=5\/L=6
 ·rw[jJ6 l1,jJ5 l2,jJ6 (show L<8 by omega),jJ5 l4];exact xn K (K2 (e1 l1)) _ _ u _ _
 rw[jJ5 l1,jJ5 l2,jJ5 l4,jJ5 l2,jJ5 (show¬L<8 by omega)];unfold kK;by_cases h1:n.op=1
 ·rw[jJ6 h1,jJ6 h1,KS (K0 (by omega))];exact Met.yes _ _
 rw[jJ5 h1,jJ5 h1];by_cases h2:n.op=2
 ·rw[jJ6 h2,jJ6 h2,KS (K0 (by omega))];exact Met.yes _ _
 rw[jJ5 h2,jJ5 h2];by_cases h3:n.op=3
 ·rw[jJ6 h3,jJ6 h3,KS (K0 (by omega))];exact Met.yes _ _
 rw[jJ5 h3,jJ5 h3];by_cases h4:n.op=4
 ·rw[jJ5 (show¬n.op=5 by omega),jJ6 h4,jJ6 h4,KS (K0 (by omega))];exact Met.yes _ _
 by_cases h5:n.op=5
 ·rw[jJ6 h5,jJ5 h4,jJ6 h5,KS (K0 (by omega))];exact Met.yes _ _
 rw[jJ5 h5,jJ5 h4,jJ5 h4,jJ5 h5];by_cases h6:n.op=6
 ·rw[jJ6 h6,jJ6 h6];simp only;rw[jJ6 (QY hr h6)];exact xG K _ _ _ _ _
 rw[jJ5 h6,jJ5 h6];simp only;have e:(if n.name.size=0 then((⟨true,u,b0⟩:Wr9).put (jA n.op)).put [40]else(((⟨true,u,b0⟩:Wr9).put (jA n.op)).put [40]).put (tb n.name))=⟨true,u,if n.name.size=0 then jI (jI b0 (jA n.op)) [40]else jI (jI (jI b0 (jA n.op)) [40]) (tb n.name)⟩:=by split<;>rfl
 rw[e];exact xG K _ _ _ _ _
theorem QR(ns:List Nd)(f:Nat)(root below:Int)(least:Nat){s:Wr9}(h:s.ok=false):(jU ns f root below least s).ok=false:=by
 cases f with
 |zero=>rfl
 |succ f=>
  rw[jU,jJ5 (fun e=>by rw[h]at e;cases e.1)];rfl
theorem QQ(ns:List Nd):∀(f:Nat) (root below:Int) (least u:Nat) (b:LB),Met (if below<=root then none else kQ ns f root u) (exprP ns f root least b) (jU ns f root below least ⟨true,u,b⟩)
 |0,root,below,least,u,b=>by
  rw[kQ,ite_self];exact Met.no rfl
 |f+1,root,below,least,u,b=>by
  rw[kQ,exprP,jU];by_cases hb:below<=root
  ·rw[jJ6 hb,jJ5 (show¬((⟨true,u,b⟩:Wr9).ok=true/\0<=root/\root<below)from fun e=>by omega)];exact Met.no rfl
  rw[jJ5 hb];by_cases h0:root<0
  ·rw[jJ6 (show root<0\/(ns.length:Int)<=root from .inl h0),jJ5 (show¬((⟨true,u,b⟩:Wr9).ok=true/\0<=root/\root<below)from fun e=>by omega)];exact Met.no rfl
  rw[jJ5 h0,jJ6 (show(⟨true,u,b⟩:Wr9).ok=true/\0<=root/\root<below from⟨rfl,by omega,by omega⟩)];cases hn:ns[root.toNat]? with
  |none=>
   simp only;rw[ite_self];exact Met.no rfl
  |some n=>
   have hlt:=(jM5 hn).1;rw[jJ5 (show¬(root<0\/(ns.length:Int)<=root)by omega)];cases hr:jK n with
   |false=>
    simp only[hr,if_true,Bool.false_eq_true,if_false];exact Met.no rfl
   |true=>
    simp only[hr,if_true,Bool.true_eq_false,if_false];have K:KidMet ns f root (fun k l s=>jU ns f k root l s):=⟨fun k l u b=>QQ ns f k root l u b,fun k l s h=>QR ns f k root l h⟩;unfold Zk;have e:(if jD n.op<least then(⟨true,u,b⟩:Wr9).put [40]else⟨true,u,b⟩)=⟨true,u,opens (jD n.op) least b⟩:=by
     unfold opens;split<;>rfl
    rw[e];exact(jDu K hr u (opens (jD n.op) least b)).done root (jD n.op) least
theorem yL(ns:List Nd)(root:Int){s:Wr9}(h:s.ok=false):(jx ns root s).ok=false:=QR ns _ root _ 0 h
theorem KN{s:Wr9}(x:BA)(h:s.ok=false):(s.named x).ok=false:=by
 unfold Wr9.named;split
 ·exact h
 ·rfl
theorem Zs{s:Wr9}(x:BA)(h:s.ok=false):(s.inn x).ok=false:=by
 unfold Wr9.inn;split
 ·exact h
 ·exact KN x h
theorem Zn{s:Wr9}(k:Int)(h:s.ok=false):(s.kind k).ok=false:=by
 unfold Wr9.kind;split
 ·exact h
 ·rfl
theorem KW{p:Prop}[Decidable p]{a b:Wr9}(h:a.ok=false)(k:b.ok=false):(if p then a else b).ok=false:=by
 split
 ·exact h
 ·exact k
theorem Zb(ns:List Nd)(w:LB)(root:Int){s:Wr9}(h:s.ok=false):(yx ns w root s).ok=false:=by
 unfold yx;exact KW h (yL ns root h)
theorem VZ:∀(l:List Prm) (i:Nat) {s:Wr9},s.ok=false->(JK l i s).ok=false
 |[],_,_,h=>h
 |p::l,i,s,h=>by
  rw[JK];exact VZ l (i+1) (Zn _ (KN p.name (KW (show(s.put [44]).ok=false from h) h)))
theorem Ke(ns:List Nd):∀(l:List Eff) {s:Wr9},s.ok=false->(zm ns l s).ok=false
 |[],_,h=>h
 |e::l,s,h=>by
  rw[zm];exact Ke ns l (show(if e.worth= -1 then(s.put [114,101,111,112,101,110]).named e.name else jx ns e.worth ((s.named e.name).put [58,61])).ok=false from KW (KN e.name h) (yL ns e.worth (KN e.name h)))
theorem vm{x:BA}(h:jb x=true)(u:Nat)(b:LB):(⟨true,u,b⟩:Wr9).named x=⟨true,u,jI b (tb x)⟩:=by
 unfold Wr9.named;rw[jJ6 h];rfl
theorem yf{x:BA}(h:¬jb x=true)(s:Wr9):(s.named x).ok=false:=by
 unfold Wr9.named;rw[jJ5 h];rfl
theorem Qj{k:Int}(h:kq k=true)(u:Nat)(b:LB):(⟨true,u,b⟩:Wr9).kind k=⟨true,u,jI b (YX k)⟩:=by
 unfold Wr9.kind;rw[jJ6 h];rfl
theorem jBD{k:Int}(h:¬kq k=true)(s:Wr9):(s.kind k).ok=false:=by
 unfold Wr9.kind;rw[jJ5 h];rfl
theorem uY{x:BA}(h:vL x=true)(u:Nat)(b:LB):(⟨true,u,b⟩:Wr9).inn x=⟨true,u,inP x b⟩:=by
 unfold vL at h;rw[Bool.or_eq_true,decide_eq_true_eq]at h;unfold Wr9.inn inP;by_cases h0:x.size=0
 ·rw[jJ6 h0,jJ6 h0]
 ·rw[jJ5 h0,jJ5 h0];exact vm (h.resolve_left h0) u _
theorem jBL{x:BA}(h:¬vL x=true)(s:Wr9):(s.inn x).ok=false:=by
 unfold vL at h;rw[Bool.or_eq_true,decide_eq_true_eq]at h;unfold Wr9.inn;rw[jJ5 (fun e=>h (.inl e))];exact yf (fun e=>h (.inr e)) _
theorem Vq(ns:List Nd)(root:Int)(u:Nat)(b:LB):Met (kQ ns (ns.length+1) root u) (exP ns root b) (jx ns root ⟨true,u,b⟩):=by
 have h:=QQ ns (ns.length+1) root ns.length 0 u b;by_cases hb:(ns.length:Int)<=root
 ·rw[jJ6 hb]at h;rw[kQ,jJ6 (show root<0\/(ns.length:Int)<=root from .inr hb)];exact h
 ·rw[jJ5 hb]at h;exact h
theorem Jv(ns:List Nd)(f:Nat){root:Int}(h:root<0)(u:Nat):kQ ns f root u=none:=by
 cases f with
 |zero=>rfl
 |succ f=>rw[kQ,jJ6 (show root<0\/(ns.length:Int)<=root from .inl h)]
theorem JH(ns:List Nd)(root:Int)(ws:List LB)(u:Nat)(b:LB):Met (jX ns root u) (vY ns root ws b) (if root= -1 then⟨true,u,b⟩else jx ns root ⟨true,u,jT b ws⟩):=by
 unfold jX vY;by_cases h1:root= -1
 ·rw[jJ6 h1,jJ6 h1,jJ5 (show¬0<=root by omega)];exact Met.yes u b
 ·rw[jJ5 h1,jJ5 h1];by_cases h0:0<=root
  ·rw[jJ6 h0];exact Vq ns root u _
  ·have h:=Vq ns root u (jT b ws);rw[Jv ns _ (by omega)]at h⊢;exact Met.no (h.2 rfl)
theorem jCP(ns:List Nd)(root:Int)(ws:List LB)(u:Nat)(b:LB):Met (kQ ns (ns.length+1) root u) (vY ns root ws b) (jx ns root ⟨true,u,jT b ws⟩):=by
 have h:=Vq ns root u (jT b ws);unfold vY;by_cases h0:0<=root
 ·rw[jJ6 h0];exact h
 ·rw[Jv ns _ (by omega)]at h⊢;exact Met.no (h.2 rfl)
theorem jD2(ns:List Nd)(a:Atr)(u:Nat)(b:LB):Met (KI ns a u) (xd ns a b) (QK ns a ⟨true,u,b⟩):=by
 unfold KI xd QK;simp only;have tail:∀s:Wr9,s.ok=false->(((if a.when_= -1 then(if a.dflt= -1 then s else jx ns a.dflt (s.put [61]))else jx ns a.when_ ((if a.dflt= -1 then s else jx ns a.dflt (s.put [61])).put [119,104,101,110])):Wr9).put [59]).ok=false:=fun s h=>by
  have h1:(if a.dflt= -1 then s else jx ns a.dflt (s.put [61])).ok=false:=KW h (yL _ _ h);exact KW h1 (yL ns a.when_ h1)
 by_cases hl:jb a.name=true
 ·rw[show(⟨true,u,b⟩:Wr9).put [97,116,116,114,105,98,117,116,101]=⟨true,u,jI b [97,116,116,114,105,98,117,116,101]⟩from rfl,vm hl];have e:(if a.opt=true then((⟨true,u,jI (jI b [97,116,116,114,105,98,117,116,101]) (tb a.name)⟩:Wr9).put [58]).put [111,112,116,105,111,110,97,108]else(⟨true,u,jI (jI b [97,116,116,114,105,98,117,116,101]) (tb a.name)⟩:Wr9).put [58])=⟨true,u,if a.opt=true then jI (jT b [[97,116,116,114,105,98,117,116,101],tb a.name,[58]]) [111,112,116,105,111,110,97,108]else jT b [[97,116,116,114,105,98,117,116,101],tb a.name,[58]]⟩:=by split<;>rfl
  rw[e];by_cases hk:kq a.kind=true
  ·rw[jJ6 ⟨hl,hk⟩,Qj hk];refine(JH ns a.dflt [[61]] u _).next (H:=fun s=>(if a.when_= -1 then s else jx ns a.when_ (s.put [119,104,101,110])).put [59]) (fun h=>KW h (yL ns a.when_ h)) (fun nx b1 _=> ?_);exact(JH ns a.when_ [[119,104,101,110]] nx b1).map (H:=fun s=>s.put [59]) (fun h=>h) (fun _ _ _=>rfl)
  ·rw[jJ5 (fun e=>hk e.2)];exact Met.no (tail _ (jBD hk _))
 ·rw[jJ5 (fun e=>hl e.1)];have h1:=yf hl ((⟨true,u,b⟩:Wr9).put [97,116,116,114,105,98,117,116,101]);exact Met.no (tail _ (Zn _ (KW (show((((⟨true,u,b⟩:Wr9).put [97,116,116,114,105,98,117,116,101]).named a.name).put [58]).ok=false from h1) h1)))
theorem QD(ns:List Nd)(w:LB)(root:Int)(u:Nat)(b:LB):Met (jX ns root u) (Ym ns root w b) (yx ns w root ⟨true,u,b⟩):=by
 unfold Ym yx;have h:=JH ns root [w,[119,104,101,110]] u b;by_cases h1:root= -1
 ·rw[jJ6 h1]at h;rw[jJ6 h1,jJ5 (show¬0<=root by omega)];unfold jX;rw[jJ6 h1];exact Met.yes u b
 ·rw[jJ5 h1]at h⊢;by_cases h0:0<=root
  ·rw[jJ6 h0];have h2:=h.map (jG9:=fun b1=>jI b1 [59]) (H:=fun s=>s.put [59]) (fun h=>h) (fun _ _ _=>rfl);exact h2
  ·unfold jX at h⊢;rw[jJ5 h1,Jv ns _ (by omega)]at h⊢;exact Met.no (h.2 rfl)
theorem US(ns:List Nd)(a:Stg)(u:Nat)(b:LB):Met (VM ns a u) (xb ns a b) (XO ns a ⟨true,u,b⟩):=by
 unfold VM xb XO;have tail:∀s:Wr9,s.ok=false->((yx ns [99,108,111,115,101,115] a.closes (yx ns [111,112,101,110,115] a.opens (s.put [123]))).put [125]).ok=false:=fun s h=>Zb ns _ _ (Zb ns _ _ h);by_cases hl:jb a.name=true
 ·rw[show(⟨true,u,b⟩:Wr9).put [115,116,97,103,101]=⟨true,u,jI b [115,116,97,103,101]⟩from rfl,vm hl];by_cases hi:vL a.in_=true
  ·rw[jJ6 ⟨hl,hi⟩,uY hi];refine(QD ns [111,112,101,110,115] a.opens u _).next (H:=fun s=>(yx ns [99,108,111,115,101,115] a.closes s).put [125]) (fun h=>Zb ns _ _ h) (fun nx b1 _=> ?_);exact(QD ns [99,108,111,115,101,115] a.closes nx b1).map (H:=fun s=>s.put [125]) (fun h=>h) (fun _ _ _=>rfl)
  ·rw[jJ5 (fun e=>hi e.2)];exact Met.no (tail _ (jBL hi _))
 ·rw[jJ5 (fun e=>hl e.1)];exact Met.no (tail _ (Zs _ (yf hl _)))
theorem jC5(ns:List Nd)(a:Mil)(u:Nat)(b:LB):Met (Jd ns a u) (Yt ns a b) (XN ns a ⟨true,u,b⟩):=by
 unfold Jd Yt XN;have tail:∀s:Wr9,s.ok=false->((jx ns a.when_ ((s.put [114,101,97,99,104,101,100]).put [119,104,101,110])).put [59]).ok=false:=fun s h=>yL ns _ h;by_cases hl:jb a.name=true
 ·rw[show(⟨true,u,b⟩:Wr9).put [109,105,108,101,115,116,111,110,101]=⟨true,u,jI b [109,105,108,101,115,116,111,110,101]⟩from rfl,vm hl];by_cases hi:vL a.in_=true
  ·rw[jJ6 ⟨hl,hi⟩,uY hi];exact(jCP ns a.when_ [[114,101,97,99,104,101,100],[119,104,101,110]] u _).map (H:=fun s=>s.put [59]) (fun h=>h) (fun _ _ _=>rfl)
  ·rw[jJ5 (fun e=>hi e.2)];exact Met.no (tail _ (jBL hi _))
 ·rw[jJ5 (fun e=>hl e.1)];exact Met.no (tail _ (Zs _ (yf hl _)))
theorem QP:∀(l:List Prm) (i u:Nat) (b:LB),(l.all (fun p=>jb p.name&&kq p.kind)=true->JK l i ⟨true,u,b⟩=⟨true,u,vW l i b⟩)/\(¬l.all (fun p=>jb p.name&&kq p.kind)=true->(JK l i ⟨true,u,b⟩).ok=false)
 |[],_,_,_=>⟨fun _=>rfl,fun h=>absurd rfl h⟩
 |p::l,i,u,b=>by
  rw[List.all_cons,JK,vW];have e:(if 0<i then(⟨true,u,b⟩:Wr9).put [44]else⟨true,u,b⟩)=⟨true,u,if 0<i then jI b [44]else b⟩:=by split<;>rfl
  rw[e];by_cases hl:jb p.name=true
  ·rw[vm hl,show(⟨true,u,jI (if 0<i then jI b [44]else b) (tb p.name)⟩:Wr9).put [58]=⟨true,u,jI (jI (if 0<i then jI b [44]else b) (tb p.name)) [58]⟩from rfl];by_cases hk:kq p.kind=true
   ·rw[Qj hk,hl,hk,Bool.true_and,Bool.true_and];exact QP l (i+1) u _
   ·rw[(Bool.not_eq_true _).mp hk,Bool.and_false,Bool.false_and];exact⟨fun h=>(by cases h),fun _=>VZ l (i+1) (jBD hk _)⟩
  ·rw[(Bool.not_eq_true _).mp hl,Bool.false_and,Bool.false_and];exact⟨fun h=>(by cases h),fun _=>VZ l (i+1) (Zn _ (yf hl _))⟩
theorem Qs(ns:List Nd):∀(l:List Eff) (u:Nat) (b:LB),Met (vE ns l u) (vQ ns l b) (zm ns l ⟨true,u,b⟩)
 |[],u,b=>Met.yes u b
 |e::l,u,b=>by
  rw[vE,vQ,zm];by_cases hl:jb e.name=true
  ·rw[jJ6 hl,show(⟨true,u,b⟩:Wr9).put [114,101,111,112,101,110]=⟨true,u,jI b [114,101,111,112,101,110]⟩from rfl,vm hl,vm hl];have h1:Met (jX ns e.worth u) (if e.worth<0 then some (jT b [[114,101,111,112,101,110],tb e.name])else vY ns e.worth [tb e.name,[58,61]] b) (if e.worth= -1 then⟨true,u,jI (jI b [114,101,111,112,101,110]) (tb e.name)⟩else jx ns e.worth ((⟨true,u,jI b (tb e.name)⟩:Wr9).put [58,61])):=by
    have h2:=JH ns e.worth [tb e.name,[58,61]] u b;by_cases hw:e.worth= -1
    ·rw[jJ6 hw,jJ6 (show e.worth<0 by omega)];unfold jX;rw[jJ6 hw];exact Met.yes _ _
    ·rw[jJ5 hw]at h2⊢;by_cases h0:e.worth<0
     ·unfold jX at h2⊢;rw[jJ5 hw,Jv ns _ h0]at h2⊢;exact Met.no (h2.2 rfl)
     ·rw[jJ5 h0];exact h2
   exact h1.next (H:=fun s=>zm ns l (s.put [59])) (fun h=>Ke ns l h) (fun nx b1 _=>Qs ns l nx _)
  ·rw[jJ5 hl];exact Met.no (Ke ns l (show(if e.worth= -1 then _ else jx ns e.worth _:Wr9).ok=false from KW (yf hl _) (yL ns _ (yf hl _))))
theorem jCW(ns:List Nd)(a:Stp)(u:Nat)(b:LB):Met (Jc ns a u) (Zy ns a b) (QJ ns a ⟨true,u,b⟩):=by
 unfold Jc Zy QJ;simp only;have tail:∀s:Wr9,s.ok=false->((zm ns a.effects ((if a.when_= -1 then s else jx ns a.when_ (s.put [119,104,101,110])).put [123])).put [125]).ok=false:=fun s h=>Ke ns _ (show(if a.when_= -1 then s else jx ns a.when_ (s.put [119,104,101,110])).ok=false from KW h (yL ns _ h));by_cases hl:jb a.name=true
 ·rw[show(⟨true,u,b⟩:Wr9).put [115,116,101,112]=⟨true,u,jI b [115,116,101,112]⟩from rfl,vm hl,show(⟨true,u,jI (jI b [115,116,101,112]) (tb a.name)⟩:Wr9).put [40]=⟨true,u,jT b [[115,116,101,112],tb a.name,[40]]⟩from rfl];have hp:=QP a.params 0 u (jT b [[115,116,101,112],tb a.name,[40]]);by_cases ha:a.params.all (fun p=>jb p.name&&kq p.kind)=true
  ·rw[hp.1 ha,show(⟨true,u,vW a.params 0 (jT b [[115,116,101,112],tb a.name,[40]])⟩:Wr9).put [41]=⟨true,u,jI (vW a.params 0 (jT b [[115,116,101,112],tb a.name,[40]])) [41]⟩from rfl];by_cases hi:vL a.in_=true
   ·rw[jJ6 ⟨hl,hi,ha⟩,uY hi];refine(JH ns a.when_ [[119,104,101,110]] u _).next (H:=fun s=>(zm ns a.effects (s.put [123])).put [125]) (fun h=>Ke ns _ h) (fun nx b1 _=> ?_);exact(Qs ns a.effects nx _).map (H:=fun s=>s.put [125]) (fun h=>h) (fun _ _ _=>rfl)
   ·rw[jJ5 (fun e=>hi e.2.1)];exact Met.no (tail _ (jBL hi _))
  ·rw[jJ5 (fun e=>ha e.2.2)];exact Met.no (tail _ (Zs _ (hp.2 ha)))
 ·rw[jJ5 (fun e=>hl e.1)];exact Met.no (tail _ (Zs _ (VZ _ _ (yf hl _))))
theorem jDg(t:Tre)(fam:Int)(k:Nat)(hk:(fam=1->k<t.attrs.length)/\(fam=2->k<t.stages.length)/\(fam=3->k<t.miles.length)/\(fam=4->k<t.steps.length))(hf:fam=1\/fam=2\/fam=3\/fam=4)(u:Nat)(b:LB):Met (kZ t (fam,(k:Int)) u) (Kg t (fam,(k:Int)) b) (qg t (fam,k) ⟨true,u,b⟩).nl:=by
 have nl:∀{o:Option Nat} {ob:Option LB} {s:Wr9},Met o ob s->Met o (ob.map (· ++[10])) s.nl:=fun{o ob s} h=>h.map (H:=fun s=>s.nl) (fun h=>h) (fun _ _ _=>rfl);unfold kZ Kg qg;simp only[jL1];rcases hf with rfl|rfl|rfl|rfl
 ·simp only[if_true];rw[jJ9 (hk.1 rfl)];exact nl (jD2 _ _ _ _)
 ·simp only[Int.reduceEq,if_true,if_false];rw[jJ9 (hk.2.1 rfl)];exact nl (US _ _ _ _)
 ·simp only[Int.reduceEq,if_true,if_false];rw[jJ9 (hk.2.2.1 rfl)];exact nl (jC5 _ _ _ _)
 ·simp only[Int.reduceEq,if_false];rw[jJ9 (hk.2.2.2 rfl)];exact nl (jCW _ _ _ _)
end Go.Proofs.YtmmjcbbogokmfaaGreatDoor

import Derived.Test.YtmmjcbbogokmfaaGreatDoorMb02
set_option maxRecDepth 100000
set_option maxHeartbeats 25600000
namespace Go.Proofs.YtmmjcbbogokmfaaGreatDoor
open Go.Proofs.Tryz
theorem jJ0(t:Nat)(h:jE 69 t=true):t≠5/\t≠7/\t≠8:=by
 refine⟨fun e=> ?_,fun e=> ?_,fun e=> ?_⟩<;>(subst e;revert h;decide)
theorem jJz(t:Nat)(h:jE 83 t=true):t≠5/\t≠8/\jK 83 t=[69,84]:=by
 refine⟨fun e=> ?_,fun e=> ?_,?_⟩
 ·subst e;revert h;decide
 ·subst e;revert h;decide
 ·unfold jK;rw[jJ5 (by rw[h];decide)];rfl
theorem jJy(t:Nat)(h:jE 84 t=true):t=8:=by simpa [jE]using h
theorem jBy{last:Nat}{L st:List Nat}{ts:List Tk}(WQ:last=5\/last=7)(hL:LstSt last L)(ha:Acc (L++st) ts):
  ∃k ts',ts=k::ts' /\((k.t=last/\Acc st ts')\/(k.t≠last/\k.t≠8/\∃M,LstSt last M/\Acc (69::(M++st)) (k::ts'))\/(k.t=8/\∃M,LstSt last M/\Acc (69::(M++st)) ts')):=by
 cases hL with
 |shut=>
  obtain⟨k,ts',e,h1,h2⟩:=jP (by omega) ha;exact⟨k,ts',e,.inl ⟨h1,h2⟩⟩
 |ex hM=>
  obtain⟨k,ts',e,hJ,hb,h1⟩:=ki (by decide) (by decide) ha;have h2:=jJ0 _ hb;subst e;exact⟨k,ts',rfl,.inr (.inl ⟨by omega,h2.2.2,_,hM,ha⟩)⟩
 |comma hM=>
  obtain⟨k,ts',e,h1,h2⟩:=jP (by decide) ha;exact⟨k,ts',e,.inr (.inr ⟨h1,_,hM,h2⟩)⟩
 |set=>
  obtain⟨k,ts',e,hJ,⟨hb,h1⟩|⟨hb,h1⟩⟩:=kM (by decide) ha
  ·obtain⟨h2,h3,h4⟩:=jJz _ hb;rw[h4]at h1;exact⟨k,ts',e,.inr (.inl ⟨h2,h3,_,.more,h1⟩)⟩
  ·obtain⟨h2,h3⟩:=jL (by decide) h1;exact⟨k,ts',e,.inl ⟨h2,h3⟩⟩
 |more=>
  obtain⟨k,ts',e,hJ,⟨hb,h1⟩|⟨hb,h1⟩⟩:=kM (by decide) ha
  ·have h8:=jJy _ hb;rw[show jK 84 k.t=[8,69,84]by rw[h8];rfl]at h1;obtain⟨-,h2⟩:=jL (by decide) h1;exact⟨k,ts',e,.inr (.inr ⟨h8,_,.more,h2⟩)⟩
  ·obtain⟨h2,h3⟩:=jL (by decide) h1;exact⟨k,ts',e,.inl ⟨h2,h3⟩⟩
section
variable{src:LB}{f:Nat}
theorem jJa(IH:AllOk src f)(last:Nat)(L:List Nat)(kids:List Int)(r:Rdr)(ts:List Tk)(st:List Nat)(WQ:last=5\/last=7)(hL:LstSt last L)(hk:kids.length+ts.length<=900000)(hl:Look src r ts)(hb:big r+2*ts.length<=vC)(hf:10*ts.length+9<=f+1)(ha:Acc (L++st) ts):
  ∃ks r' ts',exN src (f+1) (.list last kids) r=some (0,ks,r')/\Got src st r ts r' ts' :=by
 obtain⟨k,ts2,rfl,⟨h1,h2⟩|⟨h1,h8,M,hM,h2⟩|⟨h8,M,hM,h2⟩⟩:=jBy WQ hL ha
 ·obtain⟨r1,e1,b1,-,-,l1⟩:=jG hl;refine⟨kids,r1,ts2,?_,l1,h2,by rw[jK6];omega,by rw[jK6];omega⟩;rw[exN,jJ6 (by rw[hl.1];exact h1)];simp only[e1,jL2]
 ·rw[jK6]at hk;obtain⟨x2,r2,t2,e2,p2,l2,a2,n2,b2⟩:=IH.ex r (k::ts2) _ hl hb (by omega) h2;unfold vC at hb;rw[jK6]at n2 b2 hb hf;obtain⟨ks,r3,t3,e3,l3,a3,n3,b3⟩:=IH.ls last M (kids++[x2]) r2 t2 st WQ hM (by rw[jJ4,List.length_singleton];omega) l2 (by unfold vC;omega) (by omega) a2;refine⟨ks,r3,t3,?_,l3,a3,by rw[jK6];omega,by rw[jK6];omega⟩;rw[exN,jJ5 (by rw[hl.1];exact h1),jJ6 (by omega),jn,jJ5 (by rw[hl.1];exact h8)];simp only[e2,e3,jL2]
 ·rw[jK6]at hk;obtain⟨r1,e1,b1,-,-,l1⟩:=jG hl;unfold vC at hb;rw[jK6]at hb hf;obtain⟨x2,r2,t2,e2,p2,l2,a2,n2,b2⟩:=IH.ex r1 ts2 _ l1 (by unfold vC;omega) (by omega) h2;obtain⟨ks,r3,t3,e3,l3,a3,n3,b3⟩:=IH.ls last M (kids++[x2]) r2 t2 st WQ hM (by rw[jJ4,List.length_singleton];omega) l2 (by unfold vC;omega) (by omega) a2;refine⟨ks,r3,t3,?_,l3,a3,by rw[jK6];omega,by rw[jK6];omega⟩;rw[exN,jJ5 (by rw[hl.1,h8];omega),jJ6 (by omega),jn,jJ6 (by rw[hl.1];exact h8)];simp only[e1,e2,e3,jL2,Option.map_some]
theorem ZS{t:Nat}(h:vW t=true):t=2\/t=46\/t=47\/t=3\/t=48\/t=1\/t=6\/t=4\/t=31\/t=49\/t=50\/t=51\/t=52\/t=53\/t=54\/t=55\/t=56\/t=57:=by
 have:=jM8 h;omega
theorem jFQ(t:Nat)(h:t=50\/t=51\/t=53\/t=54\/t=55\/t=56\/t=57):∃L,zU t=t::6::L/\LstSt 7 L/\t≠19/\Uw t=false/\t≠6/\t≠4/\¬(t=49\/t=52\/t=31)/\(t=31\/(49<=t/\t<=57)):=by
 rcases h with rfl|rfl|rfl|rfl|rfl|rfl|rfl
 ·exact⟨[69,7],rfl,.ex (.shut 7),by decide,by decide,by decide,by decide,by decide,by decide⟩
 ·exact⟨[69,8,69,7],rfl,.ex (.comma (.shut 7)),by decide,by decide,by decide,by decide,by decide,by decide⟩
 ·exact⟨[7],rfl,.shut 7,by decide,by decide,by decide,by decide,by decide,by decide⟩
 ·exact⟨[7],rfl,.shut 7,by decide,by decide,by decide,by decide,by decide,by decide⟩
 ·exact⟨[69,8,69,7],rfl,.ex (.comma (.shut 7)),by decide,by decide,by decide,by decide,by decide,by decide⟩
 ·exact⟨[69,8,69,7],rfl,.ex (.comma (.shut 7)),by decide,by decide,by decide,by decide,by decide,by decide⟩
 ·exact⟨[69,8,69,7],rfl,.ex (.comma (.shut 7)),by decide,by decide,by decide,by decide,by decide,by decide⟩
theorem qu(t:Nat)(h:t=2\/t=46\/t=47\/t=3\/t=48\/t=1):zU t=[t]/\Uw t=true/\t≠19/\t<58:=by
 rcases h with rfl|rfl|rfl|rfl|rfl|rfl<;>exact⟨rfl,by decide,by decide,by decide⟩
theorem Ke(t:Nat)(h:t=49\/t=52\/t=31):zU t=[t,6,1,7]/\Uw t=false/\t≠19/\t≠6/\t≠4/\t<58/\(t=31\/(49<=t/\t<=57)):=by
 rcases h with rfl|rfl|rfl<;>exact⟨rfl,by decide,by decide,by decide,by decide,by decide,by decide⟩
theorem jJZ(IH:AllOk src f)(r:Rdr)(ts:List Tk)(st:List Nat)(hl:Look src r ts)(hb:big r+2*ts.length<=vC)(hf:10*ts.length+1<=f+1)(ha:Acc (81::st) ts):∃x r' ts',exN src (f+1) .unary r=some (x,[],r')/\0<=x/\Got src st r ts r' ts' :=by
 obtain⟨k,ts2,rfl,hJ,FI,ha⟩:=ki (by decide) (by decide) ha;rw[jIi _ FI]at ha;unfold vC at hb;rw[jK6]at hb hf;by_cases Nw:k.t=19
 ·rw[jJ6 Nw,Nw]at ha;obtain⟨-,a1⟩:=jL (by decide) ha;obtain⟨r1,e1,b1,-,-,l1⟩:=jG hl;obtain⟨x2,r2,t2,e2,p2,l2,a2,n2,b2⟩:=IH.un r1 ts2 _ l1 (by unfold vC;omega) (by omega) a1;obtain⟨x,r',en,px,bn,ln⟩:=yW (kg 7 [x2]) r.from_ l2 (by omega);refine⟨x,r',t2,?_,px,ln,a2,by rw[jK6];omega,by rw[jK6];omega⟩;rw[exN,jJ6 (by rw[hl.1];exact Nw)];simp only[e1,e2,en,jL2,Option.map_some]
 rw[jJ5 Nw]at ha;obtain⟨k',ts2',e',-,NP,ha⟩:=ki (by decide) (by decide) ha;injection e' with e1 e2;subst e1 e2;rw[jIh _ NP]at ha;have Ff:vW k.t=true:=by
  have h2:82=k.t\/vW k.t=true:=(by simpa [jE,vG]using NP);rcases h2 with e|e
  ·exfalso;rw[<-e]at hJ;omega
  ·exact e
 have hc:=ZS Ff;by_cases N7:k.t=2\/k.t=46\/k.t=47\/k.t=3\/k.t=48\/k.t=1
 ·obtain⟨q1,q2,q3,q4⟩:=qu _ N7;rw[q1]at ha;obtain⟨-,a1⟩:=jL q4 ha;obtain⟨n,hn⟩:=hl.lit q2;obtain⟨r1,e1,b1,-,-,l1⟩:=jG hl;obtain⟨x,r',en,px,bn,ln⟩:=yW n r.from_ l1 (by omega);refine⟨x,r',ts2,?_,px,ln,a1,by rw[jK6];omega,by rw[jK6];omega⟩;rw[exN,jJ5 (by rw[hl.1];exact Nw),jJ6 (by rw[hl.1];exact q2)];simp only[hn,e1,en,jL2,Option.map_some]
 have WC:Uw r.t=false:=by rw[hl.1];exact jK3 N7
 by_cases h6:k.t=6
 ·rw[show zU k.t=[6,69,7]by rw[h6];rfl]at ha;obtain⟨-,a1⟩:=jL (by decide) ha;obtain⟨r1,e1,b1,-,-,l1⟩:=jG hl;obtain⟨x2,r2,t2,e2,p2,l2,a2,n2,b2⟩:=IH.ex r1 ts2 _ l1 (by unfold vC;omega) (by omega) a1;obtain⟨k3,t3,rfl,-,a3⟩:=jP (by decide) a2;rw[jK6]at n2 b2;obtain⟨r3,e3,b3,-,-,l3⟩:=jG l2;refine⟨x2,r3,t3,?_,p2,l3,a3,by rw[jK6];omega,by rw[jK6];omega⟩;rw[exN,jJ5 (by rw[hl.1];exact Nw),jJ5 (by rw[WC];decide),jJ6 (by rw[hl.1];exact h6)];simp only[e1,e2,e3,jL2]
 by_cases h4:k.t=4
 ·rw[show zU k.t=[4,83,5]by rw[h4];rfl]at ha;obtain⟨-,a1⟩:=jL (by decide) ha;obtain⟨r1,e1,b1,-,-,l1⟩:=jG hl;obtain⟨ks,r2,t2,e2,l2,a2,n2,b2⟩:=IH.ls 5 [83,5] [] r1 ts2 st (.inl rfl) .set (by rw[jN2];omega) l1 (by unfold vC;omega) (by omega) a1;obtain⟨x,r',en,px,bn,ln⟩:=yW (kg 6 ks) r.from_ l2 (by omega);refine⟨x,r',t2,?_,px,ln,a2,by rw[jK6];omega,by rw[jK6];omega⟩;rw[exN,jJ5 (by rw[hl.1];exact Nw),jJ5 (by rw[WC];decide),jJ5 (by rw[hl.1];exact h6),jJ6 (by rw[hl.1];exact h4)];simp only[e1,e2,en,jL2,Option.map_some]
 by_cases FS:k.t=49\/k.t=52\/k.t=31
 ·obtain⟨q1,q2,q3,q4,q5,q6,q7⟩:=Ke _ FS;rw[q1]at ha;obtain⟨-,a1⟩:=jL q6 ha;obtain⟨r1,e1,b1,-,-,l1⟩:=jG hl;obtain⟨k2,t2,rfl,-,a2⟩:=jP (by decide) a1;obtain⟨r2,e2,b2,-,-,l2⟩:=jG l1;obtain⟨k3,t3,rfl,-,a3⟩:=jP (by decide) a2;obtain⟨r3,e3,b3,-,-,l3⟩:=jG l2;obtain⟨k4,t4,rfl,-,a4⟩:=jP (by decide) a3;obtain⟨r4,e4,b4,-,-,l4⟩:=jG l3;simp only[jK6]at hb;obtain⟨x,r',en,px,bn,ln⟩:=yW ⟨yL r.t,⟨(kC src r2).toArray⟩,0,0,⟨#[]⟩,[],[]⟩ r.from_ l4 (by omega);refine⟨x,r',t4,?_,px,ln,a4,by simp only[jK6];omega,by simp only[jK6];omega⟩;rw[exN,jJ5 (by rw[hl.1];exact Nw),jJ5 (by rw[WC];decide),jJ5 (by rw[hl.1];exact h6),jJ5 (by rw[hl.1];exact h4),jJ5 (by rw[hl.1];exact fun e=>e q7)];simp only[e1,e2,jL2];rw[jJ6 (by rw[hl.1];exact FS),ze];simp only[e3,e4,en,jL2,Option.map_some]
 ·obtain⟨L,q1,q2,q3,q4,q5,q6,q7,q8⟩:=jFQ k.t (by omega);rw[q1]at ha;obtain⟨-,a1⟩:=jL hJ ha;obtain⟨r1,e1,b1,-,-,l1⟩:=jG hl;obtain⟨k2,t2,rfl,-,a2⟩:=jP (by decide) a1;obtain⟨r2,e2,b2,-,-,l2⟩:=jG l1;simp only[jK6]at hb hf;obtain⟨ks,r3,t3,e3,l3,a3,n3,b3⟩:=IH.ls 7 L [] r2 t2 st (.inr rfl) q2 (by rw[jN2];omega) l2 (by unfold vC;omega) (by omega) a2;obtain⟨x,r',en,px,bn,ln⟩:=yW (kg (yL r.t) ks) r.from_ l3 (by omega);refine⟨x,r',t3,?_,px,ln,a3,by simp only[jK6];omega,by simp only[jK6];omega⟩;rw[exN,jJ5 (by rw[hl.1];exact Nw),jJ5 (by rw[WC];decide),jJ5 (by rw[hl.1];exact h6),jJ5 (by rw[hl.1];exact h4),jJ5 (by rw[hl.1];exact fun e=>e q8)];simp only[e1,e2,jL2];rw[jJ5 (by rw[hl.1];exact FS)];simp only[e3,en,jL2,Option.map_some]
end
theorem xQ{n:Nat}{st:List Nat}{ts:List Tk}(h:Acc (n::st) ts):0<ts.length:=by
 cases h with
 |tak=>simp
theorem Yt(src:LB):∀f,AllOk src f
 |0=>⟨fun r ts st _ _ h _=>by omega,fun l s k hm r ts st _ _ h ha=>by
   have:=xQ ha;omega,fun l s b u hm root r ts st _ _ _ h _=>by omega,fun l s k hm op root r c ts st _ _ h _=>by rw[jK6]at h;omega,fun r ts st _ _ h _=>by omega,fun last L kids r ts st _ _ _ _ _ h _=>by omega⟩
 |f+1=>⟨jJb (Yt src f),jII (Yt src f),jGV (Yt src f),jIH (Yt src f),jJZ (Yt src f),jJa (Yt src f)⟩
def tb(s:BA):LB:=s.data.toList
def jb(s:BA):Bool:=jQ (tb s)
def jR(n:Nd):Bool:=
 if n.op=1 then decide (n.vk=1/\0<=n.vn)&&decide (n.vt.size=0)&&decide (n.vs=[])&&decide (n.kids.length=0)&&decide (n.name.size=0)
 else if n.op=2 then decide (n.vk=2/\(n.vn=0\/n.vn=1))&&decide (n.vt.size=0)&&decide (n.vs=[])&&decide (n.kids.length=0)&&decide (n.name.size=0)
 else if n.op=3 then decide (n.vk=3/\n.vn=0)&&decide (n.vs=[])&&decide (n.kids.length=0)&&decide (n.name.size=0)
 else decide (n.vk=0/\n.vn=0)&&decide (n.vt.size=0)&&decide (n.vs=[])&&
  (if n.op=4\/n.op=29\/n.op=30 then decide (n.kids.length=0)&&decide (n.name.size=0)
   else if n.op=5\/n.op=24\/n.op=25\/n.op=26 then decide (n.kids.length=0)&&jb n.name
   else if n.op=6 then decide (n.name.size=0)
   else if n.op=7\/n.op=8\/n.op=27 then decide (n.kids.length=1)&&decide (n.name.size=0)
   else if n.op=23 then decide (n.kids.length=3)&&decide (n.name.size=0)
   else decide (1<=n.op/\n.op<34)&&decide (n.kids.length=2)&&decide (n.name.size=0))
structure LayP where
 l:List (Int×Int)
 last:Int
 ok:Bool
def Jp(fam:Int)(i:Nat)(order:Int)(s:LayP):LayP:=
 let last:=if i=0 then-1 else s.last
 if order<=last\/(s.l.length:Int)<=order\/s.l.getD order.toNat (0,0)≠(0,0)then⟨s.l,last,false⟩
 else⟨s.l.set order.toNat (fam,(i:Int)),order,s.ok⟩
def jY(fam:Int):List Int->Nat->LayP->LayP
 |[],_,s=>s
 |o::l,i,s=>jY fam l (i+1) (Jp fam i o s)
def Tre.count(t:Tre):Nat:=t.attrs.length+t.stages.length+t.miles.length+t.steps.length
def jx(t:Tre):LayP:=
 jY 4 (t.steps.map Stp.order) 0 (jY 3 (t.miles.map Mil.order) 0 (jY 2 (t.stages.map Stg.order) 0 (jY 1 (t.attrs.map Atr.order) 0 ⟨List.replicate t.count (0,0),-1,true⟩)))
def kW(nodes:List Nd):Nat->Int->Nat->Option Nat
 |0,_,_=>none
 |f+1,root,next=>
  if root<0\/(nodes.length:Int)<=root then none
  else match nodes[root.toNat]? with
   |none=>none
   |some n=>if jR n=false then none
    else(n.kids.foldl (fun(s:Option Nat) k=>s.bind fun nx=>if root<=k then none else kW nodes f k nx) (some next)).bind fun nx=>if root=(nx:Int)then some (nx+1)else none
def jI(b w:LB):LB:=(if b=[]\/b.getLastD 0=10 then b else b++[32])++w
def jU(b:LB)(ws:List LB):LB:=ws.foldl jI b
def jD(op:Int):Nat:=
 if op=23 then 0 else if op=10 then 1 else if op=9 then 2 else if op=8 then 3 else if 11<=op/\op<=17 then 4 else if op=18\/op=19 then 5 else if 20<=op/\op<=22 then 6 else if op=7 then 7 else 8
def jA(op:Int):LB:=
 if 11<=op/\op<=16 then signL.getD (op.toNat-3) []
 else if 20<=op/\op<=22 then signL.getD (op.toNat-4) []
 else if 29<=op/\op<=33 then resL.getD (op.toNat+1) []
 else if op=8 then [110,111,116]else if op=9 then [97,110,100]else if op=10 then [111,114]else if op=17 then [105,110]else if op=18 then [43]else if op=7\/op=19 then [45]
 else if op=24 then [104,97,115]else if op=25 then [111,112,101,110]else if op=26 then [114,101,97,99,104,101,100]else if op=27 then [115,105,122,101]else [106,111,105,110]
def KM(n:Nat):UInt8:=UInt8.ofNat (if n<10 then 48+n else 87+n)
def jz(c:UInt8):LB:=
 if c.toNat=34\/c.toNat=92 then [92,c]else if c.toNat=10 then [92,110]else if c.toNat=9 then [92,116]
 else if c.toNat<32\/126<c.toNat then [92,120,KM (c.toNat/16),KM (c.toNat% 16)]else [c]
def ji(s:LB):LB:=34::(s.flatMap jz++[34])
def ZN:Nat->Nat->LB
 |0,_=>[]
 |f+1,n=>if n<10 then [UInt8.ofNat (48+n)]else ZN f (n/10)++[UInt8.ofNat (48+n% 10)]
def Yu(n:Int):LB:=ZN 20 n.toNat
def opens(own least:Nat)(b:LB):LB:=if own<least then jI b [40]else b
def JL(own least:Nat)(b:LB):LB:=if own<least then jI b [41]else b
def exprP(nodes:List Nd):Nat->Int->Nat->LB->Option LB
 |0,_,_,_=>none
 |f+1,root,least,b=>
  if root<0 then none
  else match nodes[root.toNat]? with
   |none=>none
   |some n=>
    let own:=jD n.op
    let b0:=opens own least b
    let two (l r:Nat) (w:LB):Option LB:=match n.kids with
     |k::q::_=>(exprP nodes f k l b0).bind fun b1=>exprP nodes f q r (jI b1 w)
     |_=>none
    let one:Option LB:=match n.kids with
     |k::_=>exprP nodes f k own (jI b0 (jA n.op))
     |_=>none
    (if own=0 then(match n.kids with
      |a::c::d::_=>(exprP nodes f a 0 (jI b0 [105,102])).bind fun b1=>(exprP nodes f c 0 (jI b1 [116,104,101,110])).bind fun b2=>exprP nodes f d 0 (jI b2 [101,108,115,101])
      |_=>none)
     else if own=1\/own=2\/own=5\/own=6 then two own (own+1) (jA n.op)
     else if own=3\/own=7 then one
     else if own=4 then two 5 5 (jA n.op)
     else if n.op=1 then some (jI b0 (Yu n.vn))
     else if n.op=2 then some (jI b0 (if n.vn=1 then [116,114,117,101]else [102,97,108,115,101]))
     else if n.op=3 then some (jI b0 (ji (tb n.vt)))
     else if n.op=5 then some (jI b0 (tb n.name))
     else if n.op=4 then some (jI b0 [110,111,116,104,105,110,103])
     else if n.op=6 then(listP (exprP nodes f) n.kids 0 (jI b0 [123])).map fun b1=>jI b1 [125]
     else(listP (exprP nodes f) n.kids 0 (let b1:=jI (jI b0 (jA n.op)) [40];if n.name.size=0 then b1 else jI b1 (tb n.name))).map fun b1=>jI b1 [41]).map (JL own least)
where
 listP (g:Int->Nat->LB->Option LB):List Int->Nat->LB->Option LB
  |[],_,b=>some b
  |k::l,i,b=>(g k 0 (if 0<i then jI b [44]else b)).bind fun b1=>listP g l (i+1) b1
def jV(nodes:List Nd)(root:Int)(next:Nat):Option Nat:=if root= -1 then some next else kW nodes (nodes.length+1) root next
def vX(s:BA):Bool:=decide (s.size=0)||jb s
def vE(k:Int):Bool:=decide (1<=k/\k<=5)
def KW(ns:List Nd)(a:Atr)(nx:Nat):Option Nat:=if jb a.name=true/\vE a.kind=true then(jV ns a.dflt nx).bind (jV ns a.when_)else none
def Vt(ns:List Nd)(s:Stg)(nx:Nat):Option Nat:=if jb s.name=true/\vX s.in_=true then(jV ns s.opens nx).bind (jV ns s.closes)else none
def Jw(ns:List Nd)(m:Mil)(nx:Nat):Option Nat:=if jb m.name=true/\vX m.in_=true then kW ns (ns.length+1) m.when_ nx else none
def vM(ns:List Nd):List Eff->Nat->Option Nat
 |[],nx=>some nx
 |e::l,nx=>if jb e.name=true then(jV ns e.worth nx).bind (vM ns l)else none
def Jv(ns:List Nd)(s:Stp)(nx:Nat):Option Nat:=
 if jb s.name=true/\vX s.in_=true/\s.params.all (fun p=>jb p.name&&vE p.kind)=true then(jV ns s.when_ nx).bind (vM ns s.effects)else none
def km(t:Tre)(d:Int×Int)(nx:Nat):Option Nat:=
 if d.1=1 then(t.attrs[d.2.toNat]?).bind fun a=>KW t.nodes a nx
 else if d.1=2 then(t.stages[d.2.toNat]?).bind fun a=>Vt t.nodes a nx
 else if d.1=3 then(t.miles[d.2.toNat]?).bind fun a=>Jw t.nodes a nx
 else(t.steps[d.2.toNat]?).bind fun a=>Jv t.nodes a nx
def kG(t:Tre):List (Int×Int)->Nat->Option Nat
 |[],nx=>some nx
 |d::l,nx=>(km t d nx).bind (kG t l)
def Vz(k:Int):LB:=resL.getD (k.toNat+10) []
def exP(ns:List Nd)(root:Int)(b:LB):Option LB:=exprP ns (ns.length+1) root 0 b
def vq(ns:List Nd)(root:Int)(ws:List LB)(b:LB):Option LB:=if 0<=root then exP ns root (jU b ws)else some b
def inP(s:BA)(b:LB):LB:=if s.size=0 then b else jU b [[105,110],tb s]
def ug(ns:List Nd)(a:Atr)(b:LB):Option LB:=
 let b1:=jU b [[97,116,116,114,105,98,117,116,101],tb a.name,[58]]
 let b2:=if a.opt=true then jI b1 [111,112,116,105,111,110,97,108]else b1
 (vq ns a.dflt [[61]] (jI b2 (Vz a.kind))).bind fun b3=>(vq ns a.when_ [[119,104,101,110]] b3).map fun b4=>jI b4 [59]
def ZZ(ns:List Nd)(root:Int)(w:LB)(b:LB):Option LB:=if 0<=root then(vq ns root [w,[119,104,101,110]] b).map fun b1=>jI b1 [59]else some b
def uf(ns:List Nd)(s:Stg)(b:LB):Option LB:=
 (ZZ ns s.opens [111,112,101,110,115] (jI (inP s.in_ (jU b [[115,116,97,103,101],tb s.name])) [123])).bind fun b1=>(ZZ ns s.closes [99,108,111,115,101,115] b1).map fun b2=>jI b2 [125]
def Zg(ns:List Nd)(m:Mil)(b:LB):Option LB:=
 (vq ns m.when_ [[114,101,97,99,104,101,100],[119,104,101,110]] (inP m.in_ (jU b [[109,105,108,101,115,116,111,110,101],tb m.name]))).map fun b1=>jI b1 [59]
def vj:List Prm->Nat->LB->LB
 |[],_,b=>b
 |p::l,i,b=>vj l (i+1) (jU (if 0<i then jI b [44]else b) [tb p.name,[58],Vz p.kind])
def ve(ns:List Nd):List Eff->LB->Option LB
 |[],b=>some b
 |e::l,b=>(if e.worth<0 then some (jU b [[114,101,111,112,101,110],tb e.name])else vq ns e.worth [tb e.name,[58,61]] b).bind fun b1=>ve ns l (jI b1 [59])
def xM(ns:List Nd)(s:Stp)(b:LB):Option LB:=
 (vq ns s.when_ [[119,104,101,110]] (inP s.in_ (jI (vj s.params 0 (jU b [[115,116,101,112],tb s.name,[40]])) [41]))).bind fun b1=>(ve ns s.effects (jI b1 [123])).map fun b2=>jI b2 [125]
def Kw(t:Tre)(d:Int×Int)(b:LB):Option LB:=
 (if d.1=1 then(t.attrs[d.2.toNat]?).bind fun a=>ug t.nodes a b
 else if d.1=2 then(t.stages[d.2.toNat]?).bind fun a=>uf t.nodes a b
 else if d.1=3 then(t.miles[d.2.toNat]?).bind fun a=>Zg t.nodes a b
 else(t.steps[d.2.toNat]?).bind fun a=>xM t.nodes a b).map (· ++[10])
def yx(t:Tre):List (Int×Int)->LB->Option LB
 |[],b=>some b
 |d::l,b=>(Kw t d b).bind (yx t l)
def Qk(t:Tre):Bool:=(jx t).ok&&jb t.name&&decide (kG t (jx t).l 0=some t.nodes.length)
def qI(t:Tre):Option LB:=(yx t (jx t).l (jU [] [[116,121,112,101],tb t.name,[123]]++[10])).map (· ++[125,10])
def yV(t:Tre):Option LB:=if Qk t=true then qI t else none
abbrev Tok:=Nat×LB
def vD(src:LB)(k:Tk):Tok:=(k.t,Ve src k)
inductive Lt where
 |int (v:Nat)
 |bool (b:Bool)
 |text (s:LB)
 |none_
 |name (w:LB)
def Lt.nd:Lt->Nd
 | .int v=>⟨1,⟨#[]⟩,1,(v:Int),⟨#[]⟩,[],[]⟩
 | .bool b=>⟨2,⟨#[]⟩,2,if b=true then 1 else 0,⟨#[]⟩,[],[]⟩
 | .text s=>⟨3,⟨#[]⟩,3,0,⟨s.toArray⟩,[],[]⟩
 | .none_=>kg 4 []
 | .name w=>⟨5,⟨w.toArray⟩,0,0,⟨#[]⟩,[],[]⟩
def Lt.ok:Lt->Prop
 | .int v=>v<=9223372036854775807
 | .name w=>jQ w=true
 |_=>True
def Lt.tok:Lt->Tok
 | .int v=>(2,Yu (v:Int))
 | .bool b=>if b=true then(46,[116,114,117,101])else(47,[102,97,108,115,101])
 | .text s=>(3,ji s)
 | .none_=>(48,[110,111,116,104,105,110,103])
 | .name w=>(1,w)
inductive Exp9 where
 |lit (k:Lt)
 |node (op:Int) (name:LB) (kids:Exp9)
 |nil
 |cons (e l:Exp9)
namespace Exp9
def size:Exp9->Nat
 |lit _=>1
 |node _ _ k=>k.size+1
 |nil=>0
 |cons e l=>e.size+l.size
def root(e:Exp9)(b:Nat):Int:=((b+e.size-1:Nat):Int)
def roots:Exp9->Nat->List Int
 |cons e l,b=>e.root b::l.roots (b+e.size)
 |_,_=>[]
def lay:Exp9->Nat->List Nd
 |lit k,_=>[k.nd]
 |node op nm k,b=>k.lay b++[⟨op,⟨nm.toArray⟩,0,0,⟨#[]⟩,[],k.roots b⟩]
 |nil,_=>[]
 |cons e l,b=>e.lay b++l.lay (b+e.size)
def op:Exp9->Int
 |lit k=>k.nd.op
 |node op _ _=>op
 |_=>0
def cnt:Exp9->Nat
 |cons _ l=>l.cnt+1
 |_=>0
def one(e:Exp9):Exp9:=cons e nil
def pair(e q:Exp9):Exp9:=cons e (cons q nil)
def ok:Exp9->Bool->Prop
 |lit k,ls=>ls=false/\k.ok
 |node op nm k,ls=>ls=false/\k.ok true/\
  ((op=6/\nm=[])\/((op=24\/op=25\/op=26)/\jQ nm=true/\k.cnt=0)\/((op=29\/op=30)/\nm=[]/\k.cnt=0)\/((op=7\/op=8\/op=27)/\nm=[]/\k.cnt=1)\/(op=23/\nm=[]/\k.cnt=3)\/
   (((9<=op/\op<=22)\/op=28\/op=31\/op=32\/op=33)/\nm=[]/\k.cnt=2))
 |nil,ls=>ls=true
 |cons e l,ls=>ls=true/\e.ok false/\l.ok true
theorem lay_len:∀(e:Exp9) (b:Nat),(e.lay b).length=e.size
 |lit _,_=>rfl
 |node _ _ k,b=>by simp[lay,size,lay_len k]
 |nil,_=>rfl
 |cons e l,b=>by simp[lay,size,lay_len e,lay_len l]
theorem roots_len:∀(e:Exp9) (b:Nat),(e.roots b).length=e.cnt
 |lit _,_=>rfl
 |node _ _ _,_=>rfl
 |nil,_=>rfl
 |cons e l,b=>by simp[roots,cnt,roots_len l]
theorem pos:∀{e:Exp9},e.ok false->0<e.size
 |lit _,_=>Nat.one_pos
 |node _ _ k,_=>Nat.succ_pos _
 |nil,h=>by cases h
 |cons _ _,h=>by cases h.1
end Exp9
def jAP(t:Nat):Nat:=if t=50 then 1 else if t=53\/t=54 then 0 else 2
inductive PJ where
 |expr
 |row (level:Nat)
 |more (level:Nat) (e:Exp9)
 |two (op:Int) (e:Exp9) (level:Nat)
 |unary
 |list (last:Nat) (first:Bool)
inductive Pa:PJ->List Tok->Exp9->List Tok->Prop
 |expr_row {k:Tok} {ts r:List Tok} {e:Exp9}:k.1≠40->Pa (.row 43) (k::ts) e r->Pa .expr (k::ts) e r
 |expr_if {k k2 k3:Tok} {t1 t2 t3 r:List Tok} {c a b:Exp9}:k.1=40->k2.1=41->k3.1=42->Pa .expr t1 c (k2::t2)->Pa .expr t2 a (k3::t3)->Pa .expr t3 b r->Pa .expr (k::t1) (.node 23 [] (.cons c (.cons a (.cons b .nil)))) r
 |not_ {k:Tok} {ts r:List Tok} {e:Exp9}:k.1=45->Pa (.row 45) ts e r->Pa (.row 45) (k::ts) (.node 8 [] e.one) r
 |rel {k k2:Tok} {ts t2 r:List Tok} {e e' :Exp9}:k.1≠45->Pa (.row 18) (k::ts) e (k2::t2)->12<=k2.1/\k2.1<=17->Pa (.two (11+((k2.1:Int)-12)) e 18) (k2::t2) e' r->Pa (.row 45) (k::ts) e' r
 |in_ {k k2:Tok} {ts t2 r:List Tok} {e e' :Exp9}:k.1≠45->Pa (.row 18) (k::ts) e (k2::t2)->k2.1=28->Pa (.two 17 e 18) (k2::t2) e' r->Pa (.row 45) (k::ts) e' r
 |sum {k k2:Tok} {ts t2:List Tok} {e:Exp9}:k.1≠45->Pa (.row 18) (k::ts) e (k2::t2)->¬(12<=k2.1/\k2.1<=17)->k2.1≠28->Pa (.row 45) (k::ts) e (k2::t2)
 |rowm {l:Nat} {ts t2 r:List Tok} {e e' :Exp9}:(l=43\/l=44\/l=18\/l=20)->Pa (.row (zS l)) ts e t2->Pa (.more l e) t2 e' r->Pa (.row l) ts e' r
 |rowu {ts r:List Tok} {e:Exp9}:Pa .unary ts e r->Pa (.row 19) ts e r
 |stop {l:Nat} {k:Tok} {ts:List Tok} {e:Exp9}:kJ l k.1=0->Pa (.more l e) (k::ts) e (k::ts)
 |go {l:Nat} {k:Tok} {ts t2 r:List Tok} {e e1 e' :Exp9}:kJ l k.1≠0->Pa (.two (kJ l k.1) e (zS l)) (k::ts) e1 t2->Pa (.more l e1) t2 e' r->Pa (.more l e) (k::ts) e' r
 |two {l:Nat} {op:Int} {k:Tok} {ts r:List Tok} {e q:Exp9}:Pa (.row l) ts q r->Pa (.two op e l) (k::ts) (.node op [] (e.pair q)) r
 |neg {k:Tok} {ts r:List Tok} {e:Exp9}:k.1=19->Pa .unary ts e r->Pa .unary (k::ts) (.node 7 [] e.one) r
 |lit {k:Tok} {ts:List Tok} {x:Lt}:Uw k.1=true->jt k.1 k.2=some x.nd->Pa .unary (k::ts) (.lit x) ts
 |par {k k2:Tok} {ts r:List Tok} {e:Exp9}:k.1=6->k2.1=7->Pa .expr ts e (k2::r)->Pa .unary (k::ts) e r
 |set {k:Tok} {ts r:List Tok} {l:Exp9}:k.1=4->Pa (.list 5 true) ts l r->Pa .unary (k::ts) (.node 6 [] l) r
 |named {k k1 k2 k3:Tok} {ts:List Tok}:(k.1=49\/k.1=52\/k.1=31)->k1.1=6->k2.1=1->k3.1=7->Pa .unary (k::k1::k2::k3::ts) (.node (yL k.1) k2.2 .nil) ts
 |call {k k1:Tok} {ts r:List Tok} {l:Exp9}:(k.1=50\/k.1=51\/k.1=53\/k.1=54\/k.1=55\/k.1=56\/k.1=57)->k1.1=6->jAP k.1=l.cnt->Pa (.list 7 true) ts l r->Pa .unary (k::k1::ts) (.node (yL k.1) [] l) r
 |shut {last:Nat} {i:Bool} {k:Tok} {ts:List Tok}:k.1=last->Pa (.list last i) (k::ts) .nil ts
 |elem {last:Nat} {k:Tok} {ts t2 r:List Tok} {e l:Exp9}:k.1≠last->k.1≠8->Pa .expr (k::ts) e t2->Pa (.list last false) t2 l r->Pa (.list last true) (k::ts) (.cons e l) r
 |comma {last:Nat} {k:Tok} {ts t2 r:List Tok} {e l:Exp9}:last≠8->k.1=8->Pa .expr ts e t2->Pa (.list last false) t2 l r->Pa (.list last false) (k::ts) (.cons e l) r
theorem zM:∀(l:LB) (n:Nat),zy l n=n*10^l.length+zy l 0
 |[],n=>by rw[zy,zy,jN2,Nat.pow_zero,Nat.mul_one,Nat.add_zero]
 |c::l,n=>by
  rw[zy,zy,zM l (10*n+(c.toNat-48)),zM l (10*0+(c.toNat-48)),jK6,Nat.pow_succ];generalize 10^l.length=p;rw[Nat.mul_zero,Nat.zero_add,Nat.add_mul,Nat.add_assoc]
  congr 1
  rw[Nat.mul_comm 10 n,Nat.mul_assoc,Nat.mul_comm 10 p]
theorem ZK{c:UInt8}(h:yd c=true):48<=c.toNat/\c.toNat<=57:=jM8 h
theorem ZM:∀(l:LB),l.all yd=true->zy l 0<10^l.length
 |[],_=>by decide
 |c::l,h=>by
  rw[List.all_cons,Bool.and_eq_true]at h;have h1:=ZM l h.2;have h2:=ZK h.1;rw[zy,zM,jK6,Nat.pow_succ,Nat.mul_zero,Nat.zero_add];have h3:(c.toNat-48)*10^l.length<=9*10^l.length:=Nat.mul_le_mul_right _ (by omega);generalize 10^l.length=p at*;omega
theorem jHP(l:LB)(n:Nat):n<=zy l n:=by
 rw[zM];exact jL4 (Nat.le_mul_of_pos_right n (Nat.pow_pos (by decide))) (Nat.le_add_right _ _)
theorem qE:∀(l:LB),zy (yl l) 0=zy l 0
 |[]=>rfl
 |[a]=>rfl
 |a::b::l=>by
  unfold yl;by_cases h:a=48
  ·rw[jJ6 h,qE (b::l)];subst h;rfl
  ·rw[jJ5 h]
theorem ul:∀(l:LB),l.all yd=true->(yl l).all yd=true
 |[],h=>h
 |[a],h=>h
 |a::b::l,h=>by
  unfold yl;by_cases h1:a=48
  ·rw[jJ6 h1];rw[List.all_cons,Bool.and_eq_true]at h;exact ul (b::l) h.2
  ·rw[jJ5 h1];exact h
theorem jCo:∀(x y:LB),x.length=y.length->x.all yd=true->y.all yd=true->leB x y=true->zy x 0<=zy y 0
 |[],[],_,_,_,_=>jL3 _
 |[],_::_,h,_,_,_=>by cases h
 |_::_,[],h,_,_,_=>by cases h
 |a::x,b::y,h,hx,hy,hl=>by
  rw[jK6,jK6]at h;have hlen:x.length=y.length:=(by omega);rw[List.all_cons,Bool.and_eq_true]at hx hy;have ha:=ZK hx.1;have hb:=ZK hy.1;have h1:=ZM x hx.2;rw[leB]at hl;rw[zy,zy,zM x,zM y,hlen];rw[hlen]at h1;simp only[Nat.mul_zero,Nat.zero_add];by_cases Wq:a.toNat<b.toNat
  ·have h3:(a.toNat-48+1)*10^y.length<=(b.toNat-48)*10^y.length:=Nat.mul_le_mul_right _ (by omega);rw[Nat.add_mul]at h3;generalize 10^y.length=p at*;omega
  ·rw[jJ5 Wq]at hl;by_cases hba:b.toNat<a.toNat
   ·rw[jJ6 hba]at hl;cases hl
   ·rw[jJ5 hba]at hl;have h4:=jCo x y hlen hx.2 hy.2 hl;have h5:a.toNat=b.toNat:=(by omega);rw[h5];omega
theorem Vx:zy greatest 0=9223372036854775807:=by decide+kernel
theorem jFU{l:LB}(h:jo l=true):l.all yd=true/\zy l 0<=9223372036854775807:=by
 unfold jo at h;rw[Bool.and_eq_true]at h;obtain⟨h1,h2⟩:=h;refine⟨h1,?_⟩;rw[<-qE l];have h3:=ul l h1;rw[Bool.or_eq_true,Bool.and_eq_true]at h2;rcases h2 with h2|⟨h2,h4⟩
 ·have h5:=ZM _ h3;have h6:(yl l).length<=18:=by have:=jM8 h2;omega
  have h7:10^(yl l).length<=10^18:=Nat.pow_le_pow_right (by decide) h6;have h8:(10:Nat)^18=1000000000000000000:=(by decide);omega
 ·have h5:=jCo (yl l) greatest (jM8 h2) h3 (by decide) h4;rw[Vx]at h5;exact h5
end Go.Proofs.YtmmjcbbogokmfaaGreatDoor

import Derived.Test.YtmmjcbbogokmfaaGreatDoorMb03
set_option maxRecDepth 100000
set_option maxHeartbeats 25600000
namespace Go.Proofs.YtmmjcbbogokmfaaGreatDoor
open Go.Proofs.Tryz
theorem Got.zero{src:LB}{st:List Nat}{r r' :Rdr}{ts ts' :List Tk}(h:Got src st r ts r' ts'):Got0 src st r ts r' ts' :=⟨h.look,h.acc,Nat.le_of_lt h.len,h.big⟩
section
variable{src:LB}{f:Nat}
theorem QQ(r:Rdr)(ts:List Tk)(st:List Nat)(hl:Look src r ts)(hb:big r+2*ts.length<=vC)(hf:10*ts.length+8<=f)(ha:Acc (69::st) ts):∃x r' ts',ud src f r=some (x,r')/\0<=x/\Got src st r ts r' ts' :=by
 obtain⟨x,r',ts',e,p,g⟩:=(Yt src f).ex r ts st hl hb hf ha;refine⟨x,r',ts',?_,p,g⟩;unfold ud;rw[e];rfl
theorem qi(first sym:Nat)(h:(first=12/\sym=61)\/(first=32/\sym=62))(r:Rdr)(ts:List Tk)(st:List Nat)(hl:Look src r ts)(hb:big r+2*ts.length<=vC)(hf:10*ts.length+8<=f)(ha:Acc (sym::st) ts):
  ∃x r' ts',vQ src f first r=some (x,r')/\Got0 src st r ts r' ts' :=by
 have hs:58<=sym/\∀t,(jE sym t=true->t=first/\jK sym t=[t,69])/\(jE sym t=false->t≠first):=by
  rcases h with⟨rfl,rfl⟩|⟨rfl,rfl⟩
  ·refine⟨by decide,fun t=>⟨fun e=> ?_,fun e e2=> ?_⟩⟩
   ·have h1:t=12:=(by simpa [jE]using e);subst h1;exact⟨rfl,rfl⟩
   ·subst e2;cases e
  ·refine⟨by decide,fun t=>⟨fun e=> ?_,fun e e2=> ?_⟩⟩
   ·have h1:t=32:=(by simpa [jE]using e);subst h1;exact⟨rfl,rfl⟩
   ·subst e2;cases e
 obtain⟨k,ts2,rfl,hJ,⟨FI,ha⟩|⟨FI,ha⟩⟩:=kM hs.1 ha
 ·obtain⟨h1,h2⟩:=(hs.2 k.t).1 FI;rw[h2]at ha;obtain⟨-,a1⟩:=jL hJ ha;obtain⟨r1,e1,b1,-,-,l1⟩:=jG hl;unfold vC at hb;rw[jK6]at hb hf;obtain⟨x,r',ts',e2,p,l2,a2,n2,b2⟩:=QQ (f:=f) r1 ts2 st l1 (by unfold vC;omega) (by omega) a1;refine⟨x,r',ts',?_,l2,a2,by rw[jK6];omega,by rw[jK6];omega⟩;unfold vQ;rw[jJ5 (by rw[hl.1,h1];exact fun e=>e rfl),e1,jL2,jJ6 (by omega)];exact e2
 ·refine⟨-1,r,_,?_,hl,ha,jL3 _,jL3 _⟩;unfold vQ;rw[jJ6 (by rw[hl.1];exact(hs.2 k.t).2 FI)]
theorem uC(t:Nat)(ht:t=29\/t=30\/t=31)(r:Rdr)(k:Tk)(ts:List Tk)(st:List Nat)(hk:k.t=t)(hl:Look src r (k::ts))(hb:big r+2*(k::ts).length<=vC)(hf:10*(k::ts).length+8<=f)(ha:Acc (32::69::9::st) ts):
  ∃x r' ts',yU src f t r=some (x,r')/\Got src st r (k::ts) r' ts' :=by
 unfold vC at hb;rw[jK6]at hb hf;obtain⟨r1,e1,b1,-,-,l1⟩:=jG hl;obtain⟨k2,t2,rfl,-,a2⟩:=jP (by decide) ha;obtain⟨r2,e2,b2,-,-,l2⟩:=jG l1;rw[jK6]at hb hf;obtain⟨x3,r3,t3,e3,p3,l3,a3,n3,b3⟩:=QQ (f:=f) r2 t2 _ l2 (by unfold vC;omega) (by omega) a2;obtain⟨k4,t4,rfl,-,a4⟩:=jP (by decide) a3;rw[jK6]at n3 b3;obtain⟨r4,e4,b4,-,-,l4⟩:=jG l3;refine⟨x3,r4,t4,?_,l4,a4,by simp only[jK6];omega,by simp only[jK6];omega⟩;unfold yU vQ;rw[jJ5 (by rw[hl.1,hk];exact fun e=>e rfl),e1,jL2,jJ5 (by omega),e2,jL2,e3,jL2,jJ6 p3,e4,jL2]
theorem Xj(t sym:Nat)(h:(t=29/\sym=64)\/(t=30/\sym=65))(r:Rdr)(ts:List Tk)(st:List Nat)(hl:Look src r ts)(hb:big r+2*ts.length<=vC)(hf:10*ts.length+8<=f)(ha:Acc (sym::st) ts):
  ∃x r' ts',yU src f t r=some (x,r')/\Got0 src st r ts r' ts' :=by
 have hs:58<=sym/\∀u,(jE sym u=true->u=t/\jK sym u=[u,32,69,9])/\(jE sym u=false->u≠t):=by
  rcases h with⟨rfl,rfl⟩|⟨rfl,rfl⟩
  ·refine⟨by decide,fun u=>⟨fun e=> ?_,fun e e2=> ?_⟩⟩
   ·have h1:u=29:=(by simpa [jE]using e);subst h1;exact⟨rfl,rfl⟩
   ·subst e2;cases e
  ·refine⟨by decide,fun u=>⟨fun e=> ?_,fun e e2=> ?_⟩⟩
   ·have h1:u=30:=(by simpa [jE]using e);subst h1;exact⟨rfl,rfl⟩
   ·subst e2;cases e
 obtain⟨k,ts2,rfl,hJ,⟨FI,ha⟩|⟨FI,ha⟩⟩:=kM hs.1 ha
 ·obtain⟨h1,h2⟩:=(hs.2 k.t).1 FI;rw[h2]at ha;obtain⟨-,a1⟩:=jL hJ ha;obtain⟨x,r',ts',e,g⟩:=uC t (by omega) r k ts2 st h1 hl hb hf a1;exact⟨x,r',ts',e,g.zero⟩
 ·refine⟨-1,r,_,?_,hl,ha,jL3 _,jL3 _⟩;unfold yU vQ;rw[jJ6 (by rw[hl.1];exact(hs.2 k.t).2 FI),jL2,jJ5 (show¬(0:Int)<= -1 by decide)]
theorem qj(t0:Nat)(ht:t0<58)(r:Rdr)(ts:List Tk)(st:List Nat)(hl:Look src r ts)(hb:big r+2*ts.length<=vC)(ha:Acc (t0::1::st) ts):
  ∃w a o r' ts',Zf src r=some (w,a,o,r')/\Look src r' ts' /\Acc st ts' /\ts'.length+2=ts.length/\big r' =big r+1:=by
 obtain⟨k1,t1,rfl,-,a1⟩:=jP ht ha;obtain⟨r1,e1,b1,-,-,l1⟩:=jG hl;obtain⟨k2,t2,rfl,-,a2⟩:=jP (by decide) a1;obtain⟨r2,e2,b2,-,-,l2⟩:=jG l1;unfold vC at hb;have ho:r2.order<=big r2:=by unfold big;omega
 refine⟨⟨(kC src r1).toArray⟩,(r1.from_:Int),(r2.order:Int),{r2 with order:=r2.order+1},t2,?_,?_,a2,rfl,?_⟩
 ·unfold Zf ze;rw[e1,jL2,e2];simp only[Option.map_some,jL2];rw[jJ6 (by omega)]
 ·cases t2 with
  |nil=>trivial
  |cons k t2=>exact l2
 ·rw[<-b1,<-b2];unfold big;simp only;omega
theorem jGX(r:Rdr)(ts:List Tk)(st:List Nat)(hl:Look src r ts)(ha:Acc (63::st) ts):∃w a r' ts',inN src r=some (w,a,r')/\Got0 src st r ts r' ts' :=by
 obtain⟨k,ts2,rfl,hJ,⟨FI,ha⟩|⟨FI,ha⟩⟩:=kM (by decide) ha
 ·have h1:k.t=28:=(by simpa [jE]using FI);rw[show jK 63 k.t=[28,1]by rw[h1];rfl]at ha;obtain⟨-,a1⟩:=jL (by decide) ha;obtain⟨r1,e1,b1,-,-,l1⟩:=jG hl;obtain⟨k2,t2,rfl,-,a2⟩:=jP (by decide) a1;obtain⟨r2,e2,b2,-,-,l2⟩:=jG l1;refine⟨⟨(kC src r1).toArray⟩,(r1.from_:Int),r2,t2,?_,l2,a2,by simp only[jK6];omega,by simp only[jK6];omega⟩;unfold inN ze;rw[jJ6 (by rw[hl.1];exact h1),e1,jL2,e2];rfl
 ·have h1:k.t≠28:=fun e=>by rw[e]at FI;cases FI
  refine⟨⟨#[]⟩,0,r,_,?_,hl,ha,jL3 _,jL3 _⟩;unfold inN;rw[jJ5 (by rw[hl.1];exact h1)]
theorem jBo(r:Rdr)(ts:List Tk)(st:List Nat)(hl:Look src r ts)(ha:Acc (60::st) ts):∃x r' ts',qx src r=some (x,r')/\Got src st r ts r' ts' :=by
 obtain⟨k,ts2,rfl,hJ,FI,ha⟩:=ki (by decide) (by decide) ha;have h1:34<=k.t/\k.t<=38:=(by simpa [jE]using FI);have h2:jK 60 k.t=[k.t]:=by
  unfold jK;rw[jJ5 (by rw[FI];decide)];rfl
 rw[h2]at ha;obtain⟨-,a1⟩:=jL hJ ha;obtain⟨r1,e1,b1,-,-,l1⟩:=jG hl;refine⟨(r.t:Int)-33,r1,ts2,?_,l1,a1,by simp only[jK6];omega,by simp only[jK6];omega⟩;unfold qx;rw[jJ6 (by rw[hl.1];exact h1),e1];rfl
theorem QP(r:Rdr)(ts:List Tk)(st:List Nat)(hl:Look src r ts)(ha:Acc (59::st) ts):∃b r' ts',jn src 39 r=some (b,r')/\Got0 src st r ts r' ts' :=by
 obtain⟨k,ts2,rfl,hJ,⟨FI,ha⟩|⟨FI,ha⟩⟩:=kM (by decide) ha
 ·have h1:k.t=39:=(by simpa [jE]using FI);rw[show jK 59 k.t=[39]by rw[h1];rfl]at ha;obtain⟨-,a1⟩:=jL (by decide) ha;obtain⟨r1,e1,b1,-,-,l1⟩:=jG hl;refine⟨true,r1,ts2,?_,l1,a1,by simp only[jK6];omega,by simp only[jK6];omega⟩;unfold jn;rw[jJ6 (by rw[hl.1];exact h1),e1];rfl
 ·have h1:k.t≠39:=fun e=>by rw[e]at FI;cases FI
  refine⟨false,r,_,?_,hl,ha,jL3 _,jL3 _⟩;unfold jn;rw[jJ5 (by rw[hl.1];exact h1)]
theorem jGY(r:Rdr)(ts:List Tk)(st:List Nat)(hl:Look src r ts)(hb:big r+2*ts.length<=vC)(hf:10*ts.length+8<=f)(ha:Acc (24::1::10::59::60::61::62::9::st) ts):∃r' ts',Qx src f r=some r' /\Got src st r ts r' ts' :=by
 obtain⟨w,a,o,r1,t1,e1,l1,a1,n1,b1⟩:=qj 24 (by decide) r ts _ hl hb ha;unfold vC at hb;obtain⟨k2,t2,rfl,-,a2⟩:=jP (by decide) a1;obtain⟨r2,e2,b2,-,-,l2⟩:=jG l1;rw[jK6]at n1;obtain⟨x3,r3,t3,e3,l3,a3,n3,b3⟩:=QP r2 t2 _ l2 a2;obtain⟨x4,r4,t4,e4,l4,a4,n4,b4⟩:=jBo r3 t3 _ l3 a3;obtain⟨x5,r5,t5,e5,l5,a5,n5,b5⟩:=qi (f:=f) 12 61 (.inl ⟨rfl,rfl⟩) r4 t4 _ l4 (by unfold vC;omega) (by omega) a4;obtain⟨x6,r6,t6,e6,l6,a6,n6,b6⟩:=qi (f:=f) 32 62 (.inr ⟨rfl,rfl⟩) r5 t5 _ l5 (by unfold vC;omega) (by omega) a5;obtain⟨k7,t7,rfl,-,a7⟩:=jP (by decide) a6;obtain⟨r7,e7,b7,-,-,l7⟩:=jG l6;rw[jK6]at n6 b6;have FA:r7.tree.attrs.length<=big r7:=by unfold big;omega
 refine⟨{r7 with tree:={r7.tree with attrs:=r7.tree.attrs++[⟨w,a,o,x3,x4,x5,x6⟩]}},t7,?_,?_,a7,by omega,?_⟩
 ·unfold Qx;simp only[e1,e2,e3,e4,e5,e6,e7,jL2];rw[jJ6 (by omega)]
 ·cases t7 with
  |nil=>trivial
  |cons k t7=>exact l7
 ·have:big {r7 with tree:={r7.tree with attrs:=r7.tree.attrs++[⟨w,a,o,x3,x4,x5,x6⟩]}}=big r7+1:=by
   unfold big;simp only[jJ4,jK6,jN2];omega
  omega
theorem jD1(r:Rdr)(ts:List Tk)(st:List Nat)(hl:Look src r ts)(hb:big r+2*ts.length<=vC)(hf:10*ts.length+8<=f)(ha:Acc (25::1::63::4::64::65::5::st) ts):∃r' ts',Ye src f r=some r' /\Got src st r ts r' ts' :=by
 obtain⟨w,a,o,r1,t1,e1,l1,a1,n1,b1⟩:=qj 25 (by decide) r ts _ hl hb ha;unfold vC at hb;obtain⟨x2,y2,r2,t2,e2,l2,a2,n2,b2⟩:=jGX r1 t1 _ l1 a1;obtain⟨k3,t3,rfl,-,a3⟩:=jP (by decide) a2;obtain⟨r3,e3,b3,-,-,l3⟩:=jG l2;rw[jK6]at n2 b2;obtain⟨x4,r4,t4,e4,l4,a4,n4,b4⟩:=Xj (f:=f) 29 64 (.inl ⟨rfl,rfl⟩) r3 t3 _ l3 (by unfold vC;omega) (by omega) a3;obtain⟨x5,r5,t5,e5,l5,a5,n5,b5⟩:=Xj (f:=f) 30 65 (.inr ⟨rfl,rfl⟩) r4 t4 _ l4 (by unfold vC;omega) (by omega) a4;obtain⟨k7,t7,rfl,-,a7⟩:=jP (by decide) a5;obtain⟨r7,e7,b7,-,-,l7⟩:=jG l5;rw[jK6]at n5 b5;have FA:r7.tree.stages.length<=big r7:=by unfold big;omega
 refine⟨{r7 with tree:={r7.tree with stages:=r7.tree.stages++[⟨w,a,o,x2,y2,x4,x5⟩]}},t7,?_,?_,a7,by omega,?_⟩
 ·unfold Ye;simp only[e1,e2,e3,e4,e5,e7,jL2];rw[jJ6 (by omega)]
 ·cases t7 with
  |nil=>trivial
  |cons k t7=>exact l7
 ·have:big {r7 with tree:={r7.tree with stages:=r7.tree.stages++[⟨w,a,o,x2,y2,x4,x5⟩]}}=big r7+1:=by
   unfold big;simp only[jJ4,jK6,jN2];omega
  omega
theorem jGW(r:Rdr)(ts:List Tk)(st:List Nat)(hl:Look src r ts)(hb:big r+2*ts.length<=vC)(hf:10*ts.length+8<=f)(ha:Acc (26::1::63::31::32::69::9::st) ts):∃r' ts',QW src f r=some r' /\Got src st r ts r' ts' :=by
 obtain⟨w,a,o,r1,t1,e1,l1,a1,n1,b1⟩:=qj 26 (by decide) r ts _ hl hb ha;unfold vC at hb;obtain⟨x2,y2,r2,t2,e2,l2,a2,n2,b2⟩:=jGX r1 t1 _ l1 a1;obtain⟨k3,t3,rfl,Gu,a3⟩:=jP (by decide) a2;obtain⟨x4,r4,t4,e4,l4,a4,n4,b4⟩:=uC (f:=f) 31 (.inr (.inr rfl)) r2 k3 t3 _ Gu l2 (by unfold vC;omega) (by omega) a3;have FA:r4.tree.miles.length<=big r4:=by unfold big;omega
 refine⟨{r4 with tree:={r4.tree with miles:=r4.tree.miles++[⟨w,a,o,x2,y2,x4⟩]}},t4,?_,?_,a4,by omega,?_⟩
 ·unfold QW;simp only[e1,e2,e4,jL2];rw[jJ6 (by omega)]
 ·cases t4 with
  |nil=>trivial
  |cons k t7=>exact l4
 ·have:big {r4 with tree:={r4.tree with miles:=r4.tree.miles++[⟨w,a,o,x2,y2,x4⟩]}}=big r4+1:=by
   unfold big;simp only[jJ4,jK6,jN2];omega
  omega
theorem uD:∀(f:Nat) (n:Nat) (ps:List Prm) (r:Rdr) (ts:List Tk) (st:List Nat),(n=66\/n=67)->ps.length+ts.length<=900000->Look src r ts->ts.length+1<=f->Acc (n::7::st) ts->
  ∃qs r' ts',yc src f ps r=some (qs,r')/\Got0 src (7::st) r ts r' ts'
 |0,n,ps,r,ts,st,hn,hp,hl,hf,ha=>by omega
 |f+1,n,ps,r,ts,st,hn,hp,hl,hf,ha=>by
  have key:(∃k t2,ts=k::t2/\k.t=7/\Acc (7::st) ts)\/(∃k t2,ts=k::t2/\k.t≠7/\∃b r1 t1,jn src 8 r=some (b,r1)/\Look src r1 t1/\t1.length<=ts.length/\big r1=big r/\Acc (1::10::60::67::7::st) t1):=by
   rcases hn with rfl|rfl
   ·obtain⟨k,ts2,rfl,hJ,⟨FI,ha⟩|⟨FI,ha⟩⟩:=kM (by decide) ha
    ·have h1:k.t=1:=(by simpa [jE]using FI);rw[show jK 66 k.t=[1,10,60,67]by rw[h1];rfl]at ha;refine .inr ⟨k,ts2,rfl,by omega,false,r,k::ts2,?_,hl,jL3 _,rfl,ha⟩;unfold jn;rw[jJ5 (by rw[hl.1];omega)]
    ·obtain⟨h1,-⟩:=jL (by decide) ha;exact .inl ⟨k,ts2,rfl,h1,ha⟩
   ·obtain⟨k,ts2,rfl,hJ,⟨FI,ha⟩|⟨FI,ha⟩⟩:=kM (by decide) ha
    ·have h1:k.t=8:=(by simpa [jE]using FI);rw[show jK 67 k.t=[8,1,10,60,67]by rw[h1];rfl]at ha;obtain⟨-,a1⟩:=jL (by decide) ha;obtain⟨r1,e1,b1,-,-,l1⟩:=jG hl;refine .inr ⟨k,ts2,rfl,by omega,true,r1,ts2,?_,l1,by simp,b1,a1⟩;unfold jn;rw[jJ6 (by rw[hl.1];exact h1),e1];rfl
    ·obtain⟨h1,-⟩:=jL (by decide) ha;exact .inl ⟨k,ts2,rfl,h1,ha⟩
  rcases key with⟨k,t2,rfl,h7,ha⟩|⟨k,t2,rfl,h7,b,r1,t1,e1,l1,n1,b1,a1⟩
  ·refine⟨ps,r,_,?_,hl,ha,jL3 _,jL3 _⟩;rw[yc,jJ6 (by rw[hl.1];exact h7)]
  ·obtain⟨k2,t2',rfl,-,a2⟩:=jP (by decide) a1;obtain⟨r2,e2,b2,-,-,l2⟩:=jG l1;obtain⟨k3,t3,rfl,-,a3⟩:=jP (by decide) a2;obtain⟨r3,e3,b3,-,-,l3⟩:=jG l2;obtain⟨x4,r4,t4,e4,l4,a4,n4,b4⟩:=jBo r3 t3 _ l3 a3;simp only[jK6]at n1 hp hf;obtain⟨qs,r5,t5,e5,l5,a5,n5,b5⟩:=uD f 67 (ps++[⟨⟨(kC src r1).toArray⟩,(r1.from_:Int),x4⟩]) r4 t4 st (.inr rfl) (by rw[jJ4,List.length_singleton];omega) l4 (by omega) a4;refine⟨qs,r5,t5,?_,l5,a5,by simp only[jK6];omega,by simp only[jK6];omega⟩;rw[yc,jJ5 (by rw[hl.1];exact h7),jJ6 (by omega),e1];simp only[ze,e2,e3,e4,e5,jL2,Option.map_some]
theorem VU(src:LB):∀(f:Nat) (es:List Eff) (r:Rdr) (ts:List Tk) (st:List Nat),es.length+ts.length<=900000->Look src r ts->big r+2*ts.length<=vC->10*ts.length+10<=f->Acc (68::5::st) ts->
  ∃qs r' ts',vf src f es r=some (qs,r')/\Got0 src (5::st) r ts r' ts'
 |0,es,r,ts,st,hp,hl,hb,hf,ha=>by omega
 |f+1,es,r,ts,st,hp,hl,hb,hf,ha=>by
  obtain⟨k,ts2,rfl,hJ,⟨FI,ha⟩|⟨FI,ha⟩⟩:=kM (by decide) ha
  ·unfold vC at hb;simp only[jK6]at hb hp hf;have h1:k.t=1\/k.t=33:=(by simpa [jE]using FI);rcases h1 with h1|h1
   ·rw[show jK 68 k.t=[1,11,69,9,68]by rw[h1];rfl]at ha;obtain⟨-,a1⟩:=jL (by decide) ha;obtain⟨r1,e1,b1,-,-,l1⟩:=jG hl;obtain⟨k2,t2,rfl,-,a2⟩:=jP (by decide) a1;obtain⟨r2,e2,b2,-,-,l2⟩:=jG l1;simp only[jK6]at hb hp hf;obtain⟨x3,r3,t3,e3,p3,l3,a3,n3,b3⟩:=QQ (f:=f) r2 t2 _ l2 (by unfold vC;omega) (by omega) a2;obtain⟨k4,t4,rfl,-,a4⟩:=jP (by decide) a3;obtain⟨r4,e4,b4,-,-,l4⟩:=jG l3;rw[jK6]at n3 b3;obtain⟨qs,r5,t5,e5,l5,a5,n5,b5⟩:=VU src f (es++[⟨⟨(kC src r).toArray⟩,(r.from_:Int),x3⟩]) r4 t4 st (by rw[jJ4,List.length_singleton];omega) l4 (by unfold vC;omega) (by omega) a4;refine⟨qs,r5,t5,?_,l5,a5,by simp only[jK6];omega,by simp only[jK6];omega⟩;rw[vf,jJ5 (by rw[hl.1,h1];decide),jJ6 (by omega),jn,jJ5 (by rw[hl.1,h1];decide)];simp only[ze,e1,e2,e3,e4,e5,jL2,Option.map_some,Bool.false_eq_true,if_false]
   ·rw[show jK 68 k.t=[33,1,9,68]by rw[h1];rfl]at ha;obtain⟨-,a1⟩:=jL (by decide) ha;obtain⟨r1,e1,b1,-,-,l1⟩:=jG hl;obtain⟨k2,t2,rfl,-,a2⟩:=jP (by decide) a1;obtain⟨r2,e2,b2,-,-,l2⟩:=jG l1;obtain⟨k4,t4,rfl,-,a4⟩:=jP (by decide) a2;obtain⟨r4,e4,b4,-,-,l4⟩:=jG l2;simp only[jK6]at hb hp hf;obtain⟨qs,r5,t5,e5,l5,a5,n5,b5⟩:=VU src f (es++[⟨⟨(kC src r1).toArray⟩,(r1.from_:Int),-1⟩]) r4 t4 st (by rw[jJ4,List.length_singleton];omega) l4 (by unfold vC;omega) (by omega) a4;refine⟨qs,r5,t5,?_,l5,a5,by simp only[jK6];omega,by simp only[jK6];omega⟩;rw[vf,jJ5 (by rw[hl.1,h1];decide),jJ6 (by omega),jn,jJ6 (by rw[hl.1,h1])];simp only[ze,e1,e2,e4,e5,jL2,Option.map_some,if_true]
  ·obtain⟨h1,-⟩:=jL (by decide) ha;refine⟨es,r,_,?_,hl,ha,jL3 _,jL3 _⟩;rw[vf,jJ6 (by rw[hl.1];exact h1)]
theorem jGU(r:Rdr)(ts:List Tk)(st:List Nat)(hl:Look src r ts)(hb:big r+2*ts.length<=vC)(hf:10*ts.length+10<=f)(ha:Acc (27::1::6::66::7::63::62::4::68::5::st) ts):∃r' ts',QB src f r=some r' /\Got src st r ts r' ts' :=by
 obtain⟨w,a,o,r1,t1,e1,l1,a1,n1,b1⟩:=qj 27 (by decide) r ts _ hl hb ha;unfold vC at hb;obtain⟨k2,t2,rfl,-,a2⟩:=jP (by decide) a1;obtain⟨r2,e2,b2,-,-,l2⟩:=jG l1;rw[jK6]at n1;obtain⟨ps,r3,t3,e3,l3,a3,n3,b3⟩:=uD f 66 [] r2 t2 _ (.inl rfl) (by rw[jN2];omega) l2 (by omega) a2;obtain⟨k4,t4,rfl,-,a4⟩:=jP (by decide) a3;obtain⟨r4,e4,b4,-,-,l4⟩:=jG l3;rw[jK6]at n3 b3;obtain⟨x5,y5,r5,t5,e5,l5,a5,n5,b5⟩:=jGX r4 t4 _ l4 a4;obtain⟨x6,r6,t6,e6,l6,a6,n6,b6⟩:=qi (f:=f) 32 62 (.inr ⟨rfl,rfl⟩) r5 t5 _ l5 (by unfold vC;omega) (by omega) a5;obtain⟨k7,t7,rfl,-,a7⟩:=jP (by decide) a6;obtain⟨r7,e7,b7,-,-,l7⟩:=jG l6;rw[jK6]at n6 b6;obtain⟨es,r8,t8,e8,l8,a8,n8,b8⟩:=VU src f [] r7 t7 _ (by rw[jN2];omega) l7 (by unfold vC;omega) (by omega) a7;obtain⟨k9,t9,rfl,-,a9⟩:=jP (by decide) a8;obtain⟨r9,e9,b9,-,-,l9⟩:=jG l8;rw[jK6]at n8 b8;have FA:r9.tree.steps.length<=big r9:=by unfold big;omega
 refine⟨{r9 with tree:={r9.tree with steps:=r9.tree.steps++[⟨w,a,o,ps,x5,y5,x6,es⟩]}},t9,?_,?_,a9,by omega,?_⟩
 ·unfold QB;simp only[e1,e2,e3,e4,e5,e6,e7,e8,e9,jL2];rw[jJ6 (by omega)]
 ·cases t9 with
  |nil=>trivial
  |cons k t9=>exact l9
 ·have:big {r9 with tree:={r9.tree with steps:=r9.tree.steps++[⟨w,a,o,ps,x5,y5,x6,es⟩]}}=big r9+1:=by
   unfold big;simp only[jJ4,jK6,jN2];omega
  omega
theorem Kb(src:LB):∀(f:Nat) (r:Rdr) (ts:List Tk),Look src r ts->big r+2*ts.length<=vC->10*ts.length+11<=f->Acc [58,5] ts->∃r',yy src f r=some r'
 |0,r,ts,hl,hb,hf,ha=>by omega
 |f+1,r,ts,hl,hb,hf,ha=>by
  obtain⟨k,ts2,rfl,hJ,⟨FI,ha⟩|⟨FI,ha⟩⟩:=kM (by decide) ha
  ·have h1:24<=k.t/\k.t<=27:=(by simpa [jE]using FI);rw[yy];have hc:k.t=24\/k.t=25\/k.t=26\/k.t=27:=(by omega);rcases hc with h|h|h|h
   ·rw[show jK 58 k.t=[24,1,10,59,60,61,62,9,58]by rw[h];rfl]at ha;obtain⟨r1,t1,e1,l1,a1,n1,b1⟩:=jGY (f:=f) r _ [58,5] hl hb (by omega) ha;unfold vC at hb;obtain⟨r2,e2⟩:=Kb src f r1 t1 l1 (by unfold vC;omega) (by omega) a1;refine⟨r2,?_⟩;rw[jJ6 (by rw[hl.1];exact h),e1];exact e2
   ·rw[show jK 58 k.t=[25,1,63,4,64,65,5,58]by rw[h];rfl]at ha;obtain⟨r1,t1,e1,l1,a1,n1,b1⟩:=jD1 (f:=f) r _ [58,5] hl hb (by omega) ha;unfold vC at hb;obtain⟨r2,e2⟩:=Kb src f r1 t1 l1 (by unfold vC;omega) (by omega) a1;refine⟨r2,?_⟩;rw[jJ5 (by rw[hl.1];omega),jJ6 (by rw[hl.1];exact h),e1];exact e2
   ·rw[show jK 58 k.t=[26,1,63,31,32,69,9,58]by rw[h];rfl]at ha;obtain⟨r1,t1,e1,l1,a1,n1,b1⟩:=jGW (f:=f) r _ [58,5] hl hb (by omega) ha;unfold vC at hb;obtain⟨r2,e2⟩:=Kb src f r1 t1 l1 (by unfold vC;omega) (by omega) a1;refine⟨r2,?_⟩;rw[jJ5 (by rw[hl.1];omega),jJ5 (by rw[hl.1];omega),jJ6 (by rw[hl.1];exact h),e1];exact e2
   ·rw[show jK 58 k.t=[27,1,6,66,7,63,62,4,68,5,58]by rw[h];rfl]at ha;obtain⟨r1,t1,e1,l1,a1,n1,b1⟩:=jGU (f:=f) r _ [58,5] hl hb (by omega) ha;unfold vC at hb;obtain⟨r2,e2⟩:=Kb src f r1 t1 l1 (by unfold vC;omega) (by omega) a1;refine⟨r2,?_⟩;rw[jJ5 (by rw[hl.1];omega),jJ5 (by rw[hl.1];omega),jJ5 (by rw[hl.1];omega),jJ6 (by rw[hl.1];exact h),e1];exact e2
  ·obtain⟨h1,-⟩:=jL (by decide) ha;refine⟨r,?_⟩;rw[yy,jJ5 (by rw[hl.1];omega),jJ5 (by rw[hl.1];omega),jJ5 (by rw[hl.1];omega),jJ5 (by rw[hl.1];omega)]
theorem jDq{src:LB}{ts:List Tk}(ht:Toks src 0 ts)(ha:Acc [23,1,4,58,5] ts)(hn:ts.length<=400000)(f:Nat)(hf:10*ts.length+11<=f):∃r,yh src f=some r:=by
 obtain⟨r1,e1,b1,-,-,l1⟩:=Yv (r:=⟨0,0,0,0,Tre.none_⟩) ht;obtain⟨k1,t1,rfl,-,a1⟩:=jP (by decide) ha;obtain⟨r2,e2,b2,-,-,l2⟩:=jG l1;obtain⟨k2,t2,rfl,-,a2⟩:=jP (by decide) a1;obtain⟨r3,e3,b3,-,-,l3⟩:=jG l2;obtain⟨k3,t3,rfl,-,a3⟩:=jP (by decide) a2;obtain⟨r4,e4,b4,-,-,l4⟩:=jG l3;simp only[jK6]at hn hf;have h0:big ⟨0,0,0,0,Tre.none_⟩=0:=rfl;obtain⟨r',e'⟩:=Kb src f {r4 with tree:={r4.tree with name:=⟨(kC src r2).toArray⟩,at_:=(r2.from_:Int)}} t3 (by
  cases t3 with
  |nil=>trivial
  |cons k t=>exact l4) (by
  have:big {r4 with tree:={r4.tree with name:=⟨(kC src r2).toArray⟩,at_:=(r2.from_:Int)}}=big r4:=rfl;unfold vC;omega) (by omega) a3
 refine⟨r',?_⟩;unfold yh ze;simp only[e1,e2,e3,e4,jL2,Option.map_some];exact e'
end
end Go.Proofs.YtmmjcbbogokmfaaGreatDoor

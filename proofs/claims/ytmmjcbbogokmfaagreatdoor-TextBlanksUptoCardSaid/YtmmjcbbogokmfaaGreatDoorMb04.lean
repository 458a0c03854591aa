import Derived.Test.YtmmjcbbogokmfaaGreatDoorMb03
set_option maxRecDepth 100000
set_option maxHeartbeats 25600000
namespace Go.Proofs.YtmmjcbbogokmfaaGreatDoor
open Go.Proofs.Tryz
def jO(t:Nat):LB:=if t<23 then signL.getD (t-4) []else resL.getD (t-23) []
def jHk(k:Tok):Prop:=(Uw k.1=true->∃x:Lt,jt k.1 k.2=some x.nd/\x.ok)/\(k.1=1->jQ k.2=true)/\(4<=k.1->k.2=jO k.1)
theorem jHs{src:LB}{k:Tk}(h:us src k)(hs:4<=k.t->Ve src k=jO k.t):jHk (vD src k):=by
 refine⟨fun hl=> ?_,h.2,hs⟩;obtain⟨n,hn⟩:=h.1 hl;have Gg:=jM8 hl;show∃x:Lt,jt k.t (Ve src k)=some x.nd/\x.ok;rw[hn];have Ak:k.t=2\/k.t=46\/k.t=47\/k.t=3\/k.t=48\/k.t=1:=Gg;unfold jt at hn;by_cases h2:k.t=2
 ·rw[jJ6 h2]at hn;split at hn
  ·rename_i hs;exact⟨.int (zy (Ve src k) 0),by rw[<-hn];rfl,(jFU hs.1).2⟩
  ·cases hn
 rw[jJ5 h2]at hn;by_cases h46:k.t=46\/k.t=47
 ·rw[jJ6 h46]at hn;rcases h46 with e|e
  ·exact⟨.bool true,by rw[<-hn,e];rfl,trivial⟩
  ·exact⟨.bool false,by rw[<-hn,e];rfl,trivial⟩
 rw[jJ5 h46]at hn;by_cases h3:k.t=3
 ·rw[jJ6 h3]at hn;split at hn
  ·obtain⟨v,hv,e⟩:=jM4 hn;exact⟨.text v,by rw[<-e];rfl,trivial⟩
  ·cases hn
 rw[jJ5 h3]at hn;by_cases h1:k.t=1
 ·rw[jJ6 h1]at hn;exact⟨.name (Ve src k),by rw[<-hn];rfl,h.2 h1⟩
 rw[jJ5 h1]at hn;exact⟨.none_,by rw[<-hn];rfl,trivial⟩
def Al(src:LB)(ts:List Tk):Prop:=∀k∈ts,jHk (vD src k)
theorem Al.tail{src:LB}{k:Tk}{ts:List Tk}(h:Al src (k::ts)):Al src ts:=fun x hx=>h x (jN1 _ hx)
theorem Al.head{src:LB}{k:Tk}{ts:List Tk}(h:Al src (k::ts)):jHk (vD src k):=h k (List.mem_cons_self ..)
abbrev tks(src:LB)(ts:List Tk):List Tok:=ts.map (vD src)
structure Gp(src:LB)(st:List Nat)(ts:List Tk)(ts' :List Tk):Prop where
 acc:Acc st ts'
 len:ts'.length<ts.length
 al:Al src ts'
structure Gp0(src:LB)(st:List Nat)(ts:List Tk)(ts' :List Tk):Prop where
 acc:Acc st ts'
 len:ts'.length<=ts.length
 al:Al src ts'
inductive LstN:Nat->Bool->Option Nat->List Nat->Prop
 |shut (n:Nat) (i:Bool):LstN n i (some 0) [n]
 |ex {n:Nat} {c:Option Nat} {M:List Nat}:LstN n false c M->LstN n true (c.map (· +1)) (69::M)
 |comma {n:Nat} {c:Option Nat} {M:List Nat}:LstN n false c M->LstN n false (c.map (· +1)) (8::69::M)
 |set:LstN 5 true none [83,5]
 |more:LstN 5 false none [84,5]
theorem Ut{last:Nat}{i:Bool}{n:Option Nat}{L st:List Nat}{ts:List Tk}(WQ:last=5\/last=7)(hL:LstN last i n L)(ha:Acc (L++st) ts):
  ∃k ts',ts=k::ts' /\((k.t=last/\(∀m,n=some m->m=0)/\Acc st ts')\/(i=true/\k.t≠last/\k.t≠8/\∃M c,n=c.map (· +1)/\LstN last false c M/\Acc (69::(M++st)) (k::ts'))\/(i=false/\k.t=8/\∃M c,n=c.map (· +1)/\LstN last false c M/\Acc (69::(M++st)) ts')):=by
 cases hL with
 |shut=>
  obtain⟨k,ts',e,h1,h2⟩:=jP (by omega) ha;exact⟨k,ts',e,.inl ⟨h1,fun m e=>by injection e with e;exact e.symm,h2⟩⟩
 | @ex _ c M hM=>
  obtain⟨k,ts',e,hJ,hb,h1⟩:=ki (by decide) (by decide) ha;have h2:=jJ0 _ hb;subst e;exact⟨k,ts',rfl,.inr (.inl ⟨rfl,by omega,h2.2.2,M,c,rfl,hM,ha⟩)⟩
 | @comma _ c M hM=>
  obtain⟨k,ts',e,h1,h2⟩:=jP (by decide) ha;exact⟨k,ts',e,.inr (.inr ⟨rfl,h1,M,c,rfl,hM,h2⟩)⟩
 |set=>
  obtain⟨k,ts',e,hJ,⟨hb,h1⟩|⟨hb,h1⟩⟩:=kM (by decide) ha
  ·obtain⟨h2,h3,h4⟩:=jJz _ hb;rw[h4]at h1;exact⟨k,ts',e,.inr (.inl ⟨rfl,h2,h3,_,none,rfl,.more,h1⟩)⟩
  ·obtain⟨h2,h3⟩:=jL (by decide) h1;exact⟨k,ts',e,.inl ⟨h2,fun m e=>(by cases e),h3⟩⟩
 |more=>
  obtain⟨k,ts',e,hJ,⟨hb,h1⟩|⟨hb,h1⟩⟩:=kM (by decide) ha
  ·have h8:=jJy _ hb;rw[show jK 84 k.t=[8,69,84]by rw[h8];rfl]at h1;obtain⟨-,h2⟩:=jL (by decide) h1;exact⟨k,ts',e,.inr (.inr ⟨rfl,h8,_,none,rfl,.more,h2⟩)⟩
  ·obtain⟨h2,h3⟩:=jL (by decide) h1;exact⟨k,ts',e,.inl ⟨h2,fun m e=>(by cases e),h3⟩⟩
def jGO(op:Int):Prop:=9<=op/\op<=22
structure PaOk(src:LB)(f:Nat):Prop where
 ex:∀(ts:List Tk) (st:List Nat),Al src ts->10*ts.length+8<=f->Acc (69::st) ts->∃e ts',Pa .expr (tks src ts) e (tks src ts')/\e.ok false/\Gp src st ts ts'
 row:∀(l s k:Nat),(l,s,k)∈JP->∀(ts:List Tk) (st:List Nat),Al src ts->10*ts.length+k<=f->Acc (s::st) ts->∃e ts',Pa (.row l) (tks src ts) e (tks src ts')/\e.ok false/\Gp src st ts ts'
 more:∀(l s b u:Nat),(l,s,b,u)∈Vu->∀(e0:Exp9) (ts:List Tk) (st:List Nat),e0.ok false->Al src ts->10*ts.length+9<=f->Acc (s::st) ts->∃e ts',Pa (.more l e0) (tks src ts) e (tks src ts')/\e.ok false/\Gp0 src st ts ts'
 two:∀(l s k:Nat),(l,s,k)∈JP->∀(op:Int) (e0:Exp9) (c:Tk) (ts:List Tk) (st:List Nat),jGO op->e0.ok false->Al src (c::ts)->10*(c::ts).length<=f->Acc (s::st) ts->∃e ts',Pa (.two op e0 l) (tks src (c::ts)) e (tks src ts')/\e.ok false/\Gp src st (c::ts) ts'
 un:∀(ts:List Tk) (st:List Nat),Al src ts->10*ts.length+1<=f->Acc (81::st) ts->∃e ts',Pa .unary (tks src ts) e (tks src ts')/\e.ok false/\Gp src st ts ts'
 ls:∀(last:Nat) (i:Bool) (L:List Nat) (n:Option Nat) (ts:List Tk) (st:List Nat),(last=5\/last=7)->LstN last i n L->Al src ts->10*ts.length+9<=f->Acc (L++st) ts->∃l ts',Pa (.list last i) (tks src ts) l (tks src ts')/\l.ok true/\(∀m,n=some m->l.cnt=m)/\Gp src st ts ts'
section
variable{src:LB}{f:Nat}
theorem jJY(IH:PaOk src f)(ts:List Tk)(st:List Nat)(hl:Al src ts)(hf:10*ts.length+8<=f+1)(ha:Acc (69::st) ts):∃e ts',Pa .expr (tks src ts) e (tks src ts')/\e.ok false/\Gp src st ts ts' :=by
 obtain⟨k,ts2,rfl,hJ,FI,ha⟩:=ki (by decide) (by decide) ha;rw[jK6]at hf;by_cases NQ:k.t=40
 ·rw[show jK 69 k.t=[40,69,41,69,42,69]by rw[NQ];rfl]at ha;obtain⟨-,a1⟩:=jL (by decide) ha;obtain⟨x2,t2,e2,p2,a2,n2,l2⟩:=IH.ex ts2 _ hl.tail (by omega) a1;obtain⟨k3,t3,rfl,Gu,a3⟩:=jP (by decide) a2;rw[jK6]at n2;obtain⟨x4,t4,e4,p4,a4,n4,l4⟩:=IH.ex t3 _ l2.tail (by omega) a3;obtain⟨k5,t5,rfl,PT,a5⟩:=jP (by decide) a4;rw[jK6]at n4;obtain⟨x6,t6,e6,p6,a6,n6,l6⟩:=IH.ex t5 _ l4.tail (by omega) a5;exact⟨_,t6,.expr_if (k:=vD src k) (k2:=vD src k3) (k3:=vD src k5) NQ Gu PT e2 e4 e6,⟨rfl,⟨rfl,p2,rfl,p4,rfl,p6,rfl⟩,.inr (.inr (.inr (.inr (.inl ⟨rfl,rfl,rfl⟩))))⟩,a6,by rw[jK6];omega,l6⟩
 ·rw[jIm k.t FI NQ]at ha;obtain⟨x,ts',e,p,g⟩:=IH.row 43 70 7 (by decide) (k::ts2) st hl (by rw[jK6];omega) ha;exact⟨x,ts',.expr_row (k:=vD src k) NQ e,p,g⟩
theorem jGL{op:Int}{e q:Exp9}(h:jGO op)(he:e.ok false)(hq:q.ok false):(Exp9.node op [] (e.pair q)).ok false:=
 ⟨rfl,⟨rfl,he,rfl,hq,rfl⟩,.inr (.inr (.inr (.inr (.inr ⟨.inl h,rfl,rfl⟩))))⟩
theorem jH9(IH:PaOk src f)(l s k:Nat)(hm:(l,s,k)∈JP)(op:Int)(e0:Exp9)(c:Tk)(ts:List Tk)(st:List Nat)(ho:jGO op)(h0:e0.ok false)(hl:Al src (c::ts))(hf:10*(c::ts).length<=f+1)(ha:Acc (s::st) ts):∃e ts',Pa (.two op e0 l) (tks src (c::ts)) e (tks src ts')/\e.ok false/\Gp src st (c::ts) ts' :=by
 rw[jK6]at hf;have hk:k<=7:=by
  simp only[JP,List.mem_cons,Prod.mk.injEq,List.not_mem_nil,or_false]at hm;omega
 obtain⟨x2,t2,e2,p2,a2,n2,l2⟩:=IH.row l s k hm ts _ hl.tail (by omega) ha;exact⟨_,t2,.two e2,jGL ho h0 p2,a2,by rw[jK6];omega,l2⟩
theorem jBM{l t:Nat}(h:kJ l t≠0):jGO (kJ l t):=by
 unfold kJ at h⊢;unfold jGO;by_cases e1:l=43
 ·rw[jJ6 e1]at h⊢;by_cases e2:t=43
  ·rw[jJ6 e2];decide
  ·rw[jJ5 e2]at h;exact absurd rfl h
 rw[jJ5 e1]at h⊢;by_cases e2:l=44
 ·rw[jJ6 e2]at h⊢;by_cases e3:t=44
  ·rw[jJ6 e3];decide
  ·rw[jJ5 e3]at h;exact absurd rfl h
 rw[jJ5 e2]at h⊢;by_cases e3:l=18
 ·rw[jJ6 e3]at h⊢;by_cases e4:t=18\/t=19
  ·rw[jJ6 e4];omega
  ·rw[jJ5 e4]at h;exact absurd rfl h
 rw[jJ5 e3]at h⊢;by_cases e4:20<=t/\t<=22
 ·rw[jJ6 e4];omega
 ·rw[jJ5 e4]at h;exact absurd rfl h
theorem jGM(IH:PaOk src f)(l s b u:Nat)(hm:(l,s,b,u)∈Vu)(e0:Exp9)(ts:List Tk)(st:List Nat)(h0:e0.ok false)(hl:Al src ts)(hf:10*ts.length+9<=f+1)(ha:Acc (s::st) ts):∃e ts',Pa (.more l e0) (tks src ts) e (tks src ts')/\e.ok false/\Gp0 src st ts ts' :=by
 obtain⟨hJ,Mv,To,V7⟩:=Kf l s b u hm;obtain⟨k,ts2,rfl,Wn,⟨FI,ha⟩|⟨FI,ha⟩⟩:=kM hJ ha
 ·obtain⟨h1,h2⟩:=(V7 k.t Wn).1 FI;rw[h2]at ha;obtain⟨-,a1⟩:=jL (n:=k.t) Wn ha;obtain⟨x2,t2,e2,p2,a2,n2,l2⟩:=IH.two b u _ To (kJ l k.t) e0 k ts2 (s::st) (jBM h1) h0 hl (by rw[jK6]at hf⊢;omega) a1;rw[jK6]at n2 hf;obtain⟨x3,t3,e3,p3,a3,n3,l3⟩:=IH.more l s b u hm x2 t2 st p2 l2 (by omega) a2;rw[<-Mv]at e2;exact⟨x3,t3,.go (k:=vD src k) h1 e2 e3,p3,a3,by rw[jK6];omega,l3⟩
 ·exact⟨e0,k::ts2,.stop (k:=vD src k) ((V7 k.t Wn).2 FI),h0,ha,jL3 _,hl⟩
theorem qd(IH:PaOk src f)(l s k m b u j:Nat)(Mp:l=43\/l=44\/l=18\/l=20)(hm:(l,m,b,u)∈Vu)(hr:(b,u,j)∈JP)(hj:j+1<=k)(V7:∀t,jE s t=true->jK s t=[u,m])(hs:58<=s)(Tn:kX s=false)
  (ts:List Tk) (st:List Nat) (hl:Al src ts) (hf:10*ts.length+k<=f+1) (ha:Acc (s::st) ts):∃e ts',Pa (.row l) (tks src ts) e (tks src ts')/\e.ok false/\Gp src st ts ts' :=by
 obtain⟨k0,ts2,rfl,-,FI,ha⟩:=ki hs Tn ha;rw[V7 _ FI]at ha;obtain⟨x2,t2,e2,p2,a2,n2,l2⟩:=IH.row b u j hr _ (m::st) hl (by omega) ha;obtain⟨x3,t3,e3,p3,a3,n3,l3⟩:=IH.more l m b u hm x2 t2 st p2 l2 (by
  have:j<=7:=by
   simp only[JP,List.mem_cons,Prod.mk.injEq,List.not_mem_nil,or_false]at hr;omega
  omega) a2
 have Mv:=(Kf l m b u hm).2.1;rw[<-Mv]at e2;exact⟨x3,t3,.rowm Mp e2 e3,p3,a3,by omega,l3⟩
theorem jDv(IH:PaOk src f)(ts:List Tk)(st:List Nat)(hl:Al src ts)(hf:10*ts.length+5<=f+1)(ha:Acc (74::st) ts):∃e ts',Pa (.row 45) (tks src ts) e (tks src ts')/\e.ok false/\Gp src st ts ts' :=by
 obtain⟨k,ts2,rfl,hJ,FI,ha⟩:=ki (by decide) (by decide) ha;rw[jIl _ FI]at ha;by_cases Gv:k.t=45
 ·rw[jJ6 Gv,Gv]at ha;obtain⟨-,a1⟩:=jL (by decide) ha;rw[jK6]at hf;obtain⟨x2,t2,e2,p2,a2,n2,l2⟩:=IH.row 45 74 5 (by decide) ts2 _ hl.tail (by omega) a1;exact⟨_,t2,.not_ (k:=vD src k) Gv e2,⟨rfl,⟨rfl,p2,rfl⟩,.inr (.inr (.inr (.inl ⟨.inr (.inl rfl),rfl,rfl⟩)))⟩,a2,by rw[jK6];omega,l2⟩
 ·rw[jJ5 Gv]at ha;obtain⟨k',ts2',e',-,NP,ha⟩:=ki (by decide) (by decide) ha;injection e' with e1 e2;subst e1 e2;rw[jIk _ NP]at ha;obtain⟨x2,t2,e2,p2,a2,n2,l2⟩:=IH.row 18 77 4 (by decide) _ (76::st) hl (by omega) ha;obtain⟨k3,t3,rfl,TX,⟨N8,a3⟩|⟨N8,a3⟩⟩:=kM (by decide) a2
  ·rw[jIj _ N8]at a3;have h3:(12<=k3.t/\k3.t<=17)\/k3.t=28:=by
    have h2:76=k3.t\/(12<=k3.t/\k3.t<=17)\/k3.t=28:=(by simpa [jE,vG]using N8);omega
   obtain⟨-,a4⟩:=jL (n:=k3.t) (by omega) a3;have HT:=fun op ho=>IH.two 18 77 4 (by decide) op x2 k3 t3 st ho p2 l2 (by omega) a4;by_cases hc:12<=k3.t/\k3.t<=17
   ·obtain⟨x,ts',e,p,a,n,l⟩:=HT (11+((k3.t:Int)-12)) (by unfold jGO;omega);exact⟨x,ts',.rel (k:=vD src k) (k2:=vD src k3) Gv e2 hc e,p,a,by omega,l⟩
   ·obtain⟨x,ts',e,p,a,n,l⟩:=HT 17 (by unfold jGO;omega);exact⟨x,ts',.in_ (k:=vD src k) (k2:=vD src k3) Gv e2 (h3.resolve_left hc) e,p,a,by omega,l⟩
  ·have h3:¬(12<=k3.t/\k3.t<=17)/\k3.t≠28:=by
    have h2:¬(76=k3.t\/(12<=k3.t/\k3.t<=17)\/k3.t=28):=fun e=>by
     have:jE 76 k3.t=true:=by
      rcases e with e|e
      ·simp[jE,<-e]
      ·simp[jE,vG,e]
     rw[this]at N8;cases N8
    omega
   exact⟨x2,k3::t3,.sum (k:=vD src k) (k2:=vD src k3) Gv e2 h3.1 h3.2,p2,a3,n2,l2⟩
theorem jIA(IH:PaOk src f)(l s k:Nat)(hm:(l,s,k)∈JP)(ts:List Tk)(st:List Nat)(hl:Al src ts)(hf:10*ts.length+k<=f+1)(ha:Acc (s::st) ts):∃e ts',Pa (.row l) (tks src ts) e (tks src ts')/\e.ok false/\Gp src st ts ts' :=by
 simp only[JP,List.mem_cons,Prod.mk.injEq,List.not_mem_nil,or_false]at hm;rcases hm with⟨rfl,rfl,rfl⟩|⟨rfl,rfl,rfl⟩|⟨rfl,rfl,rfl⟩|⟨rfl,rfl,rfl⟩|⟨rfl,rfl,rfl⟩|⟨rfl,rfl,rfl⟩
 ·exact qd IH 43 70 7 71 44 72 6 (by decide) (by decide) (by decide) (by decide) (fun t h=>JX 70 72 71 t (by decide) h) (by decide) (by decide) ts st hl hf ha
 ·exact qd IH 44 72 6 73 45 74 5 (by decide) (by decide) (by decide) (by decide) (fun t h=>JX 72 74 73 t (by decide) h) (by decide) (by decide) ts st hl hf ha
 ·exact jDv IH ts st hl hf ha
 ·exact qd IH 18 77 4 78 20 79 3 (by decide) (by decide) (by decide) (by decide) (fun t h=>JX 77 79 78 t (by decide) h) (by decide) (by decide) ts st hl hf ha
 ·exact qd IH 20 79 3 80 19 81 2 (by decide) (by decide) (by decide) (by decide) (fun t h=>JX 79 81 80 t (by decide) h) (by decide) (by decide) ts st hl hf ha
 ·obtain⟨x,ts',e,p,g⟩:=IH.un ts st hl (by omega) ha;exact⟨x,ts',.rowu e,p,g⟩
theorem jJX(IH:PaOk src f)(last:Nat)(i:Bool)(L:List Nat)(n:Option Nat)(ts:List Tk)(st:List Nat)(WQ:last=5\/last=7)(hL:LstN last i n L)(hl:Al src ts)(hf:10*ts.length+9<=f+1)(ha:Acc (L++st) ts):
  ∃l ts',Pa (.list last i) (tks src ts) l (tks src ts')/\l.ok true/\(∀m,n=some m->l.cnt=m)/\Gp src st ts ts' :=by
 obtain⟨k,ts2,rfl,⟨h1,h0,h2⟩|⟨rfl,h1,h8,M,c,hn,hM,h2⟩|⟨rfl,h8,M,c,hn,hM,h2⟩⟩:=Ut WQ hL ha
 ·exact⟨.nil,ts2,.shut (k:=vD src k) h1,rfl,fun m e=>(h0 m e).symm,h2,by rw[jK6];omega,hl.tail⟩
 ·obtain⟨x2,t2,e2,p2,a2,n2,l2⟩:=IH.ex (k::ts2) _ hl (by omega) h2;rw[jK6]at n2 hf;obtain⟨l,t3,e3,p3,c3,a3,n3,l3⟩:=IH.ls last false M c t2 st WQ hM l2 (by omega) a2;refine⟨.cons x2 l,t3,.elem (k:=vD src k) h1 h8 e2 e3,⟨rfl,p2,p3⟩,fun m e=> ?_,a3,by rw[jK6];omega,l3⟩;rw[hn]at e;obtain⟨m',TA,e⟩:=jM4 e;rw[<-e,Exp9.cnt,c3 m' TA]
 ·rw[jK6]at hf;obtain⟨x2,t2,e2,p2,a2,n2,l2⟩:=IH.ex ts2 _ hl.tail (by omega) h2;obtain⟨l,t3,e3,p3,c3,a3,n3,l3⟩:=IH.ls last false M c t2 st WQ hM l2 (by omega) a2;refine⟨.cons x2 l,t3,.comma (k:=vD src k) (by omega) h8 e2 e3,⟨rfl,p2,p3⟩,fun m e=> ?_,a3,by rw[jK6];omega,l3⟩;rw[hn]at e;obtain⟨m',TA,e⟩:=jM4 e;rw[<-e,Exp9.cnt,c3 m' TA]
theorem jGf(t:Nat)(h:t=50\/t=51\/t=53\/t=54\/t=55\/t=56\/t=57):∃L m,zU t=t::6::L/\LstN 7 true (some m) L/\jAP t=m/\(((yL t=29\/yL t=30)/\m=0)\/(yL t=27/\m=1)\/((yL t=28\/yL t=31\/yL t=32\/yL t=33)/\m=2)):=by
 rcases h with rfl|rfl|rfl|rfl|rfl|rfl|rfl
 ·exact⟨[69,7],1,rfl,.ex (.shut 7 _),rfl,by decide⟩
 ·exact⟨[69,8,69,7],2,rfl,.ex (.comma (.shut 7 _)),rfl,by decide⟩
 ·exact⟨[7],0,rfl,.shut 7 _,rfl,by decide⟩
 ·exact⟨[7],0,rfl,.shut 7 _,rfl,by decide⟩
 ·exact⟨[69,8,69,7],2,rfl,.ex (.comma (.shut 7 _)),rfl,by decide⟩
 ·exact⟨[69,8,69,7],2,rfl,.ex (.comma (.shut 7 _)),rfl,by decide⟩
 ·exact⟨[69,8,69,7],2,rfl,.ex (.comma (.shut 7 _)),rfl,by decide⟩
theorem jJW(IH:PaOk src f)(ts:List Tk)(st:List Nat)(hl:Al src ts)(hf:10*ts.length+1<=f+1)(ha:Acc (81::st) ts):∃e ts',Pa .unary (tks src ts) e (tks src ts')/\e.ok false/\Gp src st ts ts' :=by
 obtain⟨k,ts2,rfl,hJ,FI,ha⟩:=ki (by decide) (by decide) ha;rw[jIi _ FI]at ha;rw[jK6]at hf;by_cases Nw:k.t=19
 ·rw[jJ6 Nw,Nw]at ha;obtain⟨-,a1⟩:=jL (by decide) ha;obtain⟨x2,t2,e2,p2,a2,n2,l2⟩:=IH.un ts2 _ hl.tail (by omega) a1;exact⟨_,t2,.neg (k:=vD src k) Nw e2,⟨rfl,⟨rfl,p2,rfl⟩,.inr (.inr (.inr (.inl ⟨.inl rfl,rfl,rfl⟩)))⟩,a2,by rw[jK6];omega,l2⟩
 rw[jJ5 Nw]at ha;obtain⟨k',ts2',e',-,NP,ha⟩:=ki (by decide) (by decide) ha;injection e' with e1 e2;subst e1 e2;rw[jIh _ NP]at ha;have Ff:vW k.t=true:=by
  have h2:82=k.t\/vW k.t=true:=(by simpa [jE,vG]using NP);rcases h2 with e|e
  ·exfalso;rw[<-e]at hJ;omega
  ·exact e
 have hc:=ZS Ff;by_cases N7:k.t=2\/k.t=46\/k.t=47\/k.t=3\/k.t=48\/k.t=1
 ·obtain⟨q1,q2,q3,q4⟩:=qu _ N7;rw[q1]at ha;obtain⟨-,a1⟩:=jL q4 ha;obtain⟨x,hx,ho⟩:=hl.head.1 q2;exact⟨_,ts2,.lit q2 hx,⟨rfl,ho⟩,a1,by rw[jK6];omega,hl.tail⟩
 by_cases h6:k.t=6
 ·rw[show zU k.t=[6,69,7]by rw[h6];rfl]at ha;obtain⟨-,a1⟩:=jL (by decide) ha;obtain⟨x2,t2,e2,p2,a2,n2,l2⟩:=IH.ex ts2 _ hl.tail (by omega) a1;obtain⟨k3,t3,rfl,Gu,a3⟩:=jP (by decide) a2;rw[jK6]at n2;exact⟨x2,t3,.par (k:=vD src k) (k2:=vD src k3) h6 Gu e2,p2,a3,by rw[jK6];omega,l2.tail⟩
 by_cases h4:k.t=4
 ·rw[show zU k.t=[4,83,5]by rw[h4];rfl]at ha;obtain⟨-,a1⟩:=jL (by decide) ha;obtain⟨l,t2,e2,p2,-,a2,n2,l2⟩:=IH.ls 5 true [83,5] none ts2 st (.inl rfl) .set hl.tail (by omega) a1;exact⟨_,t2,.set (k:=vD src k) h4 e2,⟨rfl,p2,.inl ⟨rfl,rfl⟩⟩,a2,by rw[jK6];omega,l2⟩
 by_cases FS:k.t=49\/k.t=52\/k.t=31
 ·obtain⟨q1,q2,q3,q4,q5,q6,q7⟩:=Ke _ FS;rw[q1]at ha;obtain⟨-,a1⟩:=jL q6 ha;obtain⟨k2,t2,rfl,Fg,a2⟩:=jP (by decide) a1;obtain⟨k3,t3,rfl,Gu,a3⟩:=jP (by decide) a2;obtain⟨k4,t4,rfl,PU,a4⟩:=jP (by decide) a3;refine⟨_,t4,.named (k:=vD src k) (k1:=vD src k2) (k2:=vD src k3) (k3:=vD src k4) FS Fg Gu PU,⟨rfl,rfl,.inr (.inl ⟨?_,hl.tail.tail.head.2.1 Gu,rfl⟩)⟩,a4,by simp only[jK6];omega,hl.tail.tail.tail.tail⟩;show yL k.t=24\/yL k.t=25\/yL k.t=26;rcases FS with e|e|e<;>rw[e]<;>decide
 ·obtain⟨L,m,q1,q2,qa,q3⟩:=jGf k.t (by omega);rw[q1]at ha;obtain⟨-,a1⟩:=jL hJ ha;obtain⟨k2,t2,rfl,Fg,a2⟩:=jP (by decide) a1;simp only[jK6]at hf;obtain⟨l,t3,e3,p3,c3,a3,n3,l3⟩:=IH.ls 7 true L (some m) t2 st (.inr rfl) q2 hl.tail.tail (by omega) a2;have TH:=c3 m rfl;have W7:k.t=50\/k.t=51\/k.t=53\/k.t=54\/k.t=55\/k.t=56\/k.t=57:=(by omega);refine⟨_,t3,.call (k:=vD src k) (k1:=vD src k2) W7 Fg (qa.trans TH.symm) e3,⟨rfl,p3,?_⟩,a3,by simp only[jK6];omega,l3⟩;show _ \/_;rw[TH];have hq:yL (vD src k).1=yL k.t:=rfl;rw[hq];rcases q3 with⟨e,e2⟩|⟨e,e2⟩|⟨e,e2⟩
  ·exact .inr (.inr (.inl ⟨e,rfl,e2⟩))
  ·exact .inr (.inr (.inr (.inl ⟨.inr (.inr e),rfl,e2⟩)))
  ·exact .inr (.inr (.inr (.inr (.inr ⟨.inr e,rfl,e2⟩))))
end
theorem Yr(src:LB):∀f,PaOk src f
 |0=>⟨fun ts st _ h _=>by omega,fun l s k hm ts st _ h ha=>by
   have:=xQ ha;omega,fun l s b u hm e0 ts st _ _ h _=>by omega,fun l s k hm op e0 c ts st _ _ _ h _=>by rw[jK6]at h;omega,fun ts st _ h _=>by omega,fun last i L n ts st _ _ _ h _=>by omega⟩
 |f+1=>⟨jJY (Yr src f),jIA (Yr src f),jGM (Yr src f),jH9 (Yr src f),jJW (Yr src f),jJX (Yr src f)⟩
theorem jy{src:LB}{k:List Tk}{t:Tok}{ts:List Tok}(h:tks src k=t::ts):∃k0 ks,k=k0::ks/\vD src k0=t/\tks src ks=ts:=by
 cases k with
 |nil=>cases h
 |cons k0 ks=>
  rw[tks,List.map_cons]at h;injection h with h1 h2;exact⟨k0,ks,rfl,h1,h2⟩
theorem qn{src:LB}{r r1:Rdr}{k:Tk}{ks:List Tk}(h:Look src r (k::ks))(hn:jw src r=some r1):Look src r1 ks/\r1.tree=r.tree/\r1.order=r.order:=by
 obtain⟨r',e,_,h1,h2,h3⟩:=jG h;rw[hn]at e;obtain rfl:=jL5 e;exact⟨h3,h1,h2⟩
def Tre.husk(t:Tre):Tre:={t with nodes:=[],ats:=[]}
structure Rp9(src:LB)(ns0:List Nd)(r r' :Rdr)(l:List Nd)(rest:List Tok):Prop where
 look:∃k',Look src r' k' /\tks src k' =rest
 nodes:r'.tree.nodes=ns0++l
 husk:r'.tree.husk=r.tree.husk
 order:r'.order=r.order
theorem jD6{n:Nd}{a:Nat}{r:Rdr}{y:Int×Rdr}(h:yA n a r=some y):y.1=(r.tree.nodes.length:Int)/\y.2.tree.nodes=r.tree.nodes++[n]/\y.2.tree.husk=r.tree.husk/\y.2.order=r.order/\y.2.t=r.t/\y.2.from_=r.from_ /\y.2.at_=r.at_:=by
 unfold yA at h;split at h
 ·obtain rfl:=jL5 h;exact⟨rfl,rfl,rfl,rfl,rfl,rfl,rfl⟩
 ·cases h
theorem yt{src:LB}{r r' :Rdr}{k:List Tk}(h:Look src r k)(h1:r'.t=r.t)(h2:r'.from_=r.from_)(h3:r'.at_=r.at_):Look src r' k:=by
 cases k with
 |nil=>trivial
 |cons a ks=>
  obtain⟨a1,a2,a3,a4⟩:=h;exact⟨h1.trans a1,h2.trans a2,h3.trans a3,a4⟩
def Mot(src:LB):PJ->List Tok->Exp9->List Tok->Prop
 | .expr,ts,e,rest=>∀f r k y b,Look src r k->tks src k=ts->r.tree.nodes.length=b->exN src f .expr r=some y->y.1=e.root b/\y.2.1=[]/\Rp9 src r.tree.nodes r y.2.2 (e.lay b) rest
 | .row l,ts,e,rest=>∀f r k y b,Look src r k->tks src k=ts->r.tree.nodes.length=b->exN src f (.row l) r=some y->y.1=e.root b/\y.2.1=[]/\Rp9 src r.tree.nodes r y.2.2 (e.lay b) rest
 | .unary,ts,e,rest=>∀f r k y b,Look src r k->tks src k=ts->r.tree.nodes.length=b->exN src f .unary r=some y->y.1=e.root b/\y.2.1=[]/\Rp9 src r.tree.nodes r y.2.2 (e.lay b) rest
 | .more l e0,ts,e,rest=>∀f r k y b ns0,Look src r k->tks src k=ts->ns0.length=b->r.tree.nodes=ns0++e0.lay b->exN src f (.more l (e0.root b)) r=some y->y.1=e.root b/\y.2.1=[]/\Rp9 src ns0 r y.2.2 (e.lay b) rest
 | .two op e0 l,ts,e,rest=>∀f r k y b ns0,Look src r k->tks src k=ts->ns0.length=b->r.tree.nodes=ns0++e0.lay b->exN src f (.two op (e0.root b) l) r=some y->y.1=e.root b/\y.2.1=[]/\Rp9 src ns0 r y.2.2 (e.lay b) rest
 | .list last _,ts,e,rest=>∀f r k y b kids,Look src r k->tks src k=ts->r.tree.nodes.length=b->exN src f (.list last kids) r=some y->y.1=0/\y.2.1=kids++e.roots b/\Rp9 src r.tree.nodes r y.2.2 (e.lay b) rest
section
variable{src:LB}
theorem Rp9.node{ns0:List Nd}{r r' :Rdr}{l:List Nd}{rest:List Tok}(h:Rp9 src ns0 r r' l rest){n:Nd}{a:Nat}{y:Int×Rdr}(hn:yA n a r' =some y):y.1=((ns0.length+l.length:Nat):Int)/\Rp9 src ns0 r y.2 (l++[n]) rest:=by
 obtain⟨h1,h2,h3,h4,h5,h6,h7⟩:=jD6 hn;obtain⟨k',hk,e⟩:=h.look;refine⟨by rw[h1,h.nodes,jJ4],⟨k',yt hk h5 h6 h7,e⟩,by rw[h2,h.nodes,jK1],h3.trans h.husk,h4.trans h.order⟩
theorem Rp9.start{r r1:Rdr}{k:Tk}{ks:List Tk}(h:Look src r (k::ks))(hn:jw src r=some r1):Rp9 src r.tree.nodes r r1 [] (tks src ks):=by
 obtain⟨h1,h2,h3⟩:=qn h hn;exact⟨⟨ks,h1,rfl⟩,by rw[h2,jN7],by rw[h2],h3⟩
theorem Rp9.next{ns0:List Nd}{r r' r2:Rdr}{l:List Nd}{t:Tok}{rest:List Tok}(h:Rp9 src ns0 r r' l (t::rest))(hn:jw src r' =some r2):Rp9 src ns0 r r2 l rest:=by
 obtain⟨k',hk,e⟩:=h.look;obtain⟨k0,ks,rfl,_,e2⟩:=jy e;obtain⟨h1,h2,h3⟩:=qn hk hn;exact⟨⟨ks,h1,e2⟩,by rw[h2];exact h.nodes,by rw[h2];exact h.husk,h3.trans h.order⟩
theorem Rp9.trans{ns0:List Nd}{r r1 r2:Rdr}{l l2:List Nd}{rest rest2:List Tok}(h:Rp9 src ns0 r r1 l rest)(k:Rp9 src r1.tree.nodes r1 r2 l2 rest2):Rp9 src ns0 r r2 (l++l2) rest2:=
 ⟨k.look,by rw[k.nodes,h.nodes,jK1],k.husk.trans h.husk,k.order.trans h.order⟩
theorem Rp9.len{ns0:List Nd}{r r1:Rdr}{l:List Nd}{rest:List Tok}(h:Rp9 src ns0 r r1 l rest):r1.tree.nodes.length=ns0.length+l.length:=by rw[h.nodes,jJ4]
theorem Rp9.head{ns0:List Nd}{r r1:Rdr}{l:List Nd}{t:Tok}{rest:List Tok}(h:Rp9 src ns0 r r1 l (t::rest)):r1.t=t.1:=by
 obtain⟨k',hk,e⟩:=h.look;obtain⟨k0,ks,rfl,e1,e2⟩:=jy e;rw[hk.1,<-e1];rfl
theorem VY{r:Rdr}{k:Tk}{ks:List Tk}(h:Look src r (k::ks)):kC src r=(vD src k).2:=by
 unfold kC;rw[h.2.1,h.2.2.1];rfl
theorem Rp9.again{ns0:List Nd}{r r1 r2:Rdr}{l l2:List Nd}{rest rest2:List Tok}(h:Rp9 src ns0 r r1 l rest)(k:Rp9 src ns0 r1 r2 l2 rest2):Rp9 src ns0 r r2 l2 rest2:=
 ⟨k.look,k.nodes,k.husk.trans h.husk,k.order.trans h.order⟩
theorem jIK{j:PJ}{ts:List Tok}{e:Exp9}{rest:List Tok}(h:Pa j ts e rest):Mot src j ts e rest:=by
 induction h with
 | @expr_row k ts r e hk _ ih=>
  intro f R K y b hl ht hb hy;obtain⟨k0,ks,rfl,e0,_⟩:=jy ht;cases f with
  |zero=>cases hy
  |succ f=>
   rw[exN,jJ6 (by rw[hl.1];intro e;apply hk;rw[<-e0];exact e)]at hy;exact ih f R _ y b hl ht hb hy
 | @expr_if k k2 k3 t1 t2 t3 r c a d hk _ _ _ _ _ ih1 ih2 ih3=>
  intro f R K y b hl ht hb hy;obtain⟨k0,ks,rfl,e0,et⟩:=jy ht;cases f with
  |zero=>cases hy
  |succ f=>
   have NQ:R.t=40:=by rw[hl.1,<-hk,<-e0];rfl
   rw[exN,jJ5 (fun hc=>hc NQ)]at hy;obtain⟨r1,n1,hy⟩:=jM2 hy;obtain⟨c',n2,hy⟩:=jM2 hy;obtain⟨r2,n3,hy⟩:=jM2 hy;obtain⟨a',n4,hy⟩:=jM2 hy;obtain⟨r3,n5,hy⟩:=jM2 hy;obtain⟨b',n6,hy⟩:=jM2 hy;obtain⟨x,n7,rfl⟩:=jM4 hy;have s1:=Rp9.start hl n1;rw[et]at s1;have z1:=s1.len;obtain⟨kk,l1,l2⟩:=s1.look;obtain⟨c1,_,c3⟩:=ih1 f r1 kk c' b l1 l2 (by rw[z1,hb];rfl) n2;have s2:=(s1.trans c3).next n3;have z2:=s2.len;obtain⟨kk,l1,l2⟩:=s2.look;obtain⟨a1,_,a3⟩:=ih2 f r2 kk a' (b+c.size) l1 l2 (by rw[z2,hb];simp[Exp9.lay_len]) n4;have s3:=(s2.trans a3).next n5;have z3:=s3.len;obtain⟨kk,l1,l2⟩:=s3.look;obtain⟨b1,_,b3⟩:=ih3 f r3 kk b' (b+c.size+a.size) l1 l2 (by rw[z3,hb];simp[Exp9.lay_len];omega) n6;obtain⟨x1,x2⟩:=(s3.trans b3).node n7;refine⟨?_,rfl,?_⟩
   ·rw[x1,hb];simp only[Exp9.root,Exp9.size,jJ4,jN2,Exp9.lay_len]
    congr 1
    omega
   ·rw[c1,a1,b1]at x2;simpa [Exp9.lay,Exp9.roots,kg,jK1]using x2
 | @not_ k ts r e hk _ ih=>
  intro f R K y b hl ht hb hy;obtain⟨k0,ks,rfl,e0,et⟩:=jy ht;cases f with
  |zero=>cases hy
  |succ f=>
   have Gv:R.t=45:=by rw[hl.1,<-hk,<-e0];rfl
   rw[exN,jJ6 rfl,jJ6 Gv]at hy;obtain⟨r1,n1,hy⟩:=jM2 hy;obtain⟨c',n2,hy⟩:=jM2 hy;obtain⟨x,n7,rfl⟩:=jM4 hy;have s1:=Rp9.start hl n1;rw[et]at s1;have z1:=s1.len;obtain⟨kk,l1,l2⟩:=s1.look;obtain⟨c1,_,c3⟩:=ih f r1 kk c' b l1 l2 (by rw[z1,hb];rfl) n2;obtain⟨x1,x2⟩:=(s1.trans c3).node n7;refine⟨?_,rfl,?_⟩
   ·rw[x1,hb];simp only[Exp9.root,Exp9.one,Exp9.size,jJ4,jN2,Exp9.lay_len]
    congr 1
    omega
   ·rw[c1]at x2;simpa [Exp9.lay,Exp9.one,Exp9.roots,kg,jK1]using x2
 | @rel k k2 ts t2 r e e' hk _ hU _ ih1 ih2=>
  intro f R K y b hl ht hb hy;obtain⟨k0,ks,rfl,e0,et⟩:=jy ht;cases f with
  |zero=>cases hy
  |succ f=>
   have Gv:R.t≠45:=by rw[hl.1];intro e;apply hk;rw[<-e0];exact e
   rw[exN,jJ6 rfl,jJ5 Gv]at hy;obtain⟨c',n2,hy⟩:=jM2 hy;obtain⟨c1,_,c3⟩:=ih1 f R _ c' b hl ht hb n2;have h2:=c3.head;rw[h2,jJ6 hU,c1]at hy;obtain⟨kk,l1,l2⟩:=c3.look;obtain⟨d1,d2,d3⟩:=ih2 f c'.2.2 kk y b R.tree.nodes l1 l2 hb c3.nodes hy;exact⟨d1,d2,c3.again d3⟩
 | @in_ k k2 ts t2 r e e' hk _ hU _ ih1 ih2=>
  intro f R K y b hl ht hb hy;obtain⟨k0,ks,rfl,e0,et⟩:=jy ht;cases f with
  |zero=>cases hy
  |succ f=>
   have Gv:R.t≠45:=by rw[hl.1];intro e;apply hk;rw[<-e0];exact e
   rw[exN,jJ6 rfl,jJ5 Gv]at hy;obtain⟨c',n2,hy⟩:=jM2 hy;obtain⟨c1,_,c3⟩:=ih1 f R _ c' b hl ht hb n2;have h2:=c3.head;rw[h2,jJ5 (by omega),jJ6 hU,c1]at hy;obtain⟨kk,l1,l2⟩:=c3.look;obtain⟨d1,d2,d3⟩:=ih2 f c'.2.2 kk y b R.tree.nodes l1 l2 hb c3.nodes hy;exact⟨d1,d2,c3.again d3⟩
 | @sum k k2 ts t2 e hk _ h1 h2 ih1=>
  intro f R K y b hl ht hb hy;obtain⟨k0,ks,rfl,e0,et⟩:=jy ht;cases f with
  |zero=>cases hy
  |succ f=>
   have Gv:R.t≠45:=by rw[hl.1];intro e;apply hk;rw[<-e0];exact e
   rw[exN,jJ6 rfl,jJ5 Gv]at hy;obtain⟨c',n2,hy⟩:=jM2 hy;have c:=ih1 f R _ c' b hl ht hb n2;rw[c.2.2.head,jJ5 h1,jJ5 h2]at hy;obtain rfl:=jL5 hy;exact c
 | @rowm l ts t2 r e e' Mp _ _ ih1 ih2=>
  intro f R K y b hl ht hb hy;cases f with
  |zero=>cases hy
  |succ f=>
   rw[exN,jJ5 (by omega),jJ6 Mp]at hy;obtain⟨c',n2,hy⟩:=jM2 hy;obtain⟨c1,_,c3⟩:=ih1 f R _ c' b hl ht hb n2;rw[c1]at hy;obtain⟨kk,l1,l2⟩:=c3.look;obtain⟨d1,d2,d3⟩:=ih2 f c'.2.2 kk y b R.tree.nodes l1 l2 hb c3.nodes hy;exact⟨d1,d2,c3.again d3⟩
 | @rowu ts r e _ ih=>
  intro f R K y b hl ht hb hy;cases f with
  |zero=>cases hy
  |succ f=>
   rw[exN,jJ5 (by decide),jJ5 (by decide)]at hy;exact ih f R _ y b hl ht hb hy
 | @stop l k ts e h0=>
  intro f R K y b ns0 hl ht hb hn hy;obtain⟨k0,ks,rfl,e0,et⟩:=jy ht;cases f with
  |zero=>cases hy
  |succ f=>
   rw[exN,jJ6 (by rw[hl.1];rw[<-e0]at h0;exact h0)]at hy;obtain rfl:=jL5 hy;exact⟨rfl,rfl,⟨_,hl,ht⟩,hn,rfl,rfl⟩
 | @go l k ts t2 r e e1 e' h0 _ _ ih1 ih2=>
  intro f R K y b ns0 hl ht hb hn hy;obtain⟨k0,ks,rfl,e0,et⟩:=jy ht;cases f with
  |zero=>cases hy
  |succ f=>
   have hR:R.t=k.1:=by rw[hl.1,<-e0];rfl
   rw[exN,hR,jJ5 h0]at hy;obtain⟨c',n2,hy⟩:=jM2 hy;obtain⟨c1,_,c3⟩:=ih1 f R _ c' b ns0 hl ht hb hn n2;rw[c1]at hy;obtain⟨kk,l1,l2⟩:=c3.look;obtain⟨d1,d2,d3⟩:=ih2 f c'.2.2 kk y b ns0 l1 l2 hb c3.nodes hy;exact⟨d1,d2,c3.again d3⟩
 | @two l op k ts r e q _ ih=>
  intro f R K y b ns0 hl ht hb hn hy;obtain⟨k0,ks,rfl,e0,et⟩:=jy ht;cases f with
  |zero=>cases hy
  |succ f=>
   rw[exN]at hy;obtain⟨r1,n1,hy⟩:=jM2 hy;obtain⟨c',n2,hy⟩:=jM2 hy;obtain⟨x,n7,rfl⟩:=jM4 hy;have s1:=Rp9.start hl n1;rw[et]at s1;have z1:=s1.len;have zR:R.tree.nodes.length=b+e.size:=(by rw[hn,jJ4,hb,Exp9.lay_len]);obtain⟨kk,l1,l2⟩:=s1.look;obtain⟨c1,_,c3⟩:=ih f r1 kk c' (b+e.size) l1 l2 (by rw[z1,zR];rfl) n2;obtain⟨x1,x2⟩:=(s1.trans c3).node n7;refine⟨?_,rfl,x2.look,?_,x2.husk,x2.order⟩
   ·rw[x1,zR];simp only[Exp9.root,Exp9.pair,Exp9.size,jJ4,jN2,Exp9.lay_len]
    congr 1
    omega
   ·rw[x2.nodes,hn,c1];simp[Exp9.lay,Exp9.pair,Exp9.roots,kg,List.append_assoc]
 | @neg k ts r e hk _ ih=>
  intro f R K y b hl ht hb hy;obtain⟨k0,ks,rfl,e0,et⟩:=jy ht;cases f with
  |zero=>cases hy
  |succ f=>
   have Nw:R.t=19:=by rw[hl.1,<-hk,<-e0];rfl
   rw[exN,jJ6 Nw]at hy;obtain⟨r1,n1,hy⟩:=jM2 hy;obtain⟨c',n2,hy⟩:=jM2 hy;obtain⟨x,n7,rfl⟩:=jM4 hy;have s1:=Rp9.start hl n1;rw[et]at s1;have z1:=s1.len;obtain⟨kk,l1,l2⟩:=s1.look;obtain⟨c1,_,c3⟩:=ih f r1 kk c' b l1 l2 (by rw[z1,hb];rfl) n2;obtain⟨x1,x2⟩:=(s1.trans c3).node n7;refine⟨?_,rfl,?_⟩
   ·rw[x1,hb];simp only[Exp9.root,Exp9.one,Exp9.size,jJ4,jN2,Exp9.lay_len]
    congr 1
    omega
   ·rw[c1]at x2;simpa [Exp9.lay,Exp9.one,Exp9.roots,kg,jK1]using x2
 | @lit k ts x hk hx=>
  intro f R K y b hl ht hb hy;obtain⟨k0,ks,rfl,e0,et⟩:=jy ht;cases f with
  |zero=>cases hy
  |succ f=>
   have hR:R.t=k.1:=by rw[hl.1,<-e0];rfl
   have Nw:R.t≠19:=by rw[hR];intro e;rw[e]at hk;cases hk
   rw[exN,jJ5 Nw,jJ6 (by rw[hR];exact hk),hR,VY hl,e0]at hy;obtain⟨n,n0,hy⟩:=jM2 hy;rw[hx]at n0;obtain rfl:=jL5 n0;obtain⟨r1,n1,hy⟩:=jM2 hy;obtain⟨z,n7,rfl⟩:=jM4 hy;have s1:=Rp9.start hl n1;rw[et]at s1;obtain⟨x1,x2⟩:=s1.node n7;exact⟨by rw[x1,hb];simp[Exp9.root,Exp9.size],rfl,x2⟩
 | @par k k2 ts r e hk _ _ ih=>
  intro f R K y b hl ht hb hy;obtain⟨k0,ks,rfl,e0,et⟩:=jy ht;cases f with
  |zero=>cases hy
  |succ f=>
   have h6:R.t=6:=by rw[hl.1,<-hk,<-e0];rfl
   rw[exN,jJ5 (by rw[h6];decide),jJ5 (by rw[h6];decide),jJ6 h6]at hy;obtain⟨r1,n1,hy⟩:=jM2 hy;obtain⟨c',n2,hy⟩:=jM2 hy;obtain⟨r2,n3,hy⟩:=jM2 hy;obtain rfl:=jL5 hy;have s1:=Rp9.start hl n1;rw[et]at s1;have z1:=s1.len;obtain⟨kk,l1,l2⟩:=s1.look;obtain⟨c1,_,c3⟩:=ih f r1 kk c' b l1 l2 (by rw[z1,hb];rfl) n2;exact⟨c1,rfl,(s1.trans c3).next n3⟩
 | @set k ts r l hk _ ih=>
  intro f R K y b hl ht hb hy;obtain⟨k0,ks,rfl,e0,et⟩:=jy ht;cases f with
  |zero=>cases hy
  |succ f=>
   have h4:R.t=4:=by rw[hl.1,<-hk,<-e0];rfl
   rw[exN,jJ5 (by rw[h4];decide),jJ5 (by rw[h4];decide),jJ5 (by rw[h4];decide),jJ6 h4]at hy;obtain⟨r1,n1,hy⟩:=jM2 hy;obtain⟨c',n2,hy⟩:=jM2 hy;obtain⟨x,n7,rfl⟩:=jM4 hy;have s1:=Rp9.start hl n1;rw[et]at s1;have z1:=s1.len;obtain⟨kk,l1,l2⟩:=s1.look;obtain⟨_,c2,c3⟩:=ih f r1 kk c' b [] l1 l2 (by rw[z1,hb];rfl) n2;obtain⟨x1,x2⟩:=(s1.trans c3).node n7;refine⟨?_,rfl,?_⟩
   ·rw[x1,hb];simp only[Exp9.root,Exp9.size,jJ4,jN2,Exp9.lay_len]
    congr 1
    omega
   ·rw[c2]at x2;simpa [Exp9.lay,kg,jK1]using x2
 | @named k k1 k2 k3 ts hk _ _ _=>
  intro f R K y b hl ht hb hy;obtain⟨q0,ks,rfl,e0,et⟩:=jy ht;cases f with
  |zero=>cases hy
  |succ f=>
   have hR:R.t=k.1:=by rw[hl.1,<-e0];rfl
   obtain⟨q1,q2,q3,q4,q5,q6,q7⟩:=Ke _ hk;rw[exN,hR,jJ5 q3,jJ5 (by rw[q2];decide),jJ5 q4,jJ5 q5,jJ5 (fun e=>e q7)]at hy;obtain⟨r1,n1,hy⟩:=jM2 hy;obtain⟨r2,n2,hy⟩:=jM2 hy;rw[jJ6 hk]at hy;obtain⟨w,n3,hy⟩:=jM2 hy;obtain⟨r4,n4,hy⟩:=jM2 hy;obtain⟨x,n7,rfl⟩:=jM4 hy;unfold ze at n3;obtain⟨r3,n3',rfl⟩:=jM4 n3;have s1:=Rp9.start hl n1;rw[et]at s1;have s2:=s1.next n2;have hw:kC src r2=k2.2:=by
    obtain⟨kk,l1,l2⟩:=s2.look;obtain⟨k0,ks,rfl,e1,e2⟩:=jy l2;rw[VY l1,e1]
   have s3:=s2.next n3';obtain⟨x1,x2⟩:=(s3.next n4).node n7;refine⟨by rw[x1,hb];simp[Exp9.root,Exp9.size],rfl,?_⟩;rw[hw]at x2;exact x2
 | @call k k1 ts r l hk _ _ _ ih=>
  intro f R K y b hl ht hb hy;obtain⟨q0,ks,rfl,e0,et⟩:=jy ht;cases f with
  |zero=>cases hy
  |succ f=>
   have hR:R.t=k.1:=by rw[hl.1,<-e0];rfl
   obtain⟨L,q1,q2,q3,q4,q5,q6,q7,q8⟩:=jFQ k.1 hk;rw[exN,hR,jJ5 q3,jJ5 (by rw[q4];decide),jJ5 q5,jJ5 q6,jJ5 (fun e=>e q8)]at hy;obtain⟨r1,n1,hy⟩:=jM2 hy;obtain⟨r2,n2,hy⟩:=jM2 hy;rw[jJ5 q7]at hy;obtain⟨c',n3,hy⟩:=jM2 hy;obtain⟨x,n7,rfl⟩:=jM4 hy;have s1:=Rp9.start hl n1;rw[et]at s1;have s2:=s1.next n2;have z2:=s2.len;obtain⟨kk,l1,l2⟩:=s2.look;obtain⟨_,c2,c3⟩:=ih f r2 kk c' b [] l1 l2 (by rw[z2,hb];rfl) n3;obtain⟨x1,x2⟩:=(s2.trans c3).node n7;refine⟨?_,rfl,?_⟩
   ·rw[x1,hb];simp only[Exp9.root,Exp9.size,jJ4,jN2,Exp9.lay_len]
    congr 1
    omega
   ·rw[c2]at x2;simpa [Exp9.lay,kg,jK1]using x2
 | @shut last _ k ts hk=>
  intro f R K y b kids hl ht hb hy;obtain⟨q0,ks,rfl,e0,et⟩:=jy ht;cases f with
  |zero=>cases hy
  |succ f=>
   have hR:R.t=k.1:=by rw[hl.1,<-e0];rfl
   rw[exN,jJ6 (by rw[hR];exact hk)]at hy;obtain⟨r1,n1,hy⟩:=jM2 hy;obtain rfl:=jL5 hy;have s1:=Rp9.start hl n1;rw[et]at s1;exact⟨rfl,(jN7 _).symm,s1⟩
 | @elem last k ts t2 r e l h1 h8 _ _ ih1 ih2=>
  intro f R K y b kids hl ht hb hy;obtain⟨q0,ks,rfl,e0,et⟩:=jy ht;cases f with
  |zero=>cases hy
  |succ f=>
   have hR:R.t=k.1:=by rw[hl.1,<-e0];rfl
   rw[exN,jJ5 (by rw[hR];exact h1)]at hy;split at hy
   ·unfold jn at hy;rw[jJ5 (by rw[hR];exact h8)]at hy;simp only[jL2]at hy;obtain⟨c',n2,hy⟩:=jM2 hy;obtain⟨c1,_,c3⟩:=ih1 f R _ c' b hl ht hb n2;have z:=c3.len;obtain⟨kk,l1,l2⟩:=c3.look;obtain⟨d1,d2,d3⟩:=ih2 f c'.2.2 kk y (b+e.size) (kids++[c'.1]) l1 l2 (by rw[z,hb,Exp9.lay_len]) hy;exact⟨d1,by rw[d2,c1,jK1];rfl,c3.trans d3⟩
   ·cases hy
 | @comma last k ts t2 r e l h1 h8 _ _ ih1 ih2=>
  intro f R K y b kids hl ht hb hy;obtain⟨q0,ks,rfl,e0,et⟩:=jy ht;cases f with
  |zero=>cases hy
  |succ f=>
   have hR:R.t=k.1:=by rw[hl.1,<-e0];rfl
   rw[exN,jJ5 (by rw[hR,h8];exact fun e=>h1 e.symm)]at hy;split at hy
   ·unfold jn at hy;rw[jJ6 (by rw[hR];exact h8)]at hy;obtain⟨s,n0,hy⟩:=jM2 hy;obtain⟨r1,n1,rfl⟩:=jM4 n0;obtain⟨c',n2,hy⟩:=jM2 hy;have s1:=Rp9.start hl n1;rw[et]at s1;have z1:=s1.len;obtain⟨kk,l1,l2⟩:=s1.look;obtain⟨c1,_,c3⟩:=ih1 f r1 kk c' b l1 l2 (by rw[z1,hb];rfl) n2;have s2:=s1.trans c3;have z:=s2.len;obtain⟨kk,l1,l2⟩:=c3.look;obtain⟨d1,d2,d3⟩:=ih2 f c'.2.2 kk y (b+e.size) (kids++[c'.1]) l1 l2 (by rw[z,hb];simp[Exp9.lay_len]) hy;exact⟨d1,by rw[d2,c1,jK1];rfl,s2.trans d3⟩
   ·cases hy
end
end Go.Proofs.YtmmjcbbogokmfaaGreatDoor

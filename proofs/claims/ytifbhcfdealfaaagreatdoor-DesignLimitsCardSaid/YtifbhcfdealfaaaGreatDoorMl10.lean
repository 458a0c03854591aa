import Derived.Test.YtifbhcfdealfaaaGreatDoorMl09
set_option maxRecDepth 100000
set_option maxHeartbeats 25600000
namespace Go.Proofs.YtifbhcfdealfaaaGreatDoor
open Go.Proofs.Tryz
structure Tk where
 t:Nat
 a:Nat
 b:Nat
inductive Acc:List Nat->List Tk->Prop
 |done:Acc [] []
 |tak {k:Tk} {f:Nat} {st st' :List Nat} {ts:List Tk}:k.t<58->jz k.t st=true->kB k.t f st=some st' ->Acc st' ts->Acc st (k::ts)
theorem Zj{n t:Nat}(ht:t<58)(h:jE n t=true):n<85:=by
 rcases Nat.lt_or_ge n 85 with hn|hn
 ·exact hn
 exfalso;unfold jE km at h;simp only[show¬n=58 by omega,show¬n=59 by omega,show¬n=60 by omega,show¬n=61 by omega,show¬n=62 by omega,show¬n=63 by omega,show¬n=64 by omega,show¬n=65 by omega,show¬n=66 by omega,show¬(n=67\/n=84)by omega,show¬n=68 by omega,
  show¬(n=83\/n=69)by omega,show¬(n=70\/n=72\/n=74)by omega,show¬(n=75\/n=77\/n=79\/n=81)by omega,show¬n=82 by omega,show¬n=71 by omega,show¬n=73 by omega,show¬n=76 by omega,show¬n=78 by omega,show¬n=80 by omega,show¬n=t by omega,
  if_false,decide_false,Bool.false_or,Bool.and_false]at h
 cases h
theorem VH{n t:Nat}(hn:n<58)(h:jE n t=true):n=t:=by
 unfold jE at h;simp only[show¬n=58 by omega,show¬n=59 by omega,show¬n=60 by omega,show¬n=61 by omega,show¬n=62 by omega,show¬n=63 by omega,show¬n=64 by omega,show¬n=65 by omega,show¬n=66 by omega,show¬(n=67\/n=84)by omega,show¬n=68 by omega,show¬69<=n by omega,
  if_false,decide_false,Bool.false_and,Bool.or_false]at h
 exact jM8 h
theorem qq:∀n:Fin 85,∀t:Fin 58,(!jE n.val t.val||(decide (n.val=t.val)||jz t.val (jX n.val t.val)))=true:=by decide+kernel
theorem Ya{n:Nat}{st:List Nat}{ts:List Tk}(h:Acc (n::st) ts):∃k ts',ts=k::ts' /\k.t<58/\((n=k.t/\Acc st ts')\/(n≠k.t/\jE n k.t=true/\Acc (jX n k.t++st) (k::ts'))\/(jE n k.t=false/\vw n=true/\Acc st (k::ts'))):=by
 cases h with
 | @tak k f _ st' ts' Fx hm ht ha=>
  refine⟨k,ts',rfl,Fx,?_⟩;cases f with
  |zero=>cases ht
  |succ f=>
   rw[kB]at ht;by_cases hn:n=k.t
   ·rw[jJ6 hn]at ht;obtain rfl:=jL5 ht;exact .inl ⟨hn,ha⟩
   rw[jJ5 hn]at ht;rw[jz]at hm;by_cases hb:jE n k.t=true
   ·refine .inr (.inl ⟨hn,hb,.tak Fx ?_ ht ha⟩);have h1:=qq ⟨n,Zj Fx hb⟩ ⟨k.t,Fx⟩;simp only[hb,Bool.not_true,Bool.false_or,jK3 hn]at h1;exact zD k.t _ st h1
   ·have Gm:jE n k.t=false:=(by simpa using hb);rw[jJ5 hb]at hm;split at hm
    ·rename_i he;rw[JD n k.t Gm,jN8]at ht;exact .inr (.inr ⟨Gm,he,.tak Fx hm ht ha⟩)
    ·cases hm
theorem jO{n:Nat}{st:List Nat}{ts:List Tk}(hn:n<58)(h:Acc (n::st) ts):∃k ts',ts=k::ts' /\k.t=n/\Acc st ts' :=by
 obtain⟨k,ts',e,Fx,⟨e2,ha⟩|⟨Fe,hb,_⟩|⟨_,he,_⟩⟩:=Ya h
 ·exact⟨k,ts',e,e2.symm,ha⟩
 ·exact absurd (VH hn hb) Fe
 ·have:=KK n he;omega
theorem jT{n:Nat}{st:List Nat}{k:Tk}{ts:List Tk}(hn:n<58)(h:Acc (n::st) (k::ts)):k.t=n/\Acc st ts:=by
 obtain⟨k2,ts',e,h2,ha⟩:=jO hn h;injection e with e1 e2;subst e1 e2;exact⟨h2,ha⟩
theorem yO{n:Nat}{st:List Nat}{ts:List Tk}(hn:58<=n)(he:vw n=false)(h:Acc (n::st) ts):∃k ts',ts=k::ts' /\k.t<58/\jE n k.t=true/\Acc (jX n k.t++st) (k::ts'):=by
 obtain⟨k,ts',e,Fx,⟨e2,ha⟩|⟨Fe,hb,ha⟩|⟨_,PF,_⟩⟩:=Ya h
 ·omega
 ·exact⟨k,ts',e,Fx,hb,ha⟩
 ·rw[he]at PF;cases PF
theorem kL{n:Nat}{st:List Nat}{ts:List Tk}(hn:58<=n)(h:Acc (n::st) ts):∃k ts',ts=k::ts' /\k.t<58/\((jE n k.t=true/\Acc (jX n k.t++st) (k::ts'))\/(jE n k.t=false/\Acc st (k::ts'))):=by
 obtain⟨k,ts',e,Fx,⟨e2,ha⟩|⟨Fe,hb,ha⟩|⟨hb,PF,ha⟩⟩:=Ya h
 ·omega
 ·exact⟨k,ts',e,Fx,.inl ⟨hb,ha⟩⟩
 ·exact⟨k,ts',e,Fx,.inr ⟨hb,ha⟩⟩
def jAn(src:LB)(k:Tk):LB:=(src.take k.b).drop k.a
def Um(src:LB)(k:Tk):Prop:=(Uo k.t=true->∃n,kJ k.t (jAn src k)=some n)/\(k.t=1->kY (jAn src k)=true)/\(k.t=3->JX src.length (src.drop (k.a+1))=(k.b-k.a-1,true))
inductive Toks (src:LB):Nat->List Tk->Prop
 |done {p:Nat}:src.length<=p+jQ false (src.drop p)->Toks src p []
 |more {p k:Nat} {x:Nat×Nat} {ts:List Tk}:k=p+jQ false (src.drop p)->k<src.length->qa (src.drop k)=some x->Um src ⟨x.2,k,k+x.1⟩->Toks src (k+x.1) ts->Toks src p (⟨x.2,k,k+x.1⟩::ts)
def Look(src:LB)(r:Rdr):List Tk->Prop
 |[]=>True
 |k::ts=>r.t=k.t/\r.from_=k.a/\r.at_=k.b/\Um src k/\Toks src k.b ts
def big(r:Rdr):Nat:=r.tree.nodes.length+r.tree.ats.length+r.tree.attrs.length+r.tree.stages.length+r.tree.miles.length+r.tree.steps.length+r.order
theorem ZI{src:LB}{r:Rdr}{ts:List Tk}(h:Toks src r.at_ ts):∃r',jc src r=some r' /\big r' =big r/\r'.tree=r.tree/\r'.order=r.order/\Look src r' ts:=by
 unfold jc;cases h with
 |done h1=>exact⟨_,jJ6 h1,rfl,rfl,rfl,trivial⟩
 | @more _ k x ts hk hlt hx hl ht=>
  subst hk;simp only;rw[jJ5 (by omega),hx];exact⟨_,rfl,rfl,rfl,rfl,rfl,rfl,rfl,hl,ht⟩
theorem jI{src:LB}{r:Rdr}{k:Tk}{ts:List Tk}(h:Look src r (k::ts)):∃r',jc src r=some r' /\big r' =big r/\r'.tree=r.tree/\r'.order=r.order/\Look src r' ts:=
 ZI (by rw[h.2.2.1];exact h.2.2.2.2)
theorem Look.lit{src:LB}{r:Rdr}{k:Tk}{ts:List Tk}(h:Look src r (k::ts))(hl:Uo k.t=true):∃n,kJ r.t (jh src r)=some n:=by
 obtain⟨n,hn⟩:=h.2.2.2.1.1 hl;refine⟨n,?_⟩;unfold jh;rw[h.1,h.2.1,h.2.2.1];exact hn
theorem vV{src:LB}{r:Rdr}{ts:List Tk}(n:Nd)(at_:Nat)(h:Look src r ts)(hb:big r<=900000):∃x r',vJ n at_ r=some (x,r')/\0<=x/\big r' =big r+2/\Look src r' ts:=by
 unfold big at hb;refine⟨_,_,by unfold vJ;exact jJ6 ⟨by omega,by omega⟩,by omega,?_,?_⟩
 ·unfold big;simp only[jJ4,jK6,jN2];omega
 ·cases ts with
  |nil=>trivial
  |cons k ts=>exact h
def Ki:List (Nat×Nat×Nat):=[(43,70,7),(44,72,6),(45,74,5),(18,77,4),(20,79,3),(19,81,2)]
def ZJ:List (Nat×Nat×Nat×Nat):=[(43,71,44,72),(44,73,45,74),(18,78,20,79),(20,80,19,81)]
inductive LstSt:Nat->List Nat->Prop
 |shut (n:Nat):LstSt n [n]
 |ex {n:Nat} {M:List Nat}:LstSt n M->LstSt n (69::M)
 |comma {n:Nat} {M:List Nat}:LstSt n M->LstSt n (8::69::M)
 |set:LstSt 5 [83,5]
 |more:LstSt 5 [84,5]
structure Got(src:LB)(st:List Nat)(r:Rdr)(ts:List Tk)(r' :Rdr)(ts' :List Tk):Prop where
 look:Look src r' ts'
 acc:Acc st ts'
 len:ts'.length<ts.length
 big:big r' +2*ts'.length<=big r+2*ts.length
structure Got0(src:LB)(st:List Nat)(r:Rdr)(ts:List Tk)(r' :Rdr)(ts' :List Tk):Prop where
 look:Look src r' ts'
 acc:Acc st ts'
 len:ts'.length<=ts.length
 big:Go.Proofs.YtifbhcfdealfaaaGreatDoor.big r' +2*ts'.length<=Go.Proofs.YtifbhcfdealfaaaGreatDoor.big r+2*ts.length
def kF:Nat:=900000
structure AllOk(src:LB)(f:Nat):Prop where
 ex:∀(r:Rdr) (ts:List Tk) (st:List Nat),Look src r ts->big r+2*ts.length<=kF->10*ts.length+8<=f->Acc (69::st) ts->∃x r' ts',exN src f .expr r=some (x,[],r')/\0<=x/\Got src st r ts r' ts'
 row:∀(l s k:Nat),(l,s,k)∈Ki->∀(r:Rdr) (ts:List Tk) (st:List Nat),Look src r ts->big r+2*ts.length<=kF->10*ts.length+k<=f->Acc (s::st) ts->∃x r' ts',exN src f (.row l) r=some (x,[],r')/\0<=x/\Got src st r ts r' ts'
 more:∀(l s b u:Nat),(l,s,b,u)∈ZJ->∀(root:Int) (r:Rdr) (ts:List Tk) (st:List Nat),0<=root->Look src r ts->big r+2*ts.length<=kF->10*ts.length+9<=f->Acc (s::st) ts->∃x r' ts',exN src f (.more l root) r=some (x,[],r')/\0<=x/\Got0 src st r ts r' ts'
 two:∀(l s k:Nat),(l,s,k)∈Ki->∀(op root:Int) (r:Rdr) (c:Tk) (ts:List Tk) (st:List Nat),Look src r (c::ts)->big r+2*(c::ts).length<=kF->10*(c::ts).length<=f->Acc (s::st) ts->∃x r' ts',exN src f (.two op root l) r=some (x,[],r')/\0<=x/\Got src st r (c::ts) r' ts'
 un:∀(r:Rdr) (ts:List Tk) (st:List Nat),Look src r ts->big r+2*ts.length<=kF->10*ts.length+1<=f->Acc (81::st) ts->∃x r' ts',exN src f .unary r=some (x,[],r')/\0<=x/\Got src st r ts r' ts'
 ls:∀(last:Nat) (L:List Nat) (kids:List Int) (r:Rdr) (ts:List Tk) (st:List Nat),(last=5\/last=7)->LstSt last L->kids.length+ts.length<=900000->Look src r ts->big r+2*ts.length<=kF->10*ts.length+9<=f->Acc (L++st) ts->∃ks r' ts',exN src f (.list last kids) r=some (0,ks,r')/\Got src st r ts r' ts'
theorem jGA(t:Nat)(hb:jE 69 t=true)(h:t≠40):jX 69 t=[70]:=by
 unfold jX;rw[jJ5 (by rw[hb];decide),jJ5 (by decide),jJ5 (by decide),jJ5 (by decide),jJ5 (by decide),jJ5 (by decide),jJ5 (by decide),jJ5 (by decide),jJ5 (by decide),jJ5 (by decide),jJ5 (by decide),jJ5 (by decide)];unfold jx;rw[jJ6 rfl,jJ5 h]
section
variable{src:LB}{f:Nat}
theorem jFo(IH:AllOk src f)(r:Rdr)(ts:List Tk)(st:List Nat)(hl:Look src r ts)(hb:big r+2*ts.length<=kF)(hf:10*ts.length+8<=f+1)(ha:Acc (69::st) ts):∃x r' ts',exN src (f+1) .expr r=some (x,[],r')/\0<=x/\Got src st r ts r' ts' :=by
 obtain⟨k,ts2,rfl,Fx,FF,ha⟩:=yO (by decide) (by decide) ha;unfold kF at hb;rw[jK6]at hb hf;by_cases N5:k.t=40
 ·rw[show jX 69 k.t=[40,69,41,69,42,69]by rw[N5];rfl]at ha;obtain⟨-,a1⟩:=jT (by decide) ha;obtain⟨r1,e1,b1,-,-,l1⟩:=jI hl;obtain⟨x2,r2,t2,e2,p2,l2,a2,n2,b2⟩:=IH.ex r1 ts2 _ l1 (by unfold kF;omega) (by omega) a1;obtain⟨k3,t3,rfl,-,a3⟩:=jO (by decide) a2;rw[jK6]at n2 b2;obtain⟨r3,e3,b3,-,-,l3⟩:=jI l2;obtain⟨x4,r4,t4,e4,p4,l4,a4,n4,b4⟩:=IH.ex r3 t3 _ l3 (by unfold kF;omega) (by omega) a3;obtain⟨k5,t5,rfl,-,a5⟩:=jO (by decide) a4;rw[jK6]at n4 b4;obtain⟨r5,e5,b5,-,-,l5⟩:=jI l4;obtain⟨x6,r6,t6,e6,p6,l6,a6,n6,b6⟩:=IH.ex r5 t5 _ l5 (by unfold kF;omega) (by omega) a5;obtain⟨x,r',en,px,bn,ln⟩:=vV (jn 23 [x2,x4,x6]) r.from_ l6 (by omega);refine⟨x,r',t6,?_,px,ln,a6,by rw[jK6];omega,by rw[jK6];omega⟩;rw[exN,jJ5 (by rw[hl.1,N5];decide)];simp only[e1,e2,e3,e4,e5,e6,en,jL2,Option.map_some]
 ·rw[jGA k.t FF N5]at ha;obtain⟨x,r',ts',e,p,g⟩:=IH.row 43 70 7 (by decide) r (k::ts2) st hl (by unfold kF;rw[jK6];omega) (by rw[jK6];omega) ha;refine⟨x,r',ts',?_,p,g⟩;rw[exN,jJ6 (by rw[hl.1];exact N5)];exact e
theorem jEc(IH:AllOk src f)(l s k:Nat)(hm:(l,s,k)∈Ki)(op root:Int)(r:Rdr)(c:Tk)(ts:List Tk)(st:List Nat)(hl:Look src r (c::ts))(hb:big r+2*(c::ts).length<=kF)(hf:10*(c::ts).length<=f+1)(ha:Acc (s::st) ts):∃x r' ts',exN src (f+1) (.two op root l) r=some (x,[],r')/\0<=x/\Got src st r (c::ts) r' ts' :=by
 unfold kF at hb;rw[jK6]at hb hf;have hk:k<=7:=by
  simp only[Ki,List.mem_cons,Prod.mk.injEq,List.not_mem_nil,or_false]at hm;omega
 obtain⟨r1,e1,b1,-,-,l1⟩:=jI hl;obtain⟨x2,r2,t2,e2,p2,l2,a2,n2,b2⟩:=IH.row l s k hm r1 ts _ l1 (by unfold kF;omega) (by omega) ha;obtain⟨x,r',en,px,bn,ln⟩:=vV (jn op [root,x2]) r.from_ l2 (by omega);refine⟨x,r',t2,?_,px,ln,a2,by rw[jK6];omega,by rw[jK6];omega⟩;rw[exN];simp only[e1,e2,en,jL2,Option.map_some]
theorem ZK(l s b u:Nat)(h:(l,s,b,u)∈ZJ):58<=s/\YY l=b/\(b,u,if b=44 then 6 else if b=45 then 5 else if b=20 then 3 else 2)∈Ki/\∀t,t<58->(jE s t=true->yS l t≠0/\jX s t=[t,u,s])/\(jE s t=false->yS l t=0):=by
 simp only[ZJ,List.mem_cons,Prod.mk.injEq,List.not_mem_nil,or_false]at h;rcases h with⟨rfl,rfl,rfl,rfl⟩|⟨rfl,rfl,rfl,rfl⟩|⟨rfl,rfl,rfl,rfl⟩|⟨rfl,rfl,rfl,rfl⟩
 ·refine⟨by decide,by decide,by decide,fun t Fx=>⟨fun hb=> ?_,fun hb=> ?_⟩⟩
  ·have ht:t=43:=by
    have h2:71=t\/t=43:=(by simpa [jE,km]using hb);omega
   subst ht;exact⟨by decide,rfl⟩
  ·have ht:t≠43:=fun e=>by subst e;cases hb
   simp[yS,ht]
 ·refine⟨by decide,by decide,by decide,fun t Fx=>⟨fun hb=> ?_,fun hb=> ?_⟩⟩
  ·have ht:t=44:=by
    have h2:73=t\/t=44:=(by simpa [jE,km]using hb);omega
   subst ht;exact⟨by decide,rfl⟩
  ·have ht:t≠44:=fun e=>by subst e;cases hb
   simp[yS,ht]
 ·refine⟨by decide,by decide,by decide,fun t Fx=>⟨fun hb=> ?_,fun hb=> ?_⟩⟩
  ·have ht:t=18\/t=19:=by
    have h2:78=t\/t=18\/t=19:=(by simpa [jE,km]using hb);omega
   rcases ht with rfl|rfl<;>exact⟨by decide,rfl⟩
  ·have ht:¬(t=18\/t=19):=fun e=>by rcases e with rfl|rfl<;>cases hb
   simp[yS,ht]
 ·refine⟨by decide,by decide,by decide,fun t Fx=>⟨fun hb=> ?_,fun hb=> ?_⟩⟩
  ·have ht:t=20\/t=21\/t=22:=by
    have h2:80=t\/(20<=t/\t<=22):=(by simpa [jE,km]using hb);omega
   rcases ht with rfl|rfl|rfl<;>exact⟨by decide,rfl⟩
  ·have ht:¬(20<=t/\t<=22):=fun e=>by
    have:t=20\/t=21\/t=22:=(by omega);rcases this with rfl|rfl|rfl<;>cases hb
   simp[yS,ht]
theorem jC2(IH:AllOk src f)(l s b u:Nat)(hm:(l,s,b,u)∈ZJ)(root:Int)(r:Rdr)(ts:List Tk)(st:List Nat)(h0:0<=root)(hl:Look src r ts)(hb:big r+2*ts.length<=kF)(hf:10*ts.length+9<=f+1)(ha:Acc (s::st) ts):∃x r' ts',exN src (f+1) (.more l root) r=some (x,[],r')/\0<=x/\Got0 src st r ts r' ts' :=by
 obtain⟨Fx,Z1,Af,SN⟩:=ZK l s b u hm;obtain⟨k,ts2,rfl,LM,⟨FF,ha⟩|⟨FF,ha⟩⟩:=kL Fx ha
 ·obtain⟨h1,h2⟩:=(SN k.t LM).1 FF;rw[h2]at ha;obtain⟨-,a1⟩:=jT (n:=k.t) LM ha;obtain⟨x2,r2,t2,e2,p2,l2,a2,n2,b2⟩:=IH.two b u _ Af (yS l r.t) root r k ts2 (s::st) hl hb (by rw[jK6]at hf⊢;omega) a1;unfold kF at hb;rw[jK6]at n2 b2 hf hb;obtain⟨x3,r3,t3,e3,p3,l3,a3,n3,b3⟩:=IH.more l s b u hm x2 r2 t2 st p2 l2 (by unfold kF;omega) (by omega) a2;refine⟨x3,r3,t3,?_,p3,l3,a3,by rw[jK6];omega,by rw[jK6];omega⟩;rw[exN,jJ5 (by rw[hl.1];exact h1),Z1];simp only[e2,e3,jL2]
 ·refine⟨root,r,k::ts2,?_,h0,hl,ha,jL3 _,jL3 _⟩;rw[exN,jJ6 (by rw[hl.1];exact(SN k.t LM).2 FF)]
theorem jFI(l s k:Nat)(h:(l,s,k)∈Ki):58<=s/\vw s=false:=by
 simp only[Ki,List.mem_cons,Prod.mk.injEq,List.not_mem_nil,or_false]at h;rcases h with⟨rfl,rfl,rfl⟩|⟨rfl,rfl,rfl⟩|⟨rfl,rfl,rfl⟩|⟨rfl,rfl,rfl⟩|⟨rfl,rfl,rfl⟩|⟨rfl,rfl,rfl⟩<;>decide
theorem YD(IH:AllOk src f)(l s k m b u j:Nat)(PA:l=43\/l=44\/l=18\/l=20)(hm:(l,m,b,u)∈ZJ)(hr:(b,u,j)∈Ki)(hj:j+1<=k)(SN:∀t,jE s t=true->jX s t=[u,m])(hs:58<=s)(Ae:vw s=false)
  (r:Rdr) (ts:List Tk) (st:List Nat) (hl:Look src r ts) (hb:big r+2*ts.length<=kF) (hf:10*ts.length+k<=f+1) (ha:Acc (s::st) ts):∃x r' ts',exN src (f+1) (.row l) r=some (x,[],r')/\0<=x/\Got src st r ts r' ts' :=by
 obtain⟨k0,ts2,rfl,-,FF,ha⟩:=yO hs Ae ha;rw[SN _ FF]at ha;obtain⟨x2,r2,t2,e2,p2,l2,a2,n2,b2⟩:=IH.row b u j hr r _ (m::st) hl hb (by omega) ha;unfold kF at hb;obtain⟨x3,r3,t3,e3,p3,l3,a3,n3,b3⟩:=IH.more l m b u hm x2 r2 t2 st p2 l2 (by unfold kF;omega) (by
  have:j<=7:=by
   simp only[Ki,List.mem_cons,Prod.mk.injEq,List.not_mem_nil,or_false]at hr;omega
  omega) a2
 refine⟨x3,r3,t3,?_,p3,l3,a3,by omega,by omega⟩;have Z1:=(ZK l m b u hm).2.1;rw[exN,jJ5 (by omega),jJ6 PA,Z1];simp only[e2,e3,jL2]
theorem YM(s u m t:Nat)(h:(s,u,m)∈ [(70,72,71),(72,74,73),(77,79,78),(79,81,80)])(hb:jE s t=true):jX s t=[u,m]:=by
 simp only[List.mem_cons,Prod.mk.injEq,List.not_mem_nil,or_false]at h;unfold jX;rw[jJ5 (by rw[hb];decide)];rcases h with⟨rfl,rfl,rfl⟩|⟨rfl,rfl,rfl⟩|⟨rfl,rfl,rfl⟩|⟨rfl,rfl,rfl⟩<;>rfl
theorem jF9(t:Nat)(hb:jE 74 t=true):jX 74 t=if t=45 then [t,74]else [75]:=by
 unfold jX;rw[jJ5 (by rw[hb];decide)];rfl
theorem jF8(t:Nat)(hb:jE 75 t=true):jX 75 t=[77,76]:=by
 unfold jX;rw[jJ5 (by rw[hb];decide)];rfl
theorem jF7(t:Nat)(hb:jE 76 t=true):jX 76 t=[t,77]:=by
 unfold jX;rw[jJ5 (by rw[hb];decide)];rfl
theorem jF6(t:Nat)(hb:jE 81 t=true):jX 81 t=if t=19 then [t,81]else [82]:=by
 unfold jX;rw[jJ5 (by rw[hb];decide)];rfl
theorem jF5(t:Nat)(hb:jE 82 t=true):jX 82 t=JT t:=by
 unfold jX;rw[jJ5 (by rw[hb];decide)];rfl
theorem jAW(IH:AllOk src f)(r:Rdr)(ts:List Tk)(st:List Nat)(hl:Look src r ts)(hb:big r+2*ts.length<=kF)(hf:10*ts.length+5<=f+1)(ha:Acc (74::st) ts):∃x r' ts',exN src (f+1) (.row 45) r=some (x,[],r')/\0<=x/\Got src st r ts r' ts' :=by
 obtain⟨k,ts2,rfl,Fx,FF,ha⟩:=yO (by decide) (by decide) ha;rw[jF9 _ FF]at ha;by_cases G7:k.t=45
 ·rw[jJ6 G7,G7]at ha;obtain⟨-,a1⟩:=jT (by decide) ha;unfold kF at hb;rw[jK6]at hb hf;obtain⟨r1,e1,b1,-,-,l1⟩:=jI hl;obtain⟨x2,r2,t2,e2,p2,l2,a2,n2,b2⟩:=IH.row 45 74 5 (by decide) r1 ts2 _ l1 (by unfold kF;omega) (by omega) a1;obtain⟨x,r',en,px,bn,ln⟩:=vV (jn 8 [x2]) r.from_ l2 (by omega);refine⟨x,r',t2,?_,px,ln,a2,by rw[jK6];omega,by rw[jK6];omega⟩;rw[exN,jJ6 rfl,jJ6 (by rw[hl.1];exact G7)];simp only[e1,e2,en,jL2,Option.map_some]
 ·rw[jJ5 G7]at ha;obtain⟨k',ts2',e',-,MP,ha⟩:=yO (by decide) (by decide) ha;injection e' with e1 e2;subst e1 e2;rw[jF8 _ MP]at ha;obtain⟨x2,r2,t2,e2,p2,l2,a2,n2,b2⟩:=IH.row 18 77 4 (by decide) r _ (76::st) hl hb (by omega) ha;obtain⟨k3,t3,rfl,Bd,⟨M6,a3⟩|⟨M6,a3⟩⟩:=kL (by decide) a2
  ·rw[jF7 _ M6]at a3;have h3:(12<=k3.t/\k3.t<=17)\/k3.t=28:=by
    have h2:76=k3.t\/(12<=k3.t/\k3.t<=17)\/k3.t=28:=(by simpa [jE,km]using M6);omega
   obtain⟨-,a4⟩:=jT (n:=k3.t) (by omega) a3;unfold kF at hb;have HT:=fun op=>IH.two 18 77 4 (by decide) op x2 r2 k3 t3 st l2 (by unfold kF;omega) (by omega) a4;by_cases hc:12<=k3.t/\k3.t<=17
   ·obtain⟨x,r',ts',e,p,l,a,n,b⟩:=HT (11+((r2.t:Int)-12));refine⟨x,r',ts',?_,p,l,a,by omega,by omega⟩;rw[exN,jJ6 rfl,jJ5 (by rw[hl.1];exact G7)];simp only[e2,jL2];rw[jJ6 (by rw[l2.1];exact hc)];exact e
   ·obtain⟨x,r',ts',e,p,l,a,n,b⟩:=HT 17;refine⟨x,r',ts',?_,p,l,a,by omega,by omega⟩;rw[exN,jJ6 rfl,jJ5 (by rw[hl.1];exact G7)];simp only[e2,jL2];rw[jJ5 (by rw[l2.1];exact hc),jJ6 (by rw[l2.1];omega)];exact e
  ·refine⟨x2,r2,_,?_,p2,l2,a3,n2,b2⟩;have h3:¬(12<=k3.t/\k3.t<=17)/\k3.t≠28:=by
    have h2:¬(76=k3.t\/(12<=k3.t/\k3.t<=17)\/k3.t=28):=fun e=>by
     have:jE 76 k3.t=true:=by
      rcases e with e|e
      ·simp[jE,<-e]
      ·simp[jE,km,e]
     rw[this]at M6;cases M6
    omega
   rw[exN,jJ6 rfl,jJ5 (by rw[hl.1];exact G7)];simp only[e2,jL2];rw[jJ5 (by rw[l2.1];exact h3.1),jJ5 (by rw[l2.1];exact h3.2)]
theorem jEd(IH:AllOk src f)(l s k:Nat)(hm:(l,s,k)∈Ki)(r:Rdr)(ts:List Tk)(st:List Nat)(hl:Look src r ts)(hb:big r+2*ts.length<=kF)(hf:10*ts.length+k<=f+1)(ha:Acc (s::st) ts):∃x r' ts',exN src (f+1) (.row l) r=some (x,[],r')/\0<=x/\Got src st r ts r' ts' :=by
 simp only[Ki,List.mem_cons,Prod.mk.injEq,List.not_mem_nil,or_false]at hm;rcases hm with⟨rfl,rfl,rfl⟩|⟨rfl,rfl,rfl⟩|⟨rfl,rfl,rfl⟩|⟨rfl,rfl,rfl⟩|⟨rfl,rfl,rfl⟩|⟨rfl,rfl,rfl⟩
 ·exact YD IH 43 70 7 71 44 72 6 (by decide) (by decide) (by decide) (by decide) (fun t h=>YM 70 72 71 t (by decide) h) (by decide) (by decide) r ts st hl hb hf ha
 ·exact YD IH 44 72 6 73 45 74 5 (by decide) (by decide) (by decide) (by decide) (fun t h=>YM 72 74 73 t (by decide) h) (by decide) (by decide) r ts st hl hb hf ha
 ·exact jAW IH r ts st hl hb hf ha
 ·exact YD IH 18 77 4 78 20 79 3 (by decide) (by decide) (by decide) (by decide) (fun t h=>YM 77 79 78 t (by decide) h) (by decide) (by decide) r ts st hl hb hf ha
 ·exact YD IH 20 79 3 80 19 81 2 (by decide) (by decide) (by decide) (by decide) (fun t h=>YM 79 81 80 t (by decide) h) (by decide) (by decide) r ts st hl hb hf ha
 ·obtain⟨x,r',ts',e,p,g⟩:=IH.un r ts st hl hb (by omega) ha;refine⟨x,r',ts',?_,p,g⟩;rw[exN,jJ5 (by decide),jJ5 (by decide)];exact e
end
theorem jGw(t:Nat)(h:jE 69 t=true):t≠5/\t≠7/\t≠8:=by
 refine⟨fun e=> ?_,fun e=> ?_,fun e=> ?_⟩<;>(subst e;revert h;decide)
theorem jGv(t:Nat)(h:jE 83 t=true):t≠5/\t≠8/\jX 83 t=[69,84]:=by
 refine⟨fun e=> ?_,fun e=> ?_,?_⟩
 ·subst e;revert h;decide
 ·subst e;revert h;decide
 ·unfold jX;rw[jJ5 (by rw[h];decide)];rfl
theorem jGu(t:Nat)(h:jE 84 t=true):t=8:=by simpa [jE]using h
theorem XV{last:Nat}{L st:List Nat}{ts:List Tk}(T8:last=5\/last=7)(hL:LstSt last L)(ha:Acc (L++st) ts):
  ∃k ts',ts=k::ts' /\((k.t=last/\Acc st ts')\/(k.t≠last/\k.t≠8/\∃M,LstSt last M/\Acc (69::(M++st)) (k::ts'))\/(k.t=8/\∃M,LstSt last M/\Acc (69::(M++st)) ts')):=by
 cases hL with
 |shut=>
  obtain⟨k,ts',e,h1,h2⟩:=jO (by omega) ha;exact⟨k,ts',e,.inl ⟨h1,h2⟩⟩
 |ex hM=>
  obtain⟨k,ts',e,Fx,hb,h1⟩:=yO (by decide) (by decide) ha;have h2:=jGw _ hb;subst e;exact⟨k,ts',rfl,.inr (.inl ⟨by omega,h2.2.2,_,hM,ha⟩)⟩
 |comma hM=>
  obtain⟨k,ts',e,h1,h2⟩:=jO (by decide) ha;exact⟨k,ts',e,.inr (.inr ⟨h1,_,hM,h2⟩)⟩
 |set=>
  obtain⟨k,ts',e,Fx,⟨hb,h1⟩|⟨hb,h1⟩⟩:=kL (by decide) ha
  ·obtain⟨h2,h3,h4⟩:=jGv _ hb;rw[h4]at h1;exact⟨k,ts',e,.inr (.inl ⟨h2,h3,_,.more,h1⟩)⟩
  ·obtain⟨h2,h3⟩:=jT (by decide) h1;exact⟨k,ts',e,.inl ⟨h2,h3⟩⟩
 |more=>
  obtain⟨k,ts',e,Fx,⟨hb,h1⟩|⟨hb,h1⟩⟩:=kL (by decide) ha
  ·have h8:=jGu _ hb;rw[show jX 84 k.t=[8,69,84]by rw[h8];rfl]at h1;obtain⟨-,h2⟩:=jT (by decide) h1;exact⟨k,ts',e,.inr (.inr ⟨h8,_,.more,h2⟩)⟩
  ·obtain⟨h2,h3⟩:=jT (by decide) h1;exact⟨k,ts',e,.inl ⟨h2,h3⟩⟩
section
variable{src:LB}{f:Nat}
theorem jFn(IH:AllOk src f)(last:Nat)(L:List Nat)(kids:List Int)(r:Rdr)(ts:List Tk)(st:List Nat)(T8:last=5\/last=7)(hL:LstSt last L)(hk:kids.length+ts.length<=900000)(hl:Look src r ts)(hb:big r+2*ts.length<=kF)(hf:10*ts.length+9<=f+1)(ha:Acc (L++st) ts):
  ∃ks r' ts',exN src (f+1) (.list last kids) r=some (0,ks,r')/\Got src st r ts r' ts' :=by
 obtain⟨k,ts2,rfl,⟨h1,h2⟩|⟨h1,h8,M,hM,h2⟩|⟨h8,M,hM,h2⟩⟩:=XV T8 hL ha
 ·obtain⟨r1,e1,b1,-,-,l1⟩:=jI hl;refine⟨kids,r1,ts2,?_,l1,h2,by rw[jK6];omega,by rw[jK6];omega⟩;rw[exN,jJ6 (by rw[hl.1];exact h1)];simp only[e1,jL2]
 ·rw[jK6]at hk;obtain⟨x2,r2,t2,e2,p2,l2,a2,n2,b2⟩:=IH.ex r (k::ts2) _ hl hb (by omega) h2;unfold kF at hb;rw[jK6]at n2 b2 hb hf;obtain⟨ks,r3,t3,e3,l3,a3,n3,b3⟩:=IH.ls last M (kids++[x2]) r2 t2 st T8 hM (by rw[jJ4,List.length_singleton];omega) l2 (by unfold kF;omega) (by omega) a2;refine⟨ks,r3,t3,?_,l3,a3,by rw[jK6];omega,by rw[jK6];omega⟩;rw[exN,jJ5 (by rw[hl.1];exact h1),jJ6 (by omega),jb,jJ5 (by rw[hl.1];exact h8)];simp only[e2,e3,jL2]
 ·rw[jK6]at hk;obtain⟨r1,e1,b1,-,-,l1⟩:=jI hl;unfold kF at hb;rw[jK6]at hb hf;obtain⟨x2,r2,t2,e2,p2,l2,a2,n2,b2⟩:=IH.ex r1 ts2 _ l1 (by unfold kF;omega) (by omega) h2;obtain⟨ks,r3,t3,e3,l3,a3,n3,b3⟩:=IH.ls last M (kids++[x2]) r2 t2 st T8 hM (by rw[jJ4,List.length_singleton];omega) l2 (by unfold kF;omega) (by omega) a2;refine⟨ks,r3,t3,?_,l3,a3,by rw[jK6];omega,by rw[jK6];omega⟩;rw[exN,jJ5 (by rw[hl.1,h8];omega),jJ6 (by omega),jb,jJ6 (by rw[hl.1];exact h8)];simp only[e1,e2,e3,jL2,Option.map_some]
theorem Ug{t:Nat}(h:yC t=true):t=2\/t=46\/t=47\/t=3\/t=48\/t=1\/t=6\/t=4\/t=31\/t=49\/t=50\/t=51\/t=52\/t=53\/t=54\/t=55\/t=56\/t=57:=by
 have:=jM8 h;omega
theorem jEo(t:Nat)(h:t=50\/t=51\/t=53\/t=54\/t=55\/t=56\/t=57):∃L,JT t=t::6::L/\LstSt 7 L/\t≠19/\Uo t=false/\t≠6/\t≠4/\¬(t=49\/t=52\/t=31)/\(t=31\/(49<=t/\t<=57)):=by
 rcases h with rfl|rfl|rfl|rfl|rfl|rfl|rfl
 ·exact⟨[69,7],rfl,.ex (.shut 7),by decide,by decide,by decide,by decide,by decide,by decide⟩
 ·exact⟨[69,8,69,7],rfl,.ex (.comma (.shut 7)),by decide,by decide,by decide,by decide,by decide,by decide⟩
 ·exact⟨[7],rfl,.shut 7,by decide,by decide,by decide,by decide,by decide,by decide⟩
 ·exact⟨[7],rfl,.shut 7,by decide,by decide,by decide,by decide,by decide,by decide⟩
 ·exact⟨[69,8,69,7],rfl,.ex (.comma (.shut 7)),by decide,by decide,by decide,by decide,by decide,by decide⟩
 ·exact⟨[69,8,69,7],rfl,.ex (.comma (.shut 7)),by decide,by decide,by decide,by decide,by decide,by decide⟩
 ·exact⟨[69,8,69,7],rfl,.ex (.comma (.shut 7)),by decide,by decide,by decide,by decide,by decide,by decide⟩
theorem jAm(t:Nat)(h:t=2\/t=46\/t=47\/t=3\/t=48\/t=1):JT t=[t]/\Uo t=true/\t≠19/\t<58:=by
 rcases h with rfl|rfl|rfl|rfl|rfl|rfl<;>exact⟨rfl,by decide,by decide,by decide⟩
theorem XO(t:Nat)(h:t=49\/t=52\/t=31):JT t=[t,6,1,7]/\Uo t=false/\t≠19/\t≠6/\t≠4/\t<58/\(t=31\/(49<=t/\t<=57)):=by
 rcases h with rfl|rfl|rfl<;>exact⟨rfl,by decide,by decide,by decide,by decide,by decide,by decide⟩
theorem jFm(IH:AllOk src f)(r:Rdr)(ts:List Tk)(st:List Nat)(hl:Look src r ts)(hb:big r+2*ts.length<=kF)(hf:10*ts.length+1<=f+1)(ha:Acc (81::st) ts):∃x r' ts',exN src (f+1) .unary r=some (x,[],r')/\0<=x/\Got src st r ts r' ts' :=by
 obtain⟨k,ts2,rfl,Fx,FF,ha⟩:=yO (by decide) (by decide) ha;rw[jF6 _ FF]at ha;unfold kF at hb;rw[jK6]at hb hf;by_cases G6:k.t=19
 ·rw[jJ6 G6,G6]at ha;obtain⟨-,a1⟩:=jT (by decide) ha;obtain⟨r1,e1,b1,-,-,l1⟩:=jI hl;obtain⟨x2,r2,t2,e2,p2,l2,a2,n2,b2⟩:=IH.un r1 ts2 _ l1 (by unfold kF;omega) (by omega) a1;obtain⟨x,r',en,px,bn,ln⟩:=vV (jn 7 [x2]) r.from_ l2 (by omega);refine⟨x,r',t2,?_,px,ln,a2,by rw[jK6];omega,by rw[jK6];omega⟩;rw[exN,jJ6 (by rw[hl.1];exact G6)];simp only[e1,e2,en,jL2,Option.map_some]
 rw[jJ5 G6]at ha;obtain⟨k',ts2',e',-,MP,ha⟩:=yO (by decide) (by decide) ha;injection e' with e1 e2;subst e1 e2;rw[jF5 _ MP]at ha;have F1:yC k.t=true:=by
  have h2:82=k.t\/yC k.t=true:=(by simpa [jE,km]using MP);rcases h2 with e|e
  ·exfalso;rw[<-e]at Fx;omega
  ·exact e
 have hc:=Ug F1;by_cases NT:k.t=2\/k.t=46\/k.t=47\/k.t=3\/k.t=48\/k.t=1
 ·obtain⟨q1,q2,q3,q4⟩:=jAm _ NT;rw[q1]at ha;obtain⟨-,a1⟩:=jT q4 ha;obtain⟨n,hn⟩:=hl.lit q2;obtain⟨r1,e1,b1,-,-,l1⟩:=jI hl;obtain⟨x,r',en,px,bn,ln⟩:=vV n r.from_ l1 (by omega);refine⟨x,r',ts2,?_,px,ln,a1,by rw[jK6];omega,by rw[jK6];omega⟩;rw[exN,jJ5 (by rw[hl.1];exact G6),jJ6 (by rw[hl.1];exact q2)];simp only[hn,e1,en,jL2,Option.map_some]
 have W9:Uo r.t=false:=by rw[hl.1];exact jK3 NT
 by_cases h6:k.t=6
 ·rw[show JT k.t=[6,69,7]by rw[h6];rfl]at ha;obtain⟨-,a1⟩:=jT (by decide) ha;obtain⟨r1,e1,b1,-,-,l1⟩:=jI hl;obtain⟨x2,r2,t2,e2,p2,l2,a2,n2,b2⟩:=IH.ex r1 ts2 _ l1 (by unfold kF;omega) (by omega) a1;obtain⟨k3,t3,rfl,-,a3⟩:=jO (by decide) a2;rw[jK6]at n2 b2;obtain⟨r3,e3,b3,-,-,l3⟩:=jI l2;refine⟨x2,r3,t3,?_,p2,l3,a3,by rw[jK6];omega,by rw[jK6];omega⟩;rw[exN,jJ5 (by rw[hl.1];exact G6),jJ5 (by rw[W9];decide),jJ6 (by rw[hl.1];exact h6)];simp only[e1,e2,e3,jL2]
 by_cases h4:k.t=4
 ·rw[show JT k.t=[4,83,5]by rw[h4];rfl]at ha;obtain⟨-,a1⟩:=jT (by decide) ha;obtain⟨r1,e1,b1,-,-,l1⟩:=jI hl;obtain⟨ks,r2,t2,e2,l2,a2,n2,b2⟩:=IH.ls 5 [83,5] [] r1 ts2 st (.inl rfl) .set (by rw[jN2];omega) l1 (by unfold kF;omega) (by omega) a1;obtain⟨x,r',en,px,bn,ln⟩:=vV (jn 6 ks) r.from_ l2 (by omega);refine⟨x,r',t2,?_,px,ln,a2,by rw[jK6];omega,by rw[jK6];omega⟩;rw[exN,jJ5 (by rw[hl.1];exact G6),jJ5 (by rw[W9];decide),jJ5 (by rw[hl.1];exact h6),jJ6 (by rw[hl.1];exact h4)];simp only[e1,e2,en,jL2,Option.map_some]
 by_cases Nr:k.t=49\/k.t=52\/k.t=31
 ·obtain⟨q1,q2,q3,q4,q5,q6,q7⟩:=XO _ Nr;rw[q1]at ha;obtain⟨-,a1⟩:=jT q6 ha;obtain⟨r1,e1,b1,-,-,l1⟩:=jI hl;obtain⟨k2,t2,rfl,-,a2⟩:=jO (by decide) a1;obtain⟨r2,e2,b2,-,-,l2⟩:=jI l1;obtain⟨k3,t3,rfl,-,a3⟩:=jO (by decide) a2;obtain⟨r3,e3,b3,-,-,l3⟩:=jI l2;obtain⟨k4,t4,rfl,-,a4⟩:=jO (by decide) a3;obtain⟨r4,e4,b4,-,-,l4⟩:=jI l3;simp only[jK6]at hb;obtain⟨x,r',en,px,bn,ln⟩:=vV ⟨QB r.t,⟨(jh src r2).toArray⟩,0,0,⟨#[]⟩,[],[]⟩ r.from_ l4 (by omega);refine⟨x,r',t4,?_,px,ln,a4,by simp only[jK6];omega,by simp only[jK6];omega⟩;rw[exN,jJ5 (by rw[hl.1];exact G6),jJ5 (by rw[W9];decide),jJ5 (by rw[hl.1];exact h6),jJ5 (by rw[hl.1];exact h4),jJ5 (by rw[hl.1];exact fun e=>e q7)];simp only[e1,e2,jL2];rw[jJ6 (by rw[hl.1];exact Nr),zC];simp only[e3,e4,en,jL2,Option.map_some]
 ·obtain⟨L,q1,q2,q3,q4,q5,q6,q7,q8⟩:=jEo k.t (by omega);rw[q1]at ha;obtain⟨-,a1⟩:=jT Fx ha;obtain⟨r1,e1,b1,-,-,l1⟩:=jI hl;obtain⟨k2,t2,rfl,-,a2⟩:=jO (by decide) a1;obtain⟨r2,e2,b2,-,-,l2⟩:=jI l1;simp only[jK6]at hb hf;obtain⟨ks,r3,t3,e3,l3,a3,n3,b3⟩:=IH.ls 7 L [] r2 t2 st (.inr rfl) q2 (by rw[jN2];omega) l2 (by unfold kF;omega) (by omega) a2;obtain⟨x,r',en,px,bn,ln⟩:=vV (jn (QB r.t) ks) r.from_ l3 (by omega);refine⟨x,r',t3,?_,px,ln,a3,by simp only[jK6];omega,by simp only[jK6];omega⟩;rw[exN,jJ5 (by rw[hl.1];exact G6),jJ5 (by rw[W9];decide),jJ5 (by rw[hl.1];exact h6),jJ5 (by rw[hl.1];exact h4),jJ5 (by rw[hl.1];exact fun e=>e q8)];simp only[e1,e2,jL2];rw[jJ5 (by rw[hl.1];exact Nr)];simp only[e3,en,jL2,Option.map_some]
end
theorem jBW{n:Nat}{st:List Nat}{ts:List Tk}(h:Acc (n::st) ts):0<ts.length:=by
 cases h with
 |tak=>simp
theorem Kq(src:LB):∀f,AllOk src f
 |0=>⟨fun r ts st _ _ h _=>by omega,fun l s k hm r ts st _ _ h ha=>by
   have:=jBW ha;omega,fun l s b u hm root r ts st _ _ _ h _=>by omega,fun l s k hm op root r c ts st _ _ h _=>by rw[jK6]at h;omega,fun r ts st _ _ h _=>by omega,fun last L kids r ts st _ _ _ _ _ h _=>by omega⟩
 |f+1=>⟨jFo (Kq src f),jEd (Kq src f),jC2 (Kq src f),jEc (Kq src f),jFm (Kq src f),jFn (Kq src f)⟩
open Go.RowKit
noncomputable def least (p:Nat->Prop):Nat:=Classical.epsilon fun n=>p n/\∀m,p m->n<=m
theorem Vg{p:Nat->Prop}(h:∃n,p n):p (least p)/\∀m,p m->least p<=m:=by
 refine Classical.epsilon_spec (p:=fun n=>p n/\∀m,p m->n<=m) ?_;obtain⟨n,hn⟩:=h
 induction n using Nat.strongRecOn with
 |_ n ih=>
  rcases Classical.em (∃m,m<n/\p m)with⟨m,hm,hp⟩|WR
  ·exact ih m hm hp
  ·exact⟨n,hn,fun m hm=>Nat.le_of_not_lt fun hlt=>WR ⟨m,hlt,hm⟩⟩
theorem yH{p:Nat->Prop}(h:∃n,p n):∃n,p n/\least p=n:=⟨_,(Vg h).1,rfl⟩
theorem kj{p:Nat->Prop}{n m:Nat}(h:p n)(k:n<m):least p<m:=Nat.lt_of_le_of_lt ((Vg ⟨n,h⟩).2 n h) k
theorem St.setOrder{w:World}{g:Nat}{src:BA}{r:Rdr}{s:Sl}(h:St w g src r s)(k:Nat):
  St (w.setCell ⟨g,4,none⟩ (.int .i64 (k:Int))) g src {r with order:=k} s/\Fr g s s w (w.setCell ⟨g,4,none⟩ (.int .i64 (k:Int))):=
 h.scan (h.box.setOrder k).1 rfl (h.box.setOrder k).2 h.from_ h.at_ h.t58
theorem jV(w:World)(g:Nat)(src:BA)(r r' :Rdr)(s:Sl)(t:Nat)(b:Bool)(h:St w g src r s)(hk:jb (sb src) t r=some (b,r')):
  Calls prog 212 #[.pointer (some ⟨g,0,none⟩),.int .u8 (t:Int)] w (Sc w g src s r' (.bool b)):=by
 have Fq:=h.box.c3;have HS:=G h;unfold jb at hk;by_cases ht:r.t=t
 ·rw[jJ6 ht]at hk;obtain⟨r1,hn,he⟩:=jM4 hk;injection he with e1 e2;subst e1 e2;have HN:=G hn;have e1:((r.t:Int)==(t:Int))=true:=beq_iff_eq.2 (by omega);clear h hk hn ht;go_enter func212,ntmps212;go_wp2_with (go_at_call 150;refine(jN _ g src _ _ s HS.out HN.out).mono ?_;rintro e w1 ⟨rfl,hX⟩);go_ret;exact⟨rfl,hX⟩
 ·rw[jJ5 ht]at hk;injection hk with hk;injection hk with e1 e2;subst e1 e2;have e1:((r.t:Int)==(t:Int))=false:=jM3 (by omega);clear h ht;go_enter func212,ntmps212;go_wp2;go_ret;exact⟨rfl,HS.out,Fr.refl _ _ _⟩
theorem yh(w:World)(g:Nat)(src:BA)(r r' :Rdr)(s:Sl)(x:BA)(at_:Int)(h:St w g src r s)(hk:zC (sb src) r=some (x,at_,r')):
  Calls prog 151 #[.pointer (some ⟨g,0,none⟩)] w (Sc w g src s r' (.tuple #[.string x,iv at_])):=by
 have Fm:=h.box.c2;have HS:=G h;unfold zC at hk;obtain⟨r1,hn,he⟩:=jM4 hk;injection he with e1 e2;injection e2 with e2 e3;subst e1 e2 e3;have HN:=G hn;have HL:=G (fun n=>vr (w.drewN n) g src r s (h.drewN n));generalize jh (sb src) r=lx at*;clear h hk hn;go_enter func151,ntmps151;go_wp2;go_quiet ((go_at_call 209;exact Calls.quiet_of (HL.out _)));go_wp2_with (go_at_call 150;refine(jN _ g src _ _ s (HS.out.drewN _) HN.out).mono ?_;rintro e w1 ⟨rfl,hX⟩)
 go_ret2
 exact⟨rfl,hX.1,(Fr.of_old s ((jQ0 _ _).drewN _)).trans hX.2⟩
theorem yK(w:World)(g:Nat)(src:BA)(r r' :Rdr)(s:Sl)(x:BA)(at_ o:Int)(h:St w g src r s)(hk:VQ (sb src) r=some (x,at_,o,r')):
  Calls prog 211 #[.pointer (some ⟨g,0,none⟩)] w (Sc w g src s r' (.tuple #[.string x,iv at_,iv o])):=by
 have HS:=G h;unfold VQ at hk;obtain⟨r1,hn,hk⟩:=jM2 hk;obtain⟨y,hm,hk⟩:=jM2 hk;obtain⟨x1,a1,r2⟩:=y;simp only at hk;split at hk
 case isFalse=>cases hk
 rename_i ho;injection hk with he;injection he with e1 e2;injection e2 with e2 e3;injection e3 with e3 e4;subst e1 e2 e3 e4;have HN:=G hn;have HM:=G hm;have q0:IntKind.i64.wrap ((r2.order:Int)+1)=(r2.order:Int)+1:=jQ3 _ (by omega);have q1:RowKit.wrap64 (r2.order:Int)=(r2.order:Int):=IntWalk.wrap64_in _ (by omega);clear h hn hm ho hk;go_enter func211,ntmps211;go_wp2_with (first|(go_at_call 150;refine(jN _ g src _ _ s HS.out HN.out).mono ?_;rintro e w1 ⟨rfl,hX⟩;have HX:=G hX;clear hX)|(go_at_call 151;refine(yh _ g src _ _ s _ _ HX.out.1 HM.out).mono ?_;rintro e w2 ⟨rfl,hY⟩;have MN:=hY.1.box.c4;have PW:=hY.1.box.z 4;have HZ:=hY.1.setOrder (r2.order+1);rw[show((r2.order+1:Nat):Int)=(r2.order:Int)+1 by omega]at HZ;have HZ:=G HZ;have HF:=G (HX.out.2.trans hY.2);clear hY));generalize hW:World.setCell _ _ _=W at*;have MN:=HZ.out.1.box.c4;simp only[show((r2.order+1:Nat):Int)=(r2.order:Int)+1 by omega]at MN;clear hW;go_quiet (fail);go_wp2
 go_ret3
 exact⟨by rw[q1];rfl,HZ.out.1.drewN _,HF.out.trans (HZ.out.2.trans (Fr.of_old s ((jQ0 _ _).drewN _)))⟩
theorem Xv(w:World)(g:Nat)(src:BA)(r r' :Rdr)(s:Sl)(x:BA)(at_:Int)(h:St w g src r s)(hk:inN (sb src) r=some (x,at_,r')):
  Calls prog 215 #[.pointer (some ⟨g,0,none⟩)] w (Sc w g src s r' (.tuple #[.string x,iv at_])):=by
 have HS:=G h;unfold inN at hk;by_cases h28:r.t=28
 ·rw[jJ6 h28]at hk;obtain⟨r1,hn,hm⟩:=jM2 hk;have HK:=G (show jb (sb src) 28 r=some (true,r1)by rw[jb,jJ6 h28,hn];rfl);have HM:=G hm;clear h hn hm hk h28;go_enter func215,ntmps215;go_wp2_with (first|(go_at_call 212;refine(jV _ g src _ _ s 28 _ HS.out HK.out).mono ?_;rintro e w1 ⟨rfl,hX⟩;have HX:=G hX;clear hX)|(go_at_call 151;refine(yh _ g src _ _ s _ _ HX.out.1 HM.out).mono ?_;rintro e w2 ⟨rfl,hY⟩))
  go_ret2
  exact⟨rfl,hY.1,HX.out.2.trans hY.2⟩
 ·rw[jJ5 h28]at hk;injection hk with hk;injection hk with e1 e2;injection e2 with e2 e3;subst e1 e2 e3;have HK:=G (show jb (sb src) 28 r=some (false,r)by rw[jb,jJ5 h28]);clear h h28;go_enter func215,ntmps215;go_wp2_with (first|(go_at_call 212;refine(jV _ g src _ _ s 28 _ HS.out HK.out).mono ?_;rintro e w1 ⟨rfl,hX⟩))
  go_ret2
  exact⟨rfl,hX⟩
theorem xZ(w:World)(g:Nat)(src:BA)(r r' :Rdr)(s:Sl)(k:Int)(h:St w g src r s)(hk:ZO (sb src) r=some (k,r')):
  Calls prog 213 #[.pointer (some ⟨g,0,none⟩)] w (Sc w g src s r' (iv k)):=by
 have HS:=G h;have Fq:=h.box.c3;unfold ZO at hk;split at hk
 case isFalse=>cases hk
 rename_i ht;obtain⟨r1,hn,he⟩:=jM2 hk;injection he with he;injection he with e1 e2;subst e1 e2;have HN:=G hn;obtain⟨q,hq,Dd⟩:∃q,r.t=q+34/\q<=4:=⟨r.t-34,by omega,by omega⟩;clear h hn hk ht;go_enter func213,ntmps213;go_wp2_with (first|(go_at_call 150;refine(jN _ g src _ _ s HS.out HN.out).mono ?_;rintro e w1 ⟨rfl,hX⟩));go_ret;exact⟨congrArg Ending.returned (congrArg (Value.int .i64) (show 1+(q:Int)=(r.t:Int)-33 by omega)),hX⟩
def Ex(w:World)(g:Nat)(src:BA)(s:Sl)(r' :Rdr)(v:Value)(e:Ending)(w' :World):Prop:=e=.returned v/\∃s',St w' g src r' s' /\Fr g s s' w w'
theorem Ex.of{w w1 w' :World}{g:Nat}{src:BA}{s s1:Sl}{r' :Rdr}{v:Value}{e:Ending}(f:Fr g s s1 w w1)(h:Ex w1 g src s1 r' v e w'):Ex w g src s r' v e w' :=
 ⟨h.1,h.2.elim fun s' hs=>⟨s',hs.1,f.trans hs.2⟩⟩
theorem Sc.ex{w w' :World}{g:Nat}{src:BA}{s:Sl}{r' :Rdr}{v:Value}{e:Ending}(h:Sc w g src s r' v e w'):Ex w g src s r' v e w' :=⟨h.1,s,h.2⟩
theorem St.last{w:World}{g:Nat}{src:BA}{r:Rdr}{s:Sl}(h:St w g src r s){L:List Nd}{m:Nd}(hl:r.tree.nodes=L++[m]):
  ∃ns x ps,x.n=m/\ns.map (·.n)=L/\TRows w (AX g s) r.tree s (ns++[x]) ps:=by
 obtain⟨ns,ps,hR⟩:=h.rows;have hn:=hR.ne;rw[hl]at hn;obtain⟨n1,n2,rfl,h1,h2⟩:=List.map_eq_append_iff.1 hn;obtain⟨x,l,rfl,h3,h4⟩:=List.map_eq_cons_iff.1 h2;rw[List.map_eq_nil_iff.1 h4]at hR;exact⟨n1,x,ps,h3,h1,hR⟩
theorem St.turn{w w' :World}{g:Nat}{src:BA}{r:Rdr}{s:Sl}(h:St w g src r s){ns:List MNd}{x x' :MNd}{ps:List MSt}(hR:TRows w (AX g s) r.tree s (ns++[x]) ps)
  (hk:Kp (fun b=>s.nA.map (·.block)=some b) w w') (ho:w'.ownsRow 8 146 7 (.slice s.nA r.tree.nodes.length s.nc) r.tree.nodes.length (ns.flatMap ndC++ndC x')) (hx:OkN w (AX g s) x'):
  St w' g src {r with tree:={r.tree with nodes:=ns.map (·.n)++[x'.n]}} s/\Fr g s s w w' :=by
 have hf:Fr g s s w w' :=⟨hk.mono (fun b _ e=>by first|exact .inl e|exact .inr (.inl e)|exact .inr (.inr (.inl e))|exact .inr (.inr (.inr (.inl e)))|exact .inr (.inr (.inr (.inr (.inl e))))|exact .inr (.inr (.inr (.inr (.inr (.inl e)))))|exact .inr (.inr (.inr (.inr (.inr (.inr (e))))))),fun _ _ e=>e,rfl⟩;have hlen:(ns.map (·.n)++[x'.n]).length=r.tree.nodes.length:=by rw[<-hR.ne];simp
 have LN:s.nA.map (·.block)≠some g:=by rw[<-jA];exact jH hR.rN h.box (by decide)
 have K:∀{e:TypeId} {z:Nat} {v:Value} {n:Nat} {xs:List Value},w.ownsRow 8 e z v n xs->e≠146->w'.ownsRow 8 e z v n xs:=fun ho Fe=>
  jJ ho hk (fun k e e' =>zS ho hR.rN Fe k e (by rw[jA];exact e'))
 refine⟨⟨h.sgf hf,h.g8,h.small,?_,⟨ns++[x'],ps,?_⟩,h.from_,h.at_,h.t58,fun b hz=>jL8 (h.zlt b hz) hk.size,h.z8,h.zno⟩,hf⟩
 ·have hb:=h.box.kp hk LN;unfold Rb at hb⊢;simp only[rdC,jr,hlen]at hb⊢;exact hb
 ·constructor
  case rA=>exact K hR.rA (by decide)
  case rG=>exact K hR.rG (by decide)
  case rM=>exact K hR.rM (by decide)
  case rP=>exact K hR.rP (by decide)
  case rO=>exact K hR.rO (by decide)
  case rN=>
   simp only[hlen,jN5,List.flatMap_singleton];exact ho
  case pe=>exact hR.pe
  case ne=>simp
  case po=>exact fun y hy=>(hR.po y hy).fr hf
  case no=>exact fun y hy=>(jM6 hy).elim (fun hy=>(hR.no y (List.mem_append.2 (.inl hy))).fr hf) (fun hy=>by rw[jM7 hy];exact hx.fr hf)
theorem jAT(x:MNd):∀u∈ndC x,u.oneCell' =true:=by
 intro u hu;simp only[ndC,iv,List.mem_cons,List.mem_nil_iff,or_false]at hu;rcases hu with rfl|rfl|rfl|rfl|rfl|rfl|rfl<;>rfl
theorem Rd.one_at(w:World)(t:TypeId)(u:Value){n:Nat}(hn:n=w.heap.size):Rd (w.alloc (.cells #[u] t)) 1 (some ⟨n,0,none⟩) 1 [u]:=hn▸Rd.one_new w t u
theorem St.eight{w:World}{g:Nat}{src:BA}{r:Rdr}{s:Sl}(h:St w g src r s):8<=w.heap.size:=by have:=h.lt;have:=h.g8;omega
theorem St.pastA{w w1 w2:World}{g:Nat}{src:BA}{r:Rdr}{s:Sl}{ns:List MNd}{ps:List MSt}(hs:St w g src r s)(h:TRows w (AX g s) r.tree s ns ps)(h1:Old w w1)(Gg:w1.grownBy w2 (s.aA.map (·.block))):Rb w2 g src r (jr r.tree s):=
 (hs.box.old h1).kp (vL Gg) (by rw[<-jA];exact jH h.rA hs.box (by decide))
theorem St.pastG{w w1 w2:World}{g:Nat}{src:BA}{r:Rdr}{s:Sl}{ns:List MNd}{ps:List MSt}(hs:St w g src r s)(h:TRows w (AX g s) r.tree s ns ps)(h1:Old w w1)(Gg:w1.grownBy w2 (s.gA.map (·.block))):Rb w2 g src r (jr r.tree s):=
 (hs.box.old h1).kp (vL Gg) (by rw[<-jA];exact jH h.rG hs.box (by decide))
theorem St.pastM{w w1 w2:World}{g:Nat}{src:BA}{r:Rdr}{s:Sl}{ns:List MNd}{ps:List MSt}(hs:St w g src r s)(h:TRows w (AX g s) r.tree s ns ps)(h1:Old w w1)(Gg:w1.grownBy w2 (s.mA.map (·.block))):Rb w2 g src r (jr r.tree s):=
 (hs.box.old h1).kp (vL Gg) (by rw[<-jA];exact jH h.rM hs.box (by decide))
theorem St.pastP{w w1 w2:World}{g:Nat}{src:BA}{r:Rdr}{s:Sl}{ns:List MNd}{ps:List MSt}(hs:St w g src r s)(h:TRows w (AX g s) r.tree s ns ps)(h1:Old w w1)(Gg:w1.grownBy w2 (s.pA.map (·.block))):Rb w2 g src r (jr r.tree s):=
 (hs.box.old h1).kp (vL Gg) (by rw[<-jA];exact jH h.rP hs.box (by decide))
theorem St.pastN{w w1 w2:World}{g:Nat}{src:BA}{r:Rdr}{s:Sl}{ns:List MNd}{ps:List MSt}(hs:St w g src r s)(h:TRows w (AX g s) r.tree s ns ps)(h1:Old w w1)(Gg:w1.grownBy w2 (s.nA.map (·.block))):Rb w2 g src r (jr r.tree s):=
 (hs.box.old h1).kp (vL Gg) (by rw[<-jA];exact jH h.rN hs.box (by decide))
theorem St.pastO{w w1 w2:World}{g:Nat}{src:BA}{r:Rdr}{s:Sl}{ns:List MNd}{ps:List MSt}(hs:St w g src r s)(h:TRows w (AX g s) r.tree s ns ps)(h1:Old w w1)(Gg:w1.grownBy w2 (s.oA.map (·.block))):Rb w2 g src r (jr r.tree s):=
 (hs.box.old h1).kp (vL Gg) (by rw[<-jA];exact jH h.rO hs.box (by decide))
def Ue(op:Int)(kids:List Int)(A:OA)(c:Nat):MNd:=⟨jn op kids,A,c,none,0⟩
theorem vR(w:World)(g:Nat)(src:BA)(r r' :Rdr)(s:Sl)(op x:Int)(at_:Nat)(A:OA)(c:Nat)(kids:List Int)(h:St w g src r s)(hr:Rd w 1 A kids.length (kids.map iv))(ha:Av (AX g s) kids.length A)
  (hn:vJ (jn op kids) at_ r=some (x,r')):
  Calls prog 257 #[.pointer (some ⟨g,0,none⟩),iv op,iv (at_:Int),.slice A kids.length c] w (Ex w g src s r' (iv x)):=by
 unfold vJ at hn;split at hn
 case isFalse=>cases hn
 rename_i hlt;injection hn with hn;injection hn with e1 e2;subst e1 e2;obtain⟨ns,ps,hR⟩:=h.rows;have HS:=G h;have HR:=G hR;have Cy:=G (show OkN w (AX g s) (Ue op kids A c)from⟨hr,ha,Rd.none_,fun h0=>absurd h0 (Nat.lt_irrefl 0)⟩);have GS:w.cell? ⟨g,11,none⟩=some (.slice s.nA r.tree.nodes.length s.nc):=Blk.at_ h.box 11 rfl;have HO:=G ((jQ0 NoX w).alloc (.cells (ndC (Ue op kids A c)).toArray 146));have H8:=G (show 8<=w.heap.size by have:=h.lt;have:=h.g8;omega);obtain⟨i0,hi,FJ,Fv,FU⟩:=info_parts jA5;obtain⟨i1,hj,TJ,TI,TH⟩:=info_parts Xr;have FM:=G (show r.tree.nodes.length+1<=maxLen by unfold maxLen;omega);have FN:=G (show(r.tree.nodes.length+1)*104<=140737488355328 by omega);have J63:=G (show r.tree.ats.length+1<=maxLen by unfold maxLen;omega);have J47:=G (show(r.tree.ats.length+1)*8<=140737488355328 by omega);have q1:IntKind.i64.wrap ((r.tree.nodes.length:Int)+1-1)=(r.tree.nodes.length:Int):=by rw[show(r.tree.nodes.length:Int)+1-1=(r.tree.nodes.length:Int)by omega];exact jQ3 _ (by omega)
 have q2:RowKit.wrap64 (r.tree.nodes.length:Int)=(r.tree.nodes.length:Int):=IntWalk.wrap64_in _ (by omega);clear h hR hr ha hlt;unfold iv;go_enter func257,ntmps257;go_wp2_with (first|(at_builtin;refine jG _ rfl (.tmp 14) (.tmp 18) 36 rfl 8 146 i0 _ 7 104 underlying36 hi FJ Fv FU rfl (by decide) (.slice s.nA r.tree.nodes.length s.nc) r.tree.nodes.length (ns.flatMap ndC) rfl (jJ HR.out.rN HO.out (fun _ _ e=>e)) _ 1 1 (ndC (Ue op kids A c)) rfl (Rd.row_new _ _ 7 1 _ rfl) (jAT _) FM.out FN.out (jL4 H8.out HO.out.size) ?_;intro A1 c1 w2 hI hgrow F1;rw[jA]at hgrow F1;have FY:=HS.out.pastN HR.out HO.out hgrow;have GS:w2.cell? ⟨g,11,none⟩=some (.slice s.nA r.tree.nodes.length s.nc):=Blk.at_ FY 11 rfl;have EU:=FY.z 11;have Y7:w2.cell? ⟨g,12,none⟩=some (.slice s.oA r.tree.ats.length s.oc):=Blk.at_ FY 12 rfl;have TE:=FY.z 12;have H1:=G (HS.out.growN HR.out (Ue op kids A c) Cy.out HO.out hgrow F1 hI);obtain⟨ns2,ps2,NY⟩:=H1.out.1.rows;have Ws:=G NY;clear FY hI hgrow F1 NY)|(at_builtin;refine jG _ rfl (.tmp 28) (.tmp 30) 37 rfl 8 3 i1 _ 1 8 underlying37 hj TJ TI TH rfl (by decide) (.slice s.oA r.tree.ats.length s.oc) r.tree.ats.length (r.tree.ats.flatMap oC) rfl (jJ Ws.out.rO ((jQ0 NoX _).alloc _) (fun _ _ e=>e)) _ 1 1 _ rfl (Rd.one_at _ _ _ (by simp[World.setCell])) (kI _ rfl) J63.out J47.out (jL4 H1.out.1.eight ((jQ0 NoX _).alloc _).size) ?_;intro A2 c2 w5 hI hgrow F1;rw[jA]at hgrow F1;have SV:=H1.out.1.pastO Ws.out ((jQ0 NoX _).alloc _) hgrow;have GS:=Blk.at_ SV 11 (v:=.slice A1 (r.tree.nodes++[(Ue op kids A c).n]).length c1) rfl;rw[jJ4,List.length_singleton]at GS;have Y7:w5.cell? ⟨g,12,none⟩=some (.slice s.oA r.tree.ats.length s.oc):=Blk.at_ SV 12 rfl;have TE:=SV.z 12;have H2:=G (H1.out.1.growO Ws.out (at_:Int) True.intro ((jQ0 NoX _).alloc _) hgrow F1 hI);clear SV hI hgrow F1)|fail);go_ret;exact⟨rfl,_,H2.out.1,H1.out.2.trans H2.out.2⟩
structure LastN(w:World)(g:Nat)(src:BA)(r:Rdr)(s:Sl)(k q:Nat)(ns:List MNd)(x:MNd)(ps:List MSt)(W:World)(L:List Value):Prop where
 st:St w g src r s
 at_:s.nA=some ⟨k,0,none⟩
 len:ns.length=q
 cnt:r.tree.nodes.length=q+1
 rows:TRows w (AX g s) r.tree s (ns++[x]) ps
 kp:Kp (fun b=>s.nA.map (·.block)=some b) w W
 own:W.ownsRow 8 146 7 (.slice s.nA r.tree.nodes.length s.nc) r.tree.nodes.length (ns.flatMap ndC++L)
theorem xg(ns:List MNd):(ns.flatMap ndC).length=ns.length*7:=by
 induction ns with
 |nil=>rfl
 |cons x l ih=>rw[jL9,jJ4,ih,jK6];simp only[ndC,jK6,jN2];omega
theorem St.lastN{w:World}{g:Nat}{src:BA}{r:Rdr}{s:Sl}(h:St w g src r s){L:List Nd}{m:Nd}(hl:r.tree.nodes=L++[m]):
  ∃k ns x ps,x.n=m/\ns.map (·.n)=L/\LastN w g src r s k L.length ns x ps w (ndC x):=by
 obtain⟨ns,x,ps,h1,h2,h3⟩:=h.last hl;have hlen:r.tree.nodes.length=L.length+1:=by rw[hl,jJ4];rfl
 obtain⟨k,hk⟩:=jAR h3.rN (by omega);refine⟨k,ns,x,ps,h1,h2,h,hk,by rw[<-h2,jK7],hlen,h3,jQ0 _ _,?_⟩;have:=h3.rN
 rwa [jN5,List.flatMap_singleton]at this
section
variable{w:World}{g:Nat}{src:BA}{r:Rdr}{s:Sl}{k q:Nat}{ns:List MNd}{x:MNd}{ps:List MSt}{W:World}{L:List Value}
theorem LastN.cell(h:LastN w g src r s k q ns x ps W L)(i:Nat){u:Value}(hu:L[i]? =some u):W.cell? ⟨k,q*7+i,none⟩=some u/\W.frozen? ⟨k,q*7+i,none⟩=false:=by
 have ho:=h.own;rw[h.at_]at ho;refine YC ho (q*7+i) ?_;have hl:=xg ns;rw[h.len]at hl;rw[<-hl,List.getElem?_append_right (by omega),Nat.add_sub_cancel_left];exact hu
theorem LastN.set_(h:LastN w g src r s k q ns x ps W L)(i:Nat)(u:Value):LastN w g src r s k q ns x ps (W.setCell ⟨k,q*7+i,none⟩ u) (L.set i u):=by
 have ho:=h.own;rw[h.at_]at ho;have Pw:=qQ ho (q*7+i) u;have hl:=xg ns;rw[h.len]at hl;rw[List.set_append_right _ _ (by omega),hl,Nat.add_sub_cancel_left]at Pw;exact⟨h.st,h.at_,h.len,h.cnt,h.rows,h.kp.setCell (p:=⟨k,q*7+i,none⟩) (fun _=>by rw[h.at_];rfl) u,by rw[h.at_];exact Pw⟩
theorem LastN.old{W' :World}(h:LastN w g src r s k q ns x ps W L)(ho:Old W W'):LastN w g src r s k q ns x ps W' L:=
 ⟨h.st,h.at_,h.len,h.cnt,h.rows,h.kp.old ho,jJ h.own ho (fun _ _ e=>e)⟩
theorem LastN.done(h:LastN w g src r s k q ns x ps W L)(x' :MNd)(hL:L=ndC x')(hx:OkN w (AX g s) x'):St W g src {r with tree:={r.tree with nodes:=ns.map (·.n)++[x'.n]}} s/\Fr g s s w W:=by
 have ho:=h.own;rw[hL]at ho;exact h.st.turn h.rows h.kp ho hx
theorem jC6(w:World)(X:Nat->Prop)(m:Nd)(A:OA)(c:Nat)(vA:OA)(vc:Nat)(hm:m.kids=[])(hv:m.vs=[]):OkN w X ⟨m,A,c,vA,vc⟩:=by
 refine⟨?_,?_,?_,?_⟩
 ·simp only[hm];exact⟨rfl,fun h=>absurd h (Nat.lt_irrefl 0)⟩
 ·simp only[hm];exact fun h0=>absurd h0 (Nat.lt_irrefl 0)
 ·simp only[hv];exact⟨rfl,fun h=>absurd h (Nat.lt_irrefl 0)⟩
 ·simp only[hv];exact fun h0=>absurd h0 (Nat.lt_irrefl 0)
theorem LastN.lit{r' :Rdr}{Ln:List Nd}{b:Nd}(h:LastN w g src {r' with tree:={r'.tree with nodes:=Ln++[b]}} s k q ns x ps W L)(GO:ns.map (·.n)=Ln){m:Nd}(hT:r'.tree.nodes=Ln++[m])
  (hk:m.kids=[]) (hv:m.vs=[]) (vA:OA) (vc:Nat) (hL:L=ndC ⟨m,x.A,x.c,vA,vc⟩):St W g src r' s/\Fr g s s w W:=by
 have h1:=h.done ⟨m,x.A,x.c,vA,vc⟩ hL (jC6 _ _ _ _ _ _ _ hk hv);simp only[GO,<-hT]at h1;exact h1
end
theorem St.lastC{w:World}{g:Nat}{src:BA}{r:Rdr}{s:Sl}(h:St w g src r s){L:List Nd}{m:Nd}{q:Nat}(hl:r.tree.nodes=L++[m])(hq:L.length=q):
  ∃k ns x ps,x.n=m/\ns.map (·.n)=L/\LastN w g src r s k q ns x ps w (ndC x)/\w.cell? ⟨g,11,none⟩=some (.slice (some ⟨k,0,none⟩) (q+1) s.nc):=by
 obtain⟨k,ns,x,ps,h1,h2,h3⟩:=h.lastN hl;subst hq;have hc:w.cell? ⟨g,11,none⟩=some (.slice s.nA r.tree.nodes.length s.nc):=Blk.at_ h.box 11 rfl;rw[h3.at_,h3.cnt]at hc;exact⟨k,ns,x,ps,h1,h2,h3,hc⟩
theorem vf{n:Nd}{at_:Nat}{r r' :Rdr}{x:Int}(h:vJ n at_ r=some (x,r')):vJ (jn 4 []) at_ r=some (x,{r' with tree:={r'.tree with nodes:=r.tree.nodes++[jn 4 []]}})/\r'.tree.nodes=r.tree.nodes++[n]/\x=(r.tree.nodes.length:Int)/\r.tree.nodes.length<1000000:=by
 unfold vJ at h⊢;split at h
 case isFalse=>cases h
 rename_i hlt;injection h with h;injection h with h1 h2;rw[jJ6 hlt];subst h1 h2;exact⟨rfl,rfl,rfl,hlt.1⟩
theorem jAk(w:World)(g:Nat)(src:BA)(r r1 r' :Rdr)(s:Sl)(x:Int)(at_:Nat)(h:St w g src r s)(ht:r.t=1)(hn:jc (sb src) r=some r1)
  (hx:vJ ⟨5,⟨(jh (sb src) r).toArray⟩,0,0,⟨#[]⟩,[],[]⟩ at_ r1=some (x,r')):
  Calls prog 304 #[.pointer (some ⟨g,0,none⟩),iv (at_:Int)] w (Ex w g src s r' (iv x)):=by
 have Fq:=h.box.c3;rw[ht]at Fq;have HS:=G h;have HN:=G hn;have HL:=G (fun n=>vr (w.drewN n) g src r s (h.drewN n));obtain⟨h1,h2,h3,h4⟩:=vf hx;generalize jh (sb src) r=lx at*;have HB:=G h1;have HT:=G h2;generalize hq:r1.tree.nodes.length=q at*;subst h3;clear h hn hx h1 h2 ht;unfold iv;have f1:(0:Int)<=(q:Int):=(by omega);have f2:(q:Int).toNat=q:=(by omega);have f3:(q:Int)<(q:Int)+1:=(by omega);go_enter func304,ntmps304;go_wp2;go_quiet ((go_at_call 209;exact Calls.quiet_of (HL.out _)));go_wp2_with (first|(go_at_call 150;refine(jN _ g src _ _ s (HS.out.drewN _) HN.out).mono ?_;rintro e w1 ⟨rfl,hX⟩;have HX:=G hX;clear hX)|(go_at_call 257;refine(vR _ g src _ _ s 4 _ _ none 0 [] HX.out.1 Rd.none_ (fun h0=>absurd h0 (Nat.lt_irrefl 0)) HB.out).mono ?_;rintro e w2 ⟨rfl,s2,hY,N9⟩;obtain⟨k,ns,xx,ps,NL,GO,Fk,GS⟩:=hY.lastC rfl hq;have d0:w2.cell? ⟨k,q*7,none⟩=_:=(Fk.cell 0 rfl).1;have z0:w2.frozen? ⟨k,q*7,none⟩=false:=(Fk.cell 0 rfl).2;have d1:=(Fk.cell 1 rfl).1;have z1:=(Fk.cell 1 rfl).2;have Wu:=G Fk;have HF:=G N9;clear Fk hY N9;unfold iv)|fail);go_ret;have HD:=G (((Wu.out.set_ 0 (.int .i64 5)).set_ 1 (.string ⟨lx.toArray⟩)).lit GO HT.out rfl rfl xx.vA xx.vc (by simp only[ndC,NL];rfl));exact⟨rfl,s2,HD.out.1,(((Fr.of_old s ((jQ0 _ _).drewN _)).trans HX.out.2).trans HF.out).trans HD.out.2⟩
theorem ua(w:World)(g:Nat)(src:BA)(r r1 r' :Rdr)(s:Sl)(x:Int)(at_:Nat)(h:St w g src r s)(ht:r.t=46)(hn:jc (sb src) r=some r1)
  (hx:vJ ⟨2,⟨#[]⟩,2,1,⟨#[]⟩,[],[]⟩ at_ r1=some (x,r')):
  Calls prog 304 #[.pointer (some ⟨g,0,none⟩),iv (at_:Int)] w (Ex w g src s r' (iv x)):=by
 have Fq:=h.box.c3;rw[ht]at Fq;have HS:=G h;have HN:=G hn;have HL:=G (fun n=>vr (w.drewN n) g src r s (h.drewN n));obtain⟨h1,h2,h3,h4⟩:=vf hx;generalize jh (sb src) r=lx at*;have HB:=G h1;have HT:=G h2;generalize hq:r1.tree.nodes.length=q at*;subst h3;clear h hn hx h1 h2 ht;unfold iv;have f1:(0:Int)<=(q:Int):=(by omega);have f2:(q:Int).toNat=q:=(by omega);have f3:(q:Int)<(q:Int)+1:=(by omega);go_enter func304,ntmps304;go_wp2;go_quiet ((go_at_call 209;exact Calls.quiet_of (HL.out _)));go_wp2_with (first|(go_at_call 150;refine(jN _ g src _ _ s (HS.out.drewN _) HN.out).mono ?_;rintro e w1 ⟨rfl,hX⟩;have HX:=G hX;clear hX)|(go_at_call 257;refine(vR _ g src _ _ s 4 _ _ none 0 [] HX.out.1 Rd.none_ (fun h0=>absurd h0 (Nat.lt_irrefl 0)) HB.out).mono ?_;rintro e w2 ⟨rfl,s2,hY,N9⟩;obtain⟨k,ns,xx,ps,NL,GO,Fk,GS⟩:=hY.lastC rfl hq;have d0:w2.cell? ⟨k,q*7,none⟩=_:=(Fk.cell 0 rfl).1;have z0:w2.frozen? ⟨k,q*7,none⟩=false:=(Fk.cell 0 rfl).2;have d2:=(Fk.cell 2 rfl).1;have z2:=(Fk.cell 2 rfl).2;have d3:=(Fk.cell 3 rfl).1;have z3:=(Fk.cell 3 rfl).2;have d4:=(Fk.cell 4 rfl).1;have z4:=(Fk.cell 4 rfl).2;have d5:=(Fk.cell 5 rfl).1;have z5:=(Fk.cell 5 rfl).2;have Wu:=G Fk;have HF:=G N9;clear Fk hY N9;unfold iv)|fail);go_ret;have HD:=G ((((((Wu.out.set_ 0 (.int .i64 2)).set_ 2 (.int .i64 2)).set_ 3 (.int .i64 1)).set_ 4 (.string ⟨#[]⟩)).set_ 5 (.slice none 0 0)).lit GO HT.out rfl rfl none 0 (by simp only[ndC,NL];rfl));exact⟨rfl,s2,HD.out.1,(((Fr.of_old s ((jQ0 _ _).drewN _)).trans HX.out.2).trans HF.out).trans HD.out.2⟩
theorem uZ(w:World)(g:Nat)(src:BA)(r r1 r' :Rdr)(s:Sl)(x:Int)(at_:Nat)(h:St w g src r s)(ht:r.t=47)(hn:jc (sb src) r=some r1)
  (hx:vJ ⟨2,⟨#[]⟩,2,0,⟨#[]⟩,[],[]⟩ at_ r1=some (x,r')):
  Calls prog 304 #[.pointer (some ⟨g,0,none⟩),iv (at_:Int)] w (Ex w g src s r' (iv x)):=by
 have Fq:=h.box.c3;rw[ht]at Fq;have HS:=G h;have HN:=G hn;have HL:=G (fun n=>vr (w.drewN n) g src r s (h.drewN n));obtain⟨h1,h2,h3,h4⟩:=vf hx;generalize jh (sb src) r=lx at*;have HB:=G h1;have HT:=G h2;generalize hq:r1.tree.nodes.length=q at*;subst h3;clear h hn hx h1 h2 ht;unfold iv;have f1:(0:Int)<=(q:Int):=(by omega);have f2:(q:Int).toNat=q:=(by omega);have f3:(q:Int)<(q:Int)+1:=(by omega);go_enter func304,ntmps304;go_wp2;go_quiet ((go_at_call 209;exact Calls.quiet_of (HL.out _)));go_wp2_with (first|(go_at_call 150;refine(jN _ g src _ _ s (HS.out.drewN _) HN.out).mono ?_;rintro e w1 ⟨rfl,hX⟩;have HX:=G hX;clear hX)|(go_at_call 257;refine(vR _ g src _ _ s 4 _ _ none 0 [] HX.out.1 Rd.none_ (fun h0=>absurd h0 (Nat.lt_irrefl 0)) HB.out).mono ?_;rintro e w2 ⟨rfl,s2,hY,N9⟩;obtain⟨k,ns,xx,ps,NL,GO,Fk,GS⟩:=hY.lastC rfl hq;have d0:w2.cell? ⟨k,q*7,none⟩=_:=(Fk.cell 0 rfl).1;have z0:w2.frozen? ⟨k,q*7,none⟩=false:=(Fk.cell 0 rfl).2;have d2:=(Fk.cell 2 rfl).1;have z2:=(Fk.cell 2 rfl).2;have d3:=(Fk.cell 3 rfl).1;have z3:=(Fk.cell 3 rfl).2;have d4:=(Fk.cell 4 rfl).1;have z4:=(Fk.cell 4 rfl).2;have d5:=(Fk.cell 5 rfl).1;have z5:=(Fk.cell 5 rfl).2;have Wu:=G Fk;have HF:=G N9;clear Fk hY N9;unfold iv)|fail);go_ret;have HD:=G ((((((Wu.out.set_ 0 (.int .i64 2)).set_ 2 (.int .i64 2)).set_ 3 (.int .i64 0)).set_ 4 (.string ⟨#[]⟩)).set_ 5 (.slice none 0 0)).lit GO HT.out rfl rfl none 0 (by simp only[ndC,NL];rfl));exact⟨rfl,s2,HD.out.1,(((Fr.of_old s ((jQ0 _ _).drewN _)).trans HX.out.2).trans HF.out).trans HD.out.2⟩
theorem yz{a b c:World}(h:Old a b)(k:Old b c):Old a c:=h.trans k (fun _ _ e=>e)
structure TrF(w:World)(t:Tre)(s:Sl)(ns:List MNd)(ps:List MSt):Prop where
 rA:Rd w 7 s.aA t.attrs.length (t.attrs.flatMap atC)
 rG:Rd w 7 s.gA t.stages.length (t.stages.flatMap sgC)
 rM:Rd w 6 s.mA t.miles.length (t.miles.flatMap miC)
 rP:Rd w 8 s.pA t.steps.length (ps.flatMap stC)
 rN:Rd w 7 s.nA t.nodes.length (ns.flatMap ndC)
 rO:Rd w 1 s.oA t.ats.length (t.ats.map iv)
 pe:ps.map (·.s)=t.steps
 ne:ns.map (·.n)=t.nodes
 po:∀x∈ps,Rd w 3 x.pA x.s.params.length (x.s.params.flatMap prC)/\Rd w 3 x.eA x.s.effects.length (x.s.effects.flatMap efC)
 no:∀x∈ns,Rd w 1 x.A x.n.kids.length (x.n.kids.map iv)/\Rd w 1 x.vA x.n.vs.length (x.n.vs.map sv)
theorem TrF.old{w w' :World}{t:Tre}{s:Sl}{ns:List MNd}{ps:List MSt}(h:TrF w t s ns ps)(ho:Old w w'):TrF w' t s ns ps:=
 ⟨h.rA.old ho,h.rG.old ho,h.rM.old ho,h.rP.old ho,h.rN.old ho,h.rO.old ho,h.pe,h.ne,fun x hx=>⟨(h.po x hx).1.old ho,(h.po x hx).2.old ho⟩,fun x hx=>⟨(h.no x hx).1.old ho,(h.no x hx).2.old ho⟩⟩
theorem Got.zero{src:LB}{st:List Nat}{r r' :Rdr}{ts ts' :List Tk}(h:Got src st r ts r' ts'):Got0 src st r ts r' ts' :=⟨h.look,h.acc,Nat.le_of_lt h.len,h.big⟩
section
variable{src:LB}{f:Nat}
theorem qS(r:Rdr)(ts:List Tk)(st:List Nat)(hl:Look src r ts)(hb:big r+2*ts.length<=kF)(hf:10*ts.length+8<=f)(ha:Acc (69::st) ts):∃x r' ts',ZZ src f r=some (x,r')/\0<=x/\Got src st r ts r' ts' :=by
 obtain⟨x,r',ts',e,p,g⟩:=(Kq src f).ex r ts st hl hb hf ha;refine⟨x,r',ts',?_,p,g⟩;unfold ZZ;rw[e];rfl
theorem YE(first sym:Nat)(h:(first=12/\sym=61)\/(first=32/\sym=62))(r:Rdr)(ts:List Tk)(st:List Nat)(hl:Look src r ts)(hb:big r+2*ts.length<=kF)(hf:10*ts.length+8<=f)(ha:Acc (sym::st) ts):
  ∃x r' ts',kZ src f first r=some (x,r')/\Got0 src st r ts r' ts' :=by
 have hs:58<=sym/\∀t,(jE sym t=true->t=first/\jX sym t=[t,69])/\(jE sym t=false->t≠first):=by
  rcases h with⟨rfl,rfl⟩|⟨rfl,rfl⟩
  ·refine⟨by decide,fun t=>⟨fun e=> ?_,fun e e2=> ?_⟩⟩
   ·have h1:t=12:=(by simpa [jE]using e);subst h1;exact⟨rfl,rfl⟩
   ·subst e2;cases e
  ·refine⟨by decide,fun t=>⟨fun e=> ?_,fun e e2=> ?_⟩⟩
   ·have h1:t=32:=(by simpa [jE]using e);subst h1;exact⟨rfl,rfl⟩
   ·subst e2;cases e
 obtain⟨k,ts2,rfl,Fx,⟨FF,ha⟩|⟨FF,ha⟩⟩:=kL hs.1 ha
 ·obtain⟨h1,h2⟩:=(hs.2 k.t).1 FF;rw[h2]at ha;obtain⟨-,a1⟩:=jT Fx ha;obtain⟨r1,e1,b1,-,-,l1⟩:=jI hl;unfold kF at hb;rw[jK6]at hb hf;obtain⟨x,r',ts',e2,p,l2,a2,n2,b2⟩:=qS (f:=f) r1 ts2 st l1 (by unfold kF;omega) (by omega) a1;refine⟨x,r',ts',?_,l2,a2,by rw[jK6];omega,by rw[jK6];omega⟩;unfold kZ;rw[jJ5 (by rw[hl.1,h1];exact fun e=>e rfl),e1,jL2,jJ6 (by omega)];exact e2
 ·refine⟨-1,r,_,?_,hl,ha,jL3 _,jL3 _⟩;unfold kZ;rw[jJ6 (by rw[hl.1];exact(hs.2 k.t).2 FF)]
theorem ZF(t:Nat)(ht:t=29\/t=30\/t=31)(r:Rdr)(k:Tk)(ts:List Tk)(st:List Nat)(hk:k.t=t)(hl:Look src r (k::ts))(hb:big r+2*(k::ts).length<=kF)(hf:10*(k::ts).length+8<=f)(ha:Acc (32::69::9::st) ts):
  ∃x r' ts',vp src f t r=some (x,r')/\Got src st r (k::ts) r' ts' :=by
 unfold kF at hb;rw[jK6]at hb hf;obtain⟨r1,e1,b1,-,-,l1⟩:=jI hl;obtain⟨k2,t2,rfl,-,a2⟩:=jO (by decide) ha;obtain⟨r2,e2,b2,-,-,l2⟩:=jI l1;rw[jK6]at hb hf;obtain⟨x3,r3,t3,e3,p3,l3,a3,n3,b3⟩:=qS (f:=f) r2 t2 _ l2 (by unfold kF;omega) (by omega) a2;obtain⟨k4,t4,rfl,-,a4⟩:=jO (by decide) a3;rw[jK6]at n3 b3;obtain⟨r4,e4,b4,-,-,l4⟩:=jI l3;refine⟨x3,r4,t4,?_,l4,a4,by simp only[jK6];omega,by simp only[jK6];omega⟩;unfold vp kZ;rw[jJ5 (by rw[hl.1,hk];exact fun e=>e rfl),e1,jL2,jJ5 (by omega),e2,jL2,e3,jL2,jJ6 p3,e4,jL2]
theorem xR(t sym:Nat)(h:(t=29/\sym=64)\/(t=30/\sym=65))(r:Rdr)(ts:List Tk)(st:List Nat)(hl:Look src r ts)(hb:big r+2*ts.length<=kF)(hf:10*ts.length+8<=f)(ha:Acc (sym::st) ts):
  ∃x r' ts',vp src f t r=some (x,r')/\Got0 src st r ts r' ts' :=by
 have hs:58<=sym/\∀u,(jE sym u=true->u=t/\jX sym u=[u,32,69,9])/\(jE sym u=false->u≠t):=by
  rcases h with⟨rfl,rfl⟩|⟨rfl,rfl⟩
  ·refine⟨by decide,fun u=>⟨fun e=> ?_,fun e e2=> ?_⟩⟩
   ·have h1:u=29:=(by simpa [jE]using e);subst h1;exact⟨rfl,rfl⟩
   ·subst e2;cases e
  ·refine⟨by decide,fun u=>⟨fun e=> ?_,fun e e2=> ?_⟩⟩
   ·have h1:u=30:=(by simpa [jE]using e);subst h1;exact⟨rfl,rfl⟩
   ·subst e2;cases e
 obtain⟨k,ts2,rfl,Fx,⟨FF,ha⟩|⟨FF,ha⟩⟩:=kL hs.1 ha
 ·obtain⟨h1,h2⟩:=(hs.2 k.t).1 FF;rw[h2]at ha;obtain⟨-,a1⟩:=jT Fx ha;obtain⟨x,r',ts',e,g⟩:=ZF t (by omega) r k ts2 st h1 hl hb hf a1;exact⟨x,r',ts',e,g.zero⟩
 ·refine⟨-1,r,_,?_,hl,ha,jL3 _,jL3 _⟩;unfold vp kZ;rw[jJ6 (by rw[hl.1];exact(hs.2 k.t).2 FF),jL2,jJ5 (show¬(0:Int)<= -1 by decide)]
theorem YF(t0:Nat)(ht:t0<58)(r:Rdr)(ts:List Tk)(st:List Nat)(hl:Look src r ts)(hb:big r+2*ts.length<=kF)(ha:Acc (t0::1::st) ts):
  ∃w a o r' ts',VQ src r=some (w,a,o,r')/\Look src r' ts' /\Acc st ts' /\ts'.length+2=ts.length/\big r' =big r+1:=by
 obtain⟨k1,t1,rfl,-,a1⟩:=jO ht ha;obtain⟨r1,e1,b1,-,-,l1⟩:=jI hl;obtain⟨k2,t2,rfl,-,a2⟩:=jO (by decide) a1;obtain⟨r2,e2,b2,-,-,l2⟩:=jI l1;unfold kF at hb;have ho:r2.order<=big r2:=by unfold big;omega
 refine⟨⟨(jh src r1).toArray⟩,(r1.from_:Int),(r2.order:Int),{r2 with order:=r2.order+1},t2,?_,?_,a2,rfl,?_⟩
 ·unfold VQ zC;rw[e1,jL2,e2];simp only[Option.map_some,jL2];rw[jJ6 (by omega)]
 ·cases t2 with
  |nil=>trivial
  |cons k t2=>exact l2
 ·rw[<-b1,<-b2];unfold big;simp only;omega
theorem jC4(r:Rdr)(ts:List Tk)(st:List Nat)(hl:Look src r ts)(ha:Acc (63::st) ts):∃w a r' ts',inN src r=some (w,a,r')/\Got0 src st r ts r' ts' :=by
 obtain⟨k,ts2,rfl,Fx,⟨FF,ha⟩|⟨FF,ha⟩⟩:=kL (by decide) ha
 ·have h1:k.t=28:=(by simpa [jE]using FF);rw[show jX 63 k.t=[28,1]by rw[h1];rfl]at ha;obtain⟨-,a1⟩:=jT (by decide) ha;obtain⟨r1,e1,b1,-,-,l1⟩:=jI hl;obtain⟨k2,t2,rfl,-,a2⟩:=jO (by decide) a1;obtain⟨r2,e2,b2,-,-,l2⟩:=jI l1;refine⟨⟨(jh src r1).toArray⟩,(r1.from_:Int),r2,t2,?_,l2,a2,by simp only[jK6];omega,by simp only[jK6];omega⟩;unfold inN zC;rw[jJ6 (by rw[hl.1];exact h1),e1,jL2,e2];rfl
 ·have h1:k.t≠28:=fun e=>by rw[e]at FF;cases FF
  refine⟨⟨#[]⟩,0,r,_,?_,hl,ha,jL3 _,jL3 _⟩;unfold inN;rw[jJ5 (by rw[hl.1];exact h1)]
theorem XG(r:Rdr)(ts:List Tk)(st:List Nat)(hl:Look src r ts)(ha:Acc (60::st) ts):∃x r' ts',ZO src r=some (x,r')/\Got src st r ts r' ts' :=by
 obtain⟨k,ts2,rfl,Fx,FF,ha⟩:=yO (by decide) (by decide) ha;have h1:34<=k.t/\k.t<=38:=(by simpa [jE]using FF);have h2:jX 60 k.t=[k.t]:=by
  unfold jX;rw[jJ5 (by rw[FF];decide)];rfl
 rw[h2]at ha;obtain⟨-,a1⟩:=jT Fx ha;obtain⟨r1,e1,b1,-,-,l1⟩:=jI hl;refine⟨(r.t:Int)-33,r1,ts2,?_,l1,a1,by simp only[jK6];omega,by simp only[jK6];omega⟩;unfold ZO;rw[jJ6 (by rw[hl.1];exact h1),e1];rfl
theorem qR(r:Rdr)(ts:List Tk)(st:List Nat)(hl:Look src r ts)(ha:Acc (59::st) ts):∃b r' ts',jb src 39 r=some (b,r')/\Got0 src st r ts r' ts' :=by
 obtain⟨k,ts2,rfl,Fx,⟨FF,ha⟩|⟨FF,ha⟩⟩:=kL (by decide) ha
 ·have h1:k.t=39:=(by simpa [jE]using FF);rw[show jX 59 k.t=[39]by rw[h1];rfl]at ha;obtain⟨-,a1⟩:=jT (by decide) ha;obtain⟨r1,e1,b1,-,-,l1⟩:=jI hl;refine⟨true,r1,ts2,?_,l1,a1,by simp only[jK6];omega,by simp only[jK6];omega⟩;unfold jb;rw[jJ6 (by rw[hl.1];exact h1),e1];rfl
 ·have h1:k.t≠39:=fun e=>by rw[e]at FF;cases FF
  refine⟨false,r,_,?_,hl,ha,jL3 _,jL3 _⟩;unfold jb;rw[jJ5 (by rw[hl.1];exact h1)]
theorem jC5(r:Rdr)(ts:List Tk)(st:List Nat)(hl:Look src r ts)(hb:big r+2*ts.length<=kF)(hf:10*ts.length+8<=f)(ha:Acc (24::1::10::59::60::61::62::9::st) ts):∃r' ts',qr src f r=some r' /\Got src st r ts r' ts' :=by
 obtain⟨w,a,o,r1,t1,e1,l1,a1,n1,b1⟩:=YF 24 (by decide) r ts _ hl hb ha;unfold kF at hb;obtain⟨k2,t2,rfl,-,a2⟩:=jO (by decide) a1;obtain⟨r2,e2,b2,-,-,l2⟩:=jI l1;rw[jK6]at n1;obtain⟨x3,r3,t3,e3,l3,a3,n3,b3⟩:=qR r2 t2 _ l2 a2;obtain⟨x4,r4,t4,e4,l4,a4,n4,b4⟩:=XG r3 t3 _ l3 a3;obtain⟨x5,r5,t5,e5,l5,a5,n5,b5⟩:=YE (f:=f) 12 61 (.inl ⟨rfl,rfl⟩) r4 t4 _ l4 (by unfold kF;omega) (by omega) a4;obtain⟨x6,r6,t6,e6,l6,a6,n6,b6⟩:=YE (f:=f) 32 62 (.inr ⟨rfl,rfl⟩) r5 t5 _ l5 (by unfold kF;omega) (by omega) a5;obtain⟨k7,t7,rfl,-,a7⟩:=jO (by decide) a6;obtain⟨r7,e7,b7,-,-,l7⟩:=jI l6;rw[jK6]at n6 b6;have GC:r7.tree.attrs.length<=big r7:=by unfold big;omega
 refine⟨{r7 with tree:={r7.tree with attrs:=r7.tree.attrs++[⟨w,a,o,x3,x4,x5,x6⟩]}},t7,?_,?_,a7,by omega,?_⟩
 ·unfold qr;simp only[e1,e2,e3,e4,e5,e6,e7,jL2];rw[jJ6 (by omega)]
 ·cases t7 with
  |nil=>trivial
  |cons k t7=>exact l7
 ·have:big {r7 with tree:={r7.tree with attrs:=r7.tree.attrs++[⟨w,a,o,x3,x4,x5,x6⟩]}}=big r7+1:=by
   unfold big;simp only[jJ4,jK6,jN2];omega
  omega
theorem jAV(r:Rdr)(ts:List Tk)(st:List Nat)(hl:Look src r ts)(hb:big r+2*ts.length<=kF)(hf:10*ts.length+8<=f)(ha:Acc (25::1::63::4::64::65::5::st) ts):∃r' ts',KY src f r=some r' /\Got src st r ts r' ts' :=by
 obtain⟨w,a,o,r1,t1,e1,l1,a1,n1,b1⟩:=YF 25 (by decide) r ts _ hl hb ha;unfold kF at hb;obtain⟨x2,y2,r2,t2,e2,l2,a2,n2,b2⟩:=jC4 r1 t1 _ l1 a1;obtain⟨k3,t3,rfl,-,a3⟩:=jO (by decide) a2;obtain⟨r3,e3,b3,-,-,l3⟩:=jI l2;rw[jK6]at n2 b2;obtain⟨x4,r4,t4,e4,l4,a4,n4,b4⟩:=xR (f:=f) 29 64 (.inl ⟨rfl,rfl⟩) r3 t3 _ l3 (by unfold kF;omega) (by omega) a3;obtain⟨x5,r5,t5,e5,l5,a5,n5,b5⟩:=xR (f:=f) 30 65 (.inr ⟨rfl,rfl⟩) r4 t4 _ l4 (by unfold kF;omega) (by omega) a4;obtain⟨k7,t7,rfl,-,a7⟩:=jO (by decide) a5;obtain⟨r7,e7,b7,-,-,l7⟩:=jI l5;rw[jK6]at n5 b5;have GC:r7.tree.stages.length<=big r7:=by unfold big;omega
 refine⟨{r7 with tree:={r7.tree with stages:=r7.tree.stages++[⟨w,a,o,x2,y2,x4,x5⟩]}},t7,?_,?_,a7,by omega,?_⟩
 ·unfold KY;simp only[e1,e2,e3,e4,e5,e7,jL2];rw[jJ6 (by omega)]
 ·cases t7 with
  |nil=>trivial
  |cons k t7=>exact l7
 ·have:big {r7 with tree:={r7.tree with stages:=r7.tree.stages++[⟨w,a,o,x2,y2,x4,x5⟩]}}=big r7+1:=by
   unfold big;simp only[jJ4,jK6,jN2];omega
  omega
theorem jC3(r:Rdr)(ts:List Tk)(st:List Nat)(hl:Look src r ts)(hb:big r+2*ts.length<=kF)(hf:10*ts.length+8<=f)(ha:Acc (26::1::63::31::32::69::9::st) ts):∃r' ts',qX src f r=some r' /\Got src st r ts r' ts' :=by
 obtain⟨w,a,o,r1,t1,e1,l1,a1,n1,b1⟩:=YF 26 (by decide) r ts _ hl hb ha;unfold kF at hb;obtain⟨x2,y2,r2,t2,e2,l2,a2,n2,b2⟩:=jC4 r1 t1 _ l1 a1;obtain⟨k3,t3,rfl,Lj,a3⟩:=jO (by decide) a2;obtain⟨x4,r4,t4,e4,l4,a4,n4,b4⟩:=ZF (f:=f) 31 (.inr (.inr rfl)) r2 k3 t3 _ Lj l2 (by unfold kF;omega) (by omega) a3;have GC:r4.tree.miles.length<=big r4:=by unfold big;omega
 refine⟨{r4 with tree:={r4.tree with miles:=r4.tree.miles++[⟨w,a,o,x2,y2,x4⟩]}},t4,?_,?_,a4,by omega,?_⟩
 ·unfold qX;simp only[e1,e2,e4,jL2];rw[jJ6 (by omega)]
 ·cases t4 with
  |nil=>trivial
  |cons k t7=>exact l4
 ·have:big {r4 with tree:={r4.tree with miles:=r4.tree.miles++[⟨w,a,o,x2,y2,x4⟩]}}=big r4+1:=by
   unfold big;simp only[jJ4,jK6,jN2];omega
  omega
theorem ZG:∀(f:Nat) (n:Nat) (ps:List Prm) (r:Rdr) (ts:List Tk) (st:List Nat),(n=66\/n=67)->ps.length+ts.length<=900000->Look src r ts->ts.length+1<=f->Acc (n::7::st) ts->
  ∃qs r' ts',yT src f ps r=some (qs,r')/\Got0 src (7::st) r ts r' ts'
 |0,n,ps,r,ts,st,hn,hp,hl,hf,ha=>by omega
 |f+1,n,ps,r,ts,st,hn,hp,hl,hf,ha=>by
  have key:(∃k t2,ts=k::t2/\k.t=7/\Acc (7::st) ts)\/(∃k t2,ts=k::t2/\k.t≠7/\∃b r1 t1,jb src 8 r=some (b,r1)/\Look src r1 t1/\t1.length<=ts.length/\big r1=big r/\Acc (1::10::60::67::7::st) t1):=by
   rcases hn with rfl|rfl
   ·obtain⟨k,ts2,rfl,Fx,⟨FF,ha⟩|⟨FF,ha⟩⟩:=kL (by decide) ha
    ·have h1:k.t=1:=(by simpa [jE]using FF);rw[show jX 66 k.t=[1,10,60,67]by rw[h1];rfl]at ha;refine .inr ⟨k,ts2,rfl,by omega,false,r,k::ts2,?_,hl,jL3 _,rfl,ha⟩;unfold jb;rw[jJ5 (by rw[hl.1];omega)]
    ·obtain⟨h1,-⟩:=jT (by decide) ha;exact .inl ⟨k,ts2,rfl,h1,ha⟩
   ·obtain⟨k,ts2,rfl,Fx,⟨FF,ha⟩|⟨FF,ha⟩⟩:=kL (by decide) ha
    ·have h1:k.t=8:=(by simpa [jE]using FF);rw[show jX 67 k.t=[8,1,10,60,67]by rw[h1];rfl]at ha;obtain⟨-,a1⟩:=jT (by decide) ha;obtain⟨r1,e1,b1,-,-,l1⟩:=jI hl;refine .inr ⟨k,ts2,rfl,by omega,true,r1,ts2,?_,l1,by simp,b1,a1⟩;unfold jb;rw[jJ6 (by rw[hl.1];exact h1),e1];rfl
    ·obtain⟨h1,-⟩:=jT (by decide) ha;exact .inl ⟨k,ts2,rfl,h1,ha⟩
  rcases key with⟨k,t2,rfl,h7,ha⟩|⟨k,t2,rfl,h7,b,r1,t1,e1,l1,n1,b1,a1⟩
  ·refine⟨ps,r,_,?_,hl,ha,jL3 _,jL3 _⟩;rw[yT,jJ6 (by rw[hl.1];exact h7)]
  ·obtain⟨k2,t2',rfl,-,a2⟩:=jO (by decide) a1;obtain⟨r2,e2,b2,-,-,l2⟩:=jI l1;obtain⟨k3,t3,rfl,-,a3⟩:=jO (by decide) a2;obtain⟨r3,e3,b3,-,-,l3⟩:=jI l2;obtain⟨x4,r4,t4,e4,l4,a4,n4,b4⟩:=XG r3 t3 _ l3 a3;simp only[jK6]at n1 hp hf;obtain⟨qs,r5,t5,e5,l5,a5,n5,b5⟩:=ZG f 67 (ps++[⟨⟨(jh src r1).toArray⟩,(r1.from_:Int),x4⟩]) r4 t4 st (.inr rfl) (by rw[jJ4,List.length_singleton];omega) l4 (by omega) a4;refine⟨qs,r5,t5,?_,l5,a5,by simp only[jK6];omega,by simp only[jK6];omega⟩;rw[yT,jJ5 (by rw[hl.1];exact h7),jJ6 (by omega),e1];simp only[zC,e2,e3,e4,e5,jL2,Option.map_some]
theorem Jf(src:LB):∀(f:Nat) (es:List Eff) (r:Rdr) (ts:List Tk) (st:List Nat),es.length+ts.length<=900000->Look src r ts->big r+2*ts.length<=kF->10*ts.length+10<=f->Acc (68::5::st) ts->
  ∃qs r' ts',vH src f es r=some (qs,r')/\Got0 src (5::st) r ts r' ts'
 |0,es,r,ts,st,hp,hl,hb,hf,ha=>by omega
 |f+1,es,r,ts,st,hp,hl,hb,hf,ha=>by
  obtain⟨k,ts2,rfl,Fx,⟨FF,ha⟩|⟨FF,ha⟩⟩:=kL (by decide) ha
  ·unfold kF at hb;simp only[jK6]at hb hp hf;have h1:k.t=1\/k.t=33:=(by simpa [jE]using FF);rcases h1 with h1|h1
   ·rw[show jX 68 k.t=[1,11,69,9,68]by rw[h1];rfl]at ha;obtain⟨-,a1⟩:=jT (by decide) ha;obtain⟨r1,e1,b1,-,-,l1⟩:=jI hl;obtain⟨k2,t2,rfl,-,a2⟩:=jO (by decide) a1;obtain⟨r2,e2,b2,-,-,l2⟩:=jI l1;simp only[jK6]at hb hp hf;obtain⟨x3,r3,t3,e3,p3,l3,a3,n3,b3⟩:=qS (f:=f) r2 t2 _ l2 (by unfold kF;omega) (by omega) a2;obtain⟨k4,t4,rfl,-,a4⟩:=jO (by decide) a3;obtain⟨r4,e4,b4,-,-,l4⟩:=jI l3;rw[jK6]at n3 b3;obtain⟨qs,r5,t5,e5,l5,a5,n5,b5⟩:=Jf src f (es++[⟨⟨(jh src r).toArray⟩,(r.from_:Int),x3⟩]) r4 t4 st (by rw[jJ4,List.length_singleton];omega) l4 (by unfold kF;omega) (by omega) a4;refine⟨qs,r5,t5,?_,l5,a5,by simp only[jK6];omega,by simp only[jK6];omega⟩;rw[vH,jJ5 (by rw[hl.1,h1];decide),jJ6 (by omega),jb,jJ5 (by rw[hl.1,h1];decide)];simp only[zC,e1,e2,e3,e4,e5,jL2,Option.map_some,Bool.false_eq_true,if_false]
   ·rw[show jX 68 k.t=[33,1,9,68]by rw[h1];rfl]at ha;obtain⟨-,a1⟩:=jT (by decide) ha;obtain⟨r1,e1,b1,-,-,l1⟩:=jI hl;obtain⟨k2,t2,rfl,-,a2⟩:=jO (by decide) a1;obtain⟨r2,e2,b2,-,-,l2⟩:=jI l1;obtain⟨k4,t4,rfl,-,a4⟩:=jO (by decide) a2;obtain⟨r4,e4,b4,-,-,l4⟩:=jI l2;simp only[jK6]at hb hp hf;obtain⟨qs,r5,t5,e5,l5,a5,n5,b5⟩:=Jf src f (es++[⟨⟨(jh src r1).toArray⟩,(r1.from_:Int),-1⟩]) r4 t4 st (by rw[jJ4,List.length_singleton];omega) l4 (by unfold kF;omega) (by omega) a4;refine⟨qs,r5,t5,?_,l5,a5,by simp only[jK6];omega,by simp only[jK6];omega⟩;rw[vH,jJ5 (by rw[hl.1,h1];decide),jJ6 (by omega),jb,jJ6 (by rw[hl.1,h1])];simp only[zC,e1,e2,e4,e5,jL2,Option.map_some,if_true]
  ·obtain⟨h1,-⟩:=jT (by decide) ha;refine⟨es,r,_,?_,hl,ha,jL3 _,jL3 _⟩;rw[vH,jJ6 (by rw[hl.1];exact h1)]
theorem jC1(r:Rdr)(ts:List Tk)(st:List Nat)(hl:Look src r ts)(hb:big r+2*ts.length<=kF)(hf:10*ts.length+10<=f)(ha:Acc (27::1::6::66::7::63::62::4::68::5::st) ts):∃r' ts',qB src f r=some r' /\Got src st r ts r' ts' :=by
 obtain⟨w,a,o,r1,t1,e1,l1,a1,n1,b1⟩:=YF 27 (by decide) r ts _ hl hb ha;unfold kF at hb;obtain⟨k2,t2,rfl,-,a2⟩:=jO (by decide) a1;obtain⟨r2,e2,b2,-,-,l2⟩:=jI l1;rw[jK6]at n1;obtain⟨ps,r3,t3,e3,l3,a3,n3,b3⟩:=ZG f 66 [] r2 t2 _ (.inl rfl) (by rw[jN2];omega) l2 (by omega) a2;obtain⟨k4,t4,rfl,-,a4⟩:=jO (by decide) a3;obtain⟨r4,e4,b4,-,-,l4⟩:=jI l3;rw[jK6]at n3 b3;obtain⟨x5,y5,r5,t5,e5,l5,a5,n5,b5⟩:=jC4 r4 t4 _ l4 a4;obtain⟨x6,r6,t6,e6,l6,a6,n6,b6⟩:=YE (f:=f) 32 62 (.inr ⟨rfl,rfl⟩) r5 t5 _ l5 (by unfold kF;omega) (by omega) a5;obtain⟨k7,t7,rfl,-,a7⟩:=jO (by decide) a6;obtain⟨r7,e7,b7,-,-,l7⟩:=jI l6;rw[jK6]at n6 b6;obtain⟨es,r8,t8,e8,l8,a8,n8,b8⟩:=Jf src f [] r7 t7 _ (by rw[jN2];omega) l7 (by unfold kF;omega) (by omega) a7;obtain⟨k9,t9,rfl,-,a9⟩:=jO (by decide) a8;obtain⟨r9,e9,b9,-,-,l9⟩:=jI l8;rw[jK6]at n8 b8;have GC:r9.tree.steps.length<=big r9:=by unfold big;omega
 refine⟨{r9 with tree:={r9.tree with steps:=r9.tree.steps++[⟨w,a,o,ps,x5,y5,x6,es⟩]}},t9,?_,?_,a9,by omega,?_⟩
 ·unfold qB;simp only[e1,e2,e3,e4,e5,e6,e7,e8,e9,jL2];rw[jJ6 (by omega)]
 ·cases t9 with
  |nil=>trivial
  |cons k t9=>exact l9
 ·have:big {r9 with tree:={r9.tree with steps:=r9.tree.steps++[⟨w,a,o,ps,x5,y5,x6,es⟩]}}=big r9+1:=by
   unfold big;simp only[jJ4,jK6,jN2];omega
  omega
theorem JK(src:LB):∀(f:Nat) (r:Rdr) (ts:List Tk),Look src r ts->big r+2*ts.length<=kF->10*ts.length+11<=f->Acc [58,5] ts->∃r',ya src f r=some r'
 |0,r,ts,hl,hb,hf,ha=>by omega
 |f+1,r,ts,hl,hb,hf,ha=>by
  obtain⟨k,ts2,rfl,Fx,⟨FF,ha⟩|⟨FF,ha⟩⟩:=kL (by decide) ha
  ·have h1:24<=k.t/\k.t<=27:=(by simpa [jE]using FF);rw[ya];have hc:k.t=24\/k.t=25\/k.t=26\/k.t=27:=(by omega);rcases hc with h|h|h|h
   ·rw[show jX 58 k.t=[24,1,10,59,60,61,62,9,58]by rw[h];rfl]at ha;obtain⟨r1,t1,e1,l1,a1,n1,b1⟩:=jC5 (f:=f) r _ [58,5] hl hb (by omega) ha;unfold kF at hb;obtain⟨r2,e2⟩:=JK src f r1 t1 l1 (by unfold kF;omega) (by omega) a1;refine⟨r2,?_⟩;rw[jJ6 (by rw[hl.1];exact h),e1];exact e2
   ·rw[show jX 58 k.t=[25,1,63,4,64,65,5,58]by rw[h];rfl]at ha;obtain⟨r1,t1,e1,l1,a1,n1,b1⟩:=jAV (f:=f) r _ [58,5] hl hb (by omega) ha;unfold kF at hb;obtain⟨r2,e2⟩:=JK src f r1 t1 l1 (by unfold kF;omega) (by omega) a1;refine⟨r2,?_⟩;rw[jJ5 (by rw[hl.1];omega),jJ6 (by rw[hl.1];exact h),e1];exact e2
   ·rw[show jX 58 k.t=[26,1,63,31,32,69,9,58]by rw[h];rfl]at ha;obtain⟨r1,t1,e1,l1,a1,n1,b1⟩:=jC3 (f:=f) r _ [58,5] hl hb (by omega) ha;unfold kF at hb;obtain⟨r2,e2⟩:=JK src f r1 t1 l1 (by unfold kF;omega) (by omega) a1;refine⟨r2,?_⟩;rw[jJ5 (by rw[hl.1];omega),jJ5 (by rw[hl.1];omega),jJ6 (by rw[hl.1];exact h),e1];exact e2
   ·rw[show jX 58 k.t=[27,1,6,66,7,63,62,4,68,5,58]by rw[h];rfl]at ha;obtain⟨r1,t1,e1,l1,a1,n1,b1⟩:=jC1 (f:=f) r _ [58,5] hl hb (by omega) ha;unfold kF at hb;obtain⟨r2,e2⟩:=JK src f r1 t1 l1 (by unfold kF;omega) (by omega) a1;refine⟨r2,?_⟩;rw[jJ5 (by rw[hl.1];omega),jJ5 (by rw[hl.1];omega),jJ5 (by rw[hl.1];omega),jJ6 (by rw[hl.1];exact h),e1];exact e2
  ·obtain⟨h1,-⟩:=jT (by decide) ha;refine⟨r,?_⟩;rw[ya,jJ5 (by rw[hl.1];omega),jJ5 (by rw[hl.1];omega),jJ5 (by rw[hl.1];omega),jJ5 (by rw[hl.1];omega)]
theorem jAO{src:LB}{ts:List Tk}(ht:Toks src 0 ts)(ha:Acc [23,1,4,58,5] ts)(hn:ts.length<=400000)(f:Nat)(hf:10*ts.length+11<=f):∃r,Jb src f=some r:=by
 obtain⟨r1,e1,b1,-,-,l1⟩:=ZI (r:=⟨0,0,0,0,Tre.none_⟩) ht;obtain⟨k1,t1,rfl,-,a1⟩:=jO (by decide) ha;obtain⟨r2,e2,b2,-,-,l2⟩:=jI l1;obtain⟨k2,t2,rfl,-,a2⟩:=jO (by decide) a1;obtain⟨r3,e3,b3,-,-,l3⟩:=jI l2;obtain⟨k3,t3,rfl,-,a3⟩:=jO (by decide) a2;obtain⟨r4,e4,b4,-,-,l4⟩:=jI l3;simp only[jK6]at hn hf;have h0:big ⟨0,0,0,0,Tre.none_⟩=0:=rfl;obtain⟨r',e'⟩:=JK src f {r4 with tree:={r4.tree with name:=⟨(jh src r2).toArray⟩,at_:=(r2.from_:Int)}} t3 (by
  cases t3 with
  |nil=>trivial
  |cons k t=>exact l4) (by
  have:big {r4 with tree:={r4.tree with name:=⟨(jh src r2).toArray⟩,at_:=(r2.from_:Int)}}=big r4:=rfl;unfold kF;omega) (by omega) a3
 refine⟨r',?_⟩;unfold Jb zC;simp only[e1,e2,e3,e4,jL2,Option.map_some];exact e'
end
end Go.Proofs.YtifbhcfdealfaaaGreatDoor

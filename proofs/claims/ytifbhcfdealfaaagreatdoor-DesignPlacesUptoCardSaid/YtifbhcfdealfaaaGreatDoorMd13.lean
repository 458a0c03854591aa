import Derived.Test.YtifbhcfdealfaaaGreatDoorMd09
set_option maxRecDepth 100000
set_option maxHeartbeats 25600000
namespace Go.Proofs.YtifbhcfdealfaaaGreatDoor
open Go.Proofs.Tryz
structure Tk where
 t:Nat
 a:Nat
 b:Nat
inductive Acc:List Nat->List Tk->Prop
 |done:Acc [] []
 |tak {k:Tk} {f:Nat} {st st' :List Nat} {ts:List Tk}:k.t<58->jz k.t st=true->kB k.t f st=some st' ->Acc st' ts->Acc st (k::ts)
theorem Zj{n t:Nat}(ht:t<58)(h:jE n t=true):n<85:=by
 rcases Nat.lt_or_ge n 85 with hn|hn
 ·exact hn
 exfalso;unfold jE km at h;simp only[show¬n=58 by omega,show¬n=59 by omega,show¬n=60 by omega,show¬n=61 by omega,show¬n=62 by omega,show¬n=63 by omega,show¬n=64 by omega,show¬n=65 by omega,show¬n=66 by omega,show¬(n=67\/n=84)by omega,show¬n=68 by omega,
  show¬(n=83\/n=69)by omega,show¬(n=70\/n=72\/n=74)by omega,show¬(n=75\/n=77\/n=79\/n=81)by omega,show¬n=82 by omega,show¬n=71 by omega,show¬n=73 by omega,show¬n=76 by omega,show¬n=78 by omega,show¬n=80 by omega,show¬n=t by omega,
  if_false,decide_false,Bool.false_or,Bool.and_false]at h
 cases h
theorem VH{n t:Nat}(hn:n<58)(h:jE n t=true):n=t:=by
 unfold jE at h;simp only[show¬n=58 by omega,show¬n=59 by omega,show¬n=60 by omega,show¬n=61 by omega,show¬n=62 by omega,show¬n=63 by omega,show¬n=64 by omega,show¬n=65 by omega,show¬n=66 by omega,show¬(n=67\/n=84)by omega,show¬n=68 by omega,show¬69<=n by omega,
  if_false,decide_false,Bool.false_and,Bool.or_false]at h
 exact jM8 h
theorem qq:∀n:Fin 85,∀t:Fin 58,(!jE n.val t.val||(decide (n.val=t.val)||jz t.val (jX n.val t.val)))=true:=by decide+kernel
theorem Ya{n:Nat}{st:List Nat}{ts:List Tk}(h:Acc (n::st) ts):∃k ts',ts=k::ts' /\k.t<58/\((n=k.t/\Acc st ts')\/(n≠k.t/\jE n k.t=true/\Acc (jX n k.t++st) (k::ts'))\/(jE n k.t=false/\vw n=true/\Acc st (k::ts'))):=by
 cases h with
 | @tak k f _ st' ts' Fx hm ht ha=>
  refine⟨k,ts',rfl,Fx,?_⟩;cases f with
  |zero=>cases ht
  |succ f=>
   rw[kB]at ht;by_cases hn:n=k.t
   ·rw[jJ6 hn]at ht;obtain rfl:=jL5 ht;exact .inl ⟨hn,ha⟩
   rw[jJ5 hn]at ht;rw[jz]at hm;by_cases hb:jE n k.t=true
   ·refine .inr (.inl ⟨hn,hb,.tak Fx ?_ ht ha⟩);have h1:=qq ⟨n,Zj Fx hb⟩ ⟨k.t,Fx⟩;simp only[hb,Bool.not_true,Bool.false_or,jK3 hn]at h1;exact zD k.t _ st h1
   ·have Gm:jE n k.t=false:=(by simpa using hb);rw[jJ5 hb]at hm;split at hm
    ·rename_i he;rw[JD n k.t Gm,jN8]at ht;exact .inr (.inr ⟨Gm,he,.tak Fx hm ht ha⟩)
    ·cases hm
theorem jO{n:Nat}{st:List Nat}{ts:List Tk}(hn:n<58)(h:Acc (n::st) ts):∃k ts',ts=k::ts' /\k.t=n/\Acc st ts' :=by
 obtain⟨k,ts',e,Fx,⟨e2,ha⟩|⟨Fe,hb,_⟩|⟨_,he,_⟩⟩:=Ya h
 ·exact⟨k,ts',e,e2.symm,ha⟩
 ·exact absurd (VH hn hb) Fe
 ·have:=KK n he;omega
theorem jT{n:Nat}{st:List Nat}{k:Tk}{ts:List Tk}(hn:n<58)(h:Acc (n::st) (k::ts)):k.t=n/\Acc st ts:=by
 obtain⟨k2,ts',e,h2,ha⟩:=jO hn h;injection e with e1 e2;subst e1 e2;exact⟨h2,ha⟩
theorem yO{n:Nat}{st:List Nat}{ts:List Tk}(hn:58<=n)(he:vw n=false)(h:Acc (n::st) ts):∃k ts',ts=k::ts' /\k.t<58/\jE n k.t=true/\Acc (jX n k.t++st) (k::ts'):=by
 obtain⟨k,ts',e,Fx,⟨e2,ha⟩|⟨Fe,hb,ha⟩|⟨_,PF,_⟩⟩:=Ya h
 ·omega
 ·exact⟨k,ts',e,Fx,hb,ha⟩
 ·rw[he]at PF;cases PF
theorem kL{n:Nat}{st:List Nat}{ts:List Tk}(hn:58<=n)(h:Acc (n::st) ts):∃k ts',ts=k::ts' /\k.t<58/\((jE n k.t=true/\Acc (jX n k.t++st) (k::ts'))\/(jE n k.t=false/\Acc st (k::ts'))):=by
 obtain⟨k,ts',e,Fx,⟨e2,ha⟩|⟨Fe,hb,ha⟩|⟨hb,PF,ha⟩⟩:=Ya h
 ·omega
 ·exact⟨k,ts',e,Fx,.inl ⟨hb,ha⟩⟩
 ·exact⟨k,ts',e,Fx,.inr ⟨hb,ha⟩⟩
def jAn(src:LB)(k:Tk):LB:=(src.take k.b).drop k.a
def Um(src:LB)(k:Tk):Prop:=(Uo k.t=true->∃n,kJ k.t (jAn src k)=some n)/\(k.t=1->kY (jAn src k)=true)/\(k.t=3->JX src.length (src.drop (k.a+1))=(k.b-k.a-1,true))
inductive Toks (src:LB):Nat->List Tk->Prop
 |done {p:Nat}:src.length<=p+jQ false (src.drop p)->Toks src p []
 |more {p k:Nat} {x:Nat×Nat} {ts:List Tk}:k=p+jQ false (src.drop p)->k<src.length->qa (src.drop k)=some x->Um src ⟨x.2,k,k+x.1⟩->Toks src (k+x.1) ts->Toks src p (⟨x.2,k,k+x.1⟩::ts)
def Look(src:LB)(r:Rdr):List Tk->Prop
 |[]=>True
 |k::ts=>r.t=k.t/\r.from_=k.a/\r.at_=k.b/\Um src k/\Toks src k.b ts
def big(r:Rdr):Nat:=r.tree.nodes.length+r.tree.ats.length+r.tree.attrs.length+r.tree.stages.length+r.tree.miles.length+r.tree.steps.length+r.order
theorem ZI{src:LB}{r:Rdr}{ts:List Tk}(h:Toks src r.at_ ts):∃r',jc src r=some r' /\big r' =big r/\r'.tree=r.tree/\r'.order=r.order/\Look src r' ts:=by
 unfold jc;cases h with
 |done h1=>exact⟨_,jJ6 h1,rfl,rfl,rfl,trivial⟩
 | @more _ k x ts hk hlt hx hl ht=>
  subst hk;simp only;rw[jJ5 (by omega),hx];exact⟨_,rfl,rfl,rfl,rfl,rfl,rfl,rfl,hl,ht⟩
theorem jI{src:LB}{r:Rdr}{k:Tk}{ts:List Tk}(h:Look src r (k::ts)):∃r',jc src r=some r' /\big r' =big r/\r'.tree=r.tree/\r'.order=r.order/\Look src r' ts:=
 ZI (by rw[h.2.2.1];exact h.2.2.2.2)
theorem Look.lit{src:LB}{r:Rdr}{k:Tk}{ts:List Tk}(h:Look src r (k::ts))(hl:Uo k.t=true):∃n,kJ r.t (jh src r)=some n:=by
 obtain⟨n,hn⟩:=h.2.2.2.1.1 hl;refine⟨n,?_⟩;unfold jh;rw[h.1,h.2.1,h.2.2.1];exact hn
theorem vV{src:LB}{r:Rdr}{ts:List Tk}(n:Nd)(at_:Nat)(h:Look src r ts)(hb:big r<=900000):∃x r',vJ n at_ r=some (x,r')/\0<=x/\big r' =big r+2/\Look src r' ts:=by
 unfold big at hb;refine⟨_,_,by unfold vJ;exact jJ6 ⟨by omega,by omega⟩,by omega,?_,?_⟩
 ·unfold big;simp only[jJ4,jK6,jN2];omega
 ·cases ts with
  |nil=>trivial
  |cons k ts=>exact h
def Ki:List (Nat×Nat×Nat):=[(43,70,7),(44,72,6),(45,74,5),(18,77,4),(20,79,3),(19,81,2)]
def ZJ:List (Nat×Nat×Nat×Nat):=[(43,71,44,72),(44,73,45,74),(18,78,20,79),(20,80,19,81)]
inductive LstSt:Nat->List Nat->Prop
 |shut (n:Nat):LstSt n [n]
 |ex {n:Nat} {M:List Nat}:LstSt n M->LstSt n (69::M)
 |comma {n:Nat} {M:List Nat}:LstSt n M->LstSt n (8::69::M)
 |set:LstSt 5 [83,5]
 |more:LstSt 5 [84,5]
structure Got(src:LB)(st:List Nat)(r:Rdr)(ts:List Tk)(r' :Rdr)(ts' :List Tk):Prop where
 look:Look src r' ts'
 acc:Acc st ts'
 len:ts'.length<ts.length
 big:big r' +2*ts'.length<=big r+2*ts.length
structure Got0(src:LB)(st:List Nat)(r:Rdr)(ts:List Tk)(r' :Rdr)(ts' :List Tk):Prop where
 look:Look src r' ts'
 acc:Acc st ts'
 len:ts'.length<=ts.length
 big:Go.Proofs.YtifbhcfdealfaaaGreatDoor.big r' +2*ts'.length<=Go.Proofs.YtifbhcfdealfaaaGreatDoor.big r+2*ts.length
def kF:Nat:=900000
structure AllOk(src:LB)(f:Nat):Prop where
 ex:∀(r:Rdr) (ts:List Tk) (st:List Nat),Look src r ts->big r+2*ts.length<=kF->10*ts.length+8<=f->Acc (69::st) ts->∃x r' ts',exN src f .expr r=some (x,[],r')/\0<=x/\Got src st r ts r' ts'
 row:∀(l s k:Nat),(l,s,k)∈Ki->∀(r:Rdr) (ts:List Tk) (st:List Nat),Look src r ts->big r+2*ts.length<=kF->10*ts.length+k<=f->Acc (s::st) ts->∃x r' ts',exN src f (.row l) r=some (x,[],r')/\0<=x/\Got src st r ts r' ts'
 more:∀(l s b u:Nat),(l,s,b,u)∈ZJ->∀(root:Int) (r:Rdr) (ts:List Tk) (st:List Nat),0<=root->Look src r ts->big r+2*ts.length<=kF->10*ts.length+9<=f->Acc (s::st) ts->∃x r' ts',exN src f (.more l root) r=some (x,[],r')/\0<=x/\Got0 src st r ts r' ts'
 two:∀(l s k:Nat),(l,s,k)∈Ki->∀(op root:Int) (r:Rdr) (c:Tk) (ts:List Tk) (st:List Nat),Look src r (c::ts)->big r+2*(c::ts).length<=kF->10*(c::ts).length<=f->Acc (s::st) ts->∃x r' ts',exN src f (.two op root l) r=some (x,[],r')/\0<=x/\Got src st r (c::ts) r' ts'
 un:∀(r:Rdr) (ts:List Tk) (st:List Nat),Look src r ts->big r+2*ts.length<=kF->10*ts.length+1<=f->Acc (81::st) ts->∃x r' ts',exN src f .unary r=some (x,[],r')/\0<=x/\Got src st r ts r' ts'
 ls:∀(last:Nat) (L:List Nat) (kids:List Int) (r:Rdr) (ts:List Tk) (st:List Nat),(last=5\/last=7)->LstSt last L->kids.length+ts.length<=900000->Look src r ts->big r+2*ts.length<=kF->10*ts.length+9<=f->Acc (L++st) ts->∃ks r' ts',exN src f (.list last kids) r=some (0,ks,r')/\Got src st r ts r' ts'
theorem jGA(t:Nat)(hb:jE 69 t=true)(h:t≠40):jX 69 t=[70]:=by
 unfold jX;rw[jJ5 (by rw[hb];decide),jJ5 (by decide),jJ5 (by decide),jJ5 (by decide),jJ5 (by decide),jJ5 (by decide),jJ5 (by decide),jJ5 (by decide),jJ5 (by decide),jJ5 (by decide),jJ5 (by decide),jJ5 (by decide)];unfold jx;rw[jJ6 rfl,jJ5 h]
section
variable{src:LB}{f:Nat}
theorem jFo(IH:AllOk src f)(r:Rdr)(ts:List Tk)(st:List Nat)(hl:Look src r ts)(hb:big r+2*ts.length<=kF)(hf:10*ts.length+8<=f+1)(ha:Acc (69::st) ts):∃x r' ts',exN src (f+1) .expr r=some (x,[],r')/\0<=x/\Got src st r ts r' ts' :=by
 obtain⟨k,ts2,rfl,Fx,FF,ha⟩:=yO (by decide) (by decide) ha;unfold kF at hb;rw[jK6]at hb hf;by_cases h40:k.t=40
 ·rw[show jX 69 k.t=[40,69,41,69,42,69]by rw[h40];rfl]at ha;obtain⟨-,a1⟩:=jT (by decide) ha;obtain⟨r1,e1,b1,-,-,l1⟩:=jI hl;obtain⟨x2,r2,t2,e2,p2,l2,a2,n2,b2⟩:=IH.ex r1 ts2 _ l1 (by unfold kF;omega) (by omega) a1;obtain⟨k3,t3,rfl,-,a3⟩:=jO (by decide) a2;rw[jK6]at n2 b2;obtain⟨r3,e3,b3,-,-,l3⟩:=jI l2;obtain⟨x4,r4,t4,e4,p4,l4,a4,n4,b4⟩:=IH.ex r3 t3 _ l3 (by unfold kF;omega) (by omega) a3;obtain⟨k5,t5,rfl,-,a5⟩:=jO (by decide) a4;rw[jK6]at n4 b4;obtain⟨r5,e5,b5,-,-,l5⟩:=jI l4;obtain⟨x6,r6,t6,e6,p6,l6,a6,n6,b6⟩:=IH.ex r5 t5 _ l5 (by unfold kF;omega) (by omega) a5;obtain⟨x,r',en,px,bn,ln⟩:=vV (jn 23 [x2,x4,x6]) r.from_ l6 (by omega);refine⟨x,r',t6,?_,px,ln,a6,by rw[jK6];omega,by rw[jK6];omega⟩;rw[exN,jJ5 (by rw[hl.1,h40];decide)];simp only[e1,e2,e3,e4,e5,e6,en,jL2,Option.map_some]
 ·rw[jGA k.t FF h40]at ha;obtain⟨x,r',ts',e,p,g⟩:=IH.row 43 70 7 (by decide) r (k::ts2) st hl (by unfold kF;rw[jK6];omega) (by rw[jK6];omega) ha;refine⟨x,r',ts',?_,p,g⟩;rw[exN,jJ6 (by rw[hl.1];exact h40)];exact e
theorem jEc(IH:AllOk src f)(l s k:Nat)(hm:(l,s,k)∈Ki)(op root:Int)(r:Rdr)(c:Tk)(ts:List Tk)(st:List Nat)(hl:Look src r (c::ts))(hb:big r+2*(c::ts).length<=kF)(hf:10*(c::ts).length<=f+1)(ha:Acc (s::st) ts):∃x r' ts',exN src (f+1) (.two op root l) r=some (x,[],r')/\0<=x/\Got src st r (c::ts) r' ts' :=by
 unfold kF at hb;rw[jK6]at hb hf;have hk:k<=7:=by
  simp only[Ki,List.mem_cons,Prod.mk.injEq,List.not_mem_nil,or_false]at hm;omega
 obtain⟨r1,e1,b1,-,-,l1⟩:=jI hl;obtain⟨x2,r2,t2,e2,p2,l2,a2,n2,b2⟩:=IH.row l s k hm r1 ts _ l1 (by unfold kF;omega) (by omega) ha;obtain⟨x,r',en,px,bn,ln⟩:=vV (jn op [root,x2]) r.from_ l2 (by omega);refine⟨x,r',t2,?_,px,ln,a2,by rw[jK6];omega,by rw[jK6];omega⟩;rw[exN];simp only[e1,e2,en,jL2,Option.map_some]
theorem ZK(l s b u:Nat)(h:(l,s,b,u)∈ZJ):58<=s/\YY l=b/\(b,u,if b=44 then 6 else if b=45 then 5 else if b=20 then 3 else 2)∈Ki/\∀t,t<58->(jE s t=true->yS l t≠0/\jX s t=[t,u,s])/\(jE s t=false->yS l t=0):=by
 simp only[ZJ,List.mem_cons,Prod.mk.injEq,List.not_mem_nil,or_false]at h;rcases h with⟨rfl,rfl,rfl,rfl⟩|⟨rfl,rfl,rfl,rfl⟩|⟨rfl,rfl,rfl,rfl⟩|⟨rfl,rfl,rfl,rfl⟩
 ·refine⟨by decide,by decide,by decide,fun t Fx=>⟨fun hb=> ?_,fun hb=> ?_⟩⟩
  ·have ht:t=43:=by
    have h2:71=t\/t=43:=(by simpa [jE,km]using hb);omega
   subst ht;exact⟨by decide,rfl⟩
  ·have ht:t≠43:=fun e=>by subst e;cases hb
   simp[yS,ht]
 ·refine⟨by decide,by decide,by decide,fun t Fx=>⟨fun hb=> ?_,fun hb=> ?_⟩⟩
  ·have ht:t=44:=by
    have h2:73=t\/t=44:=(by simpa [jE,km]using hb);omega
   subst ht;exact⟨by decide,rfl⟩
  ·have ht:t≠44:=fun e=>by subst e;cases hb
   simp[yS,ht]
 ·refine⟨by decide,by decide,by decide,fun t Fx=>⟨fun hb=> ?_,fun hb=> ?_⟩⟩
  ·have ht:t=18\/t=19:=by
    have h2:78=t\/t=18\/t=19:=(by simpa [jE,km]using hb);omega
   rcases ht with rfl|rfl<;>exact⟨by decide,rfl⟩
  ·have ht:¬(t=18\/t=19):=fun e=>by rcases e with rfl|rfl<;>cases hb
   simp[yS,ht]
 ·refine⟨by decide,by decide,by decide,fun t Fx=>⟨fun hb=> ?_,fun hb=> ?_⟩⟩
  ·have ht:t=20\/t=21\/t=22:=by
    have h2:80=t\/(20<=t/\t<=22):=(by simpa [jE,km]using hb);omega
   rcases ht with rfl|rfl|rfl<;>exact⟨by decide,rfl⟩
  ·have ht:¬(20<=t/\t<=22):=fun e=>by
    have:t=20\/t=21\/t=22:=(by omega);rcases this with rfl|rfl|rfl<;>cases hb
   simp[yS,ht]
theorem jC2(IH:AllOk src f)(l s b u:Nat)(hm:(l,s,b,u)∈ZJ)(root:Int)(r:Rdr)(ts:List Tk)(st:List Nat)(h0:0<=root)(hl:Look src r ts)(hb:big r+2*ts.length<=kF)(hf:10*ts.length+9<=f+1)(ha:Acc (s::st) ts):∃x r' ts',exN src (f+1) (.more l root) r=some (x,[],r')/\0<=x/\Got0 src st r ts r' ts' :=by
 obtain⟨Fx,Z1,Af,SN⟩:=ZK l s b u hm;obtain⟨k,ts2,rfl,LM,⟨FF,ha⟩|⟨FF,ha⟩⟩:=kL Fx ha
 ·obtain⟨h1,h2⟩:=(SN k.t LM).1 FF;rw[h2]at ha;obtain⟨-,a1⟩:=jT (n:=k.t) LM ha;obtain⟨x2,r2,t2,e2,p2,l2,a2,n2,b2⟩:=IH.two b u _ Af (yS l r.t) root r k ts2 (s::st) hl hb (by rw[jK6]at hf⊢;omega) a1;unfold kF at hb;rw[jK6]at n2 b2 hf hb;obtain⟨x3,r3,t3,e3,p3,l3,a3,n3,b3⟩:=IH.more l s b u hm x2 r2 t2 st p2 l2 (by unfold kF;omega) (by omega) a2;refine⟨x3,r3,t3,?_,p3,l3,a3,by rw[jK6];omega,by rw[jK6];omega⟩;rw[exN,jJ5 (by rw[hl.1];exact h1),Z1];simp only[e2,e3,jL2]
 ·refine⟨root,r,k::ts2,?_,h0,hl,ha,jL3 _,jL3 _⟩;rw[exN,jJ6 (by rw[hl.1];exact(SN k.t LM).2 FF)]
theorem jFI(l s k:Nat)(h:(l,s,k)∈Ki):58<=s/\vw s=false:=by
 simp only[Ki,List.mem_cons,Prod.mk.injEq,List.not_mem_nil,or_false]at h;rcases h with⟨rfl,rfl,rfl⟩|⟨rfl,rfl,rfl⟩|⟨rfl,rfl,rfl⟩|⟨rfl,rfl,rfl⟩|⟨rfl,rfl,rfl⟩|⟨rfl,rfl,rfl⟩<;>decide
theorem YD(IH:AllOk src f)(l s k m b u j:Nat)(PA:l=43\/l=44\/l=18\/l=20)(hm:(l,m,b,u)∈ZJ)(hr:(b,u,j)∈Ki)(hj:j+1<=k)(SN:∀t,jE s t=true->jX s t=[u,m])(hs:58<=s)(Ae:vw s=false)
  (r:Rdr) (ts:List Tk) (st:List Nat) (hl:Look src r ts) (hb:big r+2*ts.length<=kF) (hf:10*ts.length+k<=f+1) (ha:Acc (s::st) ts):∃x r' ts',exN src (f+1) (.row l) r=some (x,[],r')/\0<=x/\Got src st r ts r' ts' :=by
 obtain⟨k0,ts2,rfl,-,FF,ha⟩:=yO hs Ae ha;rw[SN _ FF]at ha;obtain⟨x2,r2,t2,e2,p2,l2,a2,n2,b2⟩:=IH.row b u j hr r _ (m::st) hl hb (by omega) ha;unfold kF at hb;obtain⟨x3,r3,t3,e3,p3,l3,a3,n3,b3⟩:=IH.more l m b u hm x2 r2 t2 st p2 l2 (by unfold kF;omega) (by
  have:j<=7:=by
   simp only[Ki,List.mem_cons,Prod.mk.injEq,List.not_mem_nil,or_false]at hr;omega
  omega) a2
 refine⟨x3,r3,t3,?_,p3,l3,a3,by omega,by omega⟩;have Z1:=(ZK l m b u hm).2.1;rw[exN,jJ5 (by omega),jJ6 PA,Z1];simp only[e2,e3,jL2]
theorem YM(s u m t:Nat)(h:(s,u,m)∈ [(70,72,71),(72,74,73),(77,79,78),(79,81,80)])(hb:jE s t=true):jX s t=[u,m]:=by
 simp only[List.mem_cons,Prod.mk.injEq,List.not_mem_nil,or_false]at h;unfold jX;rw[jJ5 (by rw[hb];decide)];rcases h with⟨rfl,rfl,rfl⟩|⟨rfl,rfl,rfl⟩|⟨rfl,rfl,rfl⟩|⟨rfl,rfl,rfl⟩<;>rfl
theorem jF9(t:Nat)(hb:jE 74 t=true):jX 74 t=if t=45 then [t,74]else [75]:=by
 unfold jX;rw[jJ5 (by rw[hb];decide)];rfl
theorem jF8(t:Nat)(hb:jE 75 t=true):jX 75 t=[77,76]:=by
 unfold jX;rw[jJ5 (by rw[hb];decide)];rfl
theorem jF7(t:Nat)(hb:jE 76 t=true):jX 76 t=[t,77]:=by
 unfold jX;rw[jJ5 (by rw[hb];decide)];rfl
theorem jF6(t:Nat)(hb:jE 81 t=true):jX 81 t=if t=19 then [t,81]else [82]:=by
 unfold jX;rw[jJ5 (by rw[hb];decide)];rfl
theorem jF5(t:Nat)(hb:jE 82 t=true):jX 82 t=JT t:=by
 unfold jX;rw[jJ5 (by rw[hb];decide)];rfl
theorem jAW(IH:AllOk src f)(r:Rdr)(ts:List Tk)(st:List Nat)(hl:Look src r ts)(hb:big r+2*ts.length<=kF)(hf:10*ts.length+5<=f+1)(ha:Acc (74::st) ts):∃x r' ts',exN src (f+1) (.row 45) r=some (x,[],r')/\0<=x/\Got src st r ts r' ts' :=by
 obtain⟨k,ts2,rfl,Fx,FF,ha⟩:=yO (by decide) (by decide) ha;rw[jF9 _ FF]at ha;by_cases h45:k.t=45
 ·rw[jJ6 h45,h45]at ha;obtain⟨-,a1⟩:=jT (by decide) ha;unfold kF at hb;rw[jK6]at hb hf;obtain⟨r1,e1,b1,-,-,l1⟩:=jI hl;obtain⟨x2,r2,t2,e2,p2,l2,a2,n2,b2⟩:=IH.row 45 74 5 (by decide) r1 ts2 _ l1 (by unfold kF;omega) (by omega) a1;obtain⟨x,r',en,px,bn,ln⟩:=vV (jn 8 [x2]) r.from_ l2 (by omega);refine⟨x,r',t2,?_,px,ln,a2,by rw[jK6];omega,by rw[jK6];omega⟩;rw[exN,jJ6 rfl,jJ6 (by rw[hl.1];exact h45)];simp only[e1,e2,en,jL2,Option.map_some]
 ·rw[jJ5 h45]at ha;obtain⟨k',ts2',e',-,MP,ha⟩:=yO (by decide) (by decide) ha;injection e' with e1 e2;subst e1 e2;rw[jF8 _ MP]at ha;obtain⟨x2,r2,t2,e2,p2,l2,a2,n2,b2⟩:=IH.row 18 77 4 (by decide) r _ (76::st) hl hb (by omega) ha;obtain⟨k3,t3,rfl,Bd,⟨M6,a3⟩|⟨M6,a3⟩⟩:=kL (by decide) a2
  ·rw[jF7 _ M6]at a3;have h3:(12<=k3.t/\k3.t<=17)\/k3.t=28:=by
    have h2:76=k3.t\/(12<=k3.t/\k3.t<=17)\/k3.t=28:=(by simpa [jE,km]using M6);omega
   obtain⟨-,a4⟩:=jT (n:=k3.t) (by omega) a3;unfold kF at hb;have HT:=fun op=>IH.two 18 77 4 (by decide) op x2 r2 k3 t3 st l2 (by unfold kF;omega) (by omega) a4;by_cases hc:12<=k3.t/\k3.t<=17
   ·obtain⟨x,r',ts',e,p,l,a,n,b⟩:=HT (11+((r2.t:Int)-12));refine⟨x,r',ts',?_,p,l,a,by omega,by omega⟩;rw[exN,jJ6 rfl,jJ5 (by rw[hl.1];exact h45)];simp only[e2,jL2];rw[jJ6 (by rw[l2.1];exact hc)];exact e
   ·obtain⟨x,r',ts',e,p,l,a,n,b⟩:=HT 17;refine⟨x,r',ts',?_,p,l,a,by omega,by omega⟩;rw[exN,jJ6 rfl,jJ5 (by rw[hl.1];exact h45)];simp only[e2,jL2];rw[jJ5 (by rw[l2.1];exact hc),jJ6 (by rw[l2.1];omega)];exact e
  ·refine⟨x2,r2,_,?_,p2,l2,a3,n2,b2⟩;have h3:¬(12<=k3.t/\k3.t<=17)/\k3.t≠28:=by
    have h2:¬(76=k3.t\/(12<=k3.t/\k3.t<=17)\/k3.t=28):=fun e=>by
     have:jE 76 k3.t=true:=by
      rcases e with e|e
      ·simp[jE,<-e]
      ·simp[jE,km,e]
     rw[this]at M6;cases M6
    omega
   rw[exN,jJ6 rfl,jJ5 (by rw[hl.1];exact h45)];simp only[e2,jL2];rw[jJ5 (by rw[l2.1];exact h3.1),jJ5 (by rw[l2.1];exact h3.2)]
theorem jEd(IH:AllOk src f)(l s k:Nat)(hm:(l,s,k)∈Ki)(r:Rdr)(ts:List Tk)(st:List Nat)(hl:Look src r ts)(hb:big r+2*ts.length<=kF)(hf:10*ts.length+k<=f+1)(ha:Acc (s::st) ts):∃x r' ts',exN src (f+1) (.row l) r=some (x,[],r')/\0<=x/\Got src st r ts r' ts' :=by
 simp only[Ki,List.mem_cons,Prod.mk.injEq,List.not_mem_nil,or_false]at hm;rcases hm with⟨rfl,rfl,rfl⟩|⟨rfl,rfl,rfl⟩|⟨rfl,rfl,rfl⟩|⟨rfl,rfl,rfl⟩|⟨rfl,rfl,rfl⟩|⟨rfl,rfl,rfl⟩
 ·exact YD IH 43 70 7 71 44 72 6 (by decide) (by decide) (by decide) (by decide) (fun t h=>YM 70 72 71 t (by decide) h) (by decide) (by decide) r ts st hl hb hf ha
 ·exact YD IH 44 72 6 73 45 74 5 (by decide) (by decide) (by decide) (by decide) (fun t h=>YM 72 74 73 t (by decide) h) (by decide) (by decide) r ts st hl hb hf ha
 ·exact jAW IH r ts st hl hb hf ha
 ·exact YD IH 18 77 4 78 20 79 3 (by decide) (by decide) (by decide) (by decide) (fun t h=>YM 77 79 78 t (by decide) h) (by decide) (by decide) r ts st hl hb hf ha
 ·exact YD IH 20 79 3 80 19 81 2 (by decide) (by decide) (by decide) (by decide) (fun t h=>YM 79 81 80 t (by decide) h) (by decide) (by decide) r ts st hl hb hf ha
 ·obtain⟨x,r',ts',e,p,g⟩:=IH.un r ts st hl hb (by omega) ha;refine⟨x,r',ts',?_,p,g⟩;rw[exN,jJ5 (by decide),jJ5 (by decide)];exact e
end
theorem jGw(t:Nat)(h:jE 69 t=true):t≠5/\t≠7/\t≠8:=by
 refine⟨fun e=> ?_,fun e=> ?_,fun e=> ?_⟩<;>(subst e;revert h;decide)
theorem jGv(t:Nat)(h:jE 83 t=true):t≠5/\t≠8/\jX 83 t=[69,84]:=by
 refine⟨fun e=> ?_,fun e=> ?_,?_⟩
 ·subst e;revert h;decide
 ·subst e;revert h;decide
 ·unfold jX;rw[jJ5 (by rw[h];decide)];rfl
theorem jGu(t:Nat)(h:jE 84 t=true):t=8:=by simpa [jE]using h
theorem XV{last:Nat}{L st:List Nat}{ts:List Tk}(T8:last=5\/last=7)(hL:LstSt last L)(ha:Acc (L++st) ts):
  ∃k ts',ts=k::ts' /\((k.t=last/\Acc st ts')\/(k.t≠last/\k.t≠8/\∃M,LstSt last M/\Acc (69::(M++st)) (k::ts'))\/(k.t=8/\∃M,LstSt last M/\Acc (69::(M++st)) ts')):=by
 cases hL with
 |shut=>
  obtain⟨k,ts',e,h1,h2⟩:=jO (by omega) ha;exact⟨k,ts',e,.inl ⟨h1,h2⟩⟩
 |ex hM=>
  obtain⟨k,ts',e,Fx,hb,h1⟩:=yO (by decide) (by decide) ha;have h2:=jGw _ hb;subst e;exact⟨k,ts',rfl,.inr (.inl ⟨by omega,h2.2.2,_,hM,ha⟩)⟩
 |comma hM=>
  obtain⟨k,ts',e,h1,h2⟩:=jO (by decide) ha;exact⟨k,ts',e,.inr (.inr ⟨h1,_,hM,h2⟩)⟩
 |set=>
  obtain⟨k,ts',e,Fx,⟨hb,h1⟩|⟨hb,h1⟩⟩:=kL (by decide) ha
  ·obtain⟨h2,h3,h4⟩:=jGv _ hb;rw[h4]at h1;exact⟨k,ts',e,.inr (.inl ⟨h2,h3,_,.more,h1⟩)⟩
  ·obtain⟨h2,h3⟩:=jT (by decide) h1;exact⟨k,ts',e,.inl ⟨h2,h3⟩⟩
 |more=>
  obtain⟨k,ts',e,Fx,⟨hb,h1⟩|⟨hb,h1⟩⟩:=kL (by decide) ha
  ·have h8:=jGu _ hb;rw[show jX 84 k.t=[8,69,84]by rw[h8];rfl]at h1;obtain⟨-,h2⟩:=jT (by decide) h1;exact⟨k,ts',e,.inr (.inr ⟨h8,_,.more,h2⟩)⟩
  ·obtain⟨h2,h3⟩:=jT (by decide) h1;exact⟨k,ts',e,.inl ⟨h2,h3⟩⟩
section
variable{src:LB}{f:Nat}
theorem jFn(IH:AllOk src f)(last:Nat)(L:List Nat)(kids:List Int)(r:Rdr)(ts:List Tk)(st:List Nat)(T8:last=5\/last=7)(hL:LstSt last L)(hk:kids.length+ts.length<=900000)(hl:Look src r ts)(hb:big r+2*ts.length<=kF)(hf:10*ts.length+9<=f+1)(ha:Acc (L++st) ts):
  ∃ks r' ts',exN src (f+1) (.list last kids) r=some (0,ks,r')/\Got src st r ts r' ts' :=by
 obtain⟨k,ts2,rfl,⟨h1,h2⟩|⟨h1,h8,M,hM,h2⟩|⟨h8,M,hM,h2⟩⟩:=XV T8 hL ha
 ·obtain⟨r1,e1,b1,-,-,l1⟩:=jI hl;refine⟨kids,r1,ts2,?_,l1,h2,by rw[jK6];omega,by rw[jK6];omega⟩;rw[exN,jJ6 (by rw[hl.1];exact h1)];simp only[e1,jL2]
 ·rw[jK6]at hk;obtain⟨x2,r2,t2,e2,p2,l2,a2,n2,b2⟩:=IH.ex r (k::ts2) _ hl hb (by omega) h2;unfold kF at hb;rw[jK6]at n2 b2 hb hf;obtain⟨ks,r3,t3,e3,l3,a3,n3,b3⟩:=IH.ls last M (kids++[x2]) r2 t2 st T8 hM (by rw[jJ4,List.length_singleton];omega) l2 (by unfold kF;omega) (by omega) a2;refine⟨ks,r3,t3,?_,l3,a3,by rw[jK6];omega,by rw[jK6];omega⟩;rw[exN,jJ5 (by rw[hl.1];exact h1),jJ6 (by omega),jb,jJ5 (by rw[hl.1];exact h8)];simp only[e2,e3,jL2]
 ·rw[jK6]at hk;obtain⟨r1,e1,b1,-,-,l1⟩:=jI hl;unfold kF at hb;rw[jK6]at hb hf;obtain⟨x2,r2,t2,e2,p2,l2,a2,n2,b2⟩:=IH.ex r1 ts2 _ l1 (by unfold kF;omega) (by omega) h2;obtain⟨ks,r3,t3,e3,l3,a3,n3,b3⟩:=IH.ls last M (kids++[x2]) r2 t2 st T8 hM (by rw[jJ4,List.length_singleton];omega) l2 (by unfold kF;omega) (by omega) a2;refine⟨ks,r3,t3,?_,l3,a3,by rw[jK6];omega,by rw[jK6];omega⟩;rw[exN,jJ5 (by rw[hl.1,h8];omega),jJ6 (by omega),jb,jJ6 (by rw[hl.1];exact h8)];simp only[e1,e2,e3,jL2,Option.map_some]
theorem Ug{t:Nat}(h:yC t=true):t=2\/t=46\/t=47\/t=3\/t=48\/t=1\/t=6\/t=4\/t=31\/t=49\/t=50\/t=51\/t=52\/t=53\/t=54\/t=55\/t=56\/t=57:=by
 have:=jM8 h;omega
theorem jEo(t:Nat)(h:t=50\/t=51\/t=53\/t=54\/t=55\/t=56\/t=57):∃L,JT t=t::6::L/\LstSt 7 L/\t≠19/\Uo t=false/\t≠6/\t≠4/\¬(t=49\/t=52\/t=31)/\(t=31\/(49<=t/\t<=57)):=by
 rcases h with rfl|rfl|rfl|rfl|rfl|rfl|rfl
 ·exact⟨[69,7],rfl,.ex (.shut 7),by decide,by decide,by decide,by decide,by decide,by decide⟩
 ·exact⟨[69,8,69,7],rfl,.ex (.comma (.shut 7)),by decide,by decide,by decide,by decide,by decide,by decide⟩
 ·exact⟨[7],rfl,.shut 7,by decide,by decide,by decide,by decide,by decide,by decide⟩
 ·exact⟨[7],rfl,.shut 7,by decide,by decide,by decide,by decide,by decide,by decide⟩
 ·exact⟨[69,8,69,7],rfl,.ex (.comma (.shut 7)),by decide,by decide,by decide,by decide,by decide,by decide⟩
 ·exact⟨[69,8,69,7],rfl,.ex (.comma (.shut 7)),by decide,by decide,by decide,by decide,by decide,by decide⟩
 ·exact⟨[69,8,69,7],rfl,.ex (.comma (.shut 7)),by decide,by decide,by decide,by decide,by decide,by decide⟩
theorem jAm(t:Nat)(h:t=2\/t=46\/t=47\/t=3\/t=48\/t=1):JT t=[t]/\Uo t=true/\t≠19/\t<58:=by
 rcases h with rfl|rfl|rfl|rfl|rfl|rfl<;>exact⟨rfl,by decide,by decide,by decide⟩
theorem XO(t:Nat)(h:t=49\/t=52\/t=31):JT t=[t,6,1,7]/\Uo t=false/\t≠19/\t≠6/\t≠4/\t<58/\(t=31\/(49<=t/\t<=57)):=by
 rcases h with rfl|rfl|rfl<;>exact⟨rfl,by decide,by decide,by decide,by decide,by decide,by decide⟩
theorem jFm(IH:AllOk src f)(r:Rdr)(ts:List Tk)(st:List Nat)(hl:Look src r ts)(hb:big r+2*ts.length<=kF)(hf:10*ts.length+1<=f+1)(ha:Acc (81::st) ts):∃x r' ts',exN src (f+1) .unary r=some (x,[],r')/\0<=x/\Got src st r ts r' ts' :=by
 obtain⟨k,ts2,rfl,Fx,FF,ha⟩:=yO (by decide) (by decide) ha;rw[jF6 _ FF]at ha;unfold kF at hb;rw[jK6]at hb hf;by_cases h19:k.t=19
 ·rw[jJ6 h19,h19]at ha;obtain⟨-,a1⟩:=jT (by decide) ha;obtain⟨r1,e1,b1,-,-,l1⟩:=jI hl;obtain⟨x2,r2,t2,e2,p2,l2,a2,n2,b2⟩:=IH.un r1 ts2 _ l1 (by unfold kF;omega) (by omega) a1;obtain⟨x,r',en,px,bn,ln⟩:=vV (jn 7 [x2]) r.from_ l2 (by omega);refine⟨x,r',t2,?_,px,ln,a2,by rw[jK6];omega,by rw[jK6];omega⟩;rw[exN,jJ6 (by rw[hl.1];exact h19)];simp only[e1,e2,en,jL2,Option.map_some]
 rw[jJ5 h19]at ha;obtain⟨k',ts2',e',-,MP,ha⟩:=yO (by decide) (by decide) ha;injection e' with e1 e2;subst e1 e2;rw[jF5 _ MP]at ha;have F1:yC k.t=true:=by
  have h2:82=k.t\/yC k.t=true:=(by simpa [jE,km]using MP);rcases h2 with e|e
  ·exfalso;rw[<-e]at Fx;omega
  ·exact e
 have hc:=Ug F1;by_cases NT:k.t=2\/k.t=46\/k.t=47\/k.t=3\/k.t=48\/k.t=1
 ·obtain⟨q1,q2,q3,q4⟩:=jAm _ NT;rw[q1]at ha;obtain⟨-,a1⟩:=jT q4 ha;obtain⟨n,hn⟩:=hl.lit q2;obtain⟨r1,e1,b1,-,-,l1⟩:=jI hl;obtain⟨x,r',en,px,bn,ln⟩:=vV n r.from_ l1 (by omega);refine⟨x,r',ts2,?_,px,ln,a1,by rw[jK6];omega,by rw[jK6];omega⟩;rw[exN,jJ5 (by rw[hl.1];exact h19),jJ6 (by rw[hl.1];exact q2)];simp only[hn,e1,en,jL2,Option.map_some]
 have W9:Uo r.t=false:=by rw[hl.1];exact jK3 NT
 by_cases h6:k.t=6
 ·rw[show JT k.t=[6,69,7]by rw[h6];rfl]at ha;obtain⟨-,a1⟩:=jT (by decide) ha;obtain⟨r1,e1,b1,-,-,l1⟩:=jI hl;obtain⟨x2,r2,t2,e2,p2,l2,a2,n2,b2⟩:=IH.ex r1 ts2 _ l1 (by unfold kF;omega) (by omega) a1;obtain⟨k3,t3,rfl,-,a3⟩:=jO (by decide) a2;rw[jK6]at n2 b2;obtain⟨r3,e3,b3,-,-,l3⟩:=jI l2;refine⟨x2,r3,t3,?_,p2,l3,a3,by rw[jK6];omega,by rw[jK6];omega⟩;rw[exN,jJ5 (by rw[hl.1];exact h19),jJ5 (by rw[W9];decide),jJ6 (by rw[hl.1];exact h6)];simp only[e1,e2,e3,jL2]
 by_cases h4:k.t=4
 ·rw[show JT k.t=[4,83,5]by rw[h4];rfl]at ha;obtain⟨-,a1⟩:=jT (by decide) ha;obtain⟨r1,e1,b1,-,-,l1⟩:=jI hl;obtain⟨ks,r2,t2,e2,l2,a2,n2,b2⟩:=IH.ls 5 [83,5] [] r1 ts2 st (.inl rfl) .set (by rw[jN2];omega) l1 (by unfold kF;omega) (by omega) a1;obtain⟨x,r',en,px,bn,ln⟩:=vV (jn 6 ks) r.from_ l2 (by omega);refine⟨x,r',t2,?_,px,ln,a2,by rw[jK6];omega,by rw[jK6];omega⟩;rw[exN,jJ5 (by rw[hl.1];exact h19),jJ5 (by rw[W9];decide),jJ5 (by rw[hl.1];exact h6),jJ6 (by rw[hl.1];exact h4)];simp only[e1,e2,en,jL2,Option.map_some]
 by_cases Nr:k.t=49\/k.t=52\/k.t=31
 ·obtain⟨q1,q2,q3,q4,q5,q6,q7⟩:=XO _ Nr;rw[q1]at ha;obtain⟨-,a1⟩:=jT q6 ha;obtain⟨r1,e1,b1,-,-,l1⟩:=jI hl;obtain⟨k2,t2,rfl,-,a2⟩:=jO (by decide) a1;obtain⟨r2,e2,b2,-,-,l2⟩:=jI l1;obtain⟨k3,t3,rfl,-,a3⟩:=jO (by decide) a2;obtain⟨r3,e3,b3,-,-,l3⟩:=jI l2;obtain⟨k4,t4,rfl,-,a4⟩:=jO (by decide) a3;obtain⟨r4,e4,b4,-,-,l4⟩:=jI l3;simp only[jK6]at hb;obtain⟨x,r',en,px,bn,ln⟩:=vV ⟨QB r.t,⟨(jh src r2).toArray⟩,0,0,⟨#[]⟩,[],[]⟩ r.from_ l4 (by omega);refine⟨x,r',t4,?_,px,ln,a4,by simp only[jK6];omega,by simp only[jK6];omega⟩;rw[exN,jJ5 (by rw[hl.1];exact h19),jJ5 (by rw[W9];decide),jJ5 (by rw[hl.1];exact h6),jJ5 (by rw[hl.1];exact h4),jJ5 (by rw[hl.1];exact fun e=>e q7)];simp only[e1,e2,jL2];rw[jJ6 (by rw[hl.1];exact Nr),zC];simp only[e3,e4,en,jL2,Option.map_some]
 ·obtain⟨L,q1,q2,q3,q4,q5,q6,q7,q8⟩:=jEo k.t (by omega);rw[q1]at ha;obtain⟨-,a1⟩:=jT Fx ha;obtain⟨r1,e1,b1,-,-,l1⟩:=jI hl;obtain⟨k2,t2,rfl,-,a2⟩:=jO (by decide) a1;obtain⟨r2,e2,b2,-,-,l2⟩:=jI l1;simp only[jK6]at hb hf;obtain⟨ks,r3,t3,e3,l3,a3,n3,b3⟩:=IH.ls 7 L [] r2 t2 st (.inr rfl) q2 (by rw[jN2];omega) l2 (by unfold kF;omega) (by omega) a2;obtain⟨x,r',en,px,bn,ln⟩:=vV (jn (QB r.t) ks) r.from_ l3 (by omega);refine⟨x,r',t3,?_,px,ln,a3,by simp only[jK6];omega,by simp only[jK6];omega⟩;rw[exN,jJ5 (by rw[hl.1];exact h19),jJ5 (by rw[W9];decide),jJ5 (by rw[hl.1];exact h6),jJ5 (by rw[hl.1];exact h4),jJ5 (by rw[hl.1];exact fun e=>e q8)];simp only[e1,e2,jL2];rw[jJ5 (by rw[hl.1];exact Nr)];simp only[e3,en,jL2,Option.map_some]
end
theorem jBW{n:Nat}{st:List Nat}{ts:List Tk}(h:Acc (n::st) ts):0<ts.length:=by
 cases h with
 |tak=>simp
theorem Kq(src:LB):∀f,AllOk src f
 |0=>⟨fun r ts st _ _ h _=>by omega,fun l s k hm r ts st _ _ h ha=>by
   have:=jBW ha;omega,fun l s b u hm root r ts st _ _ _ h _=>by omega,fun l s k hm op root r c ts st _ _ h _=>by rw[jK6]at h;omega,fun r ts st _ _ h _=>by omega,fun last L kids r ts st _ _ _ _ _ h _=>by omega⟩
 |f+1=>⟨jFo (Kq src f),jEd (Kq src f),jC2 (Kq src f),jEc (Kq src f),jFm (Kq src f),jFn (Kq src f)⟩
end Go.Proofs.YtifbhcfdealfaaaGreatDoor

import Derived.Test.YtmmjcbbogokmfaaGreatDoorMb12
set_option maxRecDepth 100000
set_option maxHeartbeats 25600000
namespace Go.Proofs.YtmmjcbbogokmfaaGreatDoor
open Go.Proofs.Tryz
def US(t:Tre)(c:Mg9)(i:Nat):Prop:=∀f,VI f->∀(k:Nat) (o:Int),(JD t f)[k]? =some o->(k<c.at_ f↔o<(i:Int))
theorem jIg{l:List Int}(h:l.Pairwise (· < ·)){a b:Nat}{x y:Int}(Wq:a<b)(hx:l[a]? =some x)(hy:l[b]? =some y):x<y:=by
 obtain⟨ha,rfl⟩:=jM5 hx;obtain⟨hb,rfl⟩:=jM5 hy;exact List.pairwise_iff_getElem.1 h a b ha hb Wq
theorem jJK{t:Tre}{l:List (Int×Int)}(L:Laid9 t l){c:Mg9}{i:Nat}(hi:i<t.count)(S:US t c i):
  ∃(f:Int) (k:Nat),VV t c i=some (f,k)/\l[i]? =some (f,(k:Int))/\VI f/\(JD t f)[k]? =some (i:Int)/\US t (c.go f) (i+1):=by
 obtain⟨f,k,hf,hd,ho⟩:=L.of i hi;have h1:=S f hf k _ ho;have hk:k=c.at_ f:=by
  rcases Nat.lt_trichotomy k (c.at_ f)with h|h|h
  ·have:=h1.1 h;omega
  ·exact h
  ·exfalso;have hlt:=(jM5 ho).1;have hx:(JD t f)[c.at_ f]? =some ((JD t f)[c.at_ f]'(by omega)):=jJ9 _;have h2:=jIg (L.inc f hf) h hx ho;have h3:=(S f hf _ _ hx).2 h2;omega
 have GC:VV t c i=some (f,k):=by
  cases e:VV t c i with
  |none=>exact absurd (hk▸ho) (jBr e hf)
  |some d=>
   obtain⟨q1,q2,q3⟩:=Yw e;obtain⟨n,e1,e2⟩:=L.at_ d.1 d.2 _ q1 q3;have:i=n:=(by omega);subst this;rw[hd]at e2;injection e2 with e2;obtain⟨e3,e4⟩:=Prod.mk.inj e2;rw[show d=(f,k)from Prod.ext e3.symm (by show d.2=k;omega)]
 refine⟨f,k,GC,hd,hf,ho,fun g hg q o hq=> ?_⟩;have h2:=S g hg q o hq;rw[Mg9.go_at c hf hg];obtain⟨n,rfl,hn⟩:=L.at_ g q o hg hq;by_cases hgf:g=f
 ·subst hgf;rw[jJ6 rfl];constructor
  ·intro h;rcases Nat.lt_or_ge q (c.at_ g)with h3|h3
   ·have:=h2.1 h3;omega
   ·have:q=k:=(by omega);subst this;rw[ho]at hq;injection hq with hq;omega
  ·intro h;rcases (show(n:Int)<(i:Int)\/(i:Int)<=(n:Int)by omega)with h3|h3
   ·have:=h2.2 h3;omega
   ·have:n=i:=(by omega);subst this;rw[hd]at hn;injection hn with hn;have:=(Prod.mk.inj hn).2;omega
 ·rw[jJ5 hgf];constructor
  ·intro h;have:=h2.1 h;omega
  ·intro h;refine h2.2 ?_;rcases (show(n:Int)<(i:Int)\/(i:Int)<=(n:Int)by omega)with h3|h3
   ·exact h3
   ·exfalso;have:n=i:=(by omega);subst this;rw[hd]at hn;injection hn with hn;exact hgf (Prod.mk.inj hn).1.symm
theorem jEI(t:Tre)(n i:Nat)(c:Mg9){s:Wr9}(h:s.ok=false):KG t n i c s=s:=by
 cases n with
 |zero=>rfl
 |succ n=>rw[KG,jJ5 (by rw[h];decide)]
theorem qf(t:Tre):(JD t 1).length=t.attrs.length/\(JD t 2).length=t.stages.length/\(JD t 3).length=t.miles.length/\(JD t 4).length=t.steps.length:=
 ⟨jK7 ..,jK7 ..,jK7 ..,jK7 ..⟩
theorem Xm{t:Tre}{l:List (Int×Int)}(L:Laid9 t l):∀(n i:Nat) (c:Mg9) (u:Nat) (b:LB),i+n=t.count->US t c i->Met (kG t (l.drop i) u) (yx t (l.drop i) b) (KG t n i c ⟨true,u,b⟩)
 |0,i,c,u,b,hn,S=>by
  rw[List.drop_eq_nil_of_le (by rw[L.len];omega)];exact Met.yes u b
 |n+1,i,c,u,b,hn,S=>by
  obtain⟨f,k,h1,h2,h3,h4,h5⟩:=jJK L (by omega) S;obtain⟨hlt,hd⟩:=jM5 h2;rw[jM9 hlt,hd,kG,yx,KG,jJ6 rfl,h1];have hk:=(jM5 h4).1;have hl:=qf t;refine(jEl t f k ⟨fun e=> ?_,fun e=> ?_,fun e=> ?_,fun e=> ?_⟩ h3 u b).next (H:=fun s=>KG t n (i+1) (c.go f) s) (fun h=>by rw[jEI t n _ _ h];exact h) (fun nx b1 _=>Xm L n (i+1) (c.go f) nx b1 (by omega) h5)
  ·rw[e]at hk;omega
  ·rw[e]at hk;omega
  ·rw[e]at hk;omega
  ·rw[e]at hk;omega
def jJt(t:Tre):Nat->Nat->Mg9->Prop
 |0,_,_=>True
 |n+1,i,c=>∃d,VV t c i=some d/\jJt t n (i+1) (c.go d.1)
theorem YJ{t:Tre}:∀(n i:Nat) (c:Mg9) (s:Wr9),(KG t n i c s).ok=true->s.ok=true/\jJt t n i c
 |0,_,_,_,h=>⟨h,trivial⟩
 |n+1,i,c,s,h=>by
  rw[KG]at h;by_cases hs:s.ok=true
  ·rw[jJ6 hs]at h;cases e:VV t c i with
   |none=>
    rw[e]at h;have h1:(false:Bool)=true:=(YJ n (i+1) c _ h).1;cases h1
   |some d=>
    rw[e]at h;exact⟨hs,d,e,(YJ n (i+1) _ _ h).2⟩
  ·rw[jJ5 hs]at h;exact absurd h hs
structure Inv9(t:Tre)(i:Nat)(c:Mg9):Prop where
 has:∀f,VI f->∀k,k<c.at_ f->∃o:Nat,(JD t f)[k]? =some (o:Int)/\o<i
 inc:∀f,VI f->∀(a b:Nat) (x y:Int),a<b->b<c.at_ f->(JD t f)[a]? =some x->(JD t f)[b]? =some y->x<y
 one:∀f g,VI f->VI g->∀(a b:Nat) (x:Int),a<c.at_ f->b<c.at_ g->(JD t f)[a]? =some x->(JD t g)[b]? =some x->f=g
 sum:c.a+c.s+c.m+c.p=i
theorem jIn(c:Mg9){f:Int}(hf:VI f):(c.go f).a+(c.go f).s+(c.go f).m+(c.go f).p=c.a+c.s+c.m+c.p+1:=by
 rcases hf with rfl|rfl|rfl|rfl<;>simp[Mg9.go]<;>omega
theorem XT{t:Tre}:∀(n i:Nat) (c:Mg9),jJt t n i c->Inv9 t i c->∃c',Inv9 t (i+n) c'
 |0,i,c,_,I=>⟨c,I⟩
 |n+1,i,c,⟨d,h1,h2⟩,I=>by
  obtain⟨hf,hk,ho⟩:=Yw h1;obtain⟨f,k⟩:=d;simp only at hf hk ho h2;have lt_of:∀g,VI g->∀(b:Nat) (x:Int),b<c.at_ g->(JD t g)[b]? =some x->x<(i:Int):=fun g hg b x hb hx=>by
   obtain⟨o,e1,e2⟩:=I.has g hg b hb;rw[hx]at e1;injection e1 with e1;omega
  have old_or:∀g,VI g->∀b,b<(c.go f).at_ g->b<c.at_ g\/(g=f/\b=k):=fun g hg b hb=>by
   rw[Mg9.go_at c hf hg]at hb;by_cases e:g=f
   ·rw[jJ6 e]at hb;subst e;rcases Nat.lt_or_ge b (c.at_ g)with q|q
    ·exact .inl q
    ·exact .inr ⟨rfl,by omega⟩
   ·rw[jJ5 e]at hb;exact .inl hb
  have I2:Inv9 t (i+1) (c.go f):=by
   refine⟨fun g hg b hb=> ?_,fun g hg a b x y Wq hb hx hy=> ?_,fun g g' hg Sz a b x ha hb hx hy=> ?_,by rw[jIn c hf,I.sum]⟩
   ·rcases old_or g hg b hb with q|⟨rfl,rfl⟩
    ·obtain⟨o,e1,e2⟩:=I.has g hg b q;exact⟨o,e1,by omega⟩
    ·exact⟨i,ho,by omega⟩
   ·rcases old_or g hg b hb with q|⟨rfl,rfl⟩
    ·exact I.inc g hg a b x y Wq q hx hy
    ·rw[ho]at hy;injection hy with hy;have:=lt_of g hg a x (by omega) hx;omega
   ·rcases old_or g hg a ha with q|⟨rfl,rfl⟩
    ·rcases old_or g' Sz b hb with q' |⟨rfl,rfl⟩
     ·exact I.one g g' hg Sz a b x q q' hx hy
     ·rw[ho]at hy;injection hy with hy;have:=lt_of g hg a x q hx;omega
    ·rcases old_or g' Sz b hb with q' |⟨rfl,rfl⟩
     ·rw[ho]at hx;injection hx with hx;have:=lt_of g' Sz b x q' hy;omega
     ·rfl
  obtain⟨c',h3⟩:=XT n (i+1) _ h2 I2;exact⟨c',by rw[show i+(n+1)=i+1+n by omega];exact h3⟩
theorem uM{fam:Int}:∀(os:List Int) (i:Nat) (s:LayP),s.ok=true->os.Pairwise (· < ·)->(∀o∈os,(if i=0 then(-1:Int)else s.last)<o/\0<=o/\s.l[o.toNat]? =some (0,0))->(jY fam os i s).ok=true/\∀n:Nat,(n:Int)∉os->(jY fam os i s).l[n]? =s.l[n]?
 |[],_,_,h,_,_=>⟨h,fun _ _=>rfl⟩
 |o::os,i,s,h,hp,ha=>by
  obtain⟨Rj,Nn⟩:=List.pairwise_cons.1 hp;obtain⟨h1,h2,h3⟩:=ha o (List.mem_cons_self ..);have hlt:=(jM5 h3).1;have e:Jp fam i o s=⟨s.l.set o.toNat (fam,(i:Int)),o,true⟩:=by
   unfold Jp;simp only;rw[jJ5,h];rintro (q|q|q)
   ·omega
   ·omega
   ·rw[List.getD_eq_getElem?_getD,h3]at q;exact q rfl
  rw[show jY fam (o::os) i s=jY fam os (i+1) (Jp fam i o s)from rfl,e];obtain⟨k1,k2⟩:=uM (fam:=fam) os (i+1) ⟨s.l.set o.toNat (fam,(i:Int)),o,true⟩ rfl Nn (fun q hq=>by
   obtain⟨_,g2,g3⟩:=ha q (jN1 _ hq);have:=Rj q hq;refine⟨by rw[jJ5 (Nat.succ_ne_zero i)];exact this,g2,?_⟩;show(s.l.set o.toNat (fam,(i:Int)))[q.toNat]? =_;rw[List.getElem?_set_ne (by omega)];exact g3)
  refine⟨k1,fun n hn=> ?_⟩;rw[k2 n (fun e=>hn (jN1 _ e))];show(s.l.set o.toNat (fam,(i:Int)))[n]? =_;rw[List.getElem?_set_ne (fun e=>hn (by rw[<-e];rw[Int.toNat_of_nonneg h2];exact List.mem_cons_self ..))]
theorem Qf{t:Tre}{c:Mg9}(I:Inv9 t t.count c):(jx t).ok=true:=by
 have hl:=qf t;have le:∀f,VI f->c.at_ f<=(JD t f).length:=fun f hf=>by
  rcases Nat.eq_zero_or_pos (c.at_ f)with h|h
  ·omega
  ·obtain⟨o,e1,_⟩:=I.has f hf (c.at_ f-1) (by omega);have:=(jM5 e1).1;omega
 have hs:=I.sum;unfold Tre.count at hs;have a1:c.a<=(JD t 1).length:=le 1 (.inl rfl);have a2:c.s<=(JD t 2).length:=le 2 (.inr (.inl rfl));have a3:c.m<=(JD t 3).length:=le 3 (.inr (.inr (.inl rfl)));have a4:c.p<=(JD t 4).length:=le 4 (.inr (.inr (.inr rfl)));have all:∀f,VI f->c.at_ f=(JD t f).length:=fun f hf=>by
  rcases hf with rfl|rfl|rfl|rfl
  ·show c.a=_;omega
  ·show c.s=_;omega
  ·show c.m=_;omega
  ·show c.p=_;omega
 have inc:∀f,VI f->(JD t f).Pairwise (· < ·):=fun f hf=>by
  rw[List.pairwise_iff_getElem];intro a b ha hb Wq;exact I.inc f hf a b _ _ Wq (by rw[all f hf];exact hb) (jJ9 ha) (jJ9 hb)
 have rng:∀f,VI f->∀o∈JD t f,∃n:Nat,o=(n:Int)/\n<t.count:=fun f hf o ho=>by
  obtain⟨k,hk,rfl⟩:=List.mem_iff_getElem.1 ho;obtain⟨n,e1,e2⟩:=I.has f hf k (by rw[all f hf];exact hk);rw[jJ9 hk]at e1;injection e1 with e1;exact⟨n,e1,e2⟩
 have dis:∀f g,VI f->VI g->f≠g->∀o∈JD t f,o∉JD t g:=fun f g hf hg Fa o ho Dx=>by
  obtain⟨a,ha,rfl⟩:=List.mem_iff_getElem.1 ho;obtain⟨b,hb,e⟩:=List.mem_iff_getElem.1 Dx;exact Fa (I.one f g hf hg a b _ (by rw[all f hf];exact ha) (by rw[all g hg];exact hb) (jJ9 ha) (by rw[jJ9 hb,e]))
 unfold jx;have step:∀(f:Int) (s:LayP),VI f->s.ok=true->(∀o∈JD t f,s.l[o.toNat]? =some (0,0))->(jY f (JD t f) 0 s).ok=true/\∀n:Nat,(n:Int)∉JD t f->(jY f (JD t f) 0 s).l[n]? =s.l[n]? :=fun f s hf h1 h2=>
  uM (JD t f) 0 s h1 (inc f hf) (fun o ho=>by
   obtain⟨n,e,_⟩:=rng f hf o ho;exact⟨by rw[jJ6 rfl];omega,by omega,h2 o ho⟩)
 have z0:∀f,VI f->∀o∈JD t f,(⟨List.replicate t.count (0,0),-1,true⟩:LayP).l[o.toNat]? =some (0,0):=fun f hf o ho=>by
  obtain⟨n,rfl,hn⟩:=rng f hf o ho;show(List.replicate t.count ((0:Int),(0:Int)))[(n:Int).toNat]? =_;rw[jL1,List.getElem?_replicate,jJ6 hn]
 have f1:VI 1:=.inl rfl;have f2:VI 2:=.inr (.inl rfl);have f3:VI 3:=.inr (.inr (.inl rfl));have f4:VI 4:=.inr (.inr (.inr rfl));have cast:∀{f o},VI f->o∈JD t f->(((o:Int).toNat:Nat):Int)=o:=fun{f o} hf ho=>by
  obtain⟨n,rfl,_⟩:=rng f hf o ho;rfl
 obtain⟨k1,q1⟩:=step 1 _ f1 rfl (z0 1 f1);obtain⟨k2,q2⟩:=step 2 _ f2 k1 (fun o ho=>by
  rw[q1 o.toNat (by rw[cast f2 ho];exact dis 2 1 f2 f1 (by decide) o ho)];exact z0 2 f2 o ho)
 obtain⟨k3,q3⟩:=step 3 _ f3 k2 (fun o ho=>by
  rw[q2 o.toNat (by rw[cast f3 ho];exact dis 3 2 f3 f2 (by decide) o ho),q1 o.toNat (by rw[cast f3 ho];exact dis 3 1 f3 f1 (by decide) o ho)];exact z0 3 f3 o ho)
 obtain⟨k4,_⟩:=step 4 _ f4 k3 (fun o ho=>by
  rw[q3 o.toNat (by rw[cast f4 ho];exact dis 4 3 f4 f3 (by decide) o ho),q2 o.toNat (by rw[cast f4 ho];exact dis 4 2 f4 f2 (by decide) o ho),q1 o.toNat (by rw[cast f4 ho];exact dis 4 1 f4 f1 (by decide) o ho)];exact z0 4 f4 o ho)
 exact k4
theorem jAd{t:Tre}(h:jb t.name=true):KT t=⟨true,0,jU [] [[116,121,112,101],tb t.name,[123]]++[10]⟩:=by
 unfold KT;rw[show(⟨true,0,[]⟩:Wr9).put [116,121,112,101]=⟨true,0,jI [] [116,121,112,101]⟩from rfl,yB h];rfl
theorem jDa{t:Tre}(h:(KT t).ok=true):jb t.name=true:=Classical.byContradiction fun h1=>by
 have h2:=yk h1 ((⟨true,0,[]⟩:Wr9).put [116,121,112,101]);have h3:(((⟨true,0,[]⟩:Wr9).put [116,121,112,101]).named t.name).ok=true:=h;rw[h2]at h3;cases h3
theorem jFo{t:Tre}{l:List (Int×Int)}(L:Laid9 t l):US t ⟨0,0,0,0⟩ 0:=fun f hf k o ho=>by
 obtain⟨n,rfl,_⟩:=L.at_ f k o hf ho;have h0:(⟨0,0,0,0⟩:Mg9).at_ f=0:=by unfold Mg9.at_;simp only[ite_self]
 rw[h0];omega
theorem jKJ(t:Tre):Inv9 t 0 ⟨0,0,0,0⟩:=by
 have h0:∀f,(⟨0,0,0,0⟩:Mg9).at_ f=0:=fun f=>by unfold Mg9.at_;simp only[ite_self]
 exact⟨fun f _ k hk=>by rw[h0]at hk;omega,fun f _ a b x y Wq hb=>by rw[h0]at hb;omega,fun f g _ _ a b x ha=>by rw[h0]at ha;omega,rfl⟩
theorem jBU(t:Tre):jHh t=yV t:=by
 by_cases Gr:jb t.name=true
 ·by_cases Gk:(jx t).ok=true
  ·have L:=Xs Gk;have M:=Xm L t.count 0 ⟨0,0,0,0⟩ 0 (jU [] [[116,121,112,101],tb t.name,[123]]++[10]) (Nat.zero_add _) (jFo L);rw[List.drop_zero,<-jAd Gr]at M;have M:Met (kG t (jx t).l 0) (yx t (jx t).l (jU [] [[116,121,112,101],tb t.name,[123]]++[10])) (jDF t):=M;unfold jHh yV Qk qI;rw[Gk,Gr,Bool.true_and,Bool.true_and];cases e:kG t (jx t).l 0 with
   |none=>
    rw[e]at M;rw[jJ5 (fun h=>by rw[M.2 rfl]at h;cases h.1),jJ5 (by simp)]
   |some nx=>
    rw[e]at M;obtain⟨b,e1,e2⟩:=M.1 nx rfl;rw[e1,e2];by_cases hn:nx=t.nodes.length
    ·rw[jJ6 ⟨rfl,hn⟩,jJ6 (by rw[hn];exact jK5 rfl)];rfl
    ·rw[jJ5 (fun h=>hn h.2),jJ5 (fun h=>hn (by simpa using h))]
  ·unfold jHh yV Qk;rw[(Bool.not_eq_true _).mp Gk,Bool.false_and,Bool.false_and,jJ5 (show¬(false:Bool)=true by decide),jJ5];rintro ⟨h1,_⟩;obtain⟨_,h2⟩:=YJ _ _ _ _ h1;obtain⟨c,I⟩:=XT _ _ _ h2 (jKJ t);rw[Nat.zero_add]at I;exact Gk (Qf I)
 ·unfold jHh yV Qk;rw[(Bool.not_eq_true _).mp Gr,Bool.and_false,Bool.false_and,jJ5 (show¬(false:Bool)=true by decide),jJ5];rintro ⟨h1,_⟩;exact Gr (jDa (YJ _ _ _ _ h1).1)
structure Ext(o:Nat)(t t' :Tre)(X:List Nd)(P:List Stp)(A:List Atr)(jG9:List Stg)(M:List Mil):Prop where
 e:t' =⟨t.name,t.at_,t.ats,t.nodes++X,t.steps++P,t.attrs++A,t.stages++jG9,t.miles++M⟩
 p:∀x∈P,(o:Int)<=x.order
 a:∀x∈A,(o:Int)<=x.order
 g:∀x∈jG9,(o:Int)<=x.order
 m:∀x∈M,(o:Int)<=x.order
theorem jHc(d:Dcl)(o:Nat)(t:Tre):∃X P A jG9 M,Ext o t (d.add o t) X P A jG9 M:=by
 cases d with
 |attr nm opt kind d w=>exact⟨_,[],[_],[],[],by simp only[jN7];rfl,by simp,by simp,by simp,by simp⟩
 |stage nm inn op c=>exact⟨_,[],[],[_],[],by simp only[jN7];rfl,by simp,by simp,by simp,by simp⟩
 |mile nm inn w=>exact⟨_,[],[],[],[_],by simp only[jN7];rfl,by simp,by simp,by simp,by simp⟩
 |step nm ps inn w es=>exact⟨_,[_],[],[],[],by simp only[jN7];rfl,by simp,by simp,by simp,by simp⟩
theorem xP:∀(D:List Dcl) (o:Nat) (t:Tre),∃X P A jG9 M,Ext o t (vR D o t) X P A jG9 M
 |[],o,t=>⟨[],[],[],[],[],by simp[vR],by simp,by simp,by simp,by simp⟩
 |d::D,o,t=>by
  obtain⟨X,P,A,jG9,M,e,p,a,g,m⟩:=jHc d o t;obtain⟨X2,P2,A2,G2,M2,e2,p2,a2,g2,m2⟩:=xP D (o+1) (d.add o t);refine⟨X++X2,P++P2,A++A2,jG9++G2,M++M2,?_,?_,?_,?_,?_⟩
  ·show vR D (o+1) (d.add o t)=_;rw[e2,e];simp only[jK1]
  ·intro x hx;rcases jM6 hx with h|h;exact p x h;have:=p2 x h;omega
  ·intro x hx;rcases jM6 hx with h|h;exact a x h;have:=a2 x h;omega
  ·intro x hx;rcases jM6 hx with h|h;exact g x h;have:=g2 x h;omega
  ·intro x hx;rcases jM6 hx with h|h;exact m x h;have:=m2 x h;omega
theorem uo(d:Dcl)(o:Nat)(t:Tre):(d.add o t).count=t.count+1:=by
 cases d<;>simp[Dcl.add,Tre.count]<;>omega
theorem um:∀(D:List Dcl) (o:Nat) (t:Tre),(vR D o t).count=t.count+D.length
 |[],_,_=>rfl
 |d::D,o,t=>by
  rw[vR,um D,uo,jK6];omega
theorem xb(t:Tre):t.str.count=t.count:=by simp[Tre.str,Tre.count]
theorem ZJ{α:Type}{f:α->α}{L X Y:List α}{a:α}(h:L.map f=X++a::Y):∃a',L[X.length]? =some a' /\f a' =a:=by
 have h1:(L.map f)[X.length]? =some a:=by rw[h];simp
 rw[jM1]at h1;exact jM4 h1
theorem Ju{α:Type}{f:α->α}{ord:α->Int}(hf:∀x,ord (f x)=ord x){L X Y:List α}{o:Nat}(h:L.map f=X++Y)(hy:∀y∈Y,((o+1:Nat):Int)<=ord y):zd (L.map ord) X.length o=false:=by
 unfold zd;refine jK3 fun e=> ?_;have h1:L.map ord=(X++Y).map ord:=by
  rw[<-h,List.map_map];exact List.map_congr_left fun x _=>(hf x).symm
 rw[h1,jN3,List.getElem?_append_right (by rw[jK7];exact jL3 _),jK7,Nat.sub_self]at e;cases Y with
 |nil=>cases e
 |cons y Y=>
  simp only[List.map_cons,List.getElem?_cons_zero,Option.some.injEq]at e;have:=hy y (List.mem_cons_self ..);omega
theorem xH{α:Type}{f:α->α}{ord:α->Int}(hf:∀x,ord (f x)=ord x){L X Y:List α}{a:α}{o:Nat}(h:L.map f=X++a::Y)(ha:ord a=(o:Int)):zd (L.map ord) X.length o=true:=by
 obtain⟨a',h1,h2⟩:=ZJ h;unfold zd;refine jK5 ?_;rw[jM1,h1,Option.map_some,<-ha,<-h2,hf]
structure Wy(T:List Tok)(u:Nat)(s:Wr9):Prop where
 ok:s.ok=true
 used:s.used=u
 b:Wc T s.b
theorem Wy.ws{T:List Tok}{u:Nat}{s:Wr9}(h:Wy T u s):Ws T u s:=⟨h.ok,h.used,.inr h.b⟩
theorem Wx.nl{T:List Tok}{u:Nat}{s:Wr9}(h:Wx T u s):Wy T u s.nl:=⟨h.ok,h.used,h.b.nl⟩
def mg(t:Tre):Mg9:=⟨t.attrs.length,t.stages.length,t.miles.length,t.steps.length⟩
theorem jHB{ns X l Y:List Nd}(h:ns=X++(l++Y)):Here ns l X.length:=fun i n hi=>by
 rw[h,List.getElem?_append_right (by omega),Nat.add_sub_cancel_left,List.getElem?_append_left (jM5 hi).1];exact hi
theorem jEp(d:Dcl)(b:Nat):(d.nodes b).length=(match d with| .attr _ _ _ d w=>d.size+w.size| .stage _ _ o c=>o.size+c.size| .mile _ _ w=>w.size| .step _ _ _ w es=>w.size+efZ es):=by
 cases d<;>simp[Dcl.nodes,Exp9.lay_len,jCg]
theorem VE(d:Dcl)(o:Nat)(t:Tre):(d.add o t).nodes=t.nodes++d.nodes t.nodes.length:=by cases d<;>rfl
theorem turn(T:Tre)(d:Dcl)(D:List Dcl)(o:Nat)(t:Tre)(hd:d.ok)(h:T.str=vR D (o+1) (d.add o t)){s:Wr9}{K:List Tok}(hs:Ws K t.nodes.length s):
  ∃q,VV T (mg t) o=some q/\(mg t).go q.1=mg (d.add o t)/\Wx (K++VS d.items) (d.add o t).nodes.length (jGB T q s):=by
 obtain⟨X,P,A,jG9,M,e,hp,ha,hg,hm⟩:=xP D (o+1) (d.add o t);rw[e]at h;have hN:T.nodes=(d.add o t).nodes++X:=congrArg Tre.nodes h;have hA:T.attrs.map Atr.str=(d.add o t).attrs++A:=congrArg Tre.attrs h;have hG:T.stages.map Stg.str=(d.add o t).stages++jG9:=congrArg Tre.stages h;have hM:T.miles.map Mil.str=(d.add o t).miles++M:=congrArg Tre.miles h;have hP:T.steps.map Stp.str=(d.add o t).steps++P:=congrArg Tre.steps h;have hH:Here T.nodes (d.nodes t.nodes.length) t.nodes.length:=by
  rw[VE,jK1]at hN;exact jHB hN
 have hlen:(d.add o t).nodes.length=t.nodes.length+(d.nodes t.nodes.length).length:=(by rw[VE,jJ4]);rw[hlen,jEp];unfold VV jGB;cases d with
 |attr nm opt kind d w=>
  have hA:T.attrs.map Atr.str=t.attrs++⟨⟨nm.toArray⟩,0,(o:Int),opt,(kind:Int),d.at_ t.nodes.length,w.at_ (t.nodes.length+d.size)⟩::A:=by rw[hA];simp[Dcl.add]
  obtain⟨a,h1,h2⟩:=ZJ hA;refine⟨(1,t.attrs.length),by rw[jJ6 (show zd (T.attrs.map Atr.order) (mg t).a o=true from xH (f:=Atr.str) (fun _=>rfl) hA rfl)];rfl,by simp[mg,Mg9.go,Dcl.add],?_⟩;simp only[if_true,h1];exact jID hs hd hH (congrArg Atr.name h2) (congrArg Atr.opt h2) (congrArg Atr.kind h2) (congrArg Atr.dflt h2) (congrArg Atr.when_ h2)
 |stage nm inn op c=>
  have hG:T.stages.map Stg.str=t.stages++⟨⟨nm.toArray⟩,0,(o:Int),⟨inn.toArray⟩,0,op.at_ t.nodes.length,c.at_ (t.nodes.length+op.size)⟩::jG9:=by rw[hG];simp[Dcl.add]
  obtain⟨a,h1,h2⟩:=ZJ hG;have m1:zd (T.attrs.map Atr.order) t.attrs.length o=false:=Ju (f:=Atr.str) (fun _=>rfl) (X:=t.attrs) hA ha;refine⟨(2,t.stages.length),by rw[jJ5 (by rw[show(mg t).a=t.attrs.length from rfl,m1];decide),jJ6 (show zd (T.stages.map Stg.order) (mg t).s o=true from xH (f:=Stg.str) (fun _=>rfl) hG rfl)];rfl,by simp[mg,Mg9.go,Dcl.add],?_⟩;simp only[Int.reduceEq,if_true,if_false,h1];exact jGN hs hd hH (congrArg Stg.name h2) (congrArg Stg.in_ h2) (congrArg Stg.opens h2) (congrArg Stg.closes h2)
 |mile nm inn w=>
  have hM:T.miles.map Mil.str=t.miles++⟨⟨nm.toArray⟩,0,(o:Int),⟨inn.toArray⟩,0,w.root t.nodes.length⟩::M:=by rw[hM];simp[Dcl.add]
  obtain⟨a,h1,h2⟩:=ZJ hM;have m1:zd (T.attrs.map Atr.order) t.attrs.length o=false:=Ju (f:=Atr.str) (fun _=>rfl) (X:=t.attrs) hA ha;have m2:zd (T.stages.map Stg.order) t.stages.length o=false:=Ju (f:=Stg.str) (fun _=>rfl) (X:=t.stages) hG hg;refine⟨(3,t.miles.length),by rw[jJ5 (by rw[show(mg t).a=t.attrs.length from rfl,m1];decide),jJ5 (by rw[show(mg t).s=t.stages.length from rfl,m2];decide),jJ6 (show zd (T.miles.map Mil.order) (mg t).m o=true from xH (f:=Mil.str) (fun _=>rfl) hM rfl)];rfl,by simp[mg,Mg9.go,Dcl.add],?_⟩;simp only[Int.reduceEq,if_true,if_false,h1];exact jIC hs hd hH (congrArg Mil.name h2) (congrArg Mil.in_ h2) (congrArg Mil.when_ h2)
 |step nm ps inn w es=>
  have hP:T.steps.map Stp.str=t.steps++⟨⟨nm.toArray⟩,0,(o:Int),ps.map jDs,⟨inn.toArray⟩,0,w.at_ t.nodes.length,efT es (t.nodes.length+w.size)⟩::P:=by rw[hP];simp[Dcl.add]
  obtain⟨a,h1,h2⟩:=ZJ hP;have m1:zd (T.attrs.map Atr.order) t.attrs.length o=false:=Ju (f:=Atr.str) (fun _=>rfl) (X:=t.attrs) hA ha;have m2:zd (T.stages.map Stg.order) t.stages.length o=false:=Ju (f:=Stg.str) (fun _=>rfl) (X:=t.stages) hG hg;have m3:zd (T.miles.map Mil.order) t.miles.length o=false:=Ju (f:=Mil.str) (fun _=>rfl) (X:=t.miles) hM hm;refine⟨(4,t.steps.length),by rw[jJ5 (by rw[show(mg t).a=t.attrs.length from rfl,m1];decide),jJ5 (by rw[show(mg t).s=t.stages.length from rfl,m2];decide),jJ5 (by rw[show(mg t).m=t.miles.length from rfl,m3];decide),jJ6 (show zd (T.steps.map Stp.order) (mg t).p o=true from xH (f:=Stp.str) (fun _=>rfl) hP rfl)];rfl,by simp[mg,Mg9.go,Dcl.add],?_⟩;simp only[Int.reduceEq,if_false,h1];exact jIB hs hd hH (congrArg Stp.name h2) (congrArg Stp.in_ h2) (congrArg Stp.params h2) (congrArg Stp.when_ h2) (congrArg Stp.effects h2)
theorem Xl(T:Tre):∀(D:List Dcl) (o:Nat) (t:Tre) (s:Wr9) (K:List Tok),(∀d∈D,d.ok)->T.str=vR D o t->Wy K t.nodes.length s->Wy (K++VS (D.flatMap Dcl.items)) T.nodes.length (KG T D.length o (mg t) s)
 |[],o,t,s,K,_,h,hs=>by
  have h:T.str=t:=h;have e:T.str.nodes=t.nodes:=congrArg Tre.nodes h;have e:T.nodes=t.nodes:=e;rw[e];show Wy (K++[]) _ s;rw[jN7];exact hs
 |d::D,o,t,s,K,ho,h,hs=>by
  obtain⟨q,h1,h2,h3⟩:=turn T d D o t (ho d (List.mem_cons_self ..)) h hs.ws;have ih:=Xl T D (o+1) (d.add o t) _ _ (fun x hx=>ho x (jN1 _ hx)) h h3.nl;rw[jK6,KG,jJ6 hs.ok,h1];simp only;rw[h2,jL9,vY,<-jK1];exact ih
theorem QL{T:Tre}{nm:LB}{D:List Dcl}(FS:jQ nm=true)(ho:∀d∈D,d.ok)(h:T.str=jAX nm D):∃P,yV T=some (bz P)/\P.map (·.1)=VS (JF nm D)/\jI7 P:=by
 rw[<-jBU];have h0:Ws [] 0 (⟨true,0,[]⟩:Wr9):=⟨rfl,rfl,Wb.start⟩;have Rn:T.name=⟨nm.toArray⟩:=by
  obtain⟨X,P,A,jG9,M,e,_⟩:=xP D 0 ⟨⟨nm.toArray⟩,0,[],[],[],[],[],[]⟩;have h1:T.str=vR D 0 ⟨⟨nm.toArray⟩,0,[],[],[],[],[],[]⟩:=h;rw[e]at h1;exact congrArg Tre.name h1
 have Pd:T.count=D.length:=by
  rw[<-xb,h,jAX,um];simp[Tre.count]
 have LR:Wy [(23,jO 23),(1,nm),(4,jO 4)] 0 (KT T):=by
  have q:=((((h0.kw 23 (by decide)).ws.nm FS).ws).kw 4 (by decide)).nl;unfold KT;rw[Rn];exact q
 have FG:=Xl T D 0 ⟨⟨nm.toArray⟩,0,[],[],[],[],[],[]⟩ (KT T) _ ho h LR;have he:jDF T=KG T D.length 0 (mg ⟨⟨nm.toArray⟩,0,[],[],[],[],[],[]⟩) (KT T):=by
  unfold jDF;rw[Pd];rfl
 rw[<-he]at FG;obtain⟨P,e1,e2,e3,_⟩:=FG.b;refine⟨P++[((5,[125]),10)],?_,?_,?_⟩
 ·unfold jHh;rw[jJ6 ⟨FG.ok,FG.used⟩,e1]
  congr 1
  unfold bz;simp[List.flatMap_append]
 ·rw[jN3,<-e2];simp[JF,kn,vY,JR,KY,kQ,jO,signL]
 ·intro p hp;rcases jM6 hp with h|h
  ·exact e3 p h
  ·rw[jM7 h];exact .inr rfl
inductive Row:LB->Prop
 |nil:Row []
 |bl {c:UInt8} {r:LB}:kL c=true->Row r->Row (c::r)
 |com {c:UInt8} {x r:LB}:c.toNat=35->(x.all fun d=> !lfC d)=true->Row (10::r)->Row (c::(x++10::r))
theorem XO:∀(x:LB) (Y:LB),(x.all fun d=> !lfC d)=true->jN true (x++10::Y)=x.length+jN false (10::Y)
 |[],Y,_=>by
  rw[jN8,jN,jJ6 (by decide),jN,jJ6 (by decide),jN2,Nat.zero_add]
 |d::x,Y,h=>by
  rw[List.all_cons,Bool.and_eq_true]at h;have hd:lfC d=false:=(by simpa using h.1);rw[jN6,jN,jJ5 (by rw[hd];decide),XO x Y h.2,jK6];omega
theorem Row.skips{r:LB}(h:Row r):∀X,jN false (r++X)=r.length+jN false X:=by
 induction h with
 |nil=>intro X;simp
 | @bl c r hc _ ih=>
  intro X;rw[jN6,jN,jJ6 hc,ih,jK6];omega
 | @com c x r hc hx _ ih=>
  intro X;have hb:kL c=false:=by unfold kL;rw[jK3 (by omega)]
  have e:c::(x++10::r)++X=c::(x++10::(r++X)):=(by simp);rw[e,jN,jJ5 (by rw[hb];decide),jJ6 hc,XO x _ hx,<-jN6,ih];simp only[jK6,jJ4];omega
def Jc(r:LB):Prop:=Row r/\∃c l,r=c::l/\jS c=false/\c≠61
inductive Fine:Tok->Prop
 |word {w:LB}:w≠ []->w.all jS=true->vH w=true->Fine (jj w,w)
 |sign {t:Nat}:4<=t->t<23->Fine (t,jO t)
 |text {s:LB}:Fine (3,ji s)
def sz(Q:List (Tok×LB)):LB:=Q.flatMap fun p=>p.1.2++p.2
theorem YZ:∀(w:LB) (c:UInt8) (l:LB),w.all jS=true->jS c=false->(w++c::l).takeWhile jS=w
 |[],c,l,_,hc=>by rw[jN8,List.takeWhile_cons,jJ5 (by rw[hc];decide)]
 |a::w,c,l,h,hc=>by
  rw[List.all_cons,Bool.and_eq_true]at h;rw[jN6,List.takeWhile_cons,jJ6 h.1,YZ w c l h.2 hc]
theorem Zn:∀t:Fin 19,((∃c,jO (4+t.val)=[c])\/∃c,jO (4+t.val)=[c,61])/\jS ((jO (4+t.val)).headD 0)=false/\kL ((jO (4+t.val)).headD 0)=false/\((jO (4+t.val)).headD 0).toNat≠34/\((jO (4+t.val)).headD 0).toNat≠35/\jc (jO (4+t.val))=4+t.val:=by
 intro t;have h2:∀t:Fin 19,jS ((jO (4+t.val)).headD 0)=false/\kL ((jO (4+t.val)).headD 0)=false/\((jO (4+t.val)).headD 0).toNat≠34/\((jO (4+t.val)).headD 0).toNat≠35/\jc (jO (4+t.val))=4+t.val:=(by decide+kernel);have h3:∀t:Fin 19,(jO (4+t.val)).length=1\/((jO (4+t.val)).length=2/\(jO (4+t.val)).getD 1 0=61):=(by decide+kernel);refine⟨?_,h2 t⟩;rcases h3 t with h|⟨h,h1⟩
 ·obtain⟨c,hc⟩:=List.length_eq_one_iff.1 h;exact .inl ⟨c,hc⟩
 ·cases hc:jO (4+t.val)with
  |nil=>rw[hc]at h;cases h
  |cons c q=>
   rw[hc]at h h1;cases q with
   |nil=>cases h
   |cons d q=>
    have hq:q=[]:=List.length_eq_zero_iff.1 (by simpa using h);have:d=61:=h1;exact .inr ⟨c,by rw[hq,this]⟩
theorem Vq:∀(s:LB) (Y:LB),strLen (s.flatMap jz++34::Y)=some ((s.flatMap jz).length+1)
 |[],Y=>by rw[List.flatMap_nil,jN8,QJ _ _ (by decide)];rfl
 |c::s,Y=>by
  have ih:=Vq s Y;rw[jL9,jK1,jJ4];generalize s.flatMap jz=q at ih⊢;unfold jz;by_cases e1:c.toNat=34\/c.toNat=92
  ·rw[jJ6 e1];show strLen (92::c::(q++34::Y))=_;rw[Yk _ _ _ (by decide),ih];simp only[Option.map_some,jK6,jN2]
   congr 1
   omega
  rw[jJ5 e1];by_cases e2:c.toNat=10
  ·rw[jJ6 e2];show strLen (92::110::(q++34::Y))=_;rw[Yk _ _ _ (by decide),ih];simp only[Option.map_some,jK6,jN2]
   congr 1
   omega
  rw[jJ5 e2];by_cases e3:c.toNat=9
  ·rw[jJ6 e3];show strLen (92::116::(q++34::Y))=_;rw[Yk _ _ _ (by decide),ih];simp only[Option.map_some,jK6,jN2]
   congr 1
   omega
  rw[jJ5 e3];by_cases e4:c.toNat<32\/126<c.toNat
  ·rw[jJ6 e4];have hx:∀n:Fin 16,(KM n.val).toNat≠34/\(KM n.val).toNat≠92:=(by decide+kernel);have hlt:=c.toNat_lt;obtain⟨a1,a2⟩:=hx ⟨c.toNat/16,by omega⟩;obtain⟨b1,b2⟩:=hx ⟨c.toNat% 16,Nat.mod_lt _ (by decide)⟩;show strLen (92::120::KM (c.toNat/16)::KM (c.toNat% 16)::(q++34::Y))=_;rw[Yk _ _ _ (by decide),zo _ _ a1 a2,zo _ _ b1 b2,ih];simp only[Option.map_some,jK6,jN2]
   congr 1
   omega
  ·rw[jJ5 e4];show strLen (c::(q++34::Y))=_;rw[zo _ _ (by omega) (by omega),ih];simp only[Option.map_some,jK6,jN2]
   congr 1
   omega
theorem Vp:∀(s:LB) (Y:LB) (k:Nat),jr (s.flatMap jz++34::Y) k 4=.shut (k+(s.flatMap jz).length+1)
 |[],Y,k=>by rw[List.flatMap_nil,jN8,jr,jJ6 rfl,jJ6 (by decide)];rfl
 |c::s,Y,k=>by
  have ih:=Vp s Y;rw[jL9,jK1,jJ4];generalize s.flatMap jz=q at ih⊢;have esc:∀(d:UInt8) (k:Nat),(d.toNat=34\/d.toNat=92\/d.toNat=110\/d.toNat=116)->jr (92::d::(q++34::Y)) k 4=.shut (k+(2+q.length)+1):=by
   intro d k hd;rw[jr,jJ6 rfl,jJ5 (by decide),jJ6 (by decide),jr,jJ5 (by decide),jJ6 rfl,jJ5 (by omega),jJ6 hd,ih]
   congr 1
   omega
  unfold jz;by_cases e1:c.toNat=34\/c.toNat=92
  ·rw[jJ6 e1];exact esc c k (by omega)
  rw[jJ5 e1];by_cases e2:c.toNat=10
  ·rw[jJ6 e2];exact esc 110 k (by decide)
  rw[jJ5 e2];by_cases e3:c.toNat=9
  ·rw[jJ6 e3];exact esc 116 k (by decide)
  rw[jJ5 e3];by_cases e4:c.toNat<32\/126<c.toNat
  ·rw[jJ6 e4];have hlt:=c.toNat_lt;have a1:=(UA (c.toNat/16) (by omega)).1;have b1:=(UA (c.toNat% 16) (Nat.mod_lt _ (by decide))).1;show jr (92::120::KM (c.toNat/16)::KM (c.toNat% 16)::(q++34::Y)) k 4=.shut (k+(4+q.length)+1);rw[jr,jJ6 rfl,jJ5 (by decide),jJ6 (by decide),jr,jJ5 (by decide),jJ6 rfl,jJ6 (by decide),jr,jJ5 (by decide),jJ5 (by decide),jJ5 (by rw[a1];decide),jJ5 (by decide),jr,jJ5 (by decide),jJ5 (by decide),jJ5 (by rw[b1];decide),jJ6 (by decide),ih]
   congr 1
   omega
  ·rw[jJ5 e4];show jr (c::(q++34::Y)) k 4=.shut (k+(1+q.length)+1);rw[jr,jJ6 rfl,jJ5 (by omega),jJ5 (by omega),jJ5 e4,ih]
   congr 1
   omega
section
variable{k:Tok}{r Y:LB}
theorem Fine.lex(h:Fine k)(hr:Jc r):ZB (k.2++(r++Y))=some (k.2.length,k.1)/\jN false (k.2++(r++Y))=0/\0<k.2.length:=by
 obtain⟨_,c,l,rfl,hw,Gm⟩:=hr;cases h with
 | @word w Fa G9 hp=>
  cases w with
  |nil=>exact absurd rfl Fa
  |cons a w=>
   have ha:jS a=true:=by
    rw[List.all_cons,Bool.and_eq_true]at G9;exact G9.1
   have ht:(a::w++(c::l++Y)).takeWhile jS=a::w:=YZ (a::w) c (l++Y) G9 hw;have hb:kL a=false/\a.toNat≠35:=by
    have:∀n:Fin 256,jS (UInt8.ofNat n.val)=true->kL (UInt8.ofNat n.val)=false/\(UInt8.ofNat n.val).toNat≠35:=(by decide+kernel);have h1:=this ⟨a.toNat,a.toNat_lt⟩;simp only[UInt8.ofNat_toNat]at h1;exact h1 ha
   refine⟨?_,?_,by simp⟩
   ·show ZB (a::(w++(c::l++Y)))=_;rw[ZB,jJ6 ha];simp only;rw[show a::(w++(c::l++Y))=a::w++(c::l++Y)from rfl,ht]
   ·show jN false (a::(w++(c::l++Y)))=0;rw[jN,jJ5 (by rw[hb.1];decide),jJ5 hb.2]
 | @sign t h4 GZ=>
  have hs:=Zn ⟨t-4,by omega⟩;simp only[show 4+(t-4)=t by omega]at hs;obtain⟨Tm,b1,b2,b3,b4,b5⟩:=hs;rcases Tm with⟨d,hd⟩|⟨d,hd⟩
  ·simp only[hd,List.headD_cons]at b1 b2 b3 b4 b5⊢;refine⟨?_,?_,by simp⟩
   ·show ZB (d::(c::l++Y))=_;rw[ZB,jJ5 (by rw[show jS d=false from b1];decide),jJ5 b3,jJ5 (fun e=>Gm e.1),b5];rfl
   ·show jN false (d::(c::l++Y))=0;rw[jN,jJ5 (by rw[show kL d=false from b2];decide),jJ5 b4]
  ·simp only[hd,List.headD_cons]at b1 b2 b3 b4 b5⊢;refine⟨?_,?_,by simp⟩
   ·show ZB (d::61::(c::l++Y))=_;rw[ZB,jJ5 (by rw[show jS d=false from b1];decide),jJ5 b3,jJ6 ⟨rfl,by rw[b5];omega⟩,b5];rfl
   ·show jN false (d::61::(c::l++Y))=0;rw[jN,jJ5 (by rw[show kL d=false from b2];decide),jJ5 b4]
 | @text s=>
  have e:ji s++(c::l++Y)=34::(s.flatMap jz++34::(c::l++Y)):=(by simp[ji]);have el:(ji s).length=(s.flatMap jz).length+2:=(by simp[ji]);simp only;rw[e,el];refine⟨?_,?_,by omega⟩
  ·rw[ZB,jJ5 (by decide),jJ6 (by decide),Vq];rfl
  ·rw[jN,jJ5 (by decide),jJ5 (by decide)]
theorem uy{t:Nat}{st st' :List Nat}{f:Nat}(ht:t<58)(hm:kI t st=true)(h:kO t f st=some st'):kO t (st.length+100) st=some st' :=by
 obtain⟨k,hk⟩:=Ya t ht st hm;have h1:=vp t _ (st.length+100) _ _ (by omega) hk;have h2:=vp t f (f+(st.length+100)) _ _ (by omega) h;have h3:=vp t _ (f+(st.length+100)) _ _ (by omega) h1;rw[h2]at h3;rw[h1,jL5 h3]
theorem Fine.step(h:Fine k)(hr:Jc r){m:Mc}{f:Nat}{st' :List Nat}(hJ:k.1<58)(hm:kI k.1 m.stack=true)(ht:kO k.1 f m.stack=some st'):∃m',vh m (k.2++(r++Y))=.ok m' /\m'.stack=st' /\m'.at_=m.at_ +k.2.length:=by
 have Nl:=uy hJ hm ht;obtain⟨Fy,c,l,rfl,hw,Gm⟩:=hr;have L2:=h.lex (r:=c::l) (Y:=Y) ⟨Fy,c,l,rfl,hw,Gm⟩;have tk:∀(m0:Mc) (q:Nat),m0.stack=m.stack->vg k.1 m0 q=.ok {m0 with at_:=q,stack:=st'}:=by
  intro m0 q e;unfold vg;rw[e,Nl]
 cases h with
 | @word w Fa G9 hp=>
  cases w with
  |nil=>exact absurd rfl Fa
  |cons a w=>
   have ha:jS a=true:=by
    rw[List.all_cons,Bool.and_eq_true]at G9;exact G9.1
   have Do:(a::w++(c::l++Y)).takeWhile jS=a::w:=YZ (a::w) c (l++Y) G9 hw;have hb:kL a=false/\a.toNat≠35/\a.toNat≠34:=by
    have:∀n:Fin 256,jS (UInt8.ofNat n.val)=true->kL (UInt8.ofNat n.val)=false/\(UInt8.ofNat n.val).toNat≠35/\(UInt8.ofNat n.val).toNat≠34:=(by decide+kernel);have h1:=this ⟨a.toNat,a.toNat_lt⟩;simp only[UInt8.ofNat_toNat]at h1;exact h1 ha
   refine⟨{{m with from_:=m.at_}with at_:=m.at_ +(a::w).length,stack:=st'},?_,rfl,rfl⟩;show vh m (a::(w++(c::l++Y)))=_;rw[vh,jJ5 (by rw[hb.1];decide),jJ5 hb.2.1,jJ5 hb.2.2,jJ6 ha];unfold vS;simp only;rw[show a::(w++(c::l++Y))=a::w++(c::l++Y)from rfl,Do,jJ6 ⟨by simp,hp,hm⟩];exact tk _ _ rfl
 | @sign t h4 GZ=>
  have hs:=Zn ⟨t-4,by omega⟩;simp only[show 4+(t-4)=t by omega]at hs;obtain⟨Tm,b1,b2,b3,b4,b5⟩:=hs;rcases Tm with⟨d,hd⟩|⟨d,hd⟩
  ·simp only[hd,List.headD_cons]at b1 b2 b3 b4 b5⊢;refine⟨{{m with from_:=m.at_}with at_:=m.at_ +1,stack:=st'},?_,rfl,rfl⟩;show vh m (d::(c::l++Y))=_;rw[vh,jJ5 (by rw[show kL d=false from b2];decide),jJ5 b4,jJ5 b3,jJ5 (by rw[show jS d=false from b1];decide)];unfold vK;simp only[b5];rw[jJ6 ⟨by omega,hm⟩,jJ5 (fun e=>Gm e.2.2)];exact tk _ _ rfl
  ·simp only[hd,List.headD_cons]at b1 b2 b3 b4 b5⊢;refine⟨{{m with from_:=m.at_}with at_:=m.at_ +2,stack:=st'},?_,rfl,rfl⟩;show vh m (d::61::(c::l++Y))=_;rw[vh,jJ5 (by rw[show kL d=false from b2];decide),jJ5 b4,jJ5 b3,jJ5 (by rw[show jS d=false from b1];decide)];unfold vK;simp only[b5];have hm:kI t m.stack=true:=hm;by_cases h1:jc [d]≠0/\kI (jc [d]) m.stack=true
   ·rw[jJ6 h1,jJ6 ⟨by omega,hm,rfl⟩];exact tk _ _ rfl
   ·rw[jJ5 h1,jJ5 (by rw[hm];simp;omega),jJ5 (List.cons_ne_nil _ _),jJ5 (by simp)];exact tk _ _ rfl
 | @text s=>
  have e:ji s++(c::l++Y)=34::(s.flatMap jz++34::(c::l++Y)):=(by simp[ji]);have el:(ji s).length=(s.flatMap jz).length+2:=(by simp[ji]);refine⟨{{m with from_:=m.at_,fin:=0}with at_:=m.at_ +1+(s.flatMap jz).length+1,stack:=st'},?_,rfl,by simp only;rw[el];omega⟩;simp only;rw[e,vh,jJ5 (by decide),jJ5 (by decide),jJ6 (by decide)];unfold vJ;rw[show kI 3 m.stack=true from hm,jJ5 (by decide)];simp only[List.drop_one,List.tail_cons,Vp];exact tk _ _ rfl
end
end Go.Proofs.YtmmjcbbogokmfaaGreatDoor

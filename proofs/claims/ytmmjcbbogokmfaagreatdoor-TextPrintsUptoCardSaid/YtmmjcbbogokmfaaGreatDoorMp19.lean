import Derived.Test.YtmmjcbbogokmfaaGreatDoorMp17
set_option maxRecDepth 100000
set_option maxHeartbeats 25600000
namespace Go.Proofs.YtmmjcbbogokmfaaGreatDoor
open Go.Proofs.Tryz
def Ki(f:Int):Prop:=f=1\/f=2\/f=3\/f=4
def zw(t:Tre)(f:Int):List Int:=if f=1 then t.attrs.map Atr.order else if f=2 then t.stages.map Stg.order else if f=3 then t.miles.map Mil.order else t.steps.map Stp.order
def Mg9.at_(c:Mg9)(f:Int):Nat:=if f=1 then c.a else if f=2 then c.s else if f=3 then c.m else c.p
theorem Mg9.go_at(c:Mg9){f g:Int}(hf:Ki f)(hg:Ki g):(c.go f).at_ g=if g=f then c.at_ f+1 else c.at_ g:=by
 rcases hf with rfl|rfl|rfl|rfl<;>rcases hg with rfl|rfl|rfl|rfl<;>rfl
theorem YQ{t:Tre}{c:Mg9}{i:Nat}{d:Int×Nat}(h:zQ t c i=some d):Ki d.1/\d.2=c.at_ d.1/\(zw t d.1)[d.2]? =some (i:Int):=by
 unfold zQ yd at h;by_cases h1:(t.attrs.map Atr.order)[c.a]? =some (i:Int)
 ·rw[jJ6 (jK5 h1)]at h;injection h with h;subst h;exact⟨.inl rfl,rfl,h1⟩
 rw[jJ5 (show¬decide _=true by rw[decide_eq_true_eq];exact h1)]at h;by_cases h2:(t.stages.map Stg.order)[c.s]? =some (i:Int)
 ·rw[jJ6 (jK5 h2)]at h;injection h with h;subst h;exact⟨.inr (.inl rfl),rfl,h2⟩
 rw[jJ5 (show¬decide _=true by rw[decide_eq_true_eq];exact h2)]at h;by_cases h3:(t.miles.map Mil.order)[c.m]? =some (i:Int)
 ·rw[jJ6 (jK5 h3)]at h;injection h with h;subst h;exact⟨.inr (.inr (.inl rfl)),rfl,h3⟩
 rw[jJ5 (show¬decide _=true by rw[decide_eq_true_eq];exact h3)]at h;by_cases h4:(t.steps.map Stp.order)[c.p]? =some (i:Int)
 ·rw[jJ6 (jK5 h4)]at h;injection h with h;subst h;exact⟨.inr (.inr (.inr rfl)),rfl,h4⟩
 rw[jJ5 (show¬decide _=true by rw[decide_eq_true_eq];exact h4)]at h;cases h
theorem jAu{t:Tre}{c:Mg9}{i:Nat}(h:zQ t c i=none){f:Int}(hf:Ki f):(zw t f)[c.at_ f]? ≠some (i:Int):=by
 intro e;unfold zQ yd at h;rcases hf with rfl|rfl|rfl|rfl
 ·have e:(t.attrs.map Atr.order)[c.a]? =some (i:Int):=e;rw[jJ6 (jK5 e)]at h;cases h
 ·have e:(t.stages.map Stg.order)[c.s]? =some (i:Int):=e;split at h
  ·cases h
  rw[jJ6 (jK5 e)]at h;cases h
 ·have e:(t.miles.map Mil.order)[c.m]? =some (i:Int):=e;split at h
  ·cases h
  split at h
  ·cases h
  rw[jJ6 (jK5 e)]at h;cases h
 ·have e:(t.steps.map Stp.order)[c.p]? =some (i:Int):=e;split at h
  ·cases h
  split at h
  ·cases h
  split at h
  ·cases h
  rw[jJ6 (jK5 e)]at h;cases h
theorem jDI{fam:Int}{i:Nat}{o:Int}{s:LayP}(h:(JX fam i o s).ok=true)(hl: -1<=s.last):∃n:Nat,o=(n:Int)/\(if i=0 then(-1:Int)else s.last)<o/\s.ok=true/\s.l[n]? =some (0,0)/\JX fam i o s=⟨s.l.set n (fam,(i:Int)),o,true⟩:=by
 unfold JX at h⊢;simp only at h⊢;have h0:(-1:Int)<=(if i=0 then-1 else s.last):=by split<;>omega
 generalize (if i=0 then(-1:Int)else s.last)=L at*;by_cases hc:o<=L\/(s.l.length:Int)<=o\/s.l.getD o.toNat (0,0)≠(0,0)
 ·rw[jJ6 hc]at h;cases h
 ·rw[jJ5 hc]at h⊢;have h1:¬(s.l.length:Int)<=o:=fun e=>hc (.inr (.inl e));have h2:s.l.getD o.toNat (0,0)=(0,0):=Classical.not_not.1 fun e=>hc (.inr (.inr e));have h3:¬o<=L:=fun e=>hc (.inl e);have hlt:o.toNat<s.l.length:=(by omega);rw[List.getD_eq_getElem?_getD,jJ9 hlt,Option.getD_some]at h2;exact⟨o.toNat,by omega,by omega,h,by rw[jJ9 hlt,h2],by rw[show s.ok=true from h]⟩
structure LayF(fam:Int)(os:List Int)(i:Nat)(s r:LayP):Prop where
 len:r.l.length=s.l.length
 at_:∀(j:Nat) (o:Int),os[j]? =some o->∃n:Nat,o=(n:Int)/\r.l[n]? =some (fam,((i+j:Nat):Int))
 keep:∀(n:Nat) (d:Int×Int),s.l[n]? =some d->d≠(0,0)->r.l[n]? =some d
 from_:∀(n:Nat) (d:Int×Int),r.l[n]? =some d->s.l[n]? =some d\/∃j,d=(fam,((i+j:Nat):Int))/\os[j]? =some (n:Int)
 inc:os.Pairwise (· < ·)
 low:∀o∈os,(if i=0 then(-1:Int)else s.last)<o
theorem yS{fam:Int}(hf:fam≠0):∀(os:List Int) (i:Nat) (s:LayP),-1<=s.last->(ja fam os i s).ok=true->LayF fam os i s (ja fam os i s)
 |[],i,s,_,_=>⟨rfl,fun j o h=>(by cases h),fun n d h _=>h,fun n d h=>.inl h,.nil,fun o h=>(by cases h)⟩
 |o::os,i,s,hl,h=>by
  have hk:=(vq hf os (i+1) _ (KR hl) h).1;have F:=yS hf os (i+1) _ (KR hl) h;obtain⟨n,rfl,hlt,FY,hz,e⟩:=jDI hk hl;rw[show ja fam ((n:Int)::os) i s=ja fam os (i+1) (JX fam i (n:Int) s)from rfl];rw[e]at F⊢;generalize ja fam os (i+1) ⟨s.l.set n (fam,(i:Int)),(n:Int),true⟩=r at*;have hn:=(jM5 hz).1;have AK:(fam,(i:Int))≠((0:Int),(0:Int)):=fun e=>hf (Prod.mk.inj e).1;have Wr:∀o∈os,(n:Int)<o:=fun o ho=>by
   have:=F.low o ho;rw[jJ5 (Nat.succ_ne_zero i)]at this;exact this
  refine⟨by rw[F.len,List.length_set],fun j o h=> ?_,fun m d h1 h2=> ?_,fun m d h1=> ?_,List.pairwise_cons.2 ⟨Wr,F.inc⟩,fun o ho=> ?_⟩
  ·cases j with
   |zero=>
    injection h with h;subst h;exact⟨n,rfl,F.keep n _ (by rw[List.getElem?_set_self hn];rfl) AK⟩
   |succ j=>
    obtain⟨m,e1,e2⟩:=F.at_ j o h;exact⟨m,e1,by rw[e2];congr 3;omega⟩
  ·refine F.keep m d ?_ h2;show(s.l.set n (fam,(i:Int)))[m]? =some d;rw[List.getElem?_set_ne (fun e=>by subst e;rw[hz]at h1;injection h1 with h1;exact h2 h1.symm)];exact h1
  ·rcases F.from_ m d h1 with h2|⟨j,e1,e2⟩
   ·have h2:(s.l.set n (fam,(i:Int)))[m]? =some d:=h2;by_cases hm:n=m
    ·subst hm;rw[List.getElem?_set_self hn]at h2;injection h2 with h2;exact .inr ⟨0,by rw[<-h2];rfl,rfl⟩
    ·rw[List.getElem?_set_ne hm]at h2;exact .inl h2
   ·exact .inr ⟨j+1,by rw[e1];congr 2;omega,e2⟩
  ·rcases jN4 ho with rfl|ho
   ·exact hlt
   ·have:=Wr o ho;omega
structure Laid9(t:Tre)(l:List (Int×Int)):Prop where
 len:l.length=t.count
 of:∀(i:Nat),i<t.count->∃(f:Int) (k:Nat),Ki f/\l[i]? =some (f,(k:Int))/\(zw t f)[k]? =some (i:Int)
 at_:∀(f:Int) (k:Nat) (o:Int),Ki f->(zw t f)[k]? =some o->∃i:Nat,o=(i:Int)/\l[i]? =some (f,(k:Int))
 inc:∀f,Ki f->(zw t f).Pairwise (· < ·)
theorem Qi{t:Tre}(h:(jv t).ok=true):Laid9 t (jv t).l:=by
 have Gc:=Qh h;unfold jv at h Gc⊢;have l0:(-1:Int)<=(⟨List.replicate t.count (0,0),-1,true⟩:LayP).last:=Int.le_refl _;have hr:∀(n:Nat) (d:Int×Int),(⟨List.replicate t.count (0,0),-1,true⟩:LayP).l[n]? =some d->d=(0,0):=fun n d e=>by
  have:=List.mem_of_getElem? e;exact(List.mem_replicate.1 this).2
 have hlen:(⟨List.replicate t.count (0,0),-1,true⟩:LayP).l.length=t.count:=List.length_replicate;generalize (⟨List.replicate t.count (0,0),-1,true⟩:LayP)=s0 at*;have l1:=kV (fam:=1) (t.attrs.map Atr.order) 0 s0 l0;have l2:=kV (fam:=2) (t.stages.map Stg.order) 0 _ l1;have l3:=kV (fam:=3) (t.miles.map Mil.order) 0 _ l2;have h3:=(vq (by decide) _ _ _ l3 h).1;have h2:=(vq (by decide) _ _ _ l2 h3).1;have h1:=(vq (by decide) _ _ _ l1 h2).1;have F1:=yS (by decide) _ _ _ l0 h1;have F2:=yS (by decide) _ _ _ l1 h2;have F3:=yS (by decide) _ _ _ l2 h3;have F4:=yS (by decide) _ _ _ l3 h;generalize ja 1 (t.attrs.map Atr.order) 0 s0=r1 at*;generalize ja 2 (t.stages.map Stg.order) 0 r1=r2 at*;generalize ja 3 (t.miles.map Mil.order) 0 r2=r3 at*;generalize ja 4 (t.steps.map Stp.order) 0 r3=r4 at*;have nz:∀{f k:Int},f≠0->(f,k)≠((0:Int),(0:Int)):=fun{f k} h e=>h (Prod.mk.inj e).1;refine⟨by rw[F4.len,F3.len,F2.len,F1.len,hlen],fun i hi=> ?_,fun f k o hf ho=> ?_,fun f hf=> ?_⟩
 ·have hl:i<r4.l.length:=by rw[F4.len,F3.len,F2.len,F1.len,hlen];exact hi
  have hd:=jJ9 hl;have Fh:=(Gc _ (jL6 hl)).1;generalize r4.l[i]=d at*;rcases F4.from_ i d hd with q|⟨j,e1,e2⟩
  ·rcases F3.from_ i d q with q|⟨j,e1,e2⟩
   ·rcases F2.from_ i d q with q|⟨j,e1,e2⟩
    ·rcases F1.from_ i d q with q|⟨j,e1,e2⟩
     ·have:=hr i d q;subst this;simp at Fh
     ·exact⟨1,j,.inl rfl,by rw[hd,e1,Nat.zero_add],e2⟩
    ·exact⟨2,j,.inr (.inl rfl),by rw[hd,e1,Nat.zero_add],e2⟩
   ·exact⟨3,j,.inr (.inr (.inl rfl)),by rw[hd,e1,Nat.zero_add],e2⟩
  ·exact⟨4,j,.inr (.inr (.inr rfl)),by rw[hd,e1,Nat.zero_add],e2⟩
 ·rcases hf with rfl|rfl|rfl|rfl
  ·obtain⟨n,e1,e2⟩:=F1.at_ k o ho;rw[Nat.zero_add]at e2;exact⟨n,e1,F4.keep n _ (F3.keep n _ (F2.keep n _ e2 (nz (by decide))) (nz (by decide))) (nz (by decide))⟩
  ·obtain⟨n,e1,e2⟩:=F2.at_ k o ho;rw[Nat.zero_add]at e2;exact⟨n,e1,F4.keep n _ (F3.keep n _ e2 (nz (by decide))) (nz (by decide))⟩
  ·obtain⟨n,e1,e2⟩:=F3.at_ k o ho;rw[Nat.zero_add]at e2;exact⟨n,e1,F4.keep n _ e2 (nz (by decide))⟩
  ·obtain⟨n,e1,e2⟩:=F4.at_ k o ho;rw[Nat.zero_add]at e2;exact⟨n,e1,e2⟩
 ·rcases hf with rfl|rfl|rfl|rfl
  ·exact F1.inc
  ·exact F2.inc
  ·exact F3.inc
  ·exact F4.inc
def Qu(t:Tre)(c:Mg9)(i:Nat):Prop:=∀f,Ki f->∀(k:Nat) (o:Int),(zw t f)[k]? =some o->(k<c.at_ f↔o<(i:Int))
theorem jG4{l:List Int}(h:l.Pairwise (· < ·)){a b:Nat}{x y:Int}(Ml:a<b)(hx:l[a]? =some x)(hy:l[b]? =some y):x<y:=by
 obtain⟨ha,rfl⟩:=jM5 hx;obtain⟨hb,rfl⟩:=jM5 hy;exact List.pairwise_iff_getElem.1 h a b ha hb Ml
theorem jHX{t:Tre}{l:List (Int×Int)}(L:Laid9 t l){c:Mg9}{i:Nat}(hi:i<t.count)(S:Qu t c i):
  ∃(f:Int) (k:Nat),zQ t c i=some (f,k)/\l[i]? =some (f,(k:Int))/\Ki f/\(zw t f)[k]? =some (i:Int)/\Qu t (c.go f) (i+1):=by
 obtain⟨f,k,hf,hd,ho⟩:=L.of i hi;have h1:=S f hf k _ ho;have hk:k=c.at_ f:=by
  rcases Nat.lt_trichotomy k (c.at_ f)with h|h|h
  ·have:=h1.1 h;omega
  ·exact h
  ·exfalso;have hlt:=(jM5 ho).1;have hx:(zw t f)[c.at_ f]? =some ((zw t f)[c.at_ f]'(by omega)):=jJ9 _;have h2:=jG4 (L.inc f hf) h hx ho;have h3:=(S f hf _ _ hx).2 h2;omega
 have FB:zQ t c i=some (f,k):=by
  cases e:zQ t c i with
  |none=>exact absurd (hk▸ho) (jAu e hf)
  |some d=>
   obtain⟨q1,q2,q3⟩:=YQ e;obtain⟨n,e1,e2⟩:=L.at_ d.1 d.2 _ q1 q3;have:i=n:=(by omega);subst this;rw[hd]at e2;injection e2 with e2;obtain⟨e3,e4⟩:=Prod.mk.inj e2;rw[show d=(f,k)from Prod.ext e3.symm (by show d.2=k;omega)]
 refine⟨f,k,FB,hd,hf,ho,fun g hg q o hq=> ?_⟩;have h2:=S g hg q o hq;rw[Mg9.go_at c hf hg];obtain⟨n,rfl,hn⟩:=L.at_ g q o hg hq;by_cases hgf:g=f
 ·subst hgf;rw[jJ6 rfl];constructor
  ·intro h;rcases Nat.lt_or_ge q (c.at_ g)with h3|h3
   ·have:=h2.1 h3;omega
   ·have:q=k:=(by omega);subst this;rw[ho]at hq;injection hq with hq;omega
  ·intro h;rcases (show(n:Int)<(i:Int)\/(i:Int)<=(n:Int)by omega)with h3|h3
   ·have:=h2.2 h3;omega
   ·have:n=i:=(by omega);subst this;rw[hd]at hn;injection hn with hn;have:=(Prod.mk.inj hn).2;omega
 ·rw[jJ5 hgf];constructor
  ·intro h;have:=h2.1 h;omega
  ·intro h;refine h2.2 ?_;rcases (show(n:Int)<(i:Int)\/(i:Int)<=(n:Int)by omega)with h3|h3
   ·exact h3
   ·exfalso;have:n=i:=(by omega);subst this;rw[hd]at hn;injection hn with hn;exact hgf (Prod.mk.inj hn).1.symm
theorem Qe(t:Tre)(n i:Nat)(c:Mg9){s:Wr9}(h:s.ok=false):JM t n i c s=s:=by
 cases n with
 |zero=>rfl
 |succ n=>rw[JM,jJ5 (by rw[h];decide)]
theorem Zh(t:Tre):(zw t 1).length=t.attrs.length/\(zw t 2).length=t.stages.length/\(zw t 3).length=t.miles.length/\(zw t 4).length=t.steps.length:=
 ⟨jK7 ..,jK7 ..,jK7 ..,jK7 ..⟩
theorem Qd{t:Tre}{l:List (Int×Int)}(L:Laid9 t l):∀(n i:Nat) (c:Mg9) (u:Nat) (b:LB),i+n=t.count->Qu t c i->Met (jw t (l.drop i) u) (yu t (l.drop i) b) (JM t n i c ⟨true,u,b⟩)
 |0,i,c,u,b,hn,S=>by
  rw[List.drop_eq_nil_of_le (by rw[L.len];omega)];exact Met.yes u b
 |n+1,i,c,u,b,hn,S=>by
  obtain⟨f,k,h1,h2,h3,h4,h5⟩:=jHX L (by omega) S;obtain⟨hlt,hd⟩:=jM5 h2;rw[jM9 hlt,hd,jw,yu,JM,jJ6 rfl,h1];have hk:=(jM5 h4).1;have hl:=Zh t;refine(jDg t f k ⟨fun e=> ?_,fun e=> ?_,fun e=> ?_,fun e=> ?_⟩ h3 u b).next (H:=fun s=>JM t n (i+1) (c.go f) s) (fun h=>by rw[Qe t n _ _ h];exact h) (fun nx b1 _=>Qd L n (i+1) (c.go f) nx b1 (by omega) h5)
  ·rw[e]at hk;omega
  ·rw[e]at hk;omega
  ·rw[e]at hk;omega
  ·rw[e]at hk;omega
def jH3(t:Tre):Nat->Nat->Mg9->Prop
 |0,_,_=>True
 |n+1,i,c=>∃d,zQ t c i=some d/\jH3 t n (i+1) (c.go d.1)
theorem Vg{t:Tre}:∀(n i:Nat) (c:Mg9) (s:Wr9),(JM t n i c s).ok=true->s.ok=true/\jH3 t n i c
 |0,_,_,_,h=>⟨h,trivial⟩
 |n+1,i,c,s,h=>by
  rw[JM]at h;by_cases hs:s.ok=true
  ·rw[jJ6 hs]at h;cases e:zQ t c i with
   |none=>
    rw[e]at h;have h1:(false:Bool)=true:=(Vg n (i+1) c _ h).1;cases h1
   |some d=>
    rw[e]at h;exact⟨hs,d,e,(Vg n (i+1) _ _ h).2⟩
  ·rw[jJ5 hs]at h;exact absurd h hs
structure Inv9(t:Tre)(i:Nat)(c:Mg9):Prop where
 has:∀f,Ki f->∀k,k<c.at_ f->∃o:Nat,(zw t f)[k]? =some (o:Int)/\o<i
 inc:∀f,Ki f->∀(a b:Nat) (x y:Int),a<b->b<c.at_ f->(zw t f)[a]? =some x->(zw t f)[b]? =some y->x<y
 one:∀f g,Ki f->Ki g->∀(a b:Nat) (x:Int),a<c.at_ f->b<c.at_ g->(zw t f)[a]? =some x->(zw t g)[b]? =some x->f=g
 sum:c.a+c.s+c.m+c.p=i
theorem jG5(c:Mg9){f:Int}(hf:Ki f):(c.go f).a+(c.go f).s+(c.go f).m+(c.go f).p=c.a+c.s+c.m+c.p+1:=by
 rcases hf with rfl|rfl|rfl|rfl<;>simp[Mg9.go]<;>omega
theorem QC{t:Tre}:∀(n i:Nat) (c:Mg9),jH3 t n i c->Inv9 t i c->∃c',Inv9 t (i+n) c'
 |0,i,c,_,I=>⟨c,I⟩
 |n+1,i,c,⟨d,h1,h2⟩,I=>by
  obtain⟨hf,hk,ho⟩:=YQ h1;obtain⟨f,k⟩:=d;simp only at hf hk ho h2;have lt_of:∀g,Ki g->∀(b:Nat) (x:Int),b<c.at_ g->(zw t g)[b]? =some x->x<(i:Int):=fun g hg b x hb hx=>by
   obtain⟨o,e1,e2⟩:=I.has g hg b hb;rw[hx]at e1;injection e1 with e1;omega
  have old_or:∀g,Ki g->∀b,b<(c.go f).at_ g->b<c.at_ g\/(g=f/\b=k):=fun g hg b hb=>by
   rw[Mg9.go_at c hf hg]at hb;by_cases e:g=f
   ·rw[jJ6 e]at hb;subst e;rcases Nat.lt_or_ge b (c.at_ g)with q|q
    ·exact .inl q
    ·exact .inr ⟨rfl,by omega⟩
   ·rw[jJ5 e]at hb;exact .inl hb
  have I2:Inv9 t (i+1) (c.go f):=by
   refine⟨fun g hg b hb=> ?_,fun g hg a b x y Ml hb hx hy=> ?_,fun g g' hg Y0 a b x ha hb hx hy=> ?_,by rw[jG5 c hf,I.sum]⟩
   ·rcases old_or g hg b hb with q|⟨rfl,rfl⟩
    ·obtain⟨o,e1,e2⟩:=I.has g hg b q;exact⟨o,e1,by omega⟩
    ·exact⟨i,ho,by omega⟩
   ·rcases old_or g hg b hb with q|⟨rfl,rfl⟩
    ·exact I.inc g hg a b x y Ml q hx hy
    ·rw[ho]at hy;injection hy with hy;have:=lt_of g hg a x (by omega) hx;omega
   ·rcases old_or g hg a ha with q|⟨rfl,rfl⟩
    ·rcases old_or g' Y0 b hb with q' |⟨rfl,rfl⟩
     ·exact I.one g g' hg Y0 a b x q q' hx hy
     ·rw[ho]at hy;injection hy with hy;have:=lt_of g hg a x q hx;omega
    ·rcases old_or g' Y0 b hb with q' |⟨rfl,rfl⟩
     ·rw[ho]at hx;injection hx with hx;have:=lt_of g' Y0 b x q' hy;omega
     ·rfl
  obtain⟨c',h3⟩:=QC n (i+1) _ h2 I2;exact⟨c',by rw[show i+(n+1)=i+1+n by omega];exact h3⟩
theorem xJ{fam:Int}:∀(os:List Int) (i:Nat) (s:LayP),s.ok=true->os.Pairwise (· < ·)->(∀o∈os,(if i=0 then(-1:Int)else s.last)<o/\0<=o/\s.l[o.toNat]? =some (0,0))->(ja fam os i s).ok=true/\∀n:Nat,(n:Int)∉os->(ja fam os i s).l[n]? =s.l[n]?
 |[],_,_,h,_,_=>⟨h,fun _ _=>rfl⟩
 |o::os,i,s,h,hp,ha=>by
  obtain⟨SL,WP⟩:=List.pairwise_cons.1 hp;obtain⟨h1,h2,h3⟩:=ha o (List.mem_cons_self ..);have hlt:=(jM5 h3).1;have e:JX fam i o s=⟨s.l.set o.toNat (fam,(i:Int)),o,true⟩:=by
   unfold JX;simp only;rw[jJ5,h];rintro (q|q|q)
   ·omega
   ·omega
   ·rw[List.getD_eq_getElem?_getD,h3]at q;exact q rfl
  rw[show ja fam (o::os) i s=ja fam os (i+1) (JX fam i o s)from rfl,e];obtain⟨k1,k2⟩:=xJ (fam:=fam) os (i+1) ⟨s.l.set o.toNat (fam,(i:Int)),o,true⟩ rfl WP (fun q hq=>by
   obtain⟨_,g2,g3⟩:=ha q (jN1 _ hq);have:=SL q hq;refine⟨by rw[jJ5 (Nat.succ_ne_zero i)];exact this,g2,?_⟩;show(s.l.set o.toNat (fam,(i:Int)))[q.toNat]? =_;rw[List.getElem?_set_ne (by omega)];exact g3)
  refine⟨k1,fun n hn=> ?_⟩;rw[k2 n (fun e=>hn (jN1 _ e))];show(s.l.set o.toNat (fam,(i:Int)))[n]? =_;rw[List.getElem?_set_ne (fun e=>hn (by rw[<-e];rw[Int.toNat_of_nonneg h2];exact List.mem_cons_self ..))]
theorem uV{t:Tre}{c:Mg9}(I:Inv9 t t.count c):(jv t).ok=true:=by
 have hl:=Zh t;have le:∀f,Ki f->c.at_ f<=(zw t f).length:=fun f hf=>by
  rcases Nat.eq_zero_or_pos (c.at_ f)with h|h
  ·omega
  ·obtain⟨o,e1,_⟩:=I.has f hf (c.at_ f-1) (by omega);have:=(jM5 e1).1;omega
 have hs:=I.sum;unfold Tre.count at hs;have a1:c.a<=(zw t 1).length:=le 1 (.inl rfl);have a2:c.s<=(zw t 2).length:=le 2 (.inr (.inl rfl));have a3:c.m<=(zw t 3).length:=le 3 (.inr (.inr (.inl rfl)));have a4:c.p<=(zw t 4).length:=le 4 (.inr (.inr (.inr rfl)));have all:∀f,Ki f->c.at_ f=(zw t f).length:=fun f hf=>by
  rcases hf with rfl|rfl|rfl|rfl
  ·show c.a=_;omega
  ·show c.s=_;omega
  ·show c.m=_;omega
  ·show c.p=_;omega
 have inc:∀f,Ki f->(zw t f).Pairwise (· < ·):=fun f hf=>by
  rw[List.pairwise_iff_getElem];intro a b ha hb Ml;exact I.inc f hf a b _ _ Ml (by rw[all f hf];exact hb) (jJ9 ha) (jJ9 hb)
 have rng:∀f,Ki f->∀o∈zw t f,∃n:Nat,o=(n:Int)/\n<t.count:=fun f hf o ho=>by
  obtain⟨k,hk,rfl⟩:=List.mem_iff_getElem.1 ho;obtain⟨n,e1,e2⟩:=I.has f hf k (by rw[all f hf];exact hk);rw[jJ9 hk]at e1;injection e1 with e1;exact⟨n,e1,e2⟩
 have dis:∀f g,Ki f->Ki g->f≠g->∀o∈zw t f,o∉zw t g:=fun f g hf hg Fh o ho Ay=>by
  obtain⟨a,ha,rfl⟩:=List.mem_iff_getElem.1 ho;obtain⟨b,hb,e⟩:=List.mem_iff_getElem.1 Ay;exact Fh (I.one f g hf hg a b _ (by rw[all f hf];exact ha) (by rw[all g hg];exact hb) (jJ9 ha) (by rw[jJ9 hb,e]))
 unfold jv;have step:∀(f:Int) (s:LayP),Ki f->s.ok=true->(∀o∈zw t f,s.l[o.toNat]? =some (0,0))->(ja f (zw t f) 0 s).ok=true/\∀n:Nat,(n:Int)∉zw t f->(ja f (zw t f) 0 s).l[n]? =s.l[n]? :=fun f s hf h1 h2=>
  xJ (zw t f) 0 s h1 (inc f hf) (fun o ho=>by
   obtain⟨n,e,_⟩:=rng f hf o ho;exact⟨by rw[jJ6 rfl];omega,by omega,h2 o ho⟩)
 have z0:∀f,Ki f->∀o∈zw t f,(⟨List.replicate t.count (0,0),-1,true⟩:LayP).l[o.toNat]? =some (0,0):=fun f hf o ho=>by
  obtain⟨n,rfl,hn⟩:=rng f hf o ho;show(List.replicate t.count ((0:Int),(0:Int)))[(n:Int).toNat]? =_;rw[jL1,List.getElem?_replicate,jJ6 hn]
 have f1:Ki 1:=.inl rfl;have f2:Ki 2:=.inr (.inl rfl);have f3:Ki 3:=.inr (.inr (.inl rfl));have f4:Ki 4:=.inr (.inr (.inr rfl));have cast:∀{f o},Ki f->o∈zw t f->(((o:Int).toNat:Nat):Int)=o:=fun{f o} hf ho=>by
  obtain⟨n,rfl,_⟩:=rng f hf o ho;rfl
 obtain⟨k1,q1⟩:=step 1 _ f1 rfl (z0 1 f1);obtain⟨k2,q2⟩:=step 2 _ f2 k1 (fun o ho=>by
  rw[q1 o.toNat (by rw[cast f2 ho];exact dis 2 1 f2 f1 (by decide) o ho)];exact z0 2 f2 o ho)
 obtain⟨k3,q3⟩:=step 3 _ f3 k2 (fun o ho=>by
  rw[q2 o.toNat (by rw[cast f3 ho];exact dis 3 2 f3 f2 (by decide) o ho),q1 o.toNat (by rw[cast f3 ho];exact dis 3 1 f3 f1 (by decide) o ho)];exact z0 3 f3 o ho)
 obtain⟨k4,_⟩:=step 4 _ f4 k3 (fun o ho=>by
  rw[q3 o.toNat (by rw[cast f4 ho];exact dis 4 3 f4 f3 (by decide) o ho),q2 o.toNat (by rw[cast f4 ho];exact dis 4 2 f4 f2 (by decide) o ho),q1 o.toNat (by rw[cast f4 ho];exact dis 4 1 f4 f1 (by decide) o ho)];exact z0 4 f4 o ho)
 exact k4
theorem UR{t:Tre}(h:jb t.name=true):Yw t=⟨true,0,jT [] [[116,121,112,101],tb t.name,[123]]++[10]⟩:=by
 unfold Yw;rw[show(⟨true,0,[]⟩:Wr9).put [116,121,112,101]=⟨true,0,jI [] [116,121,112,101]⟩from rfl,vm h];rfl
theorem jCa{t:Tre}(h:(Yw t).ok=true):jb t.name=true:=Classical.byContradiction fun h1=>by
 have h2:=yf h1 ((⟨true,0,[]⟩:Wr9).put [116,121,112,101]);have h3:(((⟨true,0,[]⟩:Wr9).put [116,121,112,101]).named t.name).ok=true:=h;rw[h2]at h3;cases h3
theorem jEZ{t:Tre}{l:List (Int×Int)}(L:Laid9 t l):Qu t ⟨0,0,0,0⟩ 0:=fun f hf k o ho=>by
 obtain⟨n,rfl,_⟩:=L.at_ f k o hf ho;have h0:(⟨0,0,0,0⟩:Mg9).at_ f=0:=by unfold Mg9.at_;simp only[ite_self]
 rw[h0];omega
theorem jH6(t:Tre):Inv9 t 0 ⟨0,0,0,0⟩:=by
 have h0:∀f,(⟨0,0,0,0⟩:Mg9).at_ f=0:=fun f=>by unfold Mg9.at_;simp only[ite_self]
 exact⟨fun f _ k hk=>by rw[h0]at hk;omega,fun f _ a b x y Ml hb=>by rw[h0]at hb;omega,fun f g _ _ a b x ha=>by rw[h0]at ha;omega,rfl⟩
theorem jAQ(t:Tre):UD t=vG t:=by
 by_cases GC:jb t.name=true
 ·by_cases FY:(jv t).ok=true
  ·have L:=Qi FY;have M:=Qd L t.count 0 ⟨0,0,0,0⟩ 0 (jT [] [[116,121,112,101],tb t.name,[123]]++[10]) (Nat.zero_add _) (jEZ L);rw[List.drop_zero,<-UR GC]at M;have M:Met (jw t (jv t).l 0) (yu t (jv t).l (jT [] [[116,121,112,101],tb t.name,[123]]++[10])) (xX t):=M;unfold UD vG ua ZR;rw[FY,GC,Bool.true_and,Bool.true_and];cases e:jw t (jv t).l 0 with
   |none=>
    rw[e]at M;rw[jJ5 (fun h=>by rw[M.2 rfl]at h;cases h.1),jJ5 (by simp)]
   |some nx=>
    rw[e]at M;obtain⟨b,e1,e2⟩:=M.1 nx rfl;rw[e1,e2];by_cases hn:nx=t.nodes.length
    ·rw[jJ6 ⟨rfl,hn⟩,jJ6 (by rw[hn];exact jK5 rfl)];rfl
    ·rw[jJ5 (fun h=>hn h.2),jJ5 (fun h=>hn (by simpa using h))]
  ·unfold UD vG ua;rw[(Bool.not_eq_true _).mp FY,Bool.false_and,Bool.false_and,jJ5 (show¬(false:Bool)=true by decide),jJ5];rintro ⟨h1,_⟩;obtain⟨_,h2⟩:=Vg _ _ _ _ h1;obtain⟨c,I⟩:=QC _ _ _ h2 (jH6 t);rw[Nat.zero_add]at I;exact FY (uV I)
 ·unfold UD vG ua;rw[(Bool.not_eq_true _).mp GC,Bool.and_false,Bool.false_and,jJ5 (show¬(false:Bool)=true by decide),jJ5];rintro ⟨h1,_⟩;exact GC (jCa (Vg _ _ _ _ h1).1)
def wtN(n:Nd):Nat:=80+2*n.kids.length+n.name.size+4*n.vt.size
def Vb(ns:List Nd)(k:Nat):Nat:=((ns.take k).map wtN).sum
def zv(ns:List Nd):Nat:=(ns.map wtN).sum
theorem zZ(n:Nd)(ns:List Nd)(k:Nat):Vb (n::ns) (k+1)=wtN n+Vb ns k:=by
 unfold Vb;rw[List.take_succ_cons,List.map_cons,List.sum_cons]
theorem UM(n:Nd)(ns:List Nd):zv (n::ns)=wtN n+zv ns:=by
 unfold zv;rw[List.map_cons,List.sum_cons]
theorem YL:∀(ns:List Nd) (k:Nat),Vb ns k<=zv ns
 |[],k=>by unfold Vb zv;rw[List.take_nil];exact jL3 _
 |n::ns,0=>Nat.zero_le _
 |n::ns,k+1=>by
  rw[zZ,UM];have:=YL ns k;omega
theorem qq:∀(ns:List Nd) (a b:Nat),a<=b->Vb ns a<=Vb ns b
 |[],a,b,_=>by unfold Vb;rw[List.take_nil,List.take_nil];exact jL3 _
 |n::ns,0,b,_=>Nat.zero_le _
 |n::ns,a+1,0,h=>absurd h (Nat.not_succ_le_zero a)
 |n::ns,a+1,b+1,h=>by
  rw[zZ,zZ];have:=qq ns a b (by omega);omega
theorem qp:∀(ns:List Nd) (k:Nat) (n:Nd),ns[k]? =some n->Vb ns (k+1)=Vb ns k+wtN n
 |[],k,n,h=>by cases h
 |m::ns,0,n,h=>by
  injection h with h;rw[zZ,h];exact Nat.add_comm _ _
 |m::ns,k+1,n,h=>by
  rw[zZ,zZ,qp ns k n h];omega
structure Bd9(ns:List Nd)(P L u c:Nat)(s:Wr9):Prop where
 yes:s.ok=true->s.b.length+Vb ns u<=L+Vb ns s.used+c
 no:s.ok=false->s.b.length+Vb ns u<=L+zv ns+P+c
structure KidBd(ns:List Nd)(P:Nat)(g:Int->Nat->Wr9->Wr9):Prop where
 bd:∀k l u b,Bd9 ns P b.length u 0 (g k l ⟨true,u,b⟩)
 bad:∀k l s,s.ok=false->(g k l s).ok=false/\(g k l s).b=s.b
section
variable{ns:List Nd}{P L u c:Nat}{s:Wr9}{g:Int->Nat->Wr9->Wr9}
theorem Bd9.put(h:Bd9 ns P L u c s)(x:LB){d:Nat}(hd:c+1+x.length<=d):Bd9 ns P L u d (s.put x):=by
 have hx:=(jAZ s.b x).2.2;refine⟨fun e=> ?_,fun e=> ?_⟩
 ·have:=h.yes e;show(jI s.b x).length+_ <=L+Vb ns s.used+d;omega
 ·have:=h.no e;show(jI s.b x).length+_ <=_;omega
theorem Bd9.mono(h:Bd9 ns P L u c s){d:Nat}(hd:c<=d):Bd9 ns P L u d s:=
 ⟨fun e=>by have:=h.yes e;omega,fun e=>by have:=h.no e;omega⟩
theorem Bd9.bad(h:Bd9 ns P L u c s):Bd9 ns P L u c s.bad:=by
 refine⟨fun e=>(by cases e),fun _=> ?_⟩;show s.b.length+_ <=_;cases e:s.ok with
 |true=>
  have:=h.yes e;have:=YL ns s.used;omega
 |false=>
  have:=h.no e;omega
theorem Bd9.nl(h:Bd9 ns P L u c s){d:Nat}(hd:c+1<=d):Bd9 ns P L u d s.nl:=by
 have hx:s.nl.b.length=s.b.length+1:=by unfold Wr9.nl;rw[jJ4];rfl
 refine⟨fun e=> ?_,fun e=> ?_⟩
 ·have:=h.yes e;rw[hx];show _ <=L+Vb ns s.used+d;omega
 ·have:=h.no e;rw[hx];omega
theorem Bd9.kid(h:Bd9 ns P L u c s)(K:KidBd ns P g)(k:Int)(l:Nat):Bd9 ns P L u c (g k l s):=by
 cases e:s.ok with
 |false=>
  obtain⟨h1,h2⟩:=K.bad k l s e;refine⟨fun e2=>(by rw[h1]at e2;cases e2),fun _=> ?_⟩;rw[h2];exact h.no e
 |true=>
  have h1:=h.yes e;obtain⟨ok,u',b'⟩:=s;simp only at e h1;subst e;have h2:=K.bd k l u' b';refine⟨fun e2=> ?_,fun e2=> ?_⟩
  ·have:=h2.yes e2;omega
  ·have:=h2.no e2;omega
theorem Bd9.iff_{p:Prop}[Decidable p]{a b:Wr9}(h:Bd9 ns P L u c a)(k:Bd9 ns P L u c b):Bd9 ns P L u c (if p then a else b):=by
 split
 ·exact h
 ·exact k
theorem Bd9.list(K:KidBd ns P g):∀(l:List Int) (i:Nat) (c:Nat) (s:Wr9),Bd9 ns P L u c s->Bd9 ns P L u (c+2*l.length) (ki g l i s)
 |[],_,c,s,h=>h
 |k::l,i,c,s,h=>by
  rw[ki];by_cases e:s.ok=true
  ·rw[jJ6 e];have h1:Bd9 ns P L u (c+2) (if 0<i then s.put [44]else s):=Bd9.iff_ (h.put [44] (by simp)) (h.mono (by omega));have h2:=Bd9.list K l (i+1) (c+2) _ (h1.kid K k 0);refine h2.mono ?_;rw[jK6];omega
  ·rw[jJ5 e];exact h.mono (Nat.le_add_right _ _)
end
theorem Zz:∀(f n:Nat),(xl f n).length<=f
 |0,_=>jL3 _
 |f+1,n=>by
  rw[xl];split
  ·simp
  ·have:=Zz f (n/10);rw[jJ4,List.length_singleton];omega
theorem YK:∀(s:LB),(s.flatMap yQ).length<=4*s.length
 |[]=>jL3 _
 |c::s=>by
  rw[jL9,jJ4,jK6];have:=YK s;have hq:(yQ c).length<=4:=by
   unfold yQ
   repeat' split
   all_goals simp
  omega
theorem ZY(op:Int):(jA op).length<=8:=by
 unfold jA;have h1:∀k,(signL.getD k []).length<=8:=fun k=>by
  by_cases h:k<signL.length
  ·have:∀x∈signL,x.length<=8:=(by decide);rw[List.getD_eq_getElem?_getD,jJ9 h];exact this _ (jL6 h)
  ·rw[List.getD_eq_getElem?_getD,List.getElem?_eq_none (by omega)];exact Nat.zero_le _
 have h2:∀k,(resL.getD k []).length<=9:=fun k=>by
  by_cases h:k<resL.length
  ·have:∀x∈resL,x.length<=9:=(by decide);rw[List.getD_eq_getElem?_getD,jJ9 h];exact this _ (jL6 h)
  ·rw[List.getD_eq_getElem?_getD,List.getElem?_eq_none (by omega)];exact Nat.zero_le _
 by_cases c1:11<=op/\op<=16
 ·rw[jJ6 c1];exact h1 _
 rw[jJ5 c1];by_cases c2:20<=op/\op<=22
 ·rw[jJ6 c2];exact h1 _
 rw[jJ5 c2];by_cases c3:29<=op/\op<=33
 ·rw[jJ6 c3];rcases (show op=29\/op=30\/op=31\/op=32\/op=33 by omega)with e|e|e|e|e<;>(rw[e];decide)
 rw[jJ5 c3]
 repeat' split
 all_goals decide
theorem jBE(k:Int):(YX k).length<=9:=by
 unfold YX;by_cases h:k.toNat+10<resL.length
 ·have:∀x∈resL,x.length<=9:=(by decide);rw[List.getD_eq_getElem?_getD,jJ9 h];exact this _ (jL6 h)
 ·rw[List.getD_eq_getElem?_getD,List.getElem?_eq_none (by omega)];exact Nat.zero_le _
theorem UP(x:BA):(tb x).length=x.size:=by
 unfold tb;rw[Array.length_toList];rfl
section
variable{ns:List Nd}{P L u c:Nat}{s:Wr9}{g:Int->Nat->Wr9->Wr9}
theorem Bd9.core(h:Bd9 ns P L u c s)(K:KidBd ns P g)(n:Nd):Bd9 ns P L u (c+70+2*n.kids.length+n.name.size+4*n.vt.size) (zf g n s):=by
 have hs:=ZY n.op;have Wp:=UP n.name;unfold zf;by_cases c0:n.op=23
 ·rw[jJ6 c0];exact((((((h.put [105,102] (d:=c+3) (by simp)).kid K _ 0).put [116,104,101,110] (d:=c+8) (by simp)).kid K _ 0).put [101,108,115,101] (d:=c+13) (by simp)).kid K _ 0).mono (by omega)
 rw[jJ5 c0];by_cases c1:jD n.op=3\/jD n.op=7
 ·rw[jJ6 c1];exact((h.put (jA n.op) (d:=c+9) (by omega)).kid K _ _).mono (by omega)
 rw[jJ5 c1];by_cases c2:jD n.op<8
 ·rw[jJ6 c2];exact(((h.kid K _ _).put (jA n.op) (d:=c+9) (by omega)).kid K _ _).mono (by omega)
 rw[jJ5 c2];unfold kK;by_cases o1:n.op=1
 ·rw[jJ6 o1];have:=Zz 20 n.vn.toNat;exact h.put _ (by show c+1+(xl 20 n.vn.toNat).length<=_;omega)
 rw[jJ5 o1];by_cases o2:n.op=2
 ·rw[jJ6 o2];refine h.put _ ?_;have:(if n.vn=1 then [116,114,117,101]else [102,97,108,115,101]:LB).length<=5:=by split<;>decide
  omega
 rw[jJ5 o2];by_cases o3:n.op=3
 ·rw[jJ6 o3];refine h.put _ ?_;have h1:=YK (tb n.vt);rw[UP]at h1;unfold kw;rw[jK6,jJ4,List.length_singleton];omega
 rw[jJ5 o3];by_cases o4:n.op=4
 ·rw[jJ6 o4];exact h.put _ (by simp;omega)
 rw[jJ5 o4];by_cases o5:n.op=5
 ·rw[jJ6 o5];exact h.put _ (by omega)
 rw[jJ5 o5];by_cases o6:n.op=6
 ·rw[jJ6 o6];have h1:=h.put [123] (d:=c+2) (by simp);have h2:Bd9 ns P L u (c+3+n.name.size) (if n.name.size=0 then s.put [123]else(s.put [123]).put (tb n.name)):=Bd9.iff_ (h1.mono (by omega)) (h1.put _ (by omega));exact(Bd9.list K n.kids 0 _ _ h2).put [125] (by simp;omega)
 rw[jJ5 o6];have h1:=(h.put (jA n.op) (d:=c+9) (by omega)).put [40] (d:=c+11) (by simp);have h2:Bd9 ns P L u (c+12+n.name.size) (if n.name.size=0 then(s.put (jA n.op)).put [40]else((s.put (jA n.op)).put [40]).put (tb n.name)):=Bd9.iff_ (h1.mono (by omega)) (h1.put _ (by omega));exact(Bd9.list K n.kids 0 _ _ h2).put [41] (by simp;omega)
end
theorem jAf(ns:List Nd):∀(f:Nat) (root below:Int) (least u:Nat) (b:LB) (P:Nat),Vb ns below.toNat<=P->Bd9 ns P b.length u 0 (jU ns f root below least ⟨true,u,b⟩)
 |0,root,below,least,u,b,P,hP=>Bd9.bad (s:=⟨true,u,b⟩) ⟨fun _=>jL3 _,fun e=>by cases e⟩
 |f+1,root,below,least,u,b,P,hP=>by
  have h0:Bd9 ns P b.length u 0 ⟨true,u,b⟩:=⟨fun _=>jL3 _,fun e=>by cases e⟩;rw[jU];by_cases hg:(⟨true,u,b⟩:Wr9).ok=true/\0<=root/\root<below
  ·rw[jJ6 hg];cases hn:ns[root.toNat]? with
   |none=>exact h0.bad
   |some n=>
    simp only;by_cases hr:jK n=true
    ·rw[jJ6 hr];have K:KidBd ns (Vb ns root.toNat) (fun k l s=>jU ns f k root l s):=⟨fun k l u b=>jAf ns f k root l u b _ (jL3 _),fun k l s h=>by
      cases f with
      |zero=>exact⟨rfl,rfl⟩
      |succ f=>rw[jU,jJ5 (fun e=>by rw[h]at e;cases e.1)];exact⟨rfl,rfl⟩⟩
     have hs:=qp ns root.toNat n hn;have Fa:Vb ns (root.toNat+1)<=P:=jL4 (qq ns _ _ (by omega)) hP;have h1:Bd9 ns (Vb ns root.toNat) b.length u 0 ⟨true,u,b⟩:=⟨fun _=>jL3 _,fun e=>by cases e⟩;unfold Zk;have h2:Bd9 ns (Vb ns root.toNat) b.length u 2 (if jD n.op<least then(⟨true,u,b⟩:Wr9).put [40]else⟨true,u,b⟩):=Bd9.iff_ (h1.put [40] (by simp)) (h1.mono (by omega));have h3:=h2.core K n;have h4:Bd9 ns (Vb ns root.toNat) b.length u (wtN n) (if jD n.op<least then(zf (fun k l s=>jU ns f k root l s) n (if jD n.op<least then(⟨true,u,b⟩:Wr9).put [40]else⟨true,u,b⟩)).put [41]else zf (fun k l s=>jU ns f k root l s) n (if jD n.op<least then(⟨true,u,b⟩:Wr9).put [40]else⟨true,u,b⟩)):=by
      refine Bd9.iff_ (h3.put [41] ?_) (h3.mono ?_)
      ·unfold wtN;rw[List.length_singleton];omega
      ·unfold wtN;omega
     simp only;generalize (if jD n.op<least then(zf (fun k l s=>jU ns f k root l s) n (if jD n.op<least then(⟨true,u,b⟩:Wr9).put [40]else⟨true,u,b⟩)).put [41]else zf (fun k l s=>jU ns f k root l s) n (if jD n.op<least then(⟨true,u,b⟩:Wr9).put [40]else⟨true,u,b⟩))=s2 at h4;refine⟨fun e=> ?_,fun e=> ?_⟩
     ·have e:(s2.ok&&decide (root=(s2.used:Int)))=true:=e;rw[Bool.and_eq_true,decide_eq_true_eq]at e;have h5:=h4.yes e.1;have e2:s2.used=root.toNat:=(by omega);show s2.b.length+Vb ns u<=b.length+Vb ns (s2.used+1)+0;rw[e2]at h5⊢;omega
     ·show s2.b.length+Vb ns u<=b.length+zv ns+P+0;cases e1:s2.ok with
      |true=>
       have h5:=h4.yes e1;have:=YL ns s2.used;omega
      |false=>
       have h5:=h4.no e1;omega
    ·rw[jJ5 hr];exact h0.bad
  ·rw[jJ5 hg];exact h0.bad
def wtA(a:Atr):Nat:=80+a.name.size
def wtG(a:Stg):Nat:=80+a.name.size+a.in_.size
def wtM(a:Mil):Nat:=80+a.name.size+a.in_.size
def wtP(p:Prm):Nat:=20+p.name.size
def wtE(e:Eff):Nat:=20+e.name.size
def wtS(a:Stp):Nat:=80+a.name.size+a.in_.size+(a.params.map wtP).sum+(a.effects.map wtE).sum
section
variable{ns:List Nd}{L u c:Nat}{s:Wr9}
theorem Bd9.whole(h:Bd9 ns (zv ns) L u c s)(root:Int):Bd9 ns (zv ns) L u c (jx ns root s):=by
 have K:KidBd ns (zv ns) (fun k _ s=>jx ns k s):=⟨fun k l u b=>jAf ns _ k _ 0 u b _ (YL _ _),fun k l s h=>by
  show(jU ns (ns.length+1) k ns.length 0 s).ok=false/\(jU ns (ns.length+1) k ns.length 0 s).b=s.b;rw[jU,jJ5 (fun e=>by rw[h]at e;cases e.1)];exact⟨rfl,rfl⟩⟩
 exact h.kid K root 0
theorem Bd9.named{P:Nat}(h:Bd9 ns P L u c s)(x:BA){d:Nat}(hd:c+1+x.size<=d):Bd9 ns P L u d (s.named x):=by
 unfold Wr9.named;exact Bd9.iff_ (h.put _ (by rw[UP];exact hd)) (h.bad.mono (by omega))
theorem Bd9.inn{P:Nat}(h:Bd9 ns P L u c s)(x:BA){d:Nat}(hd:c+4+x.size<=d):Bd9 ns P L u d (s.inn x):=by
 unfold Wr9.inn;exact Bd9.iff_ (h.mono (by omega)) ((h.put [105,110] (d:=c+3) (by simp)).named x (by omega))
theorem Bd9.kind{P:Nat}(h:Bd9 ns P L u c s)(k:Int){d:Nat}(hd:c+10<=d):Bd9 ns P L u d (s.kind k):=by
 unfold Wr9.kind;exact Bd9.iff_ (h.put _ (by have:=jBE k;omega)) (h.bad.mono (by omega))
theorem Bd9.attr(h:Bd9 ns (zv ns) L u c s)(a:Atr):Bd9 ns (zv ns) L u (c+wtA a) (QK ns a s):=by
 unfold QK wtA;have h1:=((h.put [97,116,116,114,105,98,117,116,101] (d:=c+10) (by simp)).named a.name (d:=c+11+a.name.size) (by omega)).put [58] (d:=c+13+a.name.size) (by simp;omega);have h2:=(Bd9.iff_ (p:=a.opt=true) (h1.put [111,112,116,105,111,110,97,108] (d:=c+22+a.name.size) (by simp;omega)) (h1.mono (by omega))).kind a.kind (d:=c+32+a.name.size) (by omega);have h3:=Bd9.iff_ (p:=a.dflt= -1) (h2.mono (d:=c+34+a.name.size) (by omega)) ((h2.put [61] (d:=c+34+a.name.size) (by simp;omega)).whole a.dflt);have h4:=Bd9.iff_ (p:=a.when_= -1) (h3.mono (d:=c+39+a.name.size) (by omega)) ((h3.put [119,104,101,110] (d:=c+39+a.name.size) (by simp;omega)).whole a.when_);exact h4.put [59] (by simp;omega)
theorem Bd9.rule(h:Bd9 ns (zv ns) L u c s)(w:LB)(hw:w.length<=6)(root:Int):Bd9 ns (zv ns) L u (c+14) (yx ns w root s):=by
 unfold yx;refine Bd9.iff_ (h.mono (by omega)) ?_;exact(((h.put w (d:=c+7) (by omega)).put [119,104,101,110] (d:=c+12) (by simp)).whole root).put [59] (by simp)
theorem Bd9.stage(h:Bd9 ns (zv ns) L u c s)(a:Stg):Bd9 ns (zv ns) L u (c+wtG a) (XO ns a s):=by
 unfold XO wtG;have h1:=(((h.put [115,116,97,103,101] (d:=c+6) (by simp)).named a.name (d:=c+7+a.name.size) (by omega)).inn a.in_ (d:=c+11+a.name.size+a.in_.size) (by omega)).put [123] (d:=c+13+a.name.size+a.in_.size) (by simp;omega);exact((h1.rule [111,112,101,110,115] (by decide) a.opens).rule [99,108,111,115,101,115] (by decide) a.closes).put [125] (by simp;omega)
theorem Bd9.mile(h:Bd9 ns (zv ns) L u c s)(a:Mil):Bd9 ns (zv ns) L u (c+wtM a) (XN ns a s):=by
 unfold XN wtM;have h1:=((h.put [109,105,108,101,115,116,111,110,101] (d:=c+10) (by simp)).named a.name (d:=c+11+a.name.size) (by omega)).inn a.in_ (d:=c+15+a.name.size+a.in_.size) (by omega);exact(((h1.put [114,101,97,99,104,101,100] (d:=c+23+a.name.size+a.in_.size) (by simp;omega)).put [119,104,101,110] (d:=c+28+a.name.size+a.in_.size) (by simp;omega)).whole a.when_).put [59] (by simp;omega)
theorem Bd9.prms:∀(l:List Prm) (i:Nat) {c:Nat} {s:Wr9},Bd9 ns (zv ns) L u c s->Bd9 ns (zv ns) L u (c+(l.map wtP).sum) (JK l i s)
 |[],_,_,_,h=>h
 |p::l,i,c,s,h=>by
  rw[JK,List.map_cons,List.sum_cons];have h1:=((Bd9.iff_ (p:=0<i) (h.put [44] (d:=c+2) (by simp)) (h.mono (by omega))).named p.name (d:=c+3+p.name.size) (by omega)).put [58] (d:=c+5+p.name.size) (by simp;omega);exact(Bd9.prms l (i+1) (h1.kind p.kind (d:=c+wtP p) (by unfold wtP;omega))).mono (by omega)
theorem Bd9.effs:∀(l:List Eff) {c:Nat} {s:Wr9},Bd9 ns (zv ns) L u c s->Bd9 ns (zv ns) L u (c+(l.map wtE).sum) (zm ns l s)
 |[],_,_,h=>h
 |e::l,c,s,h=>by
  rw[zm,List.map_cons,List.sum_cons];have h1:=(h.put [114,101,111,112,101,110] (d:=c+7) (by simp)).named e.name (d:=c+8+e.name.size) (by omega);have h2:=((h.named e.name (d:=c+1+e.name.size) (by omega)).put [58,61] (d:=c+8+e.name.size) (by simp;omega)).whole e.worth;exact(Bd9.effs l ((Bd9.iff_ (p:=e.worth= -1) h1 h2).put [59] (d:=c+wtE e) (by unfold wtE;simp;omega))).mono (by omega)
theorem Bd9.step(h:Bd9 ns (zv ns) L u c s)(a:Stp):Bd9 ns (zv ns) L u (c+wtS a) (QJ ns a s):=by
 unfold QJ wtS;have h1:=((h.put [115,116,101,112] (d:=c+5) (by simp)).named a.name (d:=c+6+a.name.size) (by omega)).put [40] (d:=c+8+a.name.size) (by simp;omega);have h2:=((Bd9.prms a.params 0 h1).put [41] (d:=c+10+a.name.size+(a.params.map wtP).sum) (by simp;omega)).inn a.in_ (d:=c+14+a.name.size+a.in_.size+(a.params.map wtP).sum) (by omega);have h3:=Bd9.iff_ (p:=a.when_= -1) (h2.mono (d:=c+19+a.name.size+a.in_.size+(a.params.map wtP).sum) (by omega)) ((h2.put [119,104,101,110] (d:=c+19+a.name.size+a.in_.size+(a.params.map wtP).sum) (by simp;omega)).whole a.when_);exact(Bd9.effs a.effects (h3.put [123] (d:=c+21+a.name.size+a.in_.size+(a.params.map wtP).sum) (by simp;omega))).put [125] (by simp;omega)
end
def jED(t:Tre)(c:Mg9):Nat:=((t.attrs.drop c.a).map wtA).sum+((t.stages.drop c.s).map wtG).sum+((t.miles.drop c.m).map wtM).sum+((t.steps.drop c.p).map wtS).sum
theorem Vm{α:Type}(w:α->Nat){l:List α}{k:Nat}{x:α}(h:l[k]? =some x):((l.drop k).map w).sum=w x+((l.drop (k+1)).map w).sum:=by
 obtain⟨hlt,rfl⟩:=jM5 h;rw[jM9 hlt,List.map_cons,List.sum_cons]
theorem uR{t:Tre}{L u:Nat}:∀(n i:Nat) (c:Mg9) (k:Nat) (s:Wr9),Bd9 t.nodes (zv t.nodes) L u k s->Bd9 t.nodes (zv t.nodes) L u (k+jED t c+n) (JM t n i c s)
 |0,_,_,k,s,h=>h.mono (by omega)
 |n+1,i,c,k,s,h=>by
  rw[JM];by_cases hs:s.ok=true
  ·rw[jJ6 hs];cases e:zQ t c i with
   |none=>
    exact(uR n (i+1) c (k+1) _ (h.bad.nl (by omega))).mono (by omega)
   |some d=>
    obtain⟨hf,hk,ho⟩:=YQ e;obtain⟨f,q⟩:=d;simp only at hf hk ho⊢;subst hk;have key:∃w,Bd9 t.nodes (zv t.nodes) L u (k+w) (qg t (f,c.at_ f) s)/\jED t c=w+jED t (c.go f):=by
     unfold qg jED;rcases hf with rfl|rfl|rfl|rfl
     ·have ho:(t.attrs.map Atr.order)[c.a]? =some (i:Int):=ho;rw[jM1]at ho;obtain⟨x,hx,_⟩:=jM4 ho;refine⟨wtA x,?_,?_⟩
      ·have:t.attrs[c.at_ 1]? =some x:=hx;simp only[if_true,this];exact h.attr x
      ·have:=Vm wtA hx;simp only[Mg9.go,if_true];omega
     ·have ho:(t.stages.map Stg.order)[c.s]? =some (i:Int):=ho;rw[jM1]at ho;obtain⟨x,hx,_⟩:=jM4 ho;refine⟨wtG x,?_,?_⟩
      ·have:t.stages[c.at_ 2]? =some x:=hx;simp only[Int.reduceEq,if_true,if_false,this];exact h.stage x
      ·have:=Vm wtG hx;simp only[Mg9.go,Int.reduceEq,if_true,if_false];omega
     ·have ho:(t.miles.map Mil.order)[c.m]? =some (i:Int):=ho;rw[jM1]at ho;obtain⟨x,hx,_⟩:=jM4 ho;refine⟨wtM x,?_,?_⟩
      ·have:t.miles[c.at_ 3]? =some x:=hx;simp only[Int.reduceEq,if_true,if_false,this];exact h.mile x
      ·have:=Vm wtM hx;simp only[Mg9.go,Int.reduceEq,if_true,if_false];omega
     ·have ho:(t.steps.map Stp.order)[c.p]? =some (i:Int):=ho;rw[jM1]at ho;obtain⟨x,hx,_⟩:=jM4 ho;refine⟨wtS x,?_,?_⟩
      ·have:t.steps[c.at_ 4]? =some x:=hx;simp only[Int.reduceEq,if_false,this];exact h.step x
      ·have:=Vm wtS hx;simp only[Mg9.go,Int.reduceEq,if_false];omega
    obtain⟨w,h1,h2⟩:=key;exact(uR n (i+1) (c.go f) (k+w+1) _ (h1.nl (by omega))).mono (by omega)
  ·rw[jJ5 hs];exact h.mono (by omega)
def Zv(t:Tre):Nat:=20+t.name.size+jED t ⟨0,0,0,0⟩+t.count+2*zv t.nodes
theorem jBd(t:Tre):(xX t).b.length+2<=Zv t:=by
 have h0:Bd9 t.nodes (zv t.nodes) 0 0 0 ⟨true,0,[]⟩:=⟨fun _=>jL3 _,fun e=>by cases e⟩;have h1:Bd9 t.nodes (zv t.nodes) 0 0 (15+t.name.size) (Yw t):=(((h0.put [116,121,112,101] (d:=5) (by simp)).named t.name (d:=6+t.name.size) (by omega)).put [123] (d:=8+t.name.size) (by simp;omega)).nl (by omega);have h2:=uR t.count 0 ⟨0,0,0,0⟩ _ _ h1;have h3:Bd9 t.nodes (zv t.nodes) 0 0 (15+t.name.size+jED t ⟨0,0,0,0⟩+t.count) (xX t):=h2;unfold Zv;cases e:(xX t).ok with
 |true=>
  have:=h3.yes e;have:=YL t.nodes (xX t).used;omega
 |false=>
  have:=h3.no e;omega
theorem qn{t:Tre}{l:LB}(h:vG t=some l):l.length<=Zv t:=by
 rw[<-jAQ]at h;unfold UD at h;split at h
 ·injection h with h;have:=jBd t;rw[<-h,jJ4];exact this
 ·cases h
def Lu(d:Nat)(s s' :Wr9):Prop:=s'.used+s.b.length+d<=s.used+s'.b.length
theorem Lu.refl(s:Wr9):Lu 0 s s:=jL3 _
theorem Lu.trans{d e:Nat}{s s1 s2:Wr9}(h:Lu d s s1)(k:Lu e s1 s2):Lu (d+e) s s2:=by
 unfold Lu at*;omega
theorem Lu.mono{d e:Nat}{s s1:Wr9}(h:Lu d s s1)(hd:e<=d):Lu e s s1:=by
 unfold Lu at*;omega
theorem kW(s:Wr9)(x:LB):Lu x.length s (s.put x):=by
 unfold Lu;have h1:(s.put x).used=s.used:=rfl;have h2:(s.put x).b=jI s.b x:=rfl;rw[h1,h2];have:s.b.length+x.length<=(jI s.b x).length:=by
  unfold jI;split
  ·simp only[jJ4];omega
  ·simp only[jJ4];omega
 omega
theorem Qb(s:Wr9):Lu 0 s s.bad:=jL3 _
theorem uQ{p:Prop}[Decidable p]{d:Nat}{s a b:Wr9}(h:Lu d s a)(k:Lu d s b):Lu d s (if p then a else b):=by
 split
 ·exact h
 ·exact k
theorem YU{g:Int->Nat->Wr9->Wr9}(hg:∀(k:Int) (l:Nat) (s:Wr9),Lu 0 s (g k l s)):∀(l:List Int) (i:Nat) (s:Wr9),Lu 0 s (ki g l i s)
 |[],_,s=>.refl s
 |k::l,i,s=>by
  rw[ki];split
  ·exact((uQ ((kW s [44]).mono (Nat.zero_le _)) (.refl s)).trans (hg _ _ _)).trans (YU hg l _ _)
  ·exact .refl s
theorem Jz{op:Int}(h:7<=op/\op<=33/\op≠23):1<=(jA op).length:=by
 obtain⟨n,rfl⟩:∃n:Nat,op=(n:Int):=⟨op.toNat,by omega⟩;have key:∀k:Fin 34,7<=(k.val:Int)/\(k.val:Int)<=33/\(k.val:Int)≠23->1<=(jA (k.val:Int)).length:=(by decide+kernel);exact key ⟨n,by omega⟩ h
theorem jCz(n:Int):1<=(qF n).length:=by
 unfold qF;rw[xl];split
 ·simp
 ·simp
theorem jA4{x:BA}(h:jb x=true):1<=(tb x).length:=by
 cases e:tb x with
 |nil=>
  unfold jb at h;rw[e]at h;exact absurd h (by decide)
 |cons c l=>simp
theorem jFn{g:Int->Nat->Wr9->Wr9}(hg:∀(k:Int) (l:Nat) (s:Wr9),Lu 0 s (g k l s)){n:Nd}(hr:jK n=true)(s:Wr9):Lu 1 s (zf g n s):=by
 have R:=Vd hr;unfold zf;by_cases c0:n.op=23
 ·rw[jJ6 c0];exact(((((((kW s [105,102]).mono (e:=1) (by simp)).trans (hg _ _ _)).trans ((kW _ [116,104,101,110]).mono (Nat.zero_le _))).trans (hg _ _ _)).trans ((kW _ [101,108,115,101]).mono (Nat.zero_le _))).trans (hg _ _ _))
 rw[jJ5 c0];have DU:jD n.op<8->7<=n.op/\n.op<=33/\n.op≠23:=by unfold jD;((repeat' split)<;>omega)
 by_cases c1:jD n.op=3\/jD n.op=7
 ·rw[jJ6 c1];have:=Jz (DU (by omega));exact((kW s (jA n.op)).mono (e:=1) this).trans (hg _ _ _)
 rw[jJ5 c1];by_cases c2:jD n.op<8
 ·rw[jJ6 c2];have:=Jz (DU c2);exact(((hg _ _ _).trans ((kW _ (jA n.op)).mono (e:=1) this)).trans (hg _ _ _)).mono (by omega)
 rw[jJ5 c2];unfold kK;by_cases o1:n.op=1
 ·rw[jJ6 o1];exact(kW s _).mono (jCz _)
 rw[jJ5 o1];by_cases o2:n.op=2
 ·rw[jJ6 o2];refine(kW s _).mono ?_;split<;>decide
 rw[jJ5 o2];by_cases o3:n.op=3
 ·rw[jJ6 o3];exact(kW s _).mono (by unfold kw;simp)
 rw[jJ5 o3];by_cases o4:n.op=4
 ·rw[jJ6 o4];exact(kW s _).mono (by decide)
 rw[jJ5 o4];by_cases o5:n.op=5
 ·rw[jJ6 o5];refine(kW s _).mono (jA4 ?_);unfold jK at hr;rw[jJ5 o1,jJ5 o2,jJ5 o3,jJ5 (show¬(n.op=4\/n.op=29\/n.op=30)by omega),jJ6 (show n.op=5\/n.op=24\/n.op=25\/n.op=26 from .inl o5)]at hr;simp only[Bool.and_eq_true,decide_eq_true_eq]at hr;exact hr.2.2
 rw[jJ5 o5];by_cases o6:n.op=6
 ·rw[jJ6 o6];have h1:Lu 1 s (if n.name.size=0 then s.put [123]else(s.put [123]).put (tb n.name)):=uQ (kW s [123]) ((kW s [123]).trans ((kW _ _).mono (Nat.zero_le _)));exact(h1.trans (YU hg _ _ _)).trans ((kW _ [125]).mono (Nat.zero_le _))
 rw[jJ5 o6];have h0:Lu 1 s ((s.put (jA n.op)).put [40]):=((kW s (jA n.op)).mono (Nat.zero_le _)).trans (kW _ [40]);have h1:Lu 1 s (if n.name.size=0 then(s.put (jA n.op)).put [40]else((s.put (jA n.op)).put [40]).put (tb n.name)):=uQ h0 (h0.trans ((kW _ _).mono (Nat.zero_le _)));exact(h1.trans (YU hg _ _ _)).trans ((kW _ [41]).mono (Nat.zero_le _))
theorem jE6{s x:Wr9}(h:Lu 1 s x)(r:Int):Lu 0 s (x.done r):=by
 unfold Lu at*;show x.used+1+s.b.length+0<=s.used+x.b.length;omega
theorem zP(ns:List Nd):∀(f:Nat) (root below:Int) (least:Nat) (s:Wr9),Lu 0 s (jU ns f root below least s)
 |0,_,_,_,s=>Qb s
 |f+1,root,below,least,s=>by
  rw[jU];split
  ·split
   ·exact Qb s
   ·split
    ·rename_i n _ hr;unfold Zk;have h1:=((uQ (p:=jD n.op<least) ((kW s [40]).mono (Nat.zero_le _)) (.refl s)).trans (jFn (fun k l s=>zP ns f k root l s) hr _));have h2:=uQ (p:=jD n.op<least) (h1.trans ((kW _ [41]).mono (Nat.zero_le _))) (h1.mono (jL3 _));exact jE6 h2 root
    ·exact Qb s
  ·exact Qb s
def Wr9.Ub(s:Wr9):Prop:=s.used<=s.b.length
theorem Lu.ub{s s' :Wr9}(h:Lu 0 s s')(k:s.Ub):s'.Ub:=by
 unfold Lu at h;unfold Wr9.Ub at*;omega
theorem Wr9.Ub.put{s:Wr9}(h:s.Ub)(x:LB):(s.put x).Ub:=((kW s x).mono (Nat.zero_le _)).ub h
end Go.Proofs.YtmmjcbbogokmfaaGreatDoor

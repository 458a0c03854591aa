import Derived.Test.YtifbhcfdealfaaaGreatDoorMd22
import Derived.Maps.OwnSet
import Derived.Maps.OwnOps
set_option maxRecDepth 100000
set_option maxHeartbeats 25600000
namespace Go.Proofs.YtifbhcfdealfaaaGreatDoor
open Go.Proofs.Tryz
structure UseOk(t:Tre)(u:Use):Prop where
 fr0:0<=u.fr
 fr:u.fr<=u.root
 step0: -1<=u.step
 step:u.step<(t.steps.length:Int)
 lays0: -1<=u.lays
 lays:u.lays<(t.attrs.length:Int)
 ahead0: -1<=u.ahead
 ahead:u.ahead<(t.attrs.length:Int)
structure UseI(t:Tre)(n:Int)(s:UseS):Prop where
 all:∀u∈s.1,UseOk t u/\u.root<n
 le:s.2<=n
 nn:0<=s.2
theorem yc(l:List BA)(s:BA): -1<=jC l s/\jC l s<(l.length:Int):=by
 unfold jC;split
 ·rename_i i h;have:=(List.findIdx?_eq_some_iff_getElem.1 h).1;omega
 ·omega
theorem zK{t:Tre}{n m root ahead step lays:Int}{l:List Int}{s:UseS}(h:UseI t n s)(hr:Rise n (root::l) m)(a0: -1<=ahead)(a1:ahead<(t.attrs.length:Int))(s0: -1<=step)(s1:step<(t.steps.length:Int))(l0: -1<=lays)(l1:lays<(t.attrs.length:Int)):
  ∃k,UseI t k (Jr root ahead step lays s)/\Rise k l m:=by
 unfold Jr;unfold Rise at hr;have hn:=h.nn;have Gx:=h.le;split at hr
 ·rename_i h0;rw[jJ6 h0];refine⟨root+1,⟨fun u hu=> ?_,Int.le_refl _,by show 0<=root+1;omega⟩,hr.2⟩;rcases jM6 hu with hu|hu
  ·exact⟨(h.all u hu).1,by have:=(h.all u hu).2;omega⟩
  ·obtain rfl:=jM7 hu;exact⟨⟨hn,by show s.2<=root;omega,s0,s1,l0,l1,a0,a1⟩,by show root<root+1;omega⟩
 ·rename_i h0;rw[jJ5 h0];exact⟨n,h,hr⟩
theorem Ul{t:Tre}{p:Nat}(hp:p<t.steps.length):∀(es:List Eff) (l:List Int) (n m:Int) (s:UseS),UseI t n s->Rise n (es.map (·.worth)++l) m->∃k,UseI t k (xr t.nA p es s)/\Rise k l m
 |[],l,n,m,s,h,hr=>⟨n,h,hr⟩
 |e::es,l,n,m,s,h,hr=>by
  have hl:=yc t.nA e.name;have hlen:t.nA.length=t.attrs.length:=jK7 _;obtain⟨k,h1,h2⟩:=zK (ahead:= -1) (step:=p) (lays:=jC t.nA e.name) h hr (by decide) (by omega) (by omega) (by omega) hl.1 (by omega);exact Ul hp es l k m _ h1 h2
theorem jBc{t:Tre}{a p:Nat}{d:Dk}{l:List Int}{n m:Int}{s:UseS}(h:UseI t n s)(hr:Rise n (d.roots++l) m)(ha:a+d.isA<=t.attrs.length)(hp:p+d.isS<=t.steps.length):∃k,UseI t k (jD2 t.nA a p d s)/\Rise k l m:=by
 cases d with
 |A x=>
  have ha:a+1<=t.attrs.length:=ha;obtain⟨k,h1,h2⟩:=zK (ahead:=a) (step:= -1) (lays:=a) h hr (by omega) (by omega) (by decide) (by omega) (by omega) (by omega);exact zK (ahead:= -1) (step:= -1) (lays:= -1) h1 h2 (by decide) (by omega) (by decide) (by omega) (by decide) (by omega)
 |jG9 x=>
  obtain⟨k,h1,h2⟩:=zK (ahead:= -1) (step:= -1) (lays:= -1) h hr (by decide) (by omega) (by decide) (by omega) (by decide) (by omega);exact zK (ahead:= -1) (step:= -1) (lays:= -1) h1 h2 (by decide) (by omega) (by decide) (by omega) (by decide) (by omega)
 |M x=>exact zK (ahead:= -1) (step:= -1) (lays:= -1) h hr (by decide) (by omega) (by decide) (by omega) (by decide) (by omega)
 |S x=>
  have hp:p+1<=t.steps.length:=hp;obtain⟨k,h1,h2⟩:=zK (ahead:= -1) (step:=p) (lays:= -1) h hr (by decide) (by omega) (by omega) (by omega) (by decide) (by omega);exact Ul (by omega) x.effects l k m _ h1 h2
def Yb(D:List Dk):Nat:=(D.filterMap Dk.asA).length
def uw(D:List Dk):Nat:=(D.filterMap Dk.asG).length
def uv(D:List Dk):Nat:=(D.filterMap Dk.asM).length
def Ze(D:List Dk):Nat:=(D.filterMap Dk.asS).length
theorem yl(d:Dk)(D:List Dk):Yb (d::D)=d.isA+Yb D/\uw (d::D)=d.isG+uw D/\uv (d::D)=d.isM+uv D/\Ze (d::D)=d.isS+Ze D:=by
 unfold Yb uw uv Ze;cases d<;>simp only[Dk.isA,Dk.isG,Dk.isM,Dk.isS,Nat.zero_add,Nat.add_comm 1]<;>exact⟨rfl,rfl,rfl,rfl⟩
theorem Vp{t:Tre}:∀(D:List Dk) (a p:Nat) (n m:Int) (s:UseS),UseI t n s->Rise n (D.flatMap Dk.roots) m->a+Yb D<=t.attrs.length->p+Ze D<=t.steps.length->∃k,UseI t k (Js t.nA a p D s)/\k<=m
 |[],a,p,n,m,s,h,hr,_,_=>⟨n,h,hr⟩
 |d::D,a,p,n,m,s,h,hr,ha,hp=>by
  obtain⟨c1,_,_,c4⟩:=yl d D;rw[jL9]at hr;obtain⟨k,h1,h2⟩:=jBc (a:=a) (p:=p) h hr (by omega) (by omega);exact Vp D _ _ k m _ h1 h2 (by omega) (by omega)
theorem jFF{n:Nat}{t:Tre}{D:List Dk}(h:WfT n t D):∀u∈Zs t D,UseOk t u/\u.root<(t.nodes.length:Int):=fun u hu=>by
 obtain⟨k,h1,h2⟩:=Vp (t:=t) D 0 0 0 t.nodes.length ([],0) ⟨fun _ hx=>(by cases hx),Int.le_refl _,Int.le_refl _⟩ h.rise (by rw[h.eA];exact Nat.le_of_eq (Nat.zero_add _)) (by rw[h.eS];exact Nat.le_of_eq (Nat.zero_add _));have:=h1.all u hu;exact⟨this.1,by omega⟩
def yL(ups:List Int):Nat->Int->List Int
 |0,_=>[]
 |k+1,i=>if 0<=i then i::yL ups k (ups.getD i.toNat 0)else []
theorem Zg(ups:List Int):∀(k:Nat) (i:Int),yy ups k i=(yL ups k i).length
 |0,_=>rfl
 |k+1,i=>by
  unfold yy yL;split
  ·rw[jK6,Zg ups k]
  ·rfl
theorem Vm(ups:List Int)(j:Int):∀(k f:Nat) (up:Int),k<=f->j∈yL ups k up->yB ups j f up=j
 |0,_,_,_,h=>by cases h
 |k+1,f,up,hf,h=>by
  unfold yL at h;split at h
  ·rename_i h0;cases f with
   |zero=>omega
   |succ f=>
    unfold yB;by_cases e:up=j
    ·rw[jJ5 (fun hh=>hh.2 e)];exact e
    ·rw[jJ6 ⟨h0,e⟩];rcases jN4 h with h|h
     ·exact absurd h.symm e
     ·exact Vm ups j k f _ (by omega) h
  ·cases h
theorem ZH{ups:List Int}:∀(k:Nat) (i:Int),¬(yL ups k i).Nodup->∃j k',j∈yL ups k i/\k' +1<=k/\j∈yL ups k' (ups.getD j.toNat 0)
 |0,_,h=>absurd List.nodup_nil h
 |k+1,i,h=>by
  unfold yL at h;split at h
  ·rename_i h0;rw[List.nodup_cons]at h;by_cases hi:i∈yL ups k (ups.getD i.toNat 0)
   ·exact⟨i,k,by unfold yL;rw[jJ6 h0];exact List.mem_cons_self ..,jL3 _,hi⟩
   ·obtain⟨j,k',h1,h2,h3⟩:=ZH k _ (fun hh=>h ⟨hi,hh⟩);exact⟨j,k',by unfold yL;rw[jJ6 h0];exact jN1 _ h1,by omega,h3⟩
  ·exact absurd List.nodup_nil h
theorem xh:∀(l:List Int) (a:Int),l.Nodup->l.length<=(l.filter (fun x=>decide (x≠a))).length+1
 |[],_,_=>Nat.zero_le _
 |x::l,a,h=>by
  rw[List.nodup_cons]at h;have ih:=xh l a h.2;rw[List.filter_cons,jK6];by_cases e:x=a
  ·have h2:l.filter (fun x=>decide (x≠a))=l:=by
    rw[List.filter_eq_self];intro y hy;exact jK5 (fun e2=>h.1 (by rw[e,<-e2];exact hy))
   rw[jJ5 (by simp[e]),h2];exact jL3 _
  ·rw[jJ6 (jK5 e),jK6];omega
theorem jBs:∀(n:Nat) (l:List Int),(∀x∈l,0<=x/\x<(n:Int))->l.Nodup->l.length<=n
 |0,l,h,_=>by
  cases l with
  |nil=>exact jL3 _
  |cons x l=>have:=h x (List.mem_cons_self ..);omega
 |n+1,l,h,hd=>by
  have h1:=xh l (n:Int) hd;have h2:=jBs n (l.filter (fun x=>decide (x≠(n:Int)))) (fun x hx=>by
   obtain⟨h3,h4⟩:=List.mem_filter.1 hx;have h5:x≠(n:Int):=jM8 h4;have:=h x h3;omega) (hd.filter _)
  omega
theorem YV{ups:List Int}(h:∀u∈ups,u<(ups.length:Int)):∀(k:Nat) (i:Int),i<(ups.length:Int)->∀x∈yL ups k i,0<=x/\x<(ups.length:Int)
 |0,_,_,x,hx=>by cases hx
 |k+1,i,hi,x,hx=>by
  unfold yL at hx;split at hx
  ·rename_i h0;rcases jN4 hx with rfl|hx
   ·exact⟨h0,hi⟩
   ·refine YV h k _ ?_ x hx;rw[List.getD,jJ9 (show i.toNat<ups.length by omega)];exact h _ (jL6 _)
  ·cases hx
def Zn(ups:List Int):Prop:=∀i:Nat,i<ups.length->yB ups i ups.length (ups.getD i 0)≠(i:Int)
theorem Qt{ups:List Int}(h:∀u∈ups,u<(ups.length:Int))(hn:Zn ups)(i:Int)(hi:i<(ups.length:Int)):yy ups (ups.length+1) i<=ups.length:=by
 rw[Zg];refine jBs _ _ (YV h _ i hi) ?_;refine Classical.byContradiction fun hd=> ?_;obtain⟨j,k',h1,h2,h3⟩:=ZH _ _ hd;obtain⟨j0,j1⟩:=YV h _ i hi j h1;have e:=Vm ups j k' ups.length _ (by omega) h3;refine hn j.toNat (by omega) ?_;rw[show((j.toNat:Nat):Int)=j by omega];exact e
theorem qy{p:Wr9N}{a:Int}{e:Nat}(he:e≠0):(kW p a e).2≠0:=by
 unfold kW;split
 ·exact he
 ·rename_i h;exact fun h2=>h (.inl h2)
theorem vN{b:Bool}{p:Wr9N}{a:Int}{e:Nat}(he:e≠0)(h:(jP b p a e).2=0):b=false/\p.2=0:=by
 unfold jP at h;cases b with
 |true=>rw[jJ6 rfl]at h;exact absurd h (qy he)
 |false=>exact⟨rfl,h⟩
theorem Zd(ups:List Int):∀(l:List Stg) (i:Nat) (p:Wr9N),(jw ups i l p).2=0->p.2=0/\∀k,i<=k->k<i+l.length->yB ups k ups.length (ups.getD k 0)≠(k:Int)
 |[],i,p,h=>⟨h,fun k h1 h2=>by simp at h2;omega⟩
 |x::l,i,p,h=>by
  obtain⟨h1,h2⟩:=Zd ups l (i+1) _ h;obtain⟨h3,h4⟩:=vN (by decide) h1;refine⟨h4,fun k hk Fu=> ?_⟩;rw[jK6]at Fu;rcases Nat.lt_or_ge i k with h5|h5
  ·exact h2 k h5 (by omega)
  ·obtain rfl:k=i:=(by omega);exact of_decide_eq_false h3
theorem yp(t:Tre):t.ups.length=t.stages.length:=jK7 _
theorem QO(t:Tre):∀u∈t.ups,-1<=u/\u<(t.ups.length:Int):=fun u hu=>by
 obtain⟨x,_,rfl⟩:=List.mem_map.1 hu;have:=yc t.nG x.in_;rw[yp];have hl:t.nG.length=t.stages.length:=jK7 _;omega
theorem jEf{t:Tre}{p:Wr9N}(h:(jw t.ups 0 t.stages p).2=0):Zn t.ups:=fun i hi=>(Zd t.ups t.stages 0 p h).2 i (Nat.zero_le _) (by rw[yp]at hi;omega)
def PlB(n:Nat)(a:Int):Prop:=0<=a/\a<=(n:Int)
theorem PlB.z(n:Nat):PlB n 0:=⟨Int.le_refl _,by omega⟩
theorem YB{n:Nat}{p:Wr9N}{a:Int}{e:Nat}(hp:PlB n p.1)(ha:PlB n a):PlB n (kW p a e).1:=by
 unfold kW;split
 ·exact ha
 ·exact hp
theorem zj{n:Nat}{b:Bool}{p:Wr9N}{a:Int}{e:Nat}(hp:PlB n p.1)(ha:PlB n a):PlB n (jP b p a e).1:=by
 unfold jP;split
 ·exact YB hp ha
 ·exact hp
section
variable{n:Nat}
theorem JI:∀(l:List (BA×Int)) (old:List BA) (p:Wr9N),(∀x∈l,PlB n x.2)->PlB n p.1->PlB n (kP old l p).1
 |[],_,_,_,hp=>hp
 |x::l,_,_,h,hp=>JI l _ _ (fun y hy=>h y (jN1 _ hy)) (zj hp (h x (List.mem_cons_self ..)))
theorem Qr(GN:List BA):∀(l:List (BA×Int)) (p:Wr9N),(∀x∈l,PlB n x.2)->PlB n p.1->PlB n (qc GN l p).1
 |[],_,_,hp=>hp
 |x::l,_,h,hp=>Qr GN l _ (fun y hy=>h y (jN1 _ hy)) (zj hp (h x (List.mem_cons_self ..)))
theorem Qp(AN:List BA):∀(l:List Prm) (old:List BA) (p:Wr9N),(∀x∈l,PlB n x.at_)->PlB n p.1->PlB n (YA AN old l p).1
 |[],_,_,_,hp=>hp
 |x::l,_,_,h,hp=>Qp AN l _ _ (fun y hy=>h y (jN1 _ hy)) (zj hp (h x (List.mem_cons_self ..)))
theorem Qs(AN GN:List BA):∀(l:List Eff) (old:List (BA×Bool)) (p:Wr9N),(∀x∈l,PlB n x.at_)->PlB n p.1->PlB n (Ky AN GN old l p).1
 |[],_,_,_,hp=>hp
 |x::l,_,_,h,hp=>Qs AN GN l _ _ (fun y hy=>h y (jN1 _ hy)) (by
  have hx:=h x (List.mem_cons_self ..);by_cases e:jC (if x.worth<0 then GN else AN) x.name<0
  ·rw[jJ6 e];exact YB hp hx
  ·rw[jJ5 e];exact zj hp hx)
theorem jEk{D:List Dk}{x:Atr}(h:x∈D.filterMap Dk.asA):Dk.A x∈D:=by
 obtain⟨d,hd,e⟩:=List.mem_filterMap.1 h;cases d with
 |A y=>obtain rfl:=jL5 e;exact hd
 |_=>cases e
theorem jDC{D:List Dk}{x:Stg}(h:x∈D.filterMap Dk.asG):Dk.jG9 x∈D:=by
 obtain⟨d,hd,e⟩:=List.mem_filterMap.1 h;cases d with
 |jG9 y=>obtain rfl:=jL5 e;exact hd
 |_=>cases e
theorem jDB{D:List Dk}{x:Mil}(h:x∈D.filterMap Dk.asM):Dk.M x∈D:=by
 obtain⟨d,hd,e⟩:=List.mem_filterMap.1 h;cases d with
 |M y=>obtain rfl:=jL5 e;exact hd
 |_=>cases e
theorem XQ{D:List Dk}{x:Stp}(h:x∈D.filterMap Dk.asS):Dk.S x∈D:=by
 obtain⟨d,hd,e⟩:=List.mem_filterMap.1 h;cases d with
 |S y=>obtain rfl:=jL5 e;exact hd
 |_=>cases e
structure TrPl(n:Nat)(t:Tre):Prop where
 at_:PlB n t.at_
 ats:∀i,PlB n (t.ats.getD i 0)
 A:∀x∈t.attrs,PlB n x.at_
 jG9:∀x∈t.stages,PlB n x.at_ /\PlB n x.inAt
 M:∀x∈t.miles,PlB n x.at_ /\PlB n x.inAt
 S:∀x∈t.steps,PlB n x.at_ /\PlB n x.inAt/\(∀p∈x.params,PlB n p.at_)/\∀p∈x.effects,PlB n p.at_
theorem WfT.pls{t:Tre}{D:List Dk}(h:WfT n t D):TrPl n t:=by
 refine⟨h.at_,fun i=> ?_,fun x hx=> ?_,fun x hx=> ?_,fun x hx=> ?_,fun x hx=> ?_⟩
 ·rw[List.getD];cases e:t.ats[i]? with
  |none=>exact PlB.z n
  |some a=>exact h.nk.ats a (List.mem_of_getElem? e)
 ·rw[h.eA]at hx;exact h.pl _ (jEk hx) _ (List.mem_singleton.2 rfl)
 ·rw[h.eG]at hx;have:=h.pl _ (jDC hx);exact⟨this _ (List.mem_cons_self ..),this _ (jN1 _ (List.mem_cons_self ..))⟩
 ·rw[h.eM]at hx;have:=h.pl _ (jDB hx);exact⟨this _ (List.mem_cons_self ..),this _ (jN1 _ (List.mem_cons_self ..))⟩
 ·rw[h.eS]at hx;have:=h.pl _ (XQ hx);exact⟨this _ (List.mem_cons_self ..),this _ (jN1 _ (List.mem_cons_self ..)),fun p hp=>this _ (jN1 _ (jN1 _ (List.mem_append_left _ (List.mem_map_of_mem hp)))),
   fun p hp=>this _ (jN1 _ (jN1 _ (List.mem_append_right _ (List.mem_map_of_mem hp))))⟩
variable{t:Tre}
theorem xK(AN GN:List BA):∀(l:List Stp) (p:Wr9N),(∀x∈l,PlB n x.at_ /\PlB n x.inAt/\(∀p∈x.params,PlB n p.at_)/\∀p∈x.effects,PlB n p.at_)->PlB n p.1->PlB n (yY AN GN l p).1
 |[],_,_,hp=>hp
 |x::l,_,h,hp=>xK AN GN l _ (fun y hy=>h y (jN1 _ hy)) (by
  obtain⟨_,h2,h3,h4⟩:=h x (List.mem_cons_self ..);exact Qs AN GN _ _ _ h4 (Qp AN _ _ _ h3 (zj hp h2)))
theorem xN(h:TrPl n t)(u:Use):∀(k i:Nat) (p:Wr9N),PlB n p.1->PlB n (yZ t u i k p).1
 |0,_,_,hp=>hp
 |k+1,i,_,hp=>xN h u k (i+1) _ (by
  split
  ·exact zj hp (h.ats i)
  ·exact hp)
theorem Qo(h:TrPl n t):∀(l:List Use) (p:Wr9N),PlB n p.1->PlB n (yP t l p).1
 |[],_,hp=>hp
 |u::l,_,hp=>Qo h l _ (xN h u _ _ _ hp)
theorem ZB(ups:List Int):∀(l:List Stg) (i:Nat) (p:Wr9N),(∀x∈l,PlB n x.at_)->PlB n p.1->PlB n (jw ups i l p).1
 |[],_,_,_,hp=>hp
 |x::l,_,_,h,hp=>ZB ups l _ _ (fun y hy=>h y (jN1 _ hy)) (zj hp (h x (List.mem_cons_self ..)))
theorem xO(h:TrPl n t):∀(l:List Use) (p:Wr9N),PlB n p.1->PlB n (vG t l p).1
 |[],_,hp=>hp
 |u::l,p,hp=>by
  rw[vG];split
  ·rename_i x hx;refine YB hp ?_;unfold ZP at hx;split at hx
   ·obtain rfl:=jL5 hx;exact h.ats _
   split at hx
   ·cases hx
   ·obtain rfl:=jL5 hx;exact h.ats _
  ·exact xO h l p hp
theorem yx(most:Nat):∀(l:List Int) (i:Nat) (p:Wr9N),(∀x∈l,PlB n x)->PlB n p.1->PlB n (jy most i l p).1
 |[],_,_,_,hp=>hp
 |x::l,_,_,h,hp=>yx most l _ _ (fun y hy=>h y (jN1 _ hy)) (zj hp (h x (List.mem_cons_self ..)))
theorem Yz:∀(l:List Stp) (i:Nat) (p:Wr9N),(∀x∈l,PlB n x.at_ /\PlB n x.inAt/\(∀p∈x.params,PlB n p.at_)/\∀p∈x.effects,PlB n p.at_)->PlB n p.1->PlB n (zd i l p).1
 |[],_,_,_,hp=>hp
 |x::l,_,_,h,hp=>Yz l _ _ (fun y hy=>h y (jN1 _ hy)) (by
  obtain⟨h1,_,h3,_⟩:=h x (List.mem_cons_self ..);exact yx _ _ _ _ (fun a ha=>by
   obtain⟨q,hq,rfl⟩:=List.mem_map.1 ha;exact h3 q hq) (zj hp h1))
theorem ZA{ats:List Int}(h:∀i,PlB n (ats.getD i 0)):∀(l:List Nd) (i:Nat) (deep:List Nat) (p:Wr9N),PlB n p.1->PlB n (JL ats i l deep p).1
 |[],_,_,_,hp=>hp
 |_::l,i,_,_,hp=>ZA h l _ _ _ (zj (zj (zj (zj hp (h i)) (h i)) (h i)) (h i))
theorem xL(ups:List Int):∀(l:List Stg) (i:Nat) (p:Wr9N),(∀x∈l,PlB n x.at_)->PlB n p.1->PlB n (JJ ups i l p).1
 |[],_,_,_,hp=>hp
 |x::l,_,_,h,hp=>xL ups l _ _ (fun y hy=>h y (jN1 _ hy)) (zj hp (h x (List.mem_cons_self ..)))
theorem Qq{α:Type}{f:α->Int}{l:List α}(h:∀x∈l,PlB n (f x)):∀a∈l.map f,PlB n a:=fun a ha=>by
 obtain⟨x,hx,rfl⟩:=List.mem_map.1 ha;exact h x hx
theorem Je{α:Type}{g:α->BA}{f:α->Int}{l:List α}(h:∀x∈l,PlB n (f x)):∀a∈l.map (fun x=>(g x,f x)),PlB n a.2:=fun a ha=>by
 obtain⟨x,hx,rfl⟩:=List.mem_map.1 ha;exact h x hx
theorem XX{D:List Dk}(h:TrPl n t)(name:BA):PlB n (Kr t D name).1:=by
 have hb:PlB n (VG t).1:=JI _ _ _ (Je fun x hx=>(h.S x hx).1) (JI _ _ _ (Je fun x hx=>(h.M x hx).1) (JI _ _ _ (Je fun x hx=>(h.jG9 x hx).1) (JI _ _ _ (Je h.A) (PlB.z n))));have h1:PlB n (vE t (Zs t D) name (VG t)).1:=Qo h _ _ (xK _ _ _ _ h.S (Qr _ _ _ (Je fun x hx=>(h.M x hx).2) (Qr _ _ _ (Je fun x hx=>(h.jG9 x hx).2) (zj hb h.at_))));unfold Kr;simp only;split
 ·exact h1
 have h2:=ZB (n:=n) t.ups t.stages 0 _ (fun x hx=>(h.jG9 x hx).1) h1;split
 ·exact h2
 have h3:=xO h (Zs t D) _ h2;split
 ·exact h3
 have h4:PlB n (zF t (vG t (Zs t D) (jw t.ups 0 t.stages (vE t (Zs t D) name (VG t))))).1:=
  xL _ _ _ _ (fun x hx=>(h.jG9 x hx).1) (ZA h.ats _ _ _ _ (Yz _ _ _ h.S (yx _ _ _ _ (Qq fun x hx=>(h.M x hx).1) (yx _ _ _ _ (Qq fun x hx=>(h.jG9 x hx).1) (yx _ _ _ _ (Qq h.A) h3)))))
 split
 ·exact h4
 ·exact PlB.z n
end
open Go.Maps (has IsMap)
abbrev DM:=DataW Unit
def kS(s:BA):Lit:=.string s.data.toList
theorem Xj{a b:BA}(h:kS a=kS b):a=b:=by
 unfold kS at h;injection h with h;cases a;cases b
 congr 1
 exact Array.toList_inj.1 h
structure MapR(D:DM)(f:BA->Option Int):Prop where
 is:IsMap D
 has_:∀s,has D (kS s)=(f s).isSome
 at_:∀s,D.atKey (kS s) (.lit (.int .i64 0))=.lit (.int .i64 ((f s).getD 0))
theorem MapR.empty:MapR (.map []) (fun _=>none):=⟨Maps.isMap_empty,fun _=>rfl,fun _=>rfl⟩
theorem MapR.put{D:DM}{f:BA->Option Int}(h:MapR D f)(x:BA)(v:Int):MapR (D.put (kS x) (.lit (.int .i64 v))) (fun s=>if s=x then some v else f s):=by
 refine⟨h.is.put _ _,fun s=> ?_,fun s=> ?_⟩
 ·by_cases e:s=x
  ·subst e;rw[jJ6 rfl,Maps.has_put_same h.is (show WideAt.IsKeyLit (kS s)from trivial)];rfl
  ·rw[jJ5 e,Maps.has_put_other (fun he=>e (Xj he)),h.has_]
 ·by_cases e:s=x
  ·subst e;rw[jJ6 rfl,Maps.atKey_put_same h.is (show WideAt.IsKeyLit (kS s)from trivial)];rfl
  ·rw[jJ5 e,Maps.atKey_put_other (fun he=>e (Xj he)),h.at_]
def MapW(P:Program)(k e:TypeId)(w:World)(b n:Nat)(f:BA->Option Int):Prop:=∃D:DM,w.ownsMap P k (plainElem P e) b n D/\MapR D f
section
variable{P:Program}{k e:TypeId}{w:World}{b n:Nat}{f:BA->Option Int}
theorem MapW.lt(h:MapW P k e w b n f):b<w.heap.size:=by
 obtain⟨D,h,_⟩:=h;exact h.lt
theorem MapW.mono(h:MapW P k e w b n f){m:Nat}(hm:n<=m):MapW P k e w b m f:=by
 obtain⟨D,h,hr⟩:=h;exact⟨D,h.mono hm,hr⟩
theorem MapW.same{w' :World}(h:MapW P k e w b n f)(hb:w'.heap[b]? =w.heap[b]?):MapW P k e w' b n f:=by
 obtain⟨D,⟨es,clock,h1,h2⟩,hr⟩:=h;exact⟨D,⟨es,clock,hb.trans h1,h2⟩,hr⟩
theorem MapW.congr(h:MapW P k e w b n f){g:BA->Option Int}(hg:∀s,f s=g s):MapW P k e w b n g:=by
 obtain⟨D,h,hr⟩:=h;exact⟨D,h,hr.is,fun s=>by rw[<-hg];exact hr.has_ s,fun s=>by rw[<-hg];exact hr.at_ s⟩
end
def jW(l:List BA)(s:BA):Option Int:=if 0<=jC l s then some (jC l s)else none
theorem jDv(s:BA):jC [] s= -1:=rfl
theorem Kj(l:List BA)(x s:BA):jC (l++[x]) s=if 0<=jC l s then jC l s else if x=s then(l.length:Int)else-1:=by
 unfold jC;rw[List.findIdx?_append];cases h:l.findIdx? (fun y=>decide (y=s))with
 |some i=>
  simp only[Option.some_or];rw[jJ6 (by omega)]
 |none=>
  simp only[Option.none_or];rw[jJ5 (by decide)];by_cases e:x=s
  ·rw[jJ6 e,List.findIdx?_cons,jJ6 (jK5 e)];simp
  ·rw[jJ5 e,List.findIdx?_cons,jJ5 (by simpa using e)];rfl
theorem zP{l:List BA}{x:BA}(h:0<=jC l x)(s:BA):jW l s=jW (l++[x]) s:=by
 unfold jW;rw[Kj];by_cases h1:0<=jC l s
 ·rw[jJ6 h1,jJ6 h1,jJ6 h1]
 ·rw[jJ5 h1,jJ5 h1];by_cases e:x=s
  ·subst e;exact absurd h h1
  ·rw[jJ5 e,jJ5 (by decide)]
theorem zQ{l:List BA}{x:BA}(h:¬0<=jC l x)(s:BA):(if s=x then some (l.length:Int)else jW l s)=jW (l++[x]) s:=by
 unfold jW;rw[Kj];by_cases e:s=x
 ·subst e;rw[jJ6 rfl,jJ5 h,jJ6 rfl,jJ6 (by omega)]
 ·rw[jJ5 e];by_cases h1:0<=jC l s
  ·rw[jJ6 h1,jJ6 h1,jJ6 h1]
  ·rw[jJ5 h1,jJ5 h1,jJ5 (show¬x=s from fun he=>e he.symm),jJ5 (by decide)]
theorem jp(l:List BA)(s:BA):(jW l s).isSome=decide (0<=jC l s):=by
 unfold jW;by_cases h:0<=jC l s
 ·rw[jJ6 h,jK5 h];rfl
 ·rw[jJ5 h,jK3 h];rfl
theorem ku(l:List BA)(s:BA)(h:0<=jC l s):(jW l s).getD 0=jC l s:=by
 unfold jW;rw[jJ6 h];rfl
theorem Yg(AN:List BA)(d:Dk):∀(D:List Dk) (a p:Nat) (s:UseS),Js AN a p (D++[d]) s=jD2 AN (a+Yb D) (p+Ze D) d (Js AN a p D s)
 |[],a,p,s=>rfl
 |e::D,a,p,s=>by
  obtain⟨c1,_,_,c4⟩:=yl e D;rw[jN6,Js,Yg AN d D,Js,c1,c4,Nat.add_assoc,Nat.add_assoc]
theorem UW(d:Dk):∀(D:List Dk),Yb (D++[d])=Yb D+d.isA/\uw (D++[d])=uw D+d.isG/\uv (D++[d])=uv D+d.isM/\Ze (D++[d])=Ze D+d.isS
 |[]=>by obtain⟨c1,c2,c3,c4⟩:=yl d [];exact⟨by rw[jN8,c1];exact Nat.add_comm _ _,by rw[jN8,c2];exact Nat.add_comm _ _,by rw[jN8,c3];exact Nat.add_comm _ _,by rw[jN8,c4];exact Nat.add_comm _ _⟩
 |e::D=>by
  obtain⟨a1,a2,a3,a4⟩:=UW d D;obtain⟨b1,b2,b3,b4⟩:=yl e (D++[d]);obtain⟨c1,c2,c3,c4⟩:=yl e D;rw[jN6];exact⟨by omega,by omega,by omega,by omega⟩
theorem UV:∀(D:List Dk),Yb D+uw D+uv D+Ze D=D.length
 |[]=>rfl
 |d::D=>by
  have ih:=UV D;obtain⟨c1,c2,c3,c4⟩:=yl d D;rw[jK6];cases d<;>simp only[Dk.isA,Dk.isG,Dk.isM,Dk.isS]at* <;>omega
theorem jBD{α:Type}(f:Dk->Option α){D:List Dk}{k:Nat}{d:Dk}{x:α}(h:D[k]? =some d)(hf:f d=some x):(D.filterMap f)[((D.take k).filterMap f).length]? =some x:=by
 obtain⟨hk,rfl⟩:=jM5 h;have e:D=D.take k++D[k]::D.drop (k+1):=(by rw[<-jM9 hk,List.take_append_drop]);have e2:D.filterMap f=(D.take k).filterMap f++x::(D.drop (k+1)).filterMap f:=by
  conv=>lhs;rw[e]
  rw[List.filterMap_append,List.filterMap_cons,hf]
 rw[e2,List.getElem?_append_right (jL3 _),Nat.sub_self];rfl
theorem UA{α:Type}(f:Dk->Option α){D:List Dk}{i:Nat}{x:α}(h:(D.filterMap f)[i]? =some x):∃(k:Nat) (d:Dk),D[k]? =some d/\f d=some x:=by
 obtain⟨d,hd,hf⟩:=List.mem_filterMap.1 (List.mem_of_getElem? h);obtain⟨k,hk,rfl⟩:=List.getElem_of_mem hd;exact⟨k,_,jJ9 hk,hf⟩
section
variable{n:Nat}{t:Tre}{D:List Dk}{k:Nat}
theorem WfT.atA(h:WfT n t D){x:Atr}(hk:D[k]? =some (.A x)):t.attrs[Yb (D.take k)]? =some x/\x.order=(k:Int):=by
 rw[h.eA];exact⟨jBD Dk.asA hk rfl,h.ord k _ hk⟩
theorem WfT.atG(h:WfT n t D){x:Stg}(hk:D[k]? =some (.jG9 x)):t.stages[uw (D.take k)]? =some x/\x.order=(k:Int):=by
 rw[h.eG];exact⟨jBD Dk.asG hk rfl,h.ord k _ hk⟩
theorem WfT.atM(h:WfT n t D){x:Mil}(hk:D[k]? =some (.M x)):t.miles[uv (D.take k)]? =some x/\x.order=(k:Int):=by
 rw[h.eM];exact⟨jBD Dk.asM hk rfl,h.ord k _ hk⟩
theorem WfT.atS(h:WfT n t D){x:Stp}(hk:D[k]? =some (.S x)):t.steps[Ze (D.take k)]? =some x:=by
 rw[h.eS];exact jBD Dk.asS hk rfl
theorem WfT.noA(h:WfT n t D){d:Dk}(hk:D[k]? =some d)(hd:d.asA=none){i:Nat}{y:Atr}(hy:t.attrs[i]? =some y):y.order≠(k:Int):=by
 rw[h.eA]at hy;obtain⟨j,e,hj,he⟩:=UA Dk.asA hy;cases e with
 |A z=>
  obtain rfl:=jL5 he;have:=h.ord j _ hj;intro e2;have e3:z.order=(j:Int):=this;obtain rfl:j=k:=(by omega);rw[hk]at hj;obtain rfl:=jL5 hj;cases hd
 |_=>cases he
theorem WfT.noG(h:WfT n t D){d:Dk}(hk:D[k]? =some d)(hd:d.asG=none){i:Nat}{y:Stg}(hy:t.stages[i]? =some y):y.order≠(k:Int):=by
 rw[h.eG]at hy;obtain⟨j,e,hj,he⟩:=UA Dk.asG hy;cases e with
 |jG9 z=>
  obtain rfl:=jL5 he;have:=h.ord j _ hj;intro e2;have e3:z.order=(j:Int):=this;obtain rfl:j=k:=(by omega);rw[hk]at hj;obtain rfl:=jL5 hj;cases hd
 |_=>cases he
theorem WfT.noM(h:WfT n t D){d:Dk}(hk:D[k]? =some d)(hd:d.asM=none){i:Nat}{y:Mil}(hy:t.miles[i]? =some y):y.order≠(k:Int):=by
 rw[h.eM]at hy;obtain⟨j,e,hj,he⟩:=UA Dk.asM hy;cases e with
 |M z=>
  obtain rfl:=jL5 he;have:=h.ord j _ hj;intro e2;have e3:z.order=(j:Int):=this;obtain rfl:j=k:=(by omega);rw[hk]at hj;obtain rfl:=jL5 hj;cases hd
 |_=>cases he
theorem WfT.lens(h:WfT n t D):t.attrs.length+t.stages.length+t.miles.length+t.steps.length=D.length:=by
 rw[h.eA,h.eG,h.eM,h.eS];exact UV D
theorem Yj{d:Dk}(hk:D[k]? =some d):D.take (k+1)=D.take k++[d]:=by
 obtain⟨h,rfl⟩:=jM5 hk;exact jK2 h
def VK(t:Tre)(D:List Dk)(k:Nat):UseS:=Js t.nA 0 0 (D.take k) ([],0)
theorem xz{d:Dk}(hk:D[k]? =some d):VK t D (k+1)=jD2 t.nA (Yb (D.take k)) (Ze (D.take k)) d (VK t D k):=by
 unfold VK;rw[Yj hk,Yg,Nat.zero_add,Nat.zero_add]
theorem KN(root ahead step lays:Int)(s:UseS):(Jr root ahead step lays s).1.length<=s.1.length+1:=by
 unfold Jr;split
 ·simp
 ·omega
end
theorem Rise.le:∀{l:List Int} {n m:Int},Rise n l m->n<=m
 |[],n,m,h=>h
 |a::l,n,m,h=>by
  unfold Rise at h;split at h
  ·have:=Rise.le h.2;omega
  ·exact Rise.le h
theorem Rise.left:∀{l l' :List Int} {n m:Int},Rise n (l++l') m->Rise n l m
 |[],l',n,m,h=>Rise.le h
 |a::l,l',n,m,h=>by
  have h:Rise n (a::(l++l')) m:=h;unfold Rise at h⊢;split at h
  ·rename_i h0;rw[jJ6 h0];exact⟨h.1,Rise.left h.2⟩
  ·rename_i h0;rw[jJ5 h0];exact Rise.left h
theorem Rise.lt:∀{l:List Int} {n m:Int},0<=n->Rise n l m->∀a∈l,a<m\/a<0
 |[],_,_,_,_,a,ha=>by cases ha
 |b::l,n,m,hn,h,a,ha=>by
  unfold Rise at h;split at h
  ·rename_i h0;have h1:=Rise.le h.2;rcases jN4 ha with rfl|ha
   ·exact .inl (by omega)
   ·exact Rise.lt (by omega) h.2 a ha
  ·rename_i h0;rcases jN4 ha with rfl|ha
   ·exact .inr (by omega)
   ·exact Rise.lt hn h a ha
def Cnt(s:UseS):Prop:=(s.1.length:Int)<=s.2
theorem zq{t:Tre}{n m root ahead step lays:Int}{l:List Int}{s:UseS}(h:UseI t n s)(hc:Cnt s)(hr:Rise n (root::l) m):Cnt (Jr root ahead step lays s):=by
 unfold Jr Cnt at*;unfold Rise at hr;have:=h.le;split at hr
 ·rename_i h0;rw[jJ6 h0];simp only[jJ4,List.length_singleton];omega
 ·rename_i h0;rw[jJ5 h0];exact hc
section
variable{t:Tre}
theorem xq{p:Nat}(hp:p<t.steps.length):∀(es:List Eff) (l:List Int) (n m:Int) (s:UseS),UseI t n s->Cnt s->Rise n (es.map (·.worth)++l) m->Cnt (xr t.nA p es s)
 |[],_,_,_,_,_,hc,_=>hc
 |e::es,l,n,m,s,h,hc,hr=>by
  have hl:=yc t.nA e.name;have hlen:t.nA.length=t.attrs.length:=jK7 _;obtain⟨k,h1,h2⟩:=zK (ahead:= -1) (step:=p) (lays:=jC t.nA e.name) h hr (by decide) (by omega) (by omega) (by omega) hl.1 (by omega);exact xq hp es l k m _ h1 (zq h hc hr) h2
theorem jCF{a p:Nat}{d:Dk}{l:List Int}{n m:Int}{s:UseS}(h:UseI t n s)(hc:Cnt s)(hr:Rise n (d.roots++l) m)(ha:a+d.isA<=t.attrs.length)(hp:p+d.isS<=t.steps.length):Cnt (jD2 t.nA a p d s):=by
 cases d with
 |A x=>
  have ha:a+1<=t.attrs.length:=ha;obtain⟨k,h1,h2⟩:=zK (ahead:=a) (step:= -1) (lays:=a) h hr (by omega) (by omega) (by decide) (by omega) (by omega) (by omega);exact zq h1 (zq h hc hr) h2
 |jG9 x=>
  obtain⟨k,h1,h2⟩:=zK (ahead:= -1) (step:= -1) (lays:= -1) h hr (by decide) (by omega) (by decide) (by omega) (by decide) (by omega);exact zq h1 (zq h hc hr) h2
 |M x=>exact zq h hc hr
 |S x=>
  have hp:p+1<=t.steps.length:=hp;obtain⟨k,h1,h2⟩:=zK (ahead:= -1) (step:=p) (lays:= -1) h hr (by decide) (by omega) (by omega) (by omega) (by decide) (by omega);exact xq (by omega) x.effects l k m _ h1 (zq h hc hr) h2
theorem Yf:∀(D:List Dk) (a p:Nat) (n m:Int) (s:UseS),UseI t n s->Cnt s->Rise n (D.flatMap Dk.roots) m->a+Yb D<=t.attrs.length->p+Ze D<=t.steps.length->Cnt (Js t.nA a p D s)
 |[],_,_,_,_,_,_,hc,_,_,_=>hc
 |d::D,a,p,n,m,s,h,hc,hr,ha,hp=>by
  obtain⟨c1,_,_,c4⟩:=yl d D;rw[jL9]at hr;obtain⟨k,h1,h2⟩:=jBc (a:=a) (p:=p) h hr (by omega) (by omega);exact Yf D _ _ k m _ h1 (jCF h hc hr (by omega) (by omega)) h2 (by omega) (by omega)
variable{n:Nat}{D:List Dk}
theorem xk(k:Nat)(D:List Dk):Yb (D.take k)<=Yb D/\uw (D.take k)<=uw D/\uv (D.take k)<=uv D/\Ze (D.take k)<=Ze D:=by
 have h:∀{α:Type} (f:Dk->Option α),((D.take k).filterMap f).length<=(D.filterMap f).length:=fun f=>by
  conv=>rhs;rw[<-List.take_append_drop k D]
  rw[List.filterMap_append,jJ4];omega
 exact⟨h _,h _,h _,h _⟩
theorem Yd(h:WfT n t D)(k:Nat):(VK t D k).1.length<=1000000:=by
 have hr:Rise 0 ((D.take k).flatMap Dk.roots) t.nodes.length:=by
  have:=h.rise;rw[<-List.take_append_drop k D,jN5]at this;exact this.left
 obtain⟨c1,_,_,c4⟩:=xk k D;have e1:Yb D=t.attrs.length:=by rw[h.eA];rfl
 have e4:Ze D=t.steps.length:=by rw[h.eS];rfl
 have i0:UseI t 0 ([],0):=⟨fun _ hx=>(by cases hx),Int.le_refl _,Int.le_refl _⟩;obtain⟨q,h1,h2⟩:=Vp (t:=t) (D.take k) 0 0 0 t.nodes.length ([],0) i0 hr (by omega) (by omega);have hc:=Yf (t:=t) (D.take k) 0 0 0 t.nodes.length ([],0) i0 (Int.le_refl _) hr (by omega) (by omega);have h3:=h1.le;have h4:=h.nk.nl;have h5:((Js t.nA 0 0 (D.take k) ([],0)).1.length:Int)<=(Js t.nA 0 0 (D.take k) ([],0)).2:=hc;have h6:(VK t D k).1.length=(Js t.nA 0 0 (D.take k) ([],0)).1.length:=rfl;omega
theorem jCg(h:WfT n t D){d:Dk}(hd:d∈D){a:Int}(ha:a∈d.roots):a<=1000000:=by
 have h1:=Rise.lt (Int.le_refl 0) h.rise a (List.mem_flatMap.2 ⟨d,hd,ha⟩);have h4:=h.nk.nl;omega
theorem Ye(t:Tre)(D:List Dk):(VK t D D.length).1=Zs t D:=by
 unfold VK Zs;rw[List.take_length]
end
theorem Zl(AN:List BA)(p:Nat)(e:Eff):∀(l:List Eff) (s:UseS),xr AN p (l++[e]) s=Jr e.worth (-1) p (jC AN e.name) (xr AN p l s)
 |[],_=>rfl
 |x::l,s=>by
  rw[jN6,xr,Zl AN p e l,xr]
theorem xp(AN:List BA)(p:Nat):∀(l:List Eff) (s:UseS),(xr AN p l s).1.length<=s.1.length+l.length
 |[],_=>jL3 _
 |e::l,s=>by
  have h1:=xp AN p l (Jr e.worth (-1) p (jC AN e.name) s);have h2:=KN e.worth (-1) p (jC AN e.name) s;rw[xr,jK6];omega
end Go.Proofs.YtifbhcfdealfaaaGreatDoor

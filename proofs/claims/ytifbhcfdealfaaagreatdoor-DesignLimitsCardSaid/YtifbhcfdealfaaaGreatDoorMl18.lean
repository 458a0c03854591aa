import Derived.Test.YtifbhcfdealfaaaGreatDoorMl11
import Derived.Maps.OwnSet
import Derived.Maps.OwnOps
set_option maxRecDepth 100000
set_option maxHeartbeats 25600000
namespace Go.Proofs.YtifbhcfdealfaaaGreatDoor
open Go.Proofs.Tryz
theorem JE:∀(b:Bool) (l:LB),jQ b l<=l.length
 |b,[]=>by cases b<;>exact jL3 _
 |true,c::l=>by
  rw[jQ];have h1:=JE false l;have h2:=JE true l;rw[jK6];split<;>omega
 |false,c::l=>by
  rw[jQ];have h1:=JE false l;have h2:=JE true l;rw[jK6];split
  ·omega
  ·split<;>omega
theorem Zx:∀(n:Nat) (l:LB) (k:Nat),l.length<=n->strLen l=some k->k<=l.length
 |_,[],k,_,h=>by cases h
 |0,c::l,_,hn,_=>by rw[jK6]at hn;omega
 |n+1,c::l,k,hn,h=>by
  rw[jK6]at hn⊢;rw[strLen.eq_def]at h;simp only at h;split at h
  ·obtain rfl:=jL5 h;omega
  split at h
  ·cases l with
   |nil=>cases h
   |cons d l=>
    simp only at h;obtain⟨q,hq,rfl⟩:=jM4 h;rw[jK6]at hn⊢;have:=Zx n l q (by omega) hq;omega
  ·obtain⟨q,hq,rfl⟩:=jM4 h;have:=Zx n l q (by omega) hq;omega
theorem jDG{l:LB}{x:Nat×Nat}(h:qa l=some x)(hw:∀c m,l=c::m->jf [c,61]≠0->m.headD 0=61->m≠ []):x.1<=l.length:=by
 cases l with
 |nil=>cases h
 |cons c l=>
  rw[qa]at h;split at h
  ·obtain rfl:=jL5 h;exact(List.takeWhile_prefix _).length_le
  ·split at h
   ·obtain⟨q,hq,rfl⟩:=jM4 h;have:=Zx _ l q (jL3 _) hq;rw[jK6];omega
   ·split at h
    ·rename_i h2;obtain rfl:=jL5 h;cases l with
     |nil=>exact absurd rfl (hw c [] rfl h2.2 h2.1)
     |cons d l=>simp
    ·obtain rfl:=jL5 h;simp
def KB(n:Nat)(ks:List Int):Prop:=ks.length<=1000000/\∀k∈ks,0<=k/\k<(n:Int)
structure Nk(n:Nat)(t:Tre):Prop where
 same:t.ats.length=t.nodes.length
 ats:∀a∈t.ats,0<=a/\a<=(n:Int)
 kids:∀(i:Nat) (x:Nd),t.nodes[i]? =some x->KB i x.kids
 nl:t.nodes.length<=1000000
 nn:∀x∈t.nodes,x.name.size<=n/\x.vs=[]
def Rdr.len(r:Rdr):Nat:=r.tree.nodes.length
structure Ok9(src:LB)(r:Rdr):Prop where
 nk:Nk src.length r.tree
 pos:r.at_ <=src.length
 frm:r.from_ <=src.length
structure Gro(src:LB)(r r' :Rdr):Prop where
 ok:Ok9 src r'
 len:r.len<=r'.len
 name:r'.tree.name=r.tree.name
 at_:r'.tree.at_=r.tree.at_
 steps:r'.tree.steps=r.tree.steps
 attrs:r'.tree.attrs=r.tree.attrs
 stages:r'.tree.stages=r.tree.stages
 miles:r'.tree.miles=r.tree.miles
 order:r'.order=r.order
variable{src:LB}{r r1 r2:Rdr}
theorem Gro.refl(h:Ok9 src r):Gro src r r:=⟨h,jL3 _,rfl,rfl,rfl,rfl,rfl,rfl,rfl⟩
theorem Gro.trans(h:Gro src r r1)(k:Gro src r1 r2):Gro src r r2:=
 ⟨k.ok,jL4 h.len k.len,k.name.trans h.name,k.at_.trans h.at_,k.steps.trans h.steps,k.attrs.trans h.attrs,k.stages.trans h.stages,k.miles.trans h.miles,k.order.trans h.order⟩
theorem zT(h:Ok9 src r)(e:jc src r=some r1):Gro src r r1/\r1.tree=r.tree:=by
 unfold jc at e;have hk:r.at_ +jQ false (src.drop r.at_)<=src.length:=by
  have:=JE false (src.drop r.at_);rw[jK8]at this;have:=h.pos;omega
 simp only at e;split at e
 ·obtain rfl:=jL5 e;exact⟨⟨⟨h.nk,hk,hk⟩,jL3 _,rfl,rfl,rfl,rfl,rfl,rfl,rfl⟩,rfl⟩
 ·obtain⟨x,hx,rfl⟩:=jM4 e;have:=jDG hx (fun c m _ _ h1 h2=>by rw[h2]at h1;exact absurd h1 (by decide));rw[jK8]at this;exact⟨⟨⟨h.nk,by show _ +x.1<=_;omega,hk⟩,jL3 _,rfl,rfl,rfl,rfl,rfl,rfl,rfl⟩,rfl⟩
theorem jg(h:Ok9 src r)(e:jc src r=some r1):Gro src r r1:=(zT h e).1
theorem Gro.next(h:Gro src r r1)(e:jc src r1=some r2):Gro src r r2:=h.trans (jg h.ok e)
theorem jFM(h:Ok9 src r)(e:jc src r=some r1):r1.len=r.len:=congrArg (fun t=>t.nodes.length) (zT h e).2
theorem yF{n:Nd}{a:Nat}{x:Int×Rdr}(h:Ok9 src r)(ha:a<=src.length)(hk:KB r.len n.kids)(hn:n.name.size<=src.length/\n.vs=[])(e:vJ n a r=some x):Gro src r x.2/\x.1=(r.len:Int)/\x.2.len=r.len+1:=by
 unfold vJ at e;split at e
 ·rename_i GC;obtain rfl:=jL5 e;have hl:(r.tree.nodes++[n]).length=r.tree.nodes.length+1:=(by simp);refine⟨⟨⟨⟨by simp[h.nk.same],fun b hb=> ?_,fun i x hx=> ?_,by show(r.tree.nodes++[n]).length<=_;rw[hl];omega,fun y hy=> ?_⟩,h.pos,h.frm⟩,by show _ <=(r.tree.nodes++[n]).length;rw[hl];exact Nat.le_succ _,rfl,rfl,rfl,rfl,rfl,rfl,rfl⟩,rfl,hl⟩
  ·rcases jM6 hb with hb|hb
   ·exact h.nk.ats b hb
   ·obtain rfl:=jM7 hb;omega
  ·rcases Nat.lt_or_ge i r.tree.nodes.length with h1|h1
   ·exact h.nk.kids i x (by rw[<-hx];exact(List.getElem?_append_left h1).symm)
   ·have h2:(r.tree.nodes++[n])[i]? =some x:=hx;rw[List.getElem?_append_right h1]at h2;have h3:i-r.tree.nodes.length=0:=by
     rcases Nat.eq_zero_or_pos (i-r.tree.nodes.length)with h4|h4
     ·exact h4
     ·rw[List.getElem?_eq_none (by simp;omega)]at h2;cases h2
    rw[h3]at h2;obtain rfl:=jL5 h2;refine⟨hk.1,fun k Fu=> ?_⟩;have h5:=hk.2 k Fu;have h6:r.len=r.tree.nodes.length:=rfl;omega
  ·rcases jM6 hy with hy|hy
   ·exact h.nk.nn y hy
   ·obtain rfl:=jM7 hy;exact hn
 ·cases e
def JOk(n:Nat):Job->Prop
 | .more _ v=>0<=v/\v<(n:Int)
 | .two _ v _=>0<=v/\v<(n:Int)
 | .list _ ks=>KB n ks
 |_=>True
def jGn(n:Nat):Job->Int×List Int×Rdr->Prop
 | .more _ v,y=>v<=y.1/\y.1<(y.2.2.len:Int)
 | .list _ _,y=>KB y.2.2.len y.2.1
 |_,y=>(n:Int)<=y.1/\y.1<(y.2.2.len:Int)
theorem jB4{a b:Int}{n:Nat}(h1:(b:Int)<=a)(h0:0<=b)(h2:a<(n:Int)):KB n [a]:=⟨by simp,fun k hk=>by
 obtain rfl:=jM7 hk;omega⟩
theorem Uf(l:LB):(⟨l.toArray⟩:BA).size=l.length:=by simp[ByteArray.size]
theorem Xa{t:Nat}{w:LB}{n:Nd}(h:kJ t w=some n):n.name.size<=w.length/\n.vs=[]:=by
 have h0:(⟨#[]⟩:BA).size=0:=rfl;unfold kJ at h;split at h
 ·split at h
  ·obtain rfl:=jL5 h;exact⟨by simp only[h0,Nat.zero_le],rfl⟩
  ·cases h
 split at h
 ·obtain rfl:=jL5 h;exact⟨by simp only[h0,Nat.zero_le],rfl⟩
 split at h
 ·split at h
  ·obtain⟨v,_,rfl⟩:=jM4 h;exact⟨by simp only[h0,Nat.zero_le],rfl⟩
  ·cases h
 split at h
 ·obtain rfl:=jL5 h;exact⟨by simp only[Uf,jL3],rfl⟩
 ·obtain rfl:=jL5 h;exact⟨by simp only[jn,h0,Nat.zero_le],rfl⟩
theorem Ve(src:LB)(r:Rdr):(jh src r).length<=src.length:=by
 unfold jh;rw[jK8,jK9];omega
theorem jAl{t:Nat}{w:LB}{n:Nd}(h:kJ t w=some n):n.kids=[]:=by
 unfold kJ at h;split at h
 ·split at h
  ·obtain rfl:=jL5 h;rfl
  ·cases h
 split at h
 ·obtain rfl:=jL5 h;rfl
 split at h
 ·split at h
  ·obtain⟨v,_,rfl⟩:=jM4 h;rfl
  ·cases h
 split at h
 ·obtain rfl:=jL5 h;rfl
 ·obtain rfl:=jL5 h;rfl
theorem KE{n:Nat}:KB n []:=⟨by decide,fun k hk=>by cases hk⟩
theorem yg{w:BA×Int×Rdr}(h:Ok9 src r)(e:zC src r=some w):Gro src r w.2.2/\w.2.2.tree=r.tree/\0<=w.2.1/\w.2.1<=(src.length:Int)/\w.1.size<=src.length:=by
 unfold zC at e;obtain⟨r',hr,rfl⟩:=jM4 e;obtain⟨g,t⟩:=zT h hr;have:=h.frm;exact⟨g,t,by show(0:Int)<=(r.from_:Int);omega,by show(r.from_:Int)<=_;omega,by show(⟨(jh src r).toArray⟩:BA).size<=_;rw[Uf];exact Ve src r⟩
theorem jHb{r r' :Rdr}(h:r.len<=r'.len):(r.len:Int)<=(r'.len:Int):=by omega
theorem jE3:∀(f:Nat) (j:Job) (r:Rdr) (y:Int×List Int×Rdr),Ok9 src r->JOk r.len j->exN src f j r=some y->Gro src r y.2.2/\jGn r.len j y:=by
 intro f
 induction f with
 |zero=>intro j r y _ _ h;cases h
 |succ f ih=>
  intro j r y ho hj h;cases j with
  |expr=>
   rw[exN]at h;split at h
   ·exact ih (.row 43) r y ho trivial h
   ·obtain⟨r1,n1,h⟩:=jM2 h;obtain⟨c,n2,h⟩:=jM2 h;obtain⟨r3,n3,h⟩:=jM2 h;obtain⟨a,n4,h⟩:=jM2 h;obtain⟨r5,n5,h⟩:=jM2 h;obtain⟨b,n6,h⟩:=jM2 h;obtain⟨x,n7,rfl⟩:=jM4 h;have g1:=jg ho n1;obtain⟨g2,c1,c2⟩:=ih .expr r1 c g1.ok trivial n2;have g3:=jg g2.ok n3;obtain⟨g4,a1,a2⟩:=ih .expr r3 a g3.ok trivial n4;have g5:=jg g4.ok n5;obtain⟨g6,b1,b2⟩:=ih .expr r5 b g5.ok trivial n6;have l1:=g1.len;have l2:=g2.len;have l3:=g3.len;have l4:=g4.len;have l5:=g5.len;have l6:=g6.len;obtain⟨g7,e1,e2⟩:=yF g6.ok ho.frm ⟨(by simp[jn]:_ <=1000000),fun k hk=>by
     have hk:k∈ [c.1,a.1,b.1]:=hk;simp only[List.mem_cons,List.not_mem_nil,or_false]at hk;rcases hk with rfl|rfl|rfl<;>omega⟩ ⟨Nat.zero_le _,rfl⟩ n7
    exact⟨g1.trans (g2.trans (g3.trans (g4.trans (g5.trans (g6.trans g7))))),by show(_:Int)<=x.1;omega,by show x.1<(x.2.len:Int);omega⟩
  |row level=>
   rw[exN]at h;split at h
   ·split at h
    ·obtain⟨r1,n1,h⟩:=jM2 h;obtain⟨k,n2,h⟩:=jM2 h;obtain⟨x,n7,rfl⟩:=jM4 h;have g1:=jg ho n1;obtain⟨g2,c1,c2⟩:=ih (.row 45) r1 k g1.ok trivial n2;have l1:=g1.len;have l2:=g2.len;obtain⟨g7,e1,e2⟩:=yF g2.ok ho.frm (jB4 (b:=0) (by omega) (Int.le_refl _) c2) ⟨Nat.zero_le _,rfl⟩ n7;exact⟨g1.trans (g2.trans g7),by show(_:Int)<=x.1;omega,by show x.1<(x.2.len:Int);omega⟩
    ·obtain⟨k,n2,h⟩:=jM2 h;obtain⟨g2,c1,c2⟩:=ih (.row 18) r k ho trivial n2;have l2:=g2.len;have two:∀op,exN src f (.two op k.1 18) k.2.2=some y->Gro src r y.2.2/\jGn r.len (.row level) y:=fun op h=>by
      obtain⟨g3,d1,d2⟩:=ih (.two op k.1 18) k.2.2 y g2.ok ⟨by omega,c2⟩ h;exact⟨g2.trans g3,by show(_:Int)<=y.1;omega,d2⟩
     split at h
     ·exact two _ h
     split at h
     ·exact two _ h
     ·obtain rfl:=jL5 h;exact⟨g2,c1,c2⟩
   split at h
   ·obtain⟨k,n2,h⟩:=jM2 h;obtain⟨g2,c1,c2⟩:=ih (.row (YY level)) r k ho trivial n2;have l2:=g2.len;obtain⟨g3,d1,d2⟩:=ih (.more level k.1) k.2.2 y g2.ok ⟨by omega,c2⟩ h;exact⟨g2.trans g3,by show(_:Int)<=y.1;omega,d2⟩
   ·exact ih .unary r y ho trivial h
  |more level v=>
   rw[exN]at h;obtain⟨v0,v1⟩:=hj;split at h
   ·obtain rfl:=jL5 h;exact⟨Gro.refl ho,Int.le_refl _,v1⟩
   ·obtain⟨k,n2,h⟩:=jM2 h;obtain⟨g2,c1,c2⟩:=ih (.two _ v _) r k ho ⟨v0,v1⟩ n2;obtain⟨g3,d1,d2⟩:=ih (.more level k.1) k.2.2 y g2.ok ⟨by omega,c2⟩ h;exact⟨g2.trans g3,by show v<=y.1;omega,d2⟩
  |two op v level=>
   rw[exN]at h;obtain⟨v0,v1⟩:=hj;obtain⟨r1,n1,h⟩:=jM2 h;obtain⟨q,n2,h⟩:=jM2 h;obtain⟨x,n7,rfl⟩:=jM4 h;have g1:=jg ho n1;obtain⟨g2,c1,c2⟩:=ih (.row level) r1 q g1.ok trivial n2;have l1:=g1.len;have l2:=g2.len;obtain⟨g7,e1,e2⟩:=yF g2.ok ho.frm ⟨(by simp[jn]:_ <=1000000),fun k hk=>by
    have hk:k∈ [v,q.1]:=hk;simp only[List.mem_cons,List.not_mem_nil,or_false]at hk;rcases hk with rfl|rfl<;>omega⟩ ⟨Nat.zero_le _,rfl⟩ n7
   exact⟨g1.trans (g2.trans g7),by show(_:Int)<=x.1;omega,by show x.1<(x.2.len:Int);omega⟩
  |unary=>
   rw[exN]at h;split at h
   ·obtain⟨r1,n1,h⟩:=jM2 h;obtain⟨k,n2,h⟩:=jM2 h;obtain⟨x,n7,rfl⟩:=jM4 h;have g1:=jg ho n1;obtain⟨g2,c1,c2⟩:=ih .unary r1 k g1.ok trivial n2;have l1:=g1.len;have l2:=g2.len;obtain⟨g7,e1,e2⟩:=yF g2.ok ho.frm (jB4 (b:=0) (by omega) (Int.le_refl _) c2) ⟨Nat.zero_le _,rfl⟩ n7;exact⟨g1.trans (g2.trans g7),by show(_:Int)<=x.1;omega,by show x.1<(x.2.len:Int);omega⟩
   split at h
   ·obtain⟨n,n0,h⟩:=jM2 h;obtain⟨r1,n1,h⟩:=jM2 h;obtain⟨x,n7,rfl⟩:=jM4 h;have g1:=jg ho n1;have l1:=g1.len;obtain⟨g7,e1,e2⟩:=yF g1.ok ho.frm (by rw[jAl n0];exact KE) ⟨jL4 (Xa n0).1 (Ve src r),(Xa n0).2⟩ n7;exact⟨g1.trans g7,by show(_:Int)<=x.1;omega,by show x.1<(x.2.len:Int);omega⟩
   split at h
   ·obtain⟨r1,n1,h⟩:=jM2 h;obtain⟨k,n2,h⟩:=jM2 h;obtain⟨r3,n3,h⟩:=jM2 h;obtain rfl:=jL5 h;have g1:=jg ho n1;obtain⟨g2,c1,c2⟩:=ih .expr r1 k g1.ok trivial n2;have g3:=jg g2.ok n3;have l1:=g1.len;have l3:=g3.len;exact⟨g1.trans (g2.trans g3),by show(_:Int)<=k.1;omega,by show k.1<(r3.len:Int);omega⟩
   split at h
   ·obtain⟨r1,n1,h⟩:=jM2 h;obtain⟨k,n2,h⟩:=jM2 h;obtain⟨x,n7,rfl⟩:=jM4 h;have g1:=jg ho n1;obtain⟨g2,c1⟩:=ih (.list 5 []) r1 k g1.ok KE n2;have l1:=g1.len;have l2:=g2.len;obtain⟨g7,e1,e2⟩:=yF g2.ok ho.frm (by exact c1) ⟨Nat.zero_le _,rfl⟩ n7;exact⟨g1.trans (g2.trans g7),by show(_:Int)<=x.1;omega,by show x.1<(x.2.len:Int);omega⟩
   split at h
   ·cases h
   ·obtain⟨r1,n1,h⟩:=jM2 h;obtain⟨r2,n2,h⟩:=jM2 h;have g1:=jg ho n1;have g2:=jg g1.ok n2;have l1:=g1.len;have l2:=g2.len;split at h
    ·obtain⟨w,n3,h⟩:=jM2 h;obtain⟨r4,n4,h⟩:=jM2 h;obtain⟨x,n7,rfl⟩:=jM4 h;obtain⟨g3,_,_,_,hw⟩:=yg g2.ok n3;have g4:=jg g3.ok n4;have l3:=g3.len;have l4:=g4.len;obtain⟨g7,e1,e2⟩:=yF g4.ok ho.frm KE ⟨hw,rfl⟩ n7;exact⟨g1.trans (g2.trans (g3.trans (g4.trans g7))),by show(_:Int)<=x.1;omega,by show x.1<(x.2.len:Int);omega⟩
    ·obtain⟨k,n3,h⟩:=jM2 h;obtain⟨x,n7,rfl⟩:=jM4 h;obtain⟨g3,c1⟩:=ih (.list 7 []) r2 k g2.ok KE n3;have l3:=g3.len;obtain⟨g7,e1,e2⟩:=yF g3.ok ho.frm (by exact c1) ⟨Nat.zero_le _,rfl⟩ n7;exact⟨g1.trans (g2.trans (g3.trans g7)),by show(_:Int)<=x.1;omega,by show x.1<(x.2.len:Int);omega⟩
  |list last kids=>
   rw[exN]at h;split at h
   ·obtain⟨r1,n1,h⟩:=jM2 h;obtain rfl:=jL5 h;have g1:=jg ho n1;exact⟨g1,hj.1,fun k hk=>⟨(hj.2 k hk).1,by have:=(hj.2 k hk).2;have:=g1.len;show k<(r1.len:Int);omega⟩⟩
   split at h
   ·rename_i GC;obtain⟨s,n1,h⟩:=jM2 h;obtain⟨k,n2,h⟩:=jM2 h;have g1:Gro src r s.2:=by
     unfold jb at n1;split at n1
     ·obtain⟨r1,e,rfl⟩:=jM4 n1;exact jg ho e
     ·obtain rfl:=jL5 n1;exact Gro.refl ho
    obtain⟨g2,c1,c2⟩:=ih .expr s.2 k g1.ok trivial n2;have l1:=g1.len;have l2:=g2.len;obtain⟨g3,d1⟩:=ih (.list last (kids++[k.1])) k.2.2 y g2.ok ⟨by rw[jJ4];simp;omega,fun q hq=>by
     rcases jM6 hq with hq|hq
     ·have:=hj.2 q hq;omega
     ·obtain rfl:=jM7 hq;omega⟩ h
    exact⟨g1.trans (g2.trans g3),d1⟩
   ·cases h
inductive Dk where
 |A (x:Atr)
 |jG9 (x:Stg)
 |M (x:Mil)
 |S (x:Stp)
namespace Dk
def order:Dk->Int
 |A x=>x.order
 |jG9 x=>x.order
 |M x=>x.order
 |S x=>x.order
def roots:Dk->List Int
 |A x=>[x.dflt,x.when_]
 |jG9 x=>[x.opens,x.closes]
 |M x=>[x.when_]
 |S x=>x.when_::x.effects.map (·.worth)
def places:Dk->List Int
 |A x=>[x.at_]
 |jG9 x=>[x.at_,x.inAt]
 |M x=>[x.at_,x.inAt]
 |S x=>x.at_::x.inAt::(x.params.map (·.at_)++x.effects.map (·.at_))
def names:Dk->List BA
 |A x=>[x.name]
 |jG9 x=>[x.name,x.in_]
 |M x=>[x.name,x.in_]
 |S x=>x.name::x.in_::(x.params.map (·.name)++x.effects.map (·.name))
def short:Dk->Prop
 |S x=>x.params.length<=1000000/\x.effects.length<=1000000
 |_=>True
def asA:Dk->Option Atr
 |A x=>some x
 |_=>none
def asG:Dk->Option Stg
 |jG9 x=>some x
 |_=>none
def asM:Dk->Option Mil
 |M x=>some x
 |_=>none
def asS:Dk->Option Stp
 |S x=>some x
 |_=>none
end Dk
def Rise:Int->List Int->Int->Prop
 |n,[],m=>n<=m
 |n,a::l,m=>if 0<=a then n<=a/\Rise (a+1) l m else Rise n l m
theorem Rise.mono:∀{l:List Int} {n m k:Int},Rise n l m->m<=k->Rise n l k
 |[],n,m,k,h,hk=>Int.le_trans h hk
 |a::l,n,m,k,h,hk=>by
  unfold Rise at h⊢;split at h
  ·rename_i h0;rw[jJ6 h0];exact⟨h.1,Rise.mono h.2 hk⟩
  ·rename_i h0;rw[jJ5 h0];exact Rise.mono h hk
theorem Rise.down:∀{l:List Int} {n m k:Int},n<=m->Rise m l k->Rise n l k
 |[],n,m,k,h,hk=>Int.le_trans h hk
 |a::l,n,m,k,h,hk=>by
  unfold Rise at hk⊢;split at hk
  ·rename_i h0;rw[jJ6 h0];exact⟨Int.le_trans h hk.1,hk.2⟩
  ·rename_i h0;rw[jJ5 h0];exact Rise.down h hk
theorem Rise.app:∀{l l' :List Int} {n m k:Int},Rise n l m->Rise m l' k->Rise n (l++l') k
 |[],l',n,m,k,h,hk=>Rise.down h hk
 |a::l,l',n,m,k,h,hk=>by
  show Rise n (a::(l++l')) k;unfold Rise at h⊢;split at h
  ·rename_i h0;rw[jJ6 h0];exact⟨h.1,Rise.app h.2 hk⟩
  ·rename_i h0;rw[jJ5 h0];exact Rise.app h hk
structure WfT(n:Nat)(t:Tre)(D:List Dk):Prop where
 nk:Nk n t
 at_:0<=t.at_ /\t.at_ <=(n:Int)
 eA:t.attrs=D.filterMap Dk.asA
 eG:t.stages=D.filterMap Dk.asG
 eM:t.miles=D.filterMap Dk.asM
 eS:t.steps=D.filterMap Dk.asS
 ord:∀(i:Nat) (d:Dk),D[i]? =some d->d.order=(i:Int)
 pl:∀d∈D,∀a∈d.places,0<=a/\a<=(n:Int)
 nm:∀d∈D,∀s∈d.names,s.size<=n
 name:t.name.size<=n
 rise:Rise 0 (D.flatMap Dk.roots) t.nodes.length
 neg:∀d∈D,∀a∈d.roots,-1<=a
 short:∀d∈D,d.short
 lA:t.attrs.length<=1000000
 lG:t.stages.length<=1000000
 lM:t.miles.length<=1000000
 lS:t.steps.length<=1000000
theorem Jz{n m:Nat}(h:n<=m):Rise (n:Int) [] (m:Int):=Int.ofNat_le.2 h
variable{src:LB}{r r1 r2:Rdr}
theorem JH{n m:Nat}{v:Int}(h:(v= -1/\n<=m)\/((n:Int)<=v/\v<(m:Int))):Rise (n:Int) [v] (m:Int)/\ -1<=v:=by
 unfold Rise;rcases h with⟨rfl,h⟩|⟨h1,h2⟩
 ·rw[jJ5 (by decide)];exact⟨(by omega:(n:Int)<=(m:Int)),Int.le_refl _⟩
 ·rw[jJ6 (by omega)];exact⟨⟨h1,(by omega:v+1<=(m:Int))⟩,by omega⟩
theorem YP{f:Nat}{k:Int×Rdr}(h:Ok9 src r)(e:ZZ src f r=some k):Gro src r k.2/\(r.len:Int)<=k.1/\k.1<(k.2.len:Int):=by
 unfold ZZ at e;obtain⟨y,hy,rfl⟩:=jM4 e;obtain⟨g,h1,h2⟩:=jE3 f .expr r y h trivial hy;exact⟨g,h1,h2⟩
theorem JP{f first:Nat}{k:Int×Rdr}(h:Ok9 src r)(e:kZ src f first r=some k):Gro src r k.2/\Rise (r.len:Int) [k.1] (k.2.len:Int)/\ -1<=k.1:=by
 unfold kZ at e;split at e
 ·obtain rfl:=jL5 e;exact⟨Gro.refl h,JH (.inl ⟨rfl,jL3 _⟩)⟩
 ·obtain⟨r1,n1,e⟩:=jM2 e;have g1:=jg h n1;have l1:=g1.len;split at e
  ·obtain⟨g,h1,h2⟩:=YP g1.ok e;exact⟨g1.trans g,JH (.inr ⟨by omega,h2⟩)⟩
  ·obtain⟨r2,n2,e⟩:=jM2 e;have g2:=jg g1.ok n2;have l2:=g2.len;obtain⟨g,h1,h2⟩:=YP g2.ok e;exact⟨g1.trans (g2.trans g),JH (.inr ⟨by omega,h2⟩)⟩
theorem Kg{f first:Nat}{k:Int×Rdr}(h:Ok9 src r)(e:vp src f first r=some k):Gro src r k.2/\Rise (r.len:Int) [k.1] (k.2.len:Int)/\ -1<=k.1:=by
 unfold vp at e;obtain⟨q,n1,e⟩:=jM2 e;obtain⟨g,h1,h2⟩:=JP h n1;split at e
 ·obtain⟨r2,n2,e⟩:=jM2 e;obtain rfl:=jL5 e;have g2:=jg g.ok n2;exact⟨g.trans g2,h1.mono (by have:=g2.len;show(q.2.len:Int)<=(r2.len:Int);omega),h2⟩
 ·obtain rfl:=jL5 e;exact⟨g,h1,h2⟩
def Rdr.up(r:Rdr):Rdr:={r with order:=r.order+1}
theorem KL{d:BA×Int×Int×Rdr}(h:Ok9 src r)(e:VQ src r=some d):Gro src r.up d.2.2.2/\0<=d.2.1/\d.2.1<=(src.length:Int)/\d.2.2.1=(r.order:Int)/\d.1.size<=src.length:=by
 unfold VQ at e;obtain⟨r1,n1,e⟩:=jM2 e;obtain⟨w,n2,e⟩:=jM2 e;have g1:=jg h n1;obtain⟨g2,t,a,b,c⟩:=yg g1.ok n2;have g:=g1.trans g2;split at e
 ·obtain rfl:=jL5 e;exact⟨⟨⟨g.ok.nk,g.ok.pos,g.ok.frm⟩,g.len,g.name,g.at_,g.steps,g.attrs,g.stages,g.miles,by show w.2.2.order+1=r.order+1;rw[g.order]⟩,a,b,by show(w.2.2.order:Int)=_;rw[g.order],c⟩
 ·cases e
theorem Xu{d:BA×Int×Rdr}(h:Ok9 src r)(e:inN src r=some d):Gro src r d.2.2/\0<=d.2.1/\d.2.1<=(src.length:Int)/\d.1.size<=src.length:=by
 unfold inN at e;split at e
 ·obtain⟨r1,n1,e⟩:=jM2 e;have g1:=jg h n1;obtain⟨g2,t,a,b,c⟩:=yg g1.ok e;exact⟨g1.trans g2,a,b,c⟩
 ·obtain rfl:=jL5 e;exact⟨Gro.refl h,Int.le_refl _,(by omega:(0:Int)<=(src.length:Int)),Nat.zero_le _⟩
theorem xY{d:Int×Rdr}(h:Ok9 src r)(e:ZO src r=some d):Gro src r d.2:=by
 unfold ZO at e;split at e
 ·obtain⟨r1,n1,e⟩:=jM2 e;obtain rfl:=jL5 e;exact jg h n1
 ·cases e
theorem Vu{t:Nat}{s:Bool×Rdr}(h:Ok9 src r)(e:jb src t r=some s):Gro src r s.2:=by
 unfold jb at e;split at e
 ·obtain⟨r1,n1,rfl⟩:=jM4 e;exact jg h n1
 ·obtain rfl:=jL5 e;exact Gro.refl h
theorem Vb:∀(f:Nat) (ps:List Prm) (r:Rdr) (y:List Prm×Rdr),Ok9 src r->ps.length<=1000000->(∀p∈ps,(0<=p.at_ /\p.at_ <=(src.length:Int))/\p.name.size<=src.length)->yT src f ps r=some y->
  Gro src r y.2/\y.1.length<=1000000/\∀p∈y.1,(0<=p.at_ /\p.at_ <=(src.length:Int))/\p.name.size<=src.length
 |0,_,_,_,_,_,_,e=>by cases e
 |f+1,ps,r,y,h,hl,hp,e=>by
  rw[yT]at e;split at e
  ·obtain rfl:=jL5 e;exact⟨Gro.refl h,hl,hp⟩
  split at e
  ·rename_i GC;obtain⟨s,n1,e⟩:=jM2 e;obtain⟨w,n2,e⟩:=jM2 e;obtain⟨r3,n3,e⟩:=jM2 e;obtain⟨k,n4,e⟩:=jM2 e;have g1:=Vu h n1;obtain⟨g2,_,a,b,c⟩:=yg g1.ok n2;have g3:=jg g2.ok n3;have g4:=xY g3.ok n4;obtain⟨g5,q1,q2⟩:=Vb f _ _ y g4.ok (by rw[jJ4];simp;omega) (fun p FW=>by
    rcases jM6 FW with FW|FW
    ·exact hp p FW
    ·obtain rfl:=jM7 FW;exact⟨⟨a,b⟩,c⟩) e
   exact⟨g1.trans (g2.trans (g3.trans (g4.trans g5))),q1,q2⟩
  ·cases e
theorem VA:∀(f:Nat) (es:List Eff) (r:Rdr) (y:List Eff×Rdr) (n:Int),Ok9 src r->es.length<=1000000->(∀p∈es,(0<=p.at_ /\p.at_ <=(src.length:Int))/\p.name.size<=src.length)->(∀p∈es,-1<=p.worth)->Rise n (es.map (·.worth)) r.len->vH src f es r=some y->
  Gro src r y.2/\y.1.length<=1000000/\(∀p∈y.1,(0<=p.at_ /\p.at_ <=(src.length:Int))/\p.name.size<=src.length)/\(∀p∈y.1,-1<=p.worth)/\Rise n (y.1.map (·.worth)) y.2.len
 |0,_,_,_,_,_,_,_,_,_,e=>by cases e
 |f+1,es,r,y,n,h,hl,hp,hw,hr,e=>by
  rw[vH]at e;split at e
  ·obtain rfl:=jL5 e;exact⟨Gro.refl h,hl,hp,hw,hr⟩
  split at e
  ·rename_i GC;obtain⟨s,n1,e⟩:=jM2 e;obtain⟨w,n2,e⟩:=jM2 e;obtain⟨x,n3,e⟩:=jM2 e;obtain⟨r4,n4,e⟩:=jM2 e;have g1:=Vu h n1;obtain⟨g2,_,a,b,c⟩:=yg g1.ok n2;have l1:=g1.len;have l2:=g2.len;have g3:Gro src w.2.2 x.2/\Rise (w.2.2.len:Int) [x.1] (x.2.len:Int)/\ -1<=x.1:=by
    split at n3
    ·obtain rfl:=jL5 n3;exact⟨Gro.refl g2.ok,JH (.inl ⟨rfl,jL3 _⟩)⟩
    ·obtain⟨r3,m1,n3⟩:=jM2 n3;have g:=jg g2.ok m1;have l:=g.len;obtain⟨g4,h1,h2⟩:=YP g.ok n3;exact⟨g.trans g4,JH (.inr ⟨by omega,h2⟩)⟩
   obtain⟨g3,q3,p3⟩:=g3;have g4:=jg g3.ok n4;have l4:=g4.len;obtain⟨g5,q1,q2,q4,q5⟩:=VA f _ _ y n g4.ok (by rw[jJ4];simp;omega) (fun p FW=>by
    rcases jM6 FW with FW|FW
    ·exact hp p FW
    ·obtain rfl:=jM7 FW;exact⟨⟨a,b⟩,c⟩) (fun p FW=>by
    rcases jM6 FW with FW|FW
    ·exact hw p FW
    ·obtain rfl:=jM7 FW;exact p3) (by
    rw[jN3];exact(hr.mono (by omega)).app (q3.mono (by omega))) e
   exact⟨g1.trans (g2.trans (g3.trans (g4.trans g5))),q1,q2,q4,q5⟩
  ·cases e
structure Wf9(src:LB)(r:Rdr)(D:List Dk):Prop where
 ok:Ok9 src r
 wf:WfT src.length r.tree D
 ord:r.order=D.length
theorem Wf9.add{D:List Dk}(h:Wf9 src r D)(g:Gro src r.up r1)(d:Dk)(t:Tre)(en:t.nodes=r1.tree.nodes)(ea:t.ats=r1.tree.ats)(et:t.at_=r1.tree.at_)
  (eA:t.attrs=r1.tree.attrs++d.asA.toList) (eG:t.stages=r1.tree.stages++d.asG.toList) (eM:t.miles=r1.tree.miles++d.asM.toList) (eS:t.steps=r1.tree.steps++d.asS.toList)
  (lA:t.attrs.length<=1000000) (lG:t.stages.length<=1000000) (lM:t.miles.length<=1000000) (lS:t.steps.length<=1000000)
  (ho:d.order=(r.order:Int)) (hp:∀a∈d.places,0<=a/\a<=(src.length:Int)) (hm:∀s∈d.names,s.size<=src.length) (etn:t.name=r1.tree.name) (hr:Rise (r.len:Int) d.roots (r1.len:Int)) (hn:∀a∈d.roots,-1<=a) (hs:d.short):Wf9 src {r1 with tree:=t} (D++[d]):=by
 have nk:Nk src.length t:=⟨by rw[en,ea];exact g.ok.nk.same,by rw[ea];exact g.ok.nk.ats,by rw[en];exact g.ok.nk.kids,by rw[en];exact g.ok.nk.nl,by rw[en];exact g.ok.nk.nn⟩;have w:=h.wf;refine⟨⟨nk,g.ok.pos,g.ok.frm⟩,⟨nk,?_,?_,?_,?_,?_,?_,?_,?_,?_,?_,?_,?_,lA,lG,lM,lS⟩,?_⟩
 ·show 0<=t.at_ /\t.at_ <=_;rw[et,g.at_];exact w.at_
 ·show t.attrs=_;rw[eA,g.attrs,List.filterMap_append];show r.tree.attrs++_=_;rw[w.eA];cases d<;>rfl
 ·show t.stages=_;rw[eG,g.stages,List.filterMap_append];show r.tree.stages++_=_;rw[w.eG];cases d<;>rfl
 ·show t.miles=_;rw[eM,g.miles,List.filterMap_append];show r.tree.miles++_=_;rw[w.eM];cases d<;>rfl
 ·show t.steps=_;rw[eS,g.steps,List.filterMap_append];show r.tree.steps++_=_;rw[w.eS];cases d<;>rfl
 ·intro i x hx;rcases Nat.lt_or_ge i D.length with h1|h1
  ·exact w.ord i x (by rw[<-hx];exact(List.getElem?_append_left h1).symm)
  ·rw[List.getElem?_append_right h1]at hx;have h3:i-D.length=0:=by
    rcases Nat.eq_zero_or_pos (i-D.length)with h4|h4
    ·exact h4
    ·rw[List.getElem?_eq_none (by simp;omega)]at hx;cases hx
   rw[h3]at hx;obtain rfl:=jL5 hx;rw[ho,h.ord];omega
 ·intro x hx;rcases jM6 hx with hx|hx
  ·exact w.pl x hx
  ·obtain rfl:=jM7 hx;exact hp
 ·intro x hx;rcases jM6 hx with hx|hx
  ·exact w.nm x hx
  ·obtain rfl:=jM7 hx;exact hm
 ·show t.name.size<=_;rw[etn,g.name];exact w.name
 ·show Rise 0 _ (t.nodes.length:Int);rw[jN5,en];refine w.rise.app (m:=(r.len:Int)) ?_;rw[show [d].flatMap Dk.roots=d.roots by simp];exact hr
 ·intro x hx;rcases jM6 hx with hx|hx
  ·exact w.neg x hx
  ·obtain rfl:=jM7 hx;exact hn
 ·intro x hx;rcases jM6 hx with hx|hx
  ·exact w.short x hx
  ·obtain rfl:=jM7 hx;exact hs
 ·show r1.order=_;rw[g.order,jJ4];show r.order+1=_;rw[h.ord];rfl
theorem Ok9.up(h:Ok9 src r):Ok9 src r.up:=⟨h.nk,h.pos,h.frm⟩
theorem jDm{f:Nat}{D:List Dk}(h:Wf9 src r D)(e:qr src f r=some r2):∃d,Wf9 src r2 (D++[d]):=by
 unfold qr at e;obtain⟨d,n1,e⟩:=jM2 e;obtain⟨r3,n2,e⟩:=jM2 e;obtain⟨o,n3,e⟩:=jM2 e;obtain⟨k,n4,e⟩:=jM2 e;obtain⟨a,n5,e⟩:=jM2 e;obtain⟨b,n6,e⟩:=jM2 e;obtain⟨r7,n7,e⟩:=jM2 e;obtain⟨g1,p1,p2,o1,nm1⟩:=KL h.ok n1;have g2:=jg g1.ok n2;have g3:=Vu g2.ok n3;have g4:=xY g3.ok n4;obtain⟨g5,q5,m5⟩:=JP g4.ok n5;obtain⟨g6,q6,m6⟩:=JP g5.ok n6;have g7:=jg g6.ok n7;have ga:=g1.trans (g2.trans (g3.trans g4));have g:=ga.trans (g5.trans (g6.trans g7));have w:=h.wf;split at e
 ·rename_i GC;obtain rfl:=jL5 e;refine⟨.A ⟨d.1,d.2.1,d.2.2.1,o.1,k.1,a.1,b.1⟩,h.add g _ _ rfl rfl rfl rfl (jN7 _).symm (jN7 _).symm (jN7 _).symm (by rw[jJ4];simp;omega) ?_ ?_ ?_ o1 (fun x hx=> ?_) (fun x hx=> ?_) rfl ?_ (fun x hx=> ?_) trivial⟩
  ·show r7.tree.stages.length<=_;rw[g.stages];exact w.lG
  ·show r7.tree.miles.length<=_;rw[g.miles];exact w.lM
  ·show r7.tree.steps.length<=_;rw[g.steps];exact w.lS
  ·obtain rfl:=jM7 (show x∈ [d.2.1]from hx);exact⟨p1,p2⟩
  ·obtain rfl:=jM7 (show x∈ [d.1]from hx);exact nm1
  ·show Rise _ ([a.1]++[b.1]) _;have l1:=ga.len;have l7:=g7.len;exact(Jz (n:=r.len) (m:=k.2.len) l1).app (q5.app (q6.mono (k:=(r7.len:Int)) (by omega)))
  ·have hx:x∈ [a.1,b.1]:=hx;simp only[List.mem_cons,List.not_mem_nil,or_false]at hx;rcases hx with rfl|rfl<;>assumption
 ·cases e
theorem jAF{f:Nat}{D:List Dk}(h:Wf9 src r D)(e:KY src f r=some r2):∃d,Wf9 src r2 (D++[d]):=by
 unfold KY at e;obtain⟨d,n1,e⟩:=jM2 e;obtain⟨i,n2,e⟩:=jM2 e;obtain⟨r3,n3,e⟩:=jM2 e;obtain⟨a,n5,e⟩:=jM2 e;obtain⟨b,n6,e⟩:=jM2 e;obtain⟨r7,n7,e⟩:=jM2 e;obtain⟨g1,p1,p2,o1,nm1⟩:=KL h.ok n1;obtain⟨g2,i1,i2,i3⟩:=Xu g1.ok n2;have g3:=jg g2.ok n3;obtain⟨g5,q5,m5⟩:=Kg g3.ok n5;obtain⟨g6,q6,m6⟩:=Kg g5.ok n6;have g7:=jg g6.ok n7;have ga:=g1.trans (g2.trans g3);have g:=ga.trans (g5.trans (g6.trans g7));have w:=h.wf;split at e
 ·rename_i GC;obtain rfl:=jL5 e;refine⟨.jG9 ⟨d.1,d.2.1,d.2.2.1,i.1,i.2.1,a.1,b.1⟩,h.add g _ _ rfl rfl rfl (jN7 _).symm rfl (jN7 _).symm (jN7 _).symm ?_ (by rw[jJ4];simp;omega) ?_ ?_ o1 (fun x hx=> ?_) (fun x hx=> ?_) rfl ?_ (fun x hx=> ?_) trivial⟩
  ·show r7.tree.attrs.length<=_;rw[g.attrs];exact w.lA
  ·show r7.tree.miles.length<=_;rw[g.miles];exact w.lM
  ·show r7.tree.steps.length<=_;rw[g.steps];exact w.lS
  ·have hx:x∈ [d.2.1,i.2.1]:=hx;simp only[List.mem_cons,List.not_mem_nil,or_false]at hx;rcases hx with rfl|rfl
   ·exact⟨p1,p2⟩
   ·exact⟨i1,i2⟩
  ·have hx:x∈ [d.1,i.1]:=hx;simp only[List.mem_cons,List.not_mem_nil,or_false]at hx;rcases hx with rfl|rfl<;>assumption
  ·show Rise _ ([a.1]++[b.1]) _;have l1:=ga.len;have l7:=g7.len;exact(Jz (n:=r.len) (m:=r3.len) l1).app (q5.app (q6.mono (k:=(r7.len:Int)) (by omega)))
  ·have hx:x∈ [a.1,b.1]:=hx;simp only[List.mem_cons,List.not_mem_nil,or_false]at hx;rcases hx with rfl|rfl<;>assumption
 ·cases e
theorem jDA{f:Nat}{D:List Dk}(h:Wf9 src r D)(e:qX src f r=some r2):∃d,Wf9 src r2 (D++[d]):=by
 unfold qX at e;obtain⟨d,n1,e⟩:=jM2 e;obtain⟨i,n2,e⟩:=jM2 e;obtain⟨a,n5,e⟩:=jM2 e;obtain⟨g1,p1,p2,o1,nm1⟩:=KL h.ok n1;obtain⟨g2,i1,i2,i3⟩:=Xu g1.ok n2;obtain⟨g5,q5,m5⟩:=Kg g2.ok n5;have ga:=g1.trans g2;have g:=ga.trans g5;have w:=h.wf;split at e
 ·rename_i GC;obtain rfl:=jL5 e;refine⟨.M ⟨d.1,d.2.1,d.2.2.1,i.1,i.2.1,a.1⟩,h.add g _ _ rfl rfl rfl (jN7 _).symm (jN7 _).symm rfl (jN7 _).symm ?_ ?_ (by rw[jJ4];simp;omega) ?_ o1 (fun x hx=> ?_) (fun x hx=> ?_) rfl ?_ (fun x hx=> ?_) trivial⟩
  ·show a.2.tree.attrs.length<=_;rw[g.attrs];exact w.lA
  ·show a.2.tree.stages.length<=_;rw[g.stages];exact w.lG
  ·show a.2.tree.steps.length<=_;rw[g.steps];exact w.lS
  ·have hx:x∈ [d.2.1,i.2.1]:=hx;simp only[List.mem_cons,List.not_mem_nil,or_false]at hx;rcases hx with rfl|rfl
   ·exact⟨p1,p2⟩
   ·exact⟨i1,i2⟩
  ·have hx:x∈ [d.1,i.1]:=hx;simp only[List.mem_cons,List.not_mem_nil,or_false]at hx;rcases hx with rfl|rfl<;>assumption
  ·have l1:=ga.len;exact(Jz (n:=r.len) (m:=i.2.2.len) l1).app q5
  ·obtain rfl:=jM7 (show x∈ [a.1]from hx);exact m5
 ·cases e
theorem jCS{f:Nat}{D:List Dk}(h:Wf9 src r D)(e:qB src f r=some r2):∃d,Wf9 src r2 (D++[d]):=by
 unfold qB at e;obtain⟨d,n1,e⟩:=jM2 e;obtain⟨r3,n2,e⟩:=jM2 e;obtain⟨p,n3,e⟩:=jM2 e;obtain⟨r5,n4,e⟩:=jM2 e;obtain⟨i,n5,e⟩:=jM2 e;obtain⟨a,n6,e⟩:=jM2 e;obtain⟨r7,n7,e⟩:=jM2 e;obtain⟨es,n8,e⟩:=jM2 e;obtain⟨r9,n9,e⟩:=jM2 e;obtain⟨g1,p1,p2,o1,nm1⟩:=KL h.ok n1;have g2:=jg g1.ok n2;obtain⟨g3,c1,c2⟩:=Vb f [] r3 p g2.ok (by decide) (fun _ hx=>by cases hx) n3;have g4:=jg g3.ok n4;obtain⟨g5,i1,i2,i3⟩:=Xu g4.ok n5;obtain⟨g6,q6,m6⟩:=JP g5.ok n6;have g7:=jg g6.ok n7;obtain⟨g8,s1,s2,s3,s4⟩:=VA f [] r7 es (r7.len:Int) g7.ok (by decide) (fun _ hx=>by cases hx) (fun _ hx=>by cases hx) (Int.le_refl _) n8;have g9:=jg g8.ok n9;have ga:=g1.trans (g2.trans (g3.trans (g4.trans g5)));have g:=ga.trans (g6.trans (g7.trans (g8.trans g9)));have w:=h.wf;split at e
 ·rename_i GC;obtain rfl:=jL5 e;refine⟨.S ⟨d.1,d.2.1,d.2.2.1,p.1,i.1,i.2.1,a.1,es.1⟩,h.add g _ _ rfl rfl rfl (jN7 _).symm (jN7 _).symm (jN7 _).symm rfl ?_ ?_ ?_ (by rw[jJ4];simp;omega) o1 (fun x hx=> ?_) (fun x hx=> ?_) rfl ?_ (fun x hx=> ?_) ⟨c1,s1⟩⟩
  ·show r9.tree.attrs.length<=_;rw[g.attrs];exact w.lA
  ·show r9.tree.stages.length<=_;rw[g.stages];exact w.lG
  ·show r9.tree.miles.length<=_;rw[g.miles];exact w.lM
  ·have hx:x∈d.2.1::i.2.1::(p.1.map (·.at_)++es.1.map (·.at_)):=hx;rcases jN4 hx with rfl|hx
   ·exact⟨p1,p2⟩
   rcases jN4 hx with rfl|hx
   ·exact⟨i1,i2⟩
   rcases jM6 hx with hx|hx
   ·obtain⟨y,hy,rfl⟩:=List.mem_map.1 hx;exact(c2 y hy).1
   ·obtain⟨y,hy,rfl⟩:=List.mem_map.1 hx;exact(s2 y hy).1
  ·have hx:x∈d.1::i.1::(p.1.map (·.name)++es.1.map (·.name)):=hx;rcases jN4 hx with rfl|hx
   ·exact nm1
   rcases jN4 hx with rfl|hx
   ·exact i3
   rcases jM6 hx with hx|hx
   ·obtain⟨y,hy,rfl⟩:=List.mem_map.1 hx;exact(c2 y hy).2
   ·obtain⟨y,hy,rfl⟩:=List.mem_map.1 hx;exact(s2 y hy).2
  ·show Rise _ ([a.1]++es.1.map (·.worth)) _;have l1:=ga.len;have l7:=g7.len;have l9:=g9.len;exact(Jz (n:=r.len) (m:=i.2.2.len) l1).app ((q6.mono (k:=(r7.len:Int)) (by omega)).app (s4.mono (k:=(r9.len:Int)) (by omega)))
  ·have hx:x∈a.1::es.1.map (·.worth):=hx;rcases jN4 hx with rfl|hx
   ·exact m6
   ·obtain⟨y,hy,rfl⟩:=List.mem_map.1 hx;exact s3 y hy
 ·cases e
theorem JQ:∀(f:Nat) (r r2:Rdr) (D:List Dk),Wf9 src r D->ya src f r=some r2->∃D,Wf9 src r2 D
 |0,_,_,_,_,e=>by cases e
 |f+1,r,r2,D,h,e=>by
  rw[ya]at e;split at e
  ·obtain⟨r1,n1,e⟩:=jM2 e;obtain⟨d,h1⟩:=jDm h n1;exact JQ f r1 r2 _ h1 e
  split at e
  ·obtain⟨r1,n1,e⟩:=jM2 e;obtain⟨d,h1⟩:=jAF h n1;exact JQ f r1 r2 _ h1 e
  split at e
  ·obtain⟨r1,n1,e⟩:=jM2 e;obtain⟨d,h1⟩:=jDA h n1;exact JQ f r1 r2 _ h1 e
  split at e
  ·obtain⟨r1,n1,e⟩:=jM2 e;obtain⟨d,h1⟩:=jCS h n1;exact JQ f r1 r2 _ h1 e
  ·obtain rfl:=jL5 e;exact⟨D,h⟩
theorem jCh{f:Nat}(e:Jb src f=some r):∃D,WfT src.length r.tree D:=by
 unfold Jb at e;obtain⟨r1,n1,e⟩:=jM2 e;obtain⟨r2,n2,e⟩:=jM2 e;obtain⟨w,n3,e⟩:=jM2 e;obtain⟨r4,n4,e⟩:=jM2 e;have h0:Ok9 src ⟨0,0,0,0,Tre.none_⟩:=⟨⟨rfl,fun _ hx=>(by cases hx),fun i x hx=>(by cases hx),Nat.zero_le _,fun x hx=>(by cases hx)⟩,Nat.zero_le _,Nat.zero_le _⟩;have g1:=jg h0 n1;have g2:=jg g1.ok n2;obtain⟨g3,_,a,b,c⟩:=yg g2.ok n3;have g4:=jg g3.ok n4;have g:=g1.trans (g2.trans (g3.trans g4));have t4:r4.tree=Tre.none_:=by
  rw[(zT g3.ok n4).2,(yg g2.ok n3).2.1,(zT g1.ok n2).2,(zT h0 n1).2]
 have nk:Nk src.length {r4.tree with name:=w.1,at_:=w.2.1}:=⟨g.ok.nk.same,g.ok.nk.ats,g.ok.nk.kids,g.ok.nk.nl,g.ok.nk.nn⟩;obtain⟨D,hD⟩:=JQ f {r4 with tree:={r4.tree with name:=w.1,at_:=w.2.1}} r [] ⟨⟨nk,g.ok.pos,g.ok.frm⟩,⟨nk,⟨a,b⟩,by show r4.tree.attrs=_;rw[t4];rfl,by show r4.tree.stages=_;rw[t4];rfl,by show r4.tree.miles=_;rw[t4];rfl,by show r4.tree.steps=_;rw[t4];rfl,
  fun i d hd=>(by cases hd),fun d hd=>(by cases hd),fun d hd=>(by cases hd),c,by show(0:Int)<=_;omega,fun d hd=>(by cases hd),fun d hd=>(by cases hd),by show r4.tree.attrs.length<=_;rw[t4];decide,by show r4.tree.stages.length<=_;rw[t4];decide,by show r4.tree.miles.length<=_;rw[t4];decide,by show r4.tree.steps.length<=_;rw[t4];decide⟩,by show r4.order=0;rw[g.order]⟩ e
 exact⟨D,hD.wf⟩
def jC(l:List BA)(s:BA):Int:=
 match l.findIdx? (fun x=>decide (x=s))with
 |some i=>(i:Int)
 |none=> -1
abbrev Wr9N:=Int×Nat
def kW(p:Wr9N)(at_:Int)(e:Nat):Wr9N:=if p.2=0\/at_ <p.1 then(at_,e)else p
def jP(b:Bool)(p:Wr9N)(at_:Int)(e:Nat):Wr9N:=if b=true then kW p at_ e else p
def kP:List BA->List (BA×Int)->Wr9N->Wr9N
 |_,[],p=>p
 |old,x::l,p=>kP (old++[x.1]) l (jP (decide (0<=jC old x.1)) p x.2 92)
structure Use where
 fr:Int
 root:Int
 ahead:Int
 step:Int
 lays:Int
abbrev UseS:=List Use×Int
def Jr(root ahead step lays:Int)(s:UseS):UseS:=if 0<=root then(s.1++[⟨s.2,root,ahead,step,lays⟩],root+1)else s
def xr(AN:List BA)(p:Nat):List Eff->UseS->UseS
 |[],s=>s
 |e::l,s=>xr AN p l (Jr e.worth (-1) p (jC AN e.name) s)
def jD2(AN:List BA)(a p:Nat):Dk->UseS->UseS
 | .A x,s=>Jr x.when_ (-1) (-1) (-1) (Jr x.dflt a (-1) a s)
 | .jG9 x,s=>Jr x.closes (-1) (-1) (-1) (Jr x.opens (-1) (-1) (-1) s)
 | .M x,s=>Jr x.when_ (-1) (-1) (-1) s
 | .S x,s=>xr AN p x.effects (Jr x.when_ (-1) p (-1) s)
def Dk.isA:Dk->Nat
 | .A _=>1
 |_=>0
def Dk.isG:Dk->Nat
 | .jG9 _=>1
 |_=>0
def Dk.isM:Dk->Nat
 | .M _=>1
 |_=>0
def Dk.isS:Dk->Nat
 | .S _=>1
 |_=>0
def Js(AN:List BA):Nat->Nat->List Dk->UseS->UseS
 |_,_,[],s=>s
 |a,p,d::D,s=>Js AN (a+d.isA) (p+d.isS) D (jD2 AN a p d s)
def Tre.nA(t:Tre):List BA:=t.attrs.map (·.name)
def Tre.nG(t:Tre):List BA:=t.stages.map (·.name)
def Tre.nM(t:Tre):List BA:=t.miles.map (·.name)
def Tre.nS(t:Tre):List BA:=t.steps.map (·.name)
def VG(t:Tre):Wr9N:=
 kP [] (t.steps.map fun x=>(x.name,x.at_)) (kP [] (t.miles.map fun x=>(x.name,x.at_)) (kP [] (t.stages.map fun x=>(x.name,x.at_)) (kP [] (t.attrs.map fun x=>(x.name,x.at_)) (0,0))))
def inB(GN:List BA)(name:BA)(at_:Int)(p:Wr9N):Wr9N:=jP (decide (name.size≠0)&&decide (jC GN name<0)) p at_ 34
def qc(GN:List BA):List (BA×Int)->Wr9N->Wr9N
 |[],p=>p
 |x::l,p=>qc GN l (inB GN x.1 x.2 p)
def YA(AN:List BA):List BA->List Prm->Wr9N->Wr9N
 |_,[],p=>p
 |old,x::l,p=>YA AN (old++[x.name]) l (jP (old.any (fun y=>decide (y=x.name))||decide (0<=jC AN x.name)) p x.at_ 92)
def Ky(AN GN:List BA):List (BA×Bool)->List Eff->Wr9N->Wr9N
 |_,[],p=>p
 |old,x::l,p=>Ky AN GN (old++[(x.name,decide (x.worth<0))]) l
   (if jC (if x.worth<0 then GN else AN) x.name<0 then kW p x.at_ 34 else jP (old.any fun y=>decide (y.1=x.name)&&decide (y.2=decide (x.worth<0))) p x.at_ 92)
def Yn(AN GN:List BA)(x:Stp)(p:Wr9N):Wr9N:=Ky AN GN [] x.effects (YA AN [] x.params (inB GN x.in_ x.inAt p))
def yY(AN GN:List BA):List Stp->Wr9N->Wr9N
 |[],p=>p
 |x::l,p=>yY AN GN l (Yn AN GN x p)
def Kv(t:Tre)(n:Nd)(u:Use):Bool:=
 if n.op=25 then decide (u.ahead<0)&&decide (0<=jC t.nG n.name)
 else if n.op=26 then decide (u.ahead<0)&&decide (0<=jC t.nM n.name)
 else if 0<=u.ahead then decide (0<=jC t.nA n.name)&&decide (jC t.nA n.name<u.ahead)
 else if jC t.nA n.name<0/\0<=u.step then(((t.steps[u.step.toNat]?).map fun s=>s.params.any fun p=>decide (p.name=n.name)).getD false)
 else decide (0<=jC t.nA n.name)
def yZ(t:Tre)(u:Use):Nat->Nat->Wr9N->Wr9N
 |_,0,p=>p
 |i,k+1,p=>yZ t u (i+1) k (match t.nodes[i]? with
  |some n=>jP (decide (n.name.size≠0)&& !(Kv t n u)) p (t.ats.getD i 0) 34
  |none=>p)
def yP(t:Tre):List Use->Wr9N->Wr9N
 |[],p=>p
 |u::l,p=>yP t l (yZ t u u.fr.toNat (u.root+1-u.fr).toNat p)
def vE(t:Tre)(all:List Use)(name:BA)(p:Wr9N):Wr9N:=
 yP t all (yY t.nA t.nG t.steps (qc t.nG (t.miles.map fun x=>(x.in_,x.inAt)) (qc t.nG (t.stages.map fun x=>(x.in_,x.inAt)) (jP (decide (t.name≠name)) p t.at_ 34))))
def Tre.ups(t:Tre):List Int:=t.stages.map fun x=>jC t.nG x.in_
def yB(ups:List Int)(i:Int):Nat->Int->Int
 |0,up=>up
 |k+1,up=>if 0<=up/\up≠i then yB ups i k (ups.getD up.toNat 0)else up
def jw(ups:List Int):Nat->List Stg->Wr9N->Wr9N
 |_,[],p=>p
 |i,x::l,p=>jw ups (i+1) l (jP (decide (yB ups i ups.length (ups.getD i 0)=(i:Int))) p x.at_ 120)
abbrev Kd:=Int×Bool
def noK:Kd:=(0,true)
def pairsL:List (Int×Int×Int×Int):=[(18,1,1,1),(18,4,1,4),(18,1,4,4),(18,5,5,5),(18,5,3,5),(19,1,1,1),(19,4,4,1),(19,4,1,4),(19,5,5,5),(19,5,3,5),(20,1,1,1),(21,1,1,1),(22,1,1,1),
 (13,1,1,2),(13,4,4,2),(13,3,3,2),(17,3,5,2),(9,2,2,2),(10,2,2,2),(28,3,3,3),(31,1,1,1),(31,4,4,4)]
def jBv(op:Int)(k:Kd):Int×Bool:=if op=7 then(1,decide (k.1=1))else if op=8 then(2,decide (k.1=2))else(1,decide (k.1=3)||decide (k.1=5))
def vv(x y:Kd):Kd×Bool:=if x=noK then((y.1,true),true)else if y=noK then((x.1,true),true)else((x.1,x.2||y.2),decide (x.1=y.1))
def Vy(op:Int)(x y:Kd):List (Int×Int×Int×Int)->Kd×Bool
 |[]=>((0,false),false)
 |r::l=>if r.1=op/\r.2.1=x.1/\r.2.2.1=y.1 then((r.2.2.2,false),true)else Vy op x y l
def Zo(op:Int)(x y:Kd):Kd×Bool:=
 if op=11\/op=12 then((2,false),decide (x.1=y.1)||(decide (x=noK)&&y.2)||(decide (y=noK)&&x.2))
 else if op=33 then(((vv x y).1.1,y.2),(vv x y).2)
 else Vy (if op=14\/op=15\/op=16 then 13 else if op=32 then 31 else op) x y pairsL
def vF(scope:List (BA×Kd))(s:BA):Kd×Bool:=
 match scope.find? (fun x=>decide (x.1=s))with
 |some x=>(x.2,decide (1<=x.2.1)&&decide (x.2.1<=5))
 |none=>((0,false),false)
def JW(ks:List Kd)(n:Nd)(j:Nat):Kd:=ks.getD (n.kids.getD j 0).toNat (0,false)
def Up(x:Kd×Bool):Kd×Nat:=if x.2=true then(x.1,0)else((0,false),100)
def vq(scope:List (BA×Kd))(ks:List Kd)(n:Nd):Kd×Nat:=
 if n.op=1\/n.op=30 then((1,false),0)
 else if n.op=2\/n.op=25\/n.op=26 then((2,false),0)
 else if n.op=3 then((3,false),0)
 else if n.op=29 then((4,false),0)
 else if n.op=4 then(noK,0)
 else if n.op=5\/n.op=24 then(if(vF scope n.name).2=true then(if n.op=24 then(2,false)else(vF scope n.name).1,0)else((0,false),34))
 else if n.op=6 then Up ((5,false),n.kids.all fun k=>decide ((ks.getD k.toNat (0,false)).1=3))
 else if n.op=7\/n.op=8\/n.op=27 then Up (((jBv n.op (JW ks n 0)).1,false),(jBv n.op (JW ks n 0)).2)
 else if n.op=23 then Up ((vv (JW ks n 1) (JW ks n 2)).1,(vv (JW ks n 1) (JW ks n 2)).2&&decide ((JW ks n 0).1=2))
 else Up (Zo n.op (JW ks n 0) (JW ks n 1))
def zy(i:Nat):List Int->List Bool->Option (List Bool)
 |[],kid=>some kid
 |k::l,kid=>if k<0\/(i:Int)<=k\/kid.getD k.toNat false=true then none else zy i l (kid.set k.toNat true)
def yE:Nat->List Nd->List Bool->Bool
 |_,[],_=>true
 |i,n::l,kid=>if js n=true then(match zy i n.kids kid with
  |some kid' =>yE (i+1) l kid'
  |none=>false)else false
def Zq(scope:List (BA×Kd)):Nat->List Nd->List Kd->List Kd×Nat×Nat
 |_,[],ks=>(ks,0,0)
 |i,n::l,ks=>if(vq scope ks n).2=0 then Zq scope (i+1) l (ks++[(vq scope ks n).1])else([],i,(vq scope ks n).2)
def ofK(nodes:List Nd)(scope:List (BA×Kd)):List Kd×Nat×Nat:=if yE 0 nodes (List.replicate nodes.length false)=true then Zq scope 0 nodes []else([],0,8)
def jBF(M7 want:Kd):Bool:=if M7=noK then want.2 else decide (M7.1=want.1)&&(want.2|| !M7.2)
def vK(t:Tre)(step:Int):List (BA×Kd):=
 t.attrs.map (fun a=>(a.name,(a.kind,a.opt)))++(if 0<=step then((t.steps[step.toNat]?).map fun s=>s.params.map fun p=>(p.name,(p.kind,false))).getD []else [])
def Ju(fr:Int)(n:Nd):Nd:={n with kids:=n.kids.map (· -fr)}
def kT(t:Tre)(u:Use):List Nd:=((t.nodes.take (u.root+1).toNat).drop u.fr.toNat).map (Ju u.fr)
def jB5(t:Tre)(u:Use)(k:Kd):Bool:=if 0<=u.lays then((t.attrs[u.lays.toNat]?).map fun a=>jBF k (a.kind,a.opt)).getD false else decide (k=(2,false))
def ZP(t:Tre)(u:Use):Option (Int×Nat):=
 if(ofK (kT t u) (vK t u.step)).2.2≠0 then some (t.ats.getD (u.fr.toNat+(ofK (kT t u) (vK t u.step)).2.1) 0,(ofK (kT t u) (vK t u.step)).2.2)
 else if jB5 t u ((ofK (kT t u) (vK t u.step)).1.getLastD (0,false))=true then none else some (t.ats.getD u.root.toNat 0,100)
def vG(t:Tre):List Use->Wr9N->Wr9N
 |[],p=>p
 |u::l,p=>match ZP t u with
  |some x=>kW p x.1 x.2
  |none=>vG t l p
def JS(i most:Nat)(at_:Int)(p:Wr9N):Wr9N:=jP (decide (most<=i)) p at_ 7
def jy(most:Nat):Nat->List Int->Wr9N->Wr9N
 |_,[],p=>p
 |i,a::l,p=>jy most (i+1) l (JS i most a p)
def zd:Nat->List Stp->Wr9N->Wr9N
 |_,[],p=>p
 |i,x::l,p=>zd (i+1) l (jy 16 0 (x.params.map (·.at_)) (JS i 64 x.at_ p))
def ur(deep:List Nat)(ks:List Int):Nat:=ks.foldl (fun m k=>max m (deep.getD k.toNat 0+1)) 1
def JL(ats:List Int):Nat->List Nd->List Nat->Wr9N->Wr9N
 |_,[],_,p=>p
 |i,n::l,deep,p=>JL ats (i+1) l (deep++[ur deep n.kids])
   (jP (decide (32<ur deep n.kids)) (jP (decide (n.op=6)&&decide (64<n.kids.length)) (jP (decide (1024<n.vt.size)) (JS i 4096 (ats.getD i 0) p) (ats.getD i 0) 113) (ats.getD i 0) 114) (ats.getD i 0) 91)
def yy(ups:List Int):Nat->Int->Nat
 |0,_=>0
 |k+1,i=>if 0<=i then yy ups k (ups.getD i.toNat 0)+1 else 0
def JJ(ups:List Int):Nat->List Stg->Wr9N->Wr9N
 |_,[],p=>p
 |i,x::l,p=>JJ ups (i+1) l (jP (decide (16<yy ups (ups.length+1) i)) p x.at_ 91)
def zF(t:Tre)(p:Wr9N):Wr9N:=
 JJ t.ups 0 t.stages (JL t.ats 0 t.nodes [] (zd 0 t.steps (jy 64 0 (t.miles.map (·.at_)) (jy 64 0 (t.stages.map (·.at_)) (jy 64 0 (t.attrs.map (·.at_)) p)))))
def Zs(t:Tre)(D:List Dk):List Use:=(Js t.nA 0 0 D ([],0)).1
def Kr(t:Tre)(D:List Dk)(name:BA):Wr9N:=
 let p1:=vE t (Zs t D) name (VG t)
 if p1.2≠0 then p1
 else(let p2:=jw t.ups 0 t.stages p1
  if p2.2≠0 then p2
  else(let p3:=vG t (Zs t D) p2
   if p3.2≠0 then p3
   else(let p4:=zF t p3
    if p4.2≠0 then p4 else(0,0))))
structure UseOk(t:Tre)(u:Use):Prop where
 fr0:0<=u.fr
 fr:u.fr<=u.root
 step0: -1<=u.step
 step:u.step<(t.steps.length:Int)
 lays0: -1<=u.lays
 lays:u.lays<(t.attrs.length:Int)
 ahead0: -1<=u.ahead
 ahead:u.ahead<(t.attrs.length:Int)
structure UseI(t:Tre)(n:Int)(s:UseS):Prop where
 all:∀u∈s.1,UseOk t u/\u.root<n
 le:s.2<=n
 nn:0<=s.2
theorem yc(l:List BA)(s:BA): -1<=jC l s/\jC l s<(l.length:Int):=by
 unfold jC;split
 ·rename_i i h;have:=(List.findIdx?_eq_some_iff_getElem.1 h).1;omega
 ·omega
theorem zK{t:Tre}{n m root ahead step lays:Int}{l:List Int}{s:UseS}(h:UseI t n s)(hr:Rise n (root::l) m)(a0: -1<=ahead)(a1:ahead<(t.attrs.length:Int))(s0: -1<=step)(s1:step<(t.steps.length:Int))(l0: -1<=lays)(l1:lays<(t.attrs.length:Int)):
  ∃k,UseI t k (Jr root ahead step lays s)/\Rise k l m:=by
 unfold Jr;unfold Rise at hr;have hn:=h.nn;have Gx:=h.le;split at hr
 ·rename_i h0;rw[jJ6 h0];refine⟨root+1,⟨fun u hu=> ?_,Int.le_refl _,by show 0<=root+1;omega⟩,hr.2⟩;rcases jM6 hu with hu|hu
  ·exact⟨(h.all u hu).1,by have:=(h.all u hu).2;omega⟩
  ·obtain rfl:=jM7 hu;exact⟨⟨hn,by show s.2<=root;omega,s0,s1,l0,l1,a0,a1⟩,by show root<root+1;omega⟩
 ·rename_i h0;rw[jJ5 h0];exact⟨n,h,hr⟩
theorem Ul{t:Tre}{p:Nat}(hp:p<t.steps.length):∀(es:List Eff) (l:List Int) (n m:Int) (s:UseS),UseI t n s->Rise n (es.map (·.worth)++l) m->∃k,UseI t k (xr t.nA p es s)/\Rise k l m
 |[],l,n,m,s,h,hr=>⟨n,h,hr⟩
 |e::es,l,n,m,s,h,hr=>by
  have hl:=yc t.nA e.name;have hlen:t.nA.length=t.attrs.length:=jK7 _;obtain⟨k,h1,h2⟩:=zK (ahead:= -1) (step:=p) (lays:=jC t.nA e.name) h hr (by decide) (by omega) (by omega) (by omega) hl.1 (by omega);exact Ul hp es l k m _ h1 h2
theorem jBc{t:Tre}{a p:Nat}{d:Dk}{l:List Int}{n m:Int}{s:UseS}(h:UseI t n s)(hr:Rise n (d.roots++l) m)(ha:a+d.isA<=t.attrs.length)(hp:p+d.isS<=t.steps.length):∃k,UseI t k (jD2 t.nA a p d s)/\Rise k l m:=by
 cases d with
 |A x=>
  have ha:a+1<=t.attrs.length:=ha;obtain⟨k,h1,h2⟩:=zK (ahead:=a) (step:= -1) (lays:=a) h hr (by omega) (by omega) (by decide) (by omega) (by omega) (by omega);exact zK (ahead:= -1) (step:= -1) (lays:= -1) h1 h2 (by decide) (by omega) (by decide) (by omega) (by decide) (by omega)
 |jG9 x=>
  obtain⟨k,h1,h2⟩:=zK (ahead:= -1) (step:= -1) (lays:= -1) h hr (by decide) (by omega) (by decide) (by omega) (by decide) (by omega);exact zK (ahead:= -1) (step:= -1) (lays:= -1) h1 h2 (by decide) (by omega) (by decide) (by omega) (by decide) (by omega)
 |M x=>exact zK (ahead:= -1) (step:= -1) (lays:= -1) h hr (by decide) (by omega) (by decide) (by omega) (by decide) (by omega)
 |S x=>
  have hp:p+1<=t.steps.length:=hp;obtain⟨k,h1,h2⟩:=zK (ahead:= -1) (step:=p) (lays:= -1) h hr (by decide) (by omega) (by omega) (by omega) (by decide) (by omega);exact Ul (by omega) x.effects l k m _ h1 h2
def Yb(D:List Dk):Nat:=(D.filterMap Dk.asA).length
def uw(D:List Dk):Nat:=(D.filterMap Dk.asG).length
def uv(D:List Dk):Nat:=(D.filterMap Dk.asM).length
def Ze(D:List Dk):Nat:=(D.filterMap Dk.asS).length
theorem yl(d:Dk)(D:List Dk):Yb (d::D)=d.isA+Yb D/\uw (d::D)=d.isG+uw D/\uv (d::D)=d.isM+uv D/\Ze (d::D)=d.isS+Ze D:=by
 unfold Yb uw uv Ze;cases d<;>simp only[Dk.isA,Dk.isG,Dk.isM,Dk.isS,Nat.zero_add,Nat.add_comm 1]<;>exact⟨rfl,rfl,rfl,rfl⟩
theorem Vp{t:Tre}:∀(D:List Dk) (a p:Nat) (n m:Int) (s:UseS),UseI t n s->Rise n (D.flatMap Dk.roots) m->a+Yb D<=t.attrs.length->p+Ze D<=t.steps.length->∃k,UseI t k (Js t.nA a p D s)/\k<=m
 |[],a,p,n,m,s,h,hr,_,_=>⟨n,h,hr⟩
 |d::D,a,p,n,m,s,h,hr,ha,hp=>by
  obtain⟨c1,_,_,c4⟩:=yl d D;rw[jL9]at hr;obtain⟨k,h1,h2⟩:=jBc (a:=a) (p:=p) h hr (by omega) (by omega);exact Vp D _ _ k m _ h1 h2 (by omega) (by omega)
theorem jFF{n:Nat}{t:Tre}{D:List Dk}(h:WfT n t D):∀u∈Zs t D,UseOk t u/\u.root<(t.nodes.length:Int):=fun u hu=>by
 obtain⟨k,h1,h2⟩:=Vp (t:=t) D 0 0 0 t.nodes.length ([],0) ⟨fun _ hx=>(by cases hx),Int.le_refl _,Int.le_refl _⟩ h.rise (by rw[h.eA];exact Nat.le_of_eq (Nat.zero_add _)) (by rw[h.eS];exact Nat.le_of_eq (Nat.zero_add _));have:=h1.all u hu;exact⟨this.1,by omega⟩
def yL(ups:List Int):Nat->Int->List Int
 |0,_=>[]
 |k+1,i=>if 0<=i then i::yL ups k (ups.getD i.toNat 0)else []
theorem Zg(ups:List Int):∀(k:Nat) (i:Int),yy ups k i=(yL ups k i).length
 |0,_=>rfl
 |k+1,i=>by
  unfold yy yL;split
  ·rw[jK6,Zg ups k]
  ·rfl
theorem Vm(ups:List Int)(j:Int):∀(k f:Nat) (up:Int),k<=f->j∈yL ups k up->yB ups j f up=j
 |0,_,_,_,h=>by cases h
 |k+1,f,up,hf,h=>by
  unfold yL at h;split at h
  ·rename_i h0;cases f with
   |zero=>omega
   |succ f=>
    unfold yB;by_cases e:up=j
    ·rw[jJ5 (fun hh=>hh.2 e)];exact e
    ·rw[jJ6 ⟨h0,e⟩];rcases jN4 h with h|h
     ·exact absurd h.symm e
     ·exact Vm ups j k f _ (by omega) h
  ·cases h
theorem ZH{ups:List Int}:∀(k:Nat) (i:Int),¬(yL ups k i).Nodup->∃j k',j∈yL ups k i/\k' +1<=k/\j∈yL ups k' (ups.getD j.toNat 0)
 |0,_,h=>absurd List.nodup_nil h
 |k+1,i,h=>by
  unfold yL at h;split at h
  ·rename_i h0;rw[List.nodup_cons]at h;by_cases hi:i∈yL ups k (ups.getD i.toNat 0)
   ·exact⟨i,k,by unfold yL;rw[jJ6 h0];exact List.mem_cons_self ..,jL3 _,hi⟩
   ·obtain⟨j,k',h1,h2,h3⟩:=ZH k _ (fun hh=>h ⟨hi,hh⟩);exact⟨j,k',by unfold yL;rw[jJ6 h0];exact jN1 _ h1,by omega,h3⟩
  ·exact absurd List.nodup_nil h
theorem xh:∀(l:List Int) (a:Int),l.Nodup->l.length<=(l.filter (fun x=>decide (x≠a))).length+1
 |[],_,_=>Nat.zero_le _
 |x::l,a,h=>by
  rw[List.nodup_cons]at h;have ih:=xh l a h.2;rw[List.filter_cons,jK6];by_cases e:x=a
  ·have h2:l.filter (fun x=>decide (x≠a))=l:=by
    rw[List.filter_eq_self];intro y hy;exact jK5 (fun e2=>h.1 (by rw[e,<-e2];exact hy))
   rw[jJ5 (by simp[e]),h2];exact jL3 _
  ·rw[jJ6 (jK5 e),jK6];omega
theorem jBs:∀(n:Nat) (l:List Int),(∀x∈l,0<=x/\x<(n:Int))->l.Nodup->l.length<=n
 |0,l,h,_=>by
  cases l with
  |nil=>exact jL3 _
  |cons x l=>have:=h x (List.mem_cons_self ..);omega
 |n+1,l,h,hd=>by
  have h1:=xh l (n:Int) hd;have h2:=jBs n (l.filter (fun x=>decide (x≠(n:Int)))) (fun x hx=>by
   obtain⟨h3,h4⟩:=List.mem_filter.1 hx;have h5:x≠(n:Int):=jM8 h4;have:=h x h3;omega) (hd.filter _)
  omega
theorem YV{ups:List Int}(h:∀u∈ups,u<(ups.length:Int)):∀(k:Nat) (i:Int),i<(ups.length:Int)->∀x∈yL ups k i,0<=x/\x<(ups.length:Int)
 |0,_,_,x,hx=>by cases hx
 |k+1,i,hi,x,hx=>by
  unfold yL at hx;split at hx
  ·rename_i h0;rcases jN4 hx with rfl|hx
   ·exact⟨h0,hi⟩
   ·refine YV h k _ ?_ x hx;rw[List.getD,jJ9 (show i.toNat<ups.length by omega)];exact h _ (jL6 _)
  ·cases hx
def Zn(ups:List Int):Prop:=∀i:Nat,i<ups.length->yB ups i ups.length (ups.getD i 0)≠(i:Int)
theorem Qt{ups:List Int}(h:∀u∈ups,u<(ups.length:Int))(hn:Zn ups)(i:Int)(hi:i<(ups.length:Int)):yy ups (ups.length+1) i<=ups.length:=by
 rw[Zg];refine jBs _ _ (YV h _ i hi) ?_;refine Classical.byContradiction fun hd=> ?_;obtain⟨j,k',h1,h2,h3⟩:=ZH _ _ hd;obtain⟨j0,j1⟩:=YV h _ i hi j h1;have e:=Vm ups j k' ups.length _ (by omega) h3;refine hn j.toNat (by omega) ?_;rw[show((j.toNat:Nat):Int)=j by omega];exact e
theorem qy{p:Wr9N}{a:Int}{e:Nat}(he:e≠0):(kW p a e).2≠0:=by
 unfold kW;split
 ·exact he
 ·rename_i h;exact fun h2=>h (.inl h2)
theorem vN{b:Bool}{p:Wr9N}{a:Int}{e:Nat}(he:e≠0)(h:(jP b p a e).2=0):b=false/\p.2=0:=by
 unfold jP at h;cases b with
 |true=>rw[jJ6 rfl]at h;exact absurd h (qy he)
 |false=>exact⟨rfl,h⟩
theorem Zd(ups:List Int):∀(l:List Stg) (i:Nat) (p:Wr9N),(jw ups i l p).2=0->p.2=0/\∀k,i<=k->k<i+l.length->yB ups k ups.length (ups.getD k 0)≠(k:Int)
 |[],i,p,h=>⟨h,fun k h1 h2=>by simp at h2;omega⟩
 |x::l,i,p,h=>by
  obtain⟨h1,h2⟩:=Zd ups l (i+1) _ h;obtain⟨h3,h4⟩:=vN (by decide) h1;refine⟨h4,fun k hk Fu=> ?_⟩;rw[jK6]at Fu;rcases Nat.lt_or_ge i k with h5|h5
  ·exact h2 k h5 (by omega)
  ·obtain rfl:k=i:=(by omega);exact of_decide_eq_false h3
theorem yp(t:Tre):t.ups.length=t.stages.length:=jK7 _
theorem QO(t:Tre):∀u∈t.ups,-1<=u/\u<(t.ups.length:Int):=fun u hu=>by
 obtain⟨x,_,rfl⟩:=List.mem_map.1 hu;have:=yc t.nG x.in_;rw[yp];have hl:t.nG.length=t.stages.length:=jK7 _;omega
theorem jEf{t:Tre}{p:Wr9N}(h:(jw t.ups 0 t.stages p).2=0):Zn t.ups:=fun i hi=>(Zd t.ups t.stages 0 p h).2 i (Nat.zero_le _) (by rw[yp]at hi;omega)
def PlB(n:Nat)(a:Int):Prop:=0<=a/\a<=(n:Int)
theorem PlB.z(n:Nat):PlB n 0:=⟨Int.le_refl _,by omega⟩
theorem YB{n:Nat}{p:Wr9N}{a:Int}{e:Nat}(hp:PlB n p.1)(ha:PlB n a):PlB n (kW p a e).1:=by
 unfold kW;split
 ·exact ha
 ·exact hp
theorem zj{n:Nat}{b:Bool}{p:Wr9N}{a:Int}{e:Nat}(hp:PlB n p.1)(ha:PlB n a):PlB n (jP b p a e).1:=by
 unfold jP;split
 ·exact YB hp ha
 ·exact hp
section
variable{n:Nat}
theorem JI:∀(l:List (BA×Int)) (old:List BA) (p:Wr9N),(∀x∈l,PlB n x.2)->PlB n p.1->PlB n (kP old l p).1
 |[],_,_,_,hp=>hp
 |x::l,_,_,h,hp=>JI l _ _ (fun y hy=>h y (jN1 _ hy)) (zj hp (h x (List.mem_cons_self ..)))
theorem Qr(GN:List BA):∀(l:List (BA×Int)) (p:Wr9N),(∀x∈l,PlB n x.2)->PlB n p.1->PlB n (qc GN l p).1
 |[],_,_,hp=>hp
 |x::l,_,h,hp=>Qr GN l _ (fun y hy=>h y (jN1 _ hy)) (zj hp (h x (List.mem_cons_self ..)))
theorem Qp(AN:List BA):∀(l:List Prm) (old:List BA) (p:Wr9N),(∀x∈l,PlB n x.at_)->PlB n p.1->PlB n (YA AN old l p).1
 |[],_,_,_,hp=>hp
 |x::l,_,_,h,hp=>Qp AN l _ _ (fun y hy=>h y (jN1 _ hy)) (zj hp (h x (List.mem_cons_self ..)))
theorem Qs(AN GN:List BA):∀(l:List Eff) (old:List (BA×Bool)) (p:Wr9N),(∀x∈l,PlB n x.at_)->PlB n p.1->PlB n (Ky AN GN old l p).1
 |[],_,_,_,hp=>hp
 |x::l,_,_,h,hp=>Qs AN GN l _ _ (fun y hy=>h y (jN1 _ hy)) (by
  have hx:=h x (List.mem_cons_self ..);by_cases e:jC (if x.worth<0 then GN else AN) x.name<0
  ·rw[jJ6 e];exact YB hp hx
  ·rw[jJ5 e];exact zj hp hx)
theorem jEk{D:List Dk}{x:Atr}(h:x∈D.filterMap Dk.asA):Dk.A x∈D:=by
 obtain⟨d,hd,e⟩:=List.mem_filterMap.1 h;cases d with
 |A y=>obtain rfl:=jL5 e;exact hd
 |_=>cases e
theorem jDC{D:List Dk}{x:Stg}(h:x∈D.filterMap Dk.asG):Dk.jG9 x∈D:=by
 obtain⟨d,hd,e⟩:=List.mem_filterMap.1 h;cases d with
 |jG9 y=>obtain rfl:=jL5 e;exact hd
 |_=>cases e
theorem jDB{D:List Dk}{x:Mil}(h:x∈D.filterMap Dk.asM):Dk.M x∈D:=by
 obtain⟨d,hd,e⟩:=List.mem_filterMap.1 h;cases d with
 |M y=>obtain rfl:=jL5 e;exact hd
 |_=>cases e
theorem XQ{D:List Dk}{x:Stp}(h:x∈D.filterMap Dk.asS):Dk.S x∈D:=by
 obtain⟨d,hd,e⟩:=List.mem_filterMap.1 h;cases d with
 |S y=>obtain rfl:=jL5 e;exact hd
 |_=>cases e
structure TrPl(n:Nat)(t:Tre):Prop where
 at_:PlB n t.at_
 ats:∀i,PlB n (t.ats.getD i 0)
 A:∀x∈t.attrs,PlB n x.at_
 jG9:∀x∈t.stages,PlB n x.at_ /\PlB n x.inAt
 M:∀x∈t.miles,PlB n x.at_ /\PlB n x.inAt
 S:∀x∈t.steps,PlB n x.at_ /\PlB n x.inAt/\(∀p∈x.params,PlB n p.at_)/\∀p∈x.effects,PlB n p.at_
theorem WfT.pls{t:Tre}{D:List Dk}(h:WfT n t D):TrPl n t:=by
 refine⟨h.at_,fun i=> ?_,fun x hx=> ?_,fun x hx=> ?_,fun x hx=> ?_,fun x hx=> ?_⟩
 ·rw[List.getD];cases e:t.ats[i]? with
  |none=>exact PlB.z n
  |some a=>exact h.nk.ats a (List.mem_of_getElem? e)
 ·rw[h.eA]at hx;exact h.pl _ (jEk hx) _ (List.mem_singleton.2 rfl)
 ·rw[h.eG]at hx;have:=h.pl _ (jDC hx);exact⟨this _ (List.mem_cons_self ..),this _ (jN1 _ (List.mem_cons_self ..))⟩
 ·rw[h.eM]at hx;have:=h.pl _ (jDB hx);exact⟨this _ (List.mem_cons_self ..),this _ (jN1 _ (List.mem_cons_self ..))⟩
 ·rw[h.eS]at hx;have:=h.pl _ (XQ hx);exact⟨this _ (List.mem_cons_self ..),this _ (jN1 _ (List.mem_cons_self ..)),fun p hp=>this _ (jN1 _ (jN1 _ (List.mem_append_left _ (List.mem_map_of_mem hp)))),
   fun p hp=>this _ (jN1 _ (jN1 _ (List.mem_append_right _ (List.mem_map_of_mem hp))))⟩
variable{t:Tre}
theorem xK(AN GN:List BA):∀(l:List Stp) (p:Wr9N),(∀x∈l,PlB n x.at_ /\PlB n x.inAt/\(∀p∈x.params,PlB n p.at_)/\∀p∈x.effects,PlB n p.at_)->PlB n p.1->PlB n (yY AN GN l p).1
 |[],_,_,hp=>hp
 |x::l,_,h,hp=>xK AN GN l _ (fun y hy=>h y (jN1 _ hy)) (by
  obtain⟨_,h2,h3,h4⟩:=h x (List.mem_cons_self ..);exact Qs AN GN _ _ _ h4 (Qp AN _ _ _ h3 (zj hp h2)))
theorem xN(h:TrPl n t)(u:Use):∀(k i:Nat) (p:Wr9N),PlB n p.1->PlB n (yZ t u i k p).1
 |0,_,_,hp=>hp
 |k+1,i,_,hp=>xN h u k (i+1) _ (by
  split
  ·exact zj hp (h.ats i)
  ·exact hp)
theorem Qo(h:TrPl n t):∀(l:List Use) (p:Wr9N),PlB n p.1->PlB n (yP t l p).1
 |[],_,hp=>hp
 |u::l,_,hp=>Qo h l _ (xN h u _ _ _ hp)
theorem ZB(ups:List Int):∀(l:List Stg) (i:Nat) (p:Wr9N),(∀x∈l,PlB n x.at_)->PlB n p.1->PlB n (jw ups i l p).1
 |[],_,_,_,hp=>hp
 |x::l,_,_,h,hp=>ZB ups l _ _ (fun y hy=>h y (jN1 _ hy)) (zj hp (h x (List.mem_cons_self ..)))
theorem xO(h:TrPl n t):∀(l:List Use) (p:Wr9N),PlB n p.1->PlB n (vG t l p).1
 |[],_,hp=>hp
 |u::l,p,hp=>by
  rw[vG];split
  ·rename_i x hx;refine YB hp ?_;unfold ZP at hx;split at hx
   ·obtain rfl:=jL5 hx;exact h.ats _
   split at hx
   ·cases hx
   ·obtain rfl:=jL5 hx;exact h.ats _
  ·exact xO h l p hp
theorem yx(most:Nat):∀(l:List Int) (i:Nat) (p:Wr9N),(∀x∈l,PlB n x)->PlB n p.1->PlB n (jy most i l p).1
 |[],_,_,_,hp=>hp
 |x::l,_,_,h,hp=>yx most l _ _ (fun y hy=>h y (jN1 _ hy)) (zj hp (h x (List.mem_cons_self ..)))
theorem Yz:∀(l:List Stp) (i:Nat) (p:Wr9N),(∀x∈l,PlB n x.at_ /\PlB n x.inAt/\(∀p∈x.params,PlB n p.at_)/\∀p∈x.effects,PlB n p.at_)->PlB n p.1->PlB n (zd i l p).1
 |[],_,_,_,hp=>hp
 |x::l,_,_,h,hp=>Yz l _ _ (fun y hy=>h y (jN1 _ hy)) (by
  obtain⟨h1,_,h3,_⟩:=h x (List.mem_cons_self ..);exact yx _ _ _ _ (fun a ha=>by
   obtain⟨q,hq,rfl⟩:=List.mem_map.1 ha;exact h3 q hq) (zj hp h1))
theorem ZA{ats:List Int}(h:∀i,PlB n (ats.getD i 0)):∀(l:List Nd) (i:Nat) (deep:List Nat) (p:Wr9N),PlB n p.1->PlB n (JL ats i l deep p).1
 |[],_,_,_,hp=>hp
 |_::l,i,_,_,hp=>ZA h l _ _ _ (zj (zj (zj (zj hp (h i)) (h i)) (h i)) (h i))
theorem xL(ups:List Int):∀(l:List Stg) (i:Nat) (p:Wr9N),(∀x∈l,PlB n x.at_)->PlB n p.1->PlB n (JJ ups i l p).1
 |[],_,_,_,hp=>hp
 |x::l,_,_,h,hp=>xL ups l _ _ (fun y hy=>h y (jN1 _ hy)) (zj hp (h x (List.mem_cons_self ..)))
theorem Qq{α:Type}{f:α->Int}{l:List α}(h:∀x∈l,PlB n (f x)):∀a∈l.map f,PlB n a:=fun a ha=>by
 obtain⟨x,hx,rfl⟩:=List.mem_map.1 ha;exact h x hx
theorem Je{α:Type}{g:α->BA}{f:α->Int}{l:List α}(h:∀x∈l,PlB n (f x)):∀a∈l.map (fun x=>(g x,f x)),PlB n a.2:=fun a ha=>by
 obtain⟨x,hx,rfl⟩:=List.mem_map.1 ha;exact h x hx
theorem XX{D:List Dk}(h:TrPl n t)(name:BA):PlB n (Kr t D name).1:=by
 have hb:PlB n (VG t).1:=JI _ _ _ (Je fun x hx=>(h.S x hx).1) (JI _ _ _ (Je fun x hx=>(h.M x hx).1) (JI _ _ _ (Je fun x hx=>(h.jG9 x hx).1) (JI _ _ _ (Je h.A) (PlB.z n))));have h1:PlB n (vE t (Zs t D) name (VG t)).1:=Qo h _ _ (xK _ _ _ _ h.S (Qr _ _ _ (Je fun x hx=>(h.M x hx).2) (Qr _ _ _ (Je fun x hx=>(h.jG9 x hx).2) (zj hb h.at_))));unfold Kr;simp only;split
 ·exact h1
 have h2:=ZB (n:=n) t.ups t.stages 0 _ (fun x hx=>(h.jG9 x hx).1) h1;split
 ·exact h2
 have h3:=xO h (Zs t D) _ h2;split
 ·exact h3
 have h4:PlB n (zF t (vG t (Zs t D) (jw t.ups 0 t.stages (vE t (Zs t D) name (VG t))))).1:=
  xL _ _ _ _ (fun x hx=>(h.jG9 x hx).1) (ZA h.ats _ _ _ _ (Yz _ _ _ h.S (yx _ _ _ _ (Qq fun x hx=>(h.M x hx).1) (yx _ _ _ _ (Qq fun x hx=>(h.jG9 x hx).1) (yx _ _ _ _ (Qq h.A) h3)))))
 split
 ·exact h4
 ·exact PlB.z n
end
open Go.Maps (has IsMap)
abbrev DM:=DataW Unit
def kS(s:BA):Lit:=.string s.data.toList
theorem Xj{a b:BA}(h:kS a=kS b):a=b:=by
 unfold kS at h;injection h with h;cases a;cases b
 congr 1
 exact Array.toList_inj.1 h
structure MapR(D:DM)(f:BA->Option Int):Prop where
 is:IsMap D
 has_:∀s,has D (kS s)=(f s).isSome
 at_:∀s,D.atKey (kS s) (.lit (.int .i64 0))=.lit (.int .i64 ((f s).getD 0))
theorem MapR.empty:MapR (.map []) (fun _=>none):=⟨Maps.isMap_empty,fun _=>rfl,fun _=>rfl⟩
theorem MapR.put{D:DM}{f:BA->Option Int}(h:MapR D f)(x:BA)(v:Int):MapR (D.put (kS x) (.lit (.int .i64 v))) (fun s=>if s=x then some v else f s):=by
 refine⟨h.is.put _ _,fun s=> ?_,fun s=> ?_⟩
 ·by_cases e:s=x
  ·subst e;rw[jJ6 rfl,Maps.has_put_same h.is (show WideAt.IsKeyLit (kS s)from trivial)];rfl
  ·rw[jJ5 e,Maps.has_put_other (fun he=>e (Xj he)),h.has_]
 ·by_cases e:s=x
  ·subst e;rw[jJ6 rfl,Maps.atKey_put_same h.is (show WideAt.IsKeyLit (kS s)from trivial)];rfl
  ·rw[jJ5 e,Maps.atKey_put_other (fun he=>e (Xj he)),h.at_]
def MapW(P:Program)(k e:TypeId)(w:World)(b n:Nat)(f:BA->Option Int):Prop:=∃D:DM,w.ownsMap P k (plainElem P e) b n D/\MapR D f
section
variable{P:Program}{k e:TypeId}{w:World}{b n:Nat}{f:BA->Option Int}
theorem MapW.lt(h:MapW P k e w b n f):b<w.heap.size:=by
 obtain⟨D,h,_⟩:=h;exact h.lt
theorem MapW.mono(h:MapW P k e w b n f){m:Nat}(hm:n<=m):MapW P k e w b m f:=by
 obtain⟨D,h,hr⟩:=h;exact⟨D,h.mono hm,hr⟩
theorem MapW.same{w' :World}(h:MapW P k e w b n f)(hb:w'.heap[b]? =w.heap[b]?):MapW P k e w' b n f:=by
 obtain⟨D,⟨es,clock,h1,h2⟩,hr⟩:=h;exact⟨D,⟨es,clock,hb.trans h1,h2⟩,hr⟩
theorem MapW.congr(h:MapW P k e w b n f){g:BA->Option Int}(hg:∀s,f s=g s):MapW P k e w b n g:=by
 obtain⟨D,h,hr⟩:=h;exact⟨D,h,hr.is,fun s=>by rw[<-hg];exact hr.has_ s,fun s=>by rw[<-hg];exact hr.at_ s⟩
end
def jW(l:List BA)(s:BA):Option Int:=if 0<=jC l s then some (jC l s)else none
theorem jDv(s:BA):jC [] s= -1:=rfl
theorem Kj(l:List BA)(x s:BA):jC (l++[x]) s=if 0<=jC l s then jC l s else if x=s then(l.length:Int)else-1:=by
 unfold jC;rw[List.findIdx?_append];cases h:l.findIdx? (fun y=>decide (y=s))with
 |some i=>
  simp only[Option.some_or];rw[jJ6 (by omega)]
 |none=>
  simp only[Option.none_or];rw[jJ5 (by decide)];by_cases e:x=s
  ·rw[jJ6 e,List.findIdx?_cons,jJ6 (jK5 e)];simp
  ·rw[jJ5 e,List.findIdx?_cons,jJ5 (by simpa using e)];rfl
theorem zP{l:List BA}{x:BA}(h:0<=jC l x)(s:BA):jW l s=jW (l++[x]) s:=by
 unfold jW;rw[Kj];by_cases h1:0<=jC l s
 ·rw[jJ6 h1,jJ6 h1,jJ6 h1]
 ·rw[jJ5 h1,jJ5 h1];by_cases e:x=s
  ·subst e;exact absurd h h1
  ·rw[jJ5 e,jJ5 (by decide)]
theorem zQ{l:List BA}{x:BA}(h:¬0<=jC l x)(s:BA):(if s=x then some (l.length:Int)else jW l s)=jW (l++[x]) s:=by
 unfold jW;rw[Kj];by_cases e:s=x
 ·subst e;rw[jJ6 rfl,jJ5 h,jJ6 rfl,jJ6 (by omega)]
 ·rw[jJ5 e];by_cases h1:0<=jC l s
  ·rw[jJ6 h1,jJ6 h1,jJ6 h1]
  ·rw[jJ5 h1,jJ5 h1,jJ5 (show¬x=s from fun he=>e he.symm),jJ5 (by decide)]
theorem jp(l:List BA)(s:BA):(jW l s).isSome=decide (0<=jC l s):=by
 unfold jW;by_cases h:0<=jC l s
 ·rw[jJ6 h,jK5 h];rfl
 ·rw[jJ5 h,jK3 h];rfl
theorem ku(l:List BA)(s:BA)(h:0<=jC l s):(jW l s).getD 0=jC l s:=by
 unfold jW;rw[jJ6 h];rfl
theorem Yg(AN:List BA)(d:Dk):∀(D:List Dk) (a p:Nat) (s:UseS),Js AN a p (D++[d]) s=jD2 AN (a+Yb D) (p+Ze D) d (Js AN a p D s)
 |[],a,p,s=>rfl
 |e::D,a,p,s=>by
  obtain⟨c1,_,_,c4⟩:=yl e D;rw[jN6,Js,Yg AN d D,Js,c1,c4,Nat.add_assoc,Nat.add_assoc]
theorem UW(d:Dk):∀(D:List Dk),Yb (D++[d])=Yb D+d.isA/\uw (D++[d])=uw D+d.isG/\uv (D++[d])=uv D+d.isM/\Ze (D++[d])=Ze D+d.isS
 |[]=>by obtain⟨c1,c2,c3,c4⟩:=yl d [];exact⟨by rw[jN8,c1];exact Nat.add_comm _ _,by rw[jN8,c2];exact Nat.add_comm _ _,by rw[jN8,c3];exact Nat.add_comm _ _,by rw[jN8,c4];exact Nat.add_comm _ _⟩
 |e::D=>by
  obtain⟨a1,a2,a3,a4⟩:=UW d D;obtain⟨b1,b2,b3,b4⟩:=yl e (D++[d]);obtain⟨c1,c2,c3,c4⟩:=yl e D;rw[jN6];exact⟨by omega,by omega,by omega,by omega⟩
theorem UV:∀(D:List Dk),Yb D+uw D+uv D+Ze D=D.length
 |[]=>rfl
 |d::D=>by
  have ih:=UV D;obtain⟨c1,c2,c3,c4⟩:=yl d D;rw[jK6];cases d<;>simp only[Dk.isA,Dk.isG,Dk.isM,Dk.isS]at* <;>omega
theorem jBD{α:Type}(f:Dk->Option α){D:List Dk}{k:Nat}{d:Dk}{x:α}(h:D[k]? =some d)(hf:f d=some x):(D.filterMap f)[((D.take k).filterMap f).length]? =some x:=by
 obtain⟨hk,rfl⟩:=jM5 h;have e:D=D.take k++D[k]::D.drop (k+1):=(by rw[<-jM9 hk,List.take_append_drop]);have e2:D.filterMap f=(D.take k).filterMap f++x::(D.drop (k+1)).filterMap f:=by
  conv=>lhs;rw[e]
  rw[List.filterMap_append,List.filterMap_cons,hf]
 rw[e2,List.getElem?_append_right (jL3 _),Nat.sub_self];rfl
theorem UA{α:Type}(f:Dk->Option α){D:List Dk}{i:Nat}{x:α}(h:(D.filterMap f)[i]? =some x):∃(k:Nat) (d:Dk),D[k]? =some d/\f d=some x:=by
 obtain⟨d,hd,hf⟩:=List.mem_filterMap.1 (List.mem_of_getElem? h);obtain⟨k,hk,rfl⟩:=List.getElem_of_mem hd;exact⟨k,_,jJ9 hk,hf⟩
section
variable{n:Nat}{t:Tre}{D:List Dk}{k:Nat}
theorem WfT.atA(h:WfT n t D){x:Atr}(hk:D[k]? =some (.A x)):t.attrs[Yb (D.take k)]? =some x/\x.order=(k:Int):=by
 rw[h.eA];exact⟨jBD Dk.asA hk rfl,h.ord k _ hk⟩
theorem WfT.atG(h:WfT n t D){x:Stg}(hk:D[k]? =some (.jG9 x)):t.stages[uw (D.take k)]? =some x/\x.order=(k:Int):=by
 rw[h.eG];exact⟨jBD Dk.asG hk rfl,h.ord k _ hk⟩
theorem WfT.atM(h:WfT n t D){x:Mil}(hk:D[k]? =some (.M x)):t.miles[uv (D.take k)]? =some x/\x.order=(k:Int):=by
 rw[h.eM];exact⟨jBD Dk.asM hk rfl,h.ord k _ hk⟩
theorem WfT.atS(h:WfT n t D){x:Stp}(hk:D[k]? =some (.S x)):t.steps[Ze (D.take k)]? =some x:=by
 rw[h.eS];exact jBD Dk.asS hk rfl
theorem WfT.noA(h:WfT n t D){d:Dk}(hk:D[k]? =some d)(hd:d.asA=none){i:Nat}{y:Atr}(hy:t.attrs[i]? =some y):y.order≠(k:Int):=by
 rw[h.eA]at hy;obtain⟨j,e,hj,he⟩:=UA Dk.asA hy;cases e with
 |A z=>
  obtain rfl:=jL5 he;have:=h.ord j _ hj;intro e2;have e3:z.order=(j:Int):=this;obtain rfl:j=k:=(by omega);rw[hk]at hj;obtain rfl:=jL5 hj;cases hd
 |_=>cases he
theorem WfT.noG(h:WfT n t D){d:Dk}(hk:D[k]? =some d)(hd:d.asG=none){i:Nat}{y:Stg}(hy:t.stages[i]? =some y):y.order≠(k:Int):=by
 rw[h.eG]at hy;obtain⟨j,e,hj,he⟩:=UA Dk.asG hy;cases e with
 |jG9 z=>
  obtain rfl:=jL5 he;have:=h.ord j _ hj;intro e2;have e3:z.order=(j:Int):=this;obtain rfl:j=k:=(by omega);rw[hk]at hj;obtain rfl:=jL5 hj;cases hd
 |_=>cases he
theorem WfT.noM(h:WfT n t D){d:Dk}(hk:D[k]? =some d)(hd:d.asM=none){i:Nat}{y:Mil}(hy:t.miles[i]? =some y):y.order≠(k:Int):=by
 rw[h.eM]at hy;obtain⟨j,e,hj,he⟩:=UA Dk.asM hy;cases e with
 |M z=>
  obtain rfl:=jL5 he;have:=h.ord j _ hj;intro e2;have e3:z.order=(j:Int):=this;obtain rfl:j=k:=(by omega);rw[hk]at hj;obtain rfl:=jL5 hj;cases hd
 |_=>cases he
theorem WfT.lens(h:WfT n t D):t.attrs.length+t.stages.length+t.miles.length+t.steps.length=D.length:=by
 rw[h.eA,h.eG,h.eM,h.eS];exact UV D
theorem Yj{d:Dk}(hk:D[k]? =some d):D.take (k+1)=D.take k++[d]:=by
 obtain⟨h,rfl⟩:=jM5 hk;exact jK2 h
def VK(t:Tre)(D:List Dk)(k:Nat):UseS:=Js t.nA 0 0 (D.take k) ([],0)
theorem xz{d:Dk}(hk:D[k]? =some d):VK t D (k+1)=jD2 t.nA (Yb (D.take k)) (Ze (D.take k)) d (VK t D k):=by
 unfold VK;rw[Yj hk,Yg,Nat.zero_add,Nat.zero_add]
theorem KN(root ahead step lays:Int)(s:UseS):(Jr root ahead step lays s).1.length<=s.1.length+1:=by
 unfold Jr;split
 ·simp
 ·omega
end
theorem Rise.le:∀{l:List Int} {n m:Int},Rise n l m->n<=m
 |[],n,m,h=>h
 |a::l,n,m,h=>by
  unfold Rise at h;split at h
  ·have:=Rise.le h.2;omega
  ·exact Rise.le h
theorem Rise.left:∀{l l' :List Int} {n m:Int},Rise n (l++l') m->Rise n l m
 |[],l',n,m,h=>Rise.le h
 |a::l,l',n,m,h=>by
  have h:Rise n (a::(l++l')) m:=h;unfold Rise at h⊢;split at h
  ·rename_i h0;rw[jJ6 h0];exact⟨h.1,Rise.left h.2⟩
  ·rename_i h0;rw[jJ5 h0];exact Rise.left h
theorem Rise.lt:∀{l:List Int} {n m:Int},0<=n->Rise n l m->∀a∈l,a<m\/a<0
 |[],_,_,_,_,a,ha=>by cases ha
 |b::l,n,m,hn,h,a,ha=>by
  unfold Rise at h;split at h
  ·rename_i h0;have h1:=Rise.le h.2;rcases jN4 ha with rfl|ha
   ·exact .inl (by omega)
   ·exact Rise.lt (by omega) h.2 a ha
  ·rename_i h0;rcases jN4 ha with rfl|ha
   ·exact .inr (by omega)
   ·exact Rise.lt hn h a ha
def Cnt(s:UseS):Prop:=(s.1.length:Int)<=s.2
theorem zq{t:Tre}{n m root ahead step lays:Int}{l:List Int}{s:UseS}(h:UseI t n s)(hc:Cnt s)(hr:Rise n (root::l) m):Cnt (Jr root ahead step lays s):=by
 unfold Jr Cnt at*;unfold Rise at hr;have:=h.le;split at hr
 ·rename_i h0;rw[jJ6 h0];simp only[jJ4,List.length_singleton];omega
 ·rename_i h0;rw[jJ5 h0];exact hc
section
variable{t:Tre}
theorem xq{p:Nat}(hp:p<t.steps.length):∀(es:List Eff) (l:List Int) (n m:Int) (s:UseS),UseI t n s->Cnt s->Rise n (es.map (·.worth)++l) m->Cnt (xr t.nA p es s)
 |[],_,_,_,_,_,hc,_=>hc
 |e::es,l,n,m,s,h,hc,hr=>by
  have hl:=yc t.nA e.name;have hlen:t.nA.length=t.attrs.length:=jK7 _;obtain⟨k,h1,h2⟩:=zK (ahead:= -1) (step:=p) (lays:=jC t.nA e.name) h hr (by decide) (by omega) (by omega) (by omega) hl.1 (by omega);exact xq hp es l k m _ h1 (zq h hc hr) h2
theorem jCF{a p:Nat}{d:Dk}{l:List Int}{n m:Int}{s:UseS}(h:UseI t n s)(hc:Cnt s)(hr:Rise n (d.roots++l) m)(ha:a+d.isA<=t.attrs.length)(hp:p+d.isS<=t.steps.length):Cnt (jD2 t.nA a p d s):=by
 cases d with
 |A x=>
  have ha:a+1<=t.attrs.length:=ha;obtain⟨k,h1,h2⟩:=zK (ahead:=a) (step:= -1) (lays:=a) h hr (by omega) (by omega) (by decide) (by omega) (by omega) (by omega);exact zq h1 (zq h hc hr) h2
 |jG9 x=>
  obtain⟨k,h1,h2⟩:=zK (ahead:= -1) (step:= -1) (lays:= -1) h hr (by decide) (by omega) (by decide) (by omega) (by decide) (by omega);exact zq h1 (zq h hc hr) h2
 |M x=>exact zq h hc hr
 |S x=>
  have hp:p+1<=t.steps.length:=hp;obtain⟨k,h1,h2⟩:=zK (ahead:= -1) (step:=p) (lays:= -1) h hr (by decide) (by omega) (by omega) (by omega) (by decide) (by omega);exact xq (by omega) x.effects l k m _ h1 (zq h hc hr) h2
theorem Yf:∀(D:List Dk) (a p:Nat) (n m:Int) (s:UseS),UseI t n s->Cnt s->Rise n (D.flatMap Dk.roots) m->a+Yb D<=t.attrs.length->p+Ze D<=t.steps.length->Cnt (Js t.nA a p D s)
 |[],_,_,_,_,_,_,hc,_,_,_=>hc
 |d::D,a,p,n,m,s,h,hc,hr,ha,hp=>by
  obtain⟨c1,_,_,c4⟩:=yl d D;rw[jL9]at hr;obtain⟨k,h1,h2⟩:=jBc (a:=a) (p:=p) h hr (by omega) (by omega);exact Yf D _ _ k m _ h1 (jCF h hc hr (by omega) (by omega)) h2 (by omega) (by omega)
variable{n:Nat}{D:List Dk}
theorem xk(k:Nat)(D:List Dk):Yb (D.take k)<=Yb D/\uw (D.take k)<=uw D/\uv (D.take k)<=uv D/\Ze (D.take k)<=Ze D:=by
 have h:∀{α:Type} (f:Dk->Option α),((D.take k).filterMap f).length<=(D.filterMap f).length:=fun f=>by
  conv=>rhs;rw[<-List.take_append_drop k D]
  rw[List.filterMap_append,jJ4];omega
 exact⟨h _,h _,h _,h _⟩
theorem Yd(h:WfT n t D)(k:Nat):(VK t D k).1.length<=1000000:=by
 have hr:Rise 0 ((D.take k).flatMap Dk.roots) t.nodes.length:=by
  have:=h.rise;rw[<-List.take_append_drop k D,jN5]at this;exact this.left
 obtain⟨c1,_,_,c4⟩:=xk k D;have e1:Yb D=t.attrs.length:=by rw[h.eA];rfl
 have e4:Ze D=t.steps.length:=by rw[h.eS];rfl
 have i0:UseI t 0 ([],0):=⟨fun _ hx=>(by cases hx),Int.le_refl _,Int.le_refl _⟩;obtain⟨q,h1,h2⟩:=Vp (t:=t) (D.take k) 0 0 0 t.nodes.length ([],0) i0 hr (by omega) (by omega);have hc:=Yf (t:=t) (D.take k) 0 0 0 t.nodes.length ([],0) i0 (Int.le_refl _) hr (by omega) (by omega);have h3:=h1.le;have h4:=h.nk.nl;have h5:((Js t.nA 0 0 (D.take k) ([],0)).1.length:Int)<=(Js t.nA 0 0 (D.take k) ([],0)).2:=hc;have h6:(VK t D k).1.length=(Js t.nA 0 0 (D.take k) ([],0)).1.length:=rfl;omega
theorem jCg(h:WfT n t D){d:Dk}(hd:d∈D){a:Int}(ha:a∈d.roots):a<=1000000:=by
 have h1:=Rise.lt (Int.le_refl 0) h.rise a (List.mem_flatMap.2 ⟨d,hd,ha⟩);have h4:=h.nk.nl;omega
theorem Ye(t:Tre)(D:List Dk):(VK t D D.length).1=Zs t D:=by
 unfold VK Zs;rw[List.take_length]
end
theorem Zl(AN:List BA)(p:Nat)(e:Eff):∀(l:List Eff) (s:UseS),xr AN p (l++[e]) s=Jr e.worth (-1) p (jC AN e.name) (xr AN p l s)
 |[],_=>rfl
 |x::l,s=>by
  rw[jN6,xr,Zl AN p e l,xr]
theorem xp(AN:List BA)(p:Nat):∀(l:List Eff) (s:UseS),(xr AN p l s).1.length<=s.1.length+l.length
 |[],_=>jL3 _
 |e::l,s=>by
  have h1:=xp AN p l (Jr e.worth (-1) p (jC AN e.name) s);have h2:=KN e.worth (-1) p (jC AN e.name) s;rw[xr,jK6];omega
end Go.Proofs.YtifbhcfdealfaaaGreatDoor

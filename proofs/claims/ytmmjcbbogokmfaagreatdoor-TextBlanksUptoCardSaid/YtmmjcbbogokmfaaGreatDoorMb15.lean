import Derived.Test.YtmmjcbbogokmfaaGreatDoorMb14
set_option maxRecDepth 100000
set_option maxHeartbeats 25600000
namespace Go.Proofs.YtmmjcbbogokmfaaGreatDoor
open Go.Proofs.Tryz
def wtA(a:Atr):Nat:=80+a.name.size
def wtG(a:Stg):Nat:=80+a.name.size+a.in_.size
def wtM(a:Mil):Nat:=80+a.name.size+a.in_.size
def wtP(p:Prm):Nat:=20+p.name.size
def wtE(e:Eff):Nat:=20+e.name.size
def wtS(a:Stp):Nat:=80+a.name.size+a.in_.size+(a.params.map wtP).sum+(a.effects.map wtE).sum
section
variable{ns:List Nd}{L u c:Nat}{s:Wr9}
theorem Bd9.whole(h:Bd9 ns (yf ns) L u c s)(root:Int):Bd9 ns (yf ns) L u c (kr ns root s):=by
 have K:KidBd ns (yf ns) (fun k _ s=>kr ns k s):=⟨fun k l u b=>jBh ns _ k _ 0 u b _ (Yp _ _),fun k l s h=>by
  show(kz ns (ns.length+1) k ns.length 0 s).ok=false/\(kz ns (ns.length+1) k ns.length 0 s).b=s.b;rw[kz,jJ5 (fun e=>by rw[h]at e;cases e.1)];exact⟨rfl,rfl⟩⟩
 exact h.kid K root 0
theorem Bd9.named{P:Nat}(h:Bd9 ns P L u c s)(x:BA){d:Nat}(hd:c+1+x.size<=d):Bd9 ns P L u d (s.named x):=by
 unfold Wr9.named;exact Bd9.iff_ (h.put _ (by rw[jAc];exact hd)) (h.bad.mono (by omega))
theorem Bd9.inn{P:Nat}(h:Bd9 ns P L u c s)(x:BA){d:Nat}(hd:c+4+x.size<=d):Bd9 ns P L u d (s.inn x):=by
 unfold Wr9.inn;exact Bd9.iff_ (h.mono (by omega)) ((h.put [105,110] (d:=c+3) (by simp)).named x (by omega))
theorem Bd9.kind{P:Nat}(h:Bd9 ns P L u c s)(k:Int){d:Nat}(hd:c+10<=d):Bd9 ns P L u d (s.kind k):=by
 unfold Wr9.kind;exact Bd9.iff_ (h.put _ (by have:=jCF k;omega)) (h.bad.mono (by omega))
theorem Bd9.attr(h:Bd9 ns (yf ns) L u c s)(a:Atr):Bd9 ns (yf ns) L u (c+wtA a) (jGC ns a s):=by
 unfold jGC wtA;have h1:=((h.put [97,116,116,114,105,98,117,116,101] (d:=c+10) (by simp)).named a.name (d:=c+11+a.name.size) (by omega)).put [58] (d:=c+13+a.name.size) (by simp;omega);have h2:=(Bd9.iff_ (p:=a.opt=true) (h1.put [111,112,116,105,111,110,97,108] (d:=c+22+a.name.size) (by simp;omega)) (h1.mono (by omega))).kind a.kind (d:=c+32+a.name.size) (by omega);have h3:=Bd9.iff_ (p:=a.dflt= -1) (h2.mono (d:=c+34+a.name.size) (by omega)) ((h2.put [61] (d:=c+34+a.name.size) (by simp;omega)).whole a.dflt);have h4:=Bd9.iff_ (p:=a.when_= -1) (h3.mono (d:=c+39+a.name.size) (by omega)) ((h3.put [119,104,101,110] (d:=c+39+a.name.size) (by simp;omega)).whole a.when_);exact h4.put [59] (by simp;omega)
theorem Bd9.rule(h:Bd9 ns (yf ns) L u c s)(w:LB)(hw:w.length<=6)(root:Int):Bd9 ns (yf ns) L u (c+14) (VN ns w root s):=by
 unfold VN;refine Bd9.iff_ (h.mono (by omega)) ?_;exact(((h.put w (d:=c+7) (by omega)).put [119,104,101,110] (d:=c+12) (by simp)).whole root).put [59] (by simp)
theorem Bd9.stage(h:Bd9 ns (yf ns) L u c s)(a:Stg):Bd9 ns (yf ns) L u (c+wtG a) (jGA ns a s):=by
 unfold jGA wtG;have h1:=(((h.put [115,116,97,103,101] (d:=c+6) (by simp)).named a.name (d:=c+7+a.name.size) (by omega)).inn a.in_ (d:=c+11+a.name.size+a.in_.size) (by omega)).put [123] (d:=c+13+a.name.size+a.in_.size) (by simp;omega);exact((h1.rule [111,112,101,110,115] (by decide) a.opens).rule [99,108,111,115,101,115] (by decide) a.closes).put [125] (by simp;omega)
theorem Bd9.mile(h:Bd9 ns (yf ns) L u c s)(a:Mil):Bd9 ns (yf ns) L u (c+wtM a) (jF9 ns a s):=by
 unfold jF9 wtM;have h1:=((h.put [109,105,108,101,115,116,111,110,101] (d:=c+10) (by simp)).named a.name (d:=c+11+a.name.size) (by omega)).inn a.in_ (d:=c+15+a.name.size+a.in_.size) (by omega);exact(((h1.put [114,101,97,99,104,101,100] (d:=c+23+a.name.size+a.in_.size) (by simp;omega)).put [119,104,101,110] (d:=c+28+a.name.size+a.in_.size) (by simp;omega)).whole a.when_).put [59] (by simp;omega)
theorem Bd9.prms:∀(l:List Prm) (i:Nat) {c:Nat} {s:Wr9},Bd9 ns (yf ns) L u c s->Bd9 ns (yf ns) L u (c+(l.map wtP).sum) (Yo l i s)
 |[],_,_,_,h=>h
 |p::l,i,c,s,h=>by
  rw[Yo,List.map_cons,List.sum_cons];have h1:=((Bd9.iff_ (p:=0<i) (h.put [44] (d:=c+2) (by simp)) (h.mono (by omega))).named p.name (d:=c+3+p.name.size) (by omega)).put [58] (d:=c+5+p.name.size) (by simp;omega);exact(Bd9.prms l (i+1) (h1.kind p.kind (d:=c+wtP p) (by unfold wtP;omega))).mono (by omega)
theorem Bd9.effs:∀(l:List Eff) {c:Nat} {s:Wr9},Bd9 ns (yf ns) L u c s->Bd9 ns (yf ns) L u (c+(l.map wtE).sum) (Vj ns l s)
 |[],_,_,h=>h
 |e::l,c,s,h=>by
  rw[Vj,List.map_cons,List.sum_cons];have h1:=(h.put [114,101,111,112,101,110] (d:=c+7) (by simp)).named e.name (d:=c+8+e.name.size) (by omega);have h2:=((h.named e.name (d:=c+1+e.name.size) (by omega)).put [58,61] (d:=c+8+e.name.size) (by simp;omega)).whole e.worth;exact(Bd9.effs l ((Bd9.iff_ (p:=e.worth= -1) h1 h2).put [59] (d:=c+wtE e) (by unfold wtE;simp;omega))).mono (by omega)
theorem Bd9.step(h:Bd9 ns (yf ns) L u c s)(a:Stp):Bd9 ns (yf ns) L u (c+wtS a) (jF8 ns a s):=by
 unfold jF8 wtS;have h1:=((h.put [115,116,101,112] (d:=c+5) (by simp)).named a.name (d:=c+6+a.name.size) (by omega)).put [40] (d:=c+8+a.name.size) (by simp;omega);have h2:=((Bd9.prms a.params 0 h1).put [41] (d:=c+10+a.name.size+(a.params.map wtP).sum) (by simp;omega)).inn a.in_ (d:=c+14+a.name.size+a.in_.size+(a.params.map wtP).sum) (by omega);have h3:=Bd9.iff_ (p:=a.when_= -1) (h2.mono (d:=c+19+a.name.size+a.in_.size+(a.params.map wtP).sum) (by omega)) ((h2.put [119,104,101,110] (d:=c+19+a.name.size+a.in_.size+(a.params.map wtP).sum) (by simp;omega)).whole a.when_);exact(Bd9.effs a.effects (h3.put [123] (d:=c+21+a.name.size+a.in_.size+(a.params.map wtP).sum) (by simp;omega))).put [125] (by simp;omega)
end
def jF7(t:Tre)(c:Mg9):Nat:=((t.attrs.drop c.a).map wtA).sum+((t.stages.drop c.s).map wtG).sum+((t.miles.drop c.m).map wtM).sum+((t.steps.drop c.p).map wtS).sum
theorem YO{α:Type}(w:α->Nat){l:List α}{k:Nat}{x:α}(h:l[k]? =some x):((l.drop k).map w).sum=w x+((l.drop (k+1)).map w).sum:=by
 obtain⟨hlt,rfl⟩:=jM5 h;rw[jM9 hlt,List.map_cons,List.sum_cons]
theorem QY{t:Tre}{L u:Nat}:∀(n i:Nat) (c:Mg9) (k:Nat) (s:Wr9),Bd9 t.nodes (yf t.nodes) L u k s->Bd9 t.nodes (yf t.nodes) L u (k+jF7 t c+n) (KG t n i c s)
 |0,_,_,k,s,h=>h.mono (by omega)
 |n+1,i,c,k,s,h=>by
  rw[KG];by_cases hs:s.ok=true
  ·rw[jJ6 hs];cases e:VV t c i with
   |none=>
    exact(QY n (i+1) c (k+1) _ (h.bad.nl (by omega))).mono (by omega)
   |some d=>
    obtain⟨hf,hk,ho⟩:=Yw e;obtain⟨f,q⟩:=d;simp only at hf hk ho⊢;subst hk;have key:∃w,Bd9 t.nodes (yf t.nodes) L u (k+w) (jGB t (f,c.at_ f) s)/\jF7 t c=w+jF7 t (c.go f):=by
     unfold jGB jF7;rcases hf with rfl|rfl|rfl|rfl
     ·have ho:(t.attrs.map Atr.order)[c.a]? =some (i:Int):=ho;rw[jM1]at ho;obtain⟨x,hx,_⟩:=jM4 ho;refine⟨wtA x,?_,?_⟩
      ·have:t.attrs[c.at_ 1]? =some x:=hx;simp only[if_true,this];exact h.attr x
      ·have:=YO wtA hx;simp only[Mg9.go,if_true];omega
     ·have ho:(t.stages.map Stg.order)[c.s]? =some (i:Int):=ho;rw[jM1]at ho;obtain⟨x,hx,_⟩:=jM4 ho;refine⟨wtG x,?_,?_⟩
      ·have:t.stages[c.at_ 2]? =some x:=hx;simp only[Int.reduceEq,if_true,if_false,this];exact h.stage x
      ·have:=YO wtG hx;simp only[Mg9.go,Int.reduceEq,if_true,if_false];omega
     ·have ho:(t.miles.map Mil.order)[c.m]? =some (i:Int):=ho;rw[jM1]at ho;obtain⟨x,hx,_⟩:=jM4 ho;refine⟨wtM x,?_,?_⟩
      ·have:t.miles[c.at_ 3]? =some x:=hx;simp only[Int.reduceEq,if_true,if_false,this];exact h.mile x
      ·have:=YO wtM hx;simp only[Mg9.go,Int.reduceEq,if_true,if_false];omega
     ·have ho:(t.steps.map Stp.order)[c.p]? =some (i:Int):=ho;rw[jM1]at ho;obtain⟨x,hx,_⟩:=jM4 ho;refine⟨wtS x,?_,?_⟩
      ·have:t.steps[c.at_ 4]? =some x:=hx;simp only[Int.reduceEq,if_false,this];exact h.step x
      ·have:=YO wtS hx;simp only[Mg9.go,Int.reduceEq,if_false];omega
    obtain⟨w,h1,h2⟩:=key;exact(QY n (i+1) (c.go f) (k+w+1) _ (h1.nl (by omega))).mono (by omega)
  ·rw[jJ5 hs];exact h.mono (by omega)
def Ze(t:Tre):Nat:=20+t.name.size+jF7 t ⟨0,0,0,0⟩+t.count+2*yf t.nodes
theorem jHM(t:Tre):(jDF t).b.length+2<=Ze t:=by
 have h0:Bd9 t.nodes (yf t.nodes) 0 0 0 ⟨true,0,[]⟩:=⟨fun _=>jL3 _,fun e=>by cases e⟩;have h1:Bd9 t.nodes (yf t.nodes) 0 0 (15+t.name.size) (KT t):=(((h0.put [116,121,112,101] (d:=5) (by simp)).named t.name (d:=6+t.name.size) (by omega)).put [123] (d:=8+t.name.size) (by simp;omega)).nl (by omega);have h2:=QY t.count 0 ⟨0,0,0,0⟩ _ _ h1;have h3:Bd9 t.nodes (yf t.nodes) 0 0 (15+t.name.size+jF7 t ⟨0,0,0,0⟩+t.count) (jDF t):=h2;unfold Ze;cases e:(jDF t).ok with
 |true=>
  have:=h3.yes e;have:=Yp t.nodes (jDF t).used;omega
 |false=>
  have:=h3.no e;omega
theorem xu{t:Tre}{l:LB}(h:yV t=some l):l.length<=Ze t:=by
 rw[<-jBU]at h;unfold jHh at h;split at h
 ·injection h with h;have:=jHM t;rw[<-h,jJ4];exact this
 ·cases h
def wk(k:Tok):Nat:=100+5*k.2.length
def wks:List Tok->Nat
 |[]=>0
 |k::ts=>wk k+wks ts
def ndW(n:Nd):Nat:=82+n.name.size+4*n.vt.size
namespace Exp9
def wt:Exp9->Nat
 |lit k=>ndW k.nd
 |node _ nm k=>82+nm.length+k.wt
 |nil=>0
 |cons e l=>e.wt+l.wt
theorem cnt_wt:∀(e:Exp9),82*e.size<=e.wt
 |lit k=>by simp only[size,wt,ndW];omega
 |node _ nm k=>by have:=cnt_wt k;simp only[size,wt];omega
 |nil=>jL3 _
 |cons e l=>by have h1:=cnt_wt e;have h2:=cnt_wt l;simp only[size,wt];omega
theorem cnt_le:∀(e:Exp9) (b:Bool),e.ok b->e.cnt<=e.size
 |lit _,_,_=>Nat.zero_le _
 |node _ _ _,_,_=>Nat.zero_le _
 |nil,_,_=>jL3 _
 |cons e l,_,h=>by have h1:=Exp9.pos h.2.1;have h2:=cnt_le l true h.2.2;simp only[size,cnt];omega
end Exp9
theorem zm(a b:List Nd):yf (a++b)=yf a+yf b:=by
 unfold yf;rw[jN3,List.sum_append]
theorem QT(k:Lt):k.nd.kids=[]/\k.nd.vs=[]:=by
 cases k with
 |bool b=>cases b<;>exact⟨rfl,rfl⟩
 |_=>exact⟨rfl,rfl⟩
theorem Xp:∀(e:Exp9) (b:Nat),(e.ok false->yf (e.lay b)+2<=e.wt)/\(e.ok true->yf (e.lay b)+2*e.cnt<=e.wt)
 | .lit k,b=>⟨fun _=>by
   simp only[Exp9.lay,yf,List.map_cons,List.map_nil,List.sum_cons,List.sum_nil,wtN,Exp9.wt,ndW,(QT k).1,jN2];omega,fun h=>(by cases h.1)⟩
 | .node op nm k,b=>⟨fun h=>by
   have h1:=(Xp k b).2 h.2.1;rw[Exp9.lay,zm];simp only[yf,List.map_cons,List.map_nil,List.sum_cons,List.sum_nil,wtN,Exp9.wt,Exp9.roots_len,ya]at h1⊢;simp only[jN2];omega,fun h=>(by cases h.1)⟩
 | .nil,b=>⟨fun h=>(by cases h),fun _=>jL3 _⟩
 | .cons e l,b=>⟨fun h=>(by cases h.1),fun h=>by
   have h1:=(Xp e b).1 h.2.1;have h2:=(Xp l (b+e.size)).2 h.2.2;rw[Exp9.lay,zm];simp only[Exp9.wt,Exp9.cnt];omega⟩
structure NdOk(W:Nat)(n:Nd):Prop where
 kids:82*n.kids.length<=W
 vs:n.vs=[]
 vn:n.vn<=9223372036854775807
 vt:4*n.vt.size<=W
theorem NdOk.mono{W V:Nat}{n:Nd}(h:NdOk W n)(hv:W<=V):NdOk V n:=⟨jL4 h.kids hv,h.vs,h.vn,jL4 h.vt hv⟩
theorem Xq:∀(e:Exp9) (b:Nat) (c:Bool),e.ok c->∀n∈e.lay b,NdOk e.wt n
 | .lit k,b,_,h,n,hn=>by
  obtain rfl:n=k.nd:=jM7 hn;refine⟨by rw[(QT k).1];exact Nat.zero_le _,(QT k).2,?_,by simp only[Exp9.wt,ndW];omega⟩;cases k with
  |int v=>
   have:v<=9223372036854775807:=h.2;show(v:Int)<=_;omega
  |bool b=>cases b<;>decide
  |_=>exact(by decide:(0:Int)<=9223372036854775807)
 | .node op nm k,b,_,h,n,hn=>by
  rcases jM6 hn with hn|hn
  ·exact(Xq k b true h.2.1 n hn).mono (by simp only[Exp9.wt];omega)
  ·obtain rfl:=jM7 hn;have h1:=Exp9.cnt_le k true h.2.1;have h2:=Exp9.cnt_wt k;refine⟨by simp only[Exp9.roots_len,Exp9.wt];omega,rfl,(by decide:(0:Int)<=9223372036854775807),Nat.zero_le _⟩
 | .nil,_,_,_,n,hn=>by cases hn
 | .cons e l,b,_,h,n,hn=>by
  rcases jM6 hn with hn|hn
  ·exact(Xq e b false h.2.1 n hn).mono (by simp only[Exp9.wt];omega)
  ·exact(Xq l _ true h.2.2 n hn).mono (by simp only[Exp9.wt];omega)
theorem Jm:∀(f:Nat) (l v:LB),meantN f l=some v->v.length<=l.length
 |0,_,_,h=>by cases h
 |f+1,[],v,h=>by
  rw[meantN]at h;obtain rfl:=jL5 h;exact jL3 _
 |f+1,c::l,v,h=>by
  by_cases FQ:c.toNat=92
  ·cases l with
   |nil=>rw[jBx f c FQ]at h;cases h
   |cons d l=>
    by_cases h120:d.toNat=120
    ·cases l with
     |nil=>rw[jGd f c d FQ h120]at h;cases h
     |cons a l=>
      cases l with
      |nil=>rw[jGc f c d a FQ h120]at h;cases h
      |cons b l=>
       rw[jHj f c d a b l FQ h120]at h;split at h
       ·obtain⟨u,hu,rfl⟩:=jM4 h;have:=Jm f l u hu;simp only[jK6];omega
       ·cases h
    ·rw[Vv f c d l FQ h120]at h;obtain⟨u,hu,rfl⟩:=jM4 h;have:=Jm f l u hu;simp only[jK6];omega
  ·rw[Jn f c l FQ]at h;obtain⟨u,hu,rfl⟩:=jM4 h;have:=Jm f l u hu;simp only[jK6];omega
theorem jIM{k:Tok}{x:Lt}(h:jt k.1 k.2=some x.nd):ndW x.nd<=wk k:=by
 unfold ndW wk;unfold jt at h;split at h
 ·split at h
  ·have e:=jL5 h;rw[<-e];show 82+(⟨#[]⟩:BA).size+4*(⟨#[]⟩:BA).size<=_;have:(⟨#[]⟩:BA).size=0:=rfl;omega
  ·cases h
 split at h
 ·have e:=jL5 h;rw[<-e];show 82+(⟨#[]⟩:BA).size+4*(⟨#[]⟩:BA).size<=_;have:(⟨#[]⟩:BA).size=0:=rfl;omega
 split at h
 ·split at h
  ·obtain⟨v,hv,e⟩:=jM4 h;rw[<-e];show 82+(⟨#[]⟩:BA).size+4*(⟨v.toArray⟩:BA).size<=_;have h0:(⟨#[]⟩:BA).size=0:=rfl;have h1:=Jm _ _ _ hv;rw[jK9,jK8]at h1;rw[h0,ya];omega
  ·cases h
 split at h
 ·have e:=jL5 h;rw[<-e];show 82+(⟨k.2.toArray⟩:BA).size+4*(⟨#[]⟩:BA).size<=_;have h0:(⟨#[]⟩:BA).size=0:=rfl;rw[h0,ya];omega
 ·have e:=jL5 h;rw[<-e];show 82+(⟨#[]⟩:BA).size+4*(⟨#[]⟩:BA).size<=_;have:(⟨#[]⟩:BA).size=0:=rfl;omega
def Mwt:PJ->List Tok->Exp9->List Tok->Prop
 | .more _ e0,ts,e,rest=>e.wt+wks rest<=e0.wt+wks ts
 | .two _ e0 _,ts,e,rest=>e.wt+wks rest<=e0.wt+wks ts
 |_,ts,e,rest=>e.wt+wks rest<=wks ts
theorem jJI{j:PJ}{ts:List Tok}{e:Exp9}{rest:List Tok}(h:Pa j ts e rest):Mwt j ts e rest:=by
 induction h with
 |expr_row _ _ ih=>exact ih
 |expr_if _ _ _ _ _ _ ih1 ih2 ih3=>simp only[Mwt,wks,Exp9.wt,wk,jN2]at*;omega
 |not_ _ _ ih=>simp only[Mwt,wks,Exp9.wt,Exp9.one,wk,jN2]at*;omega
 |rel _ _ _ _ ih1 ih2=>simp only[Mwt]at*;omega
 |in_ _ _ _ _ ih1 ih2=>simp only[Mwt]at*;omega
 |sum _ _ _ _ ih=>exact ih
 |rowm _ _ _ ih1 ih2=>simp only[Mwt]at*;omega
 |rowu _ ih=>exact ih
 |stop _=>exact jL3 _
 |go _ _ _ ih1 ih2=>simp only[Mwt]at*;omega
 |two _ ih=>simp only[Mwt,wks,Exp9.wt,Exp9.pair,wk,jN2]at*;omega
 |neg _ _ ih=>simp only[Mwt,wks,Exp9.wt,Exp9.one,wk,jN2]at*;omega
 |lit _ hx=>have:=jIM hx;simp only[Mwt,wks,Exp9.wt]at*;omega
 |par _ _ _ ih=>simp only[Mwt,wks]at*;omega
 |set _ _ ih=>simp only[Mwt,wks,Exp9.wt,wk,jN2]at*;omega
 |named _ _ _ _=>simp only[Mwt,wks,Exp9.wt,wk]at*;omega
 |call _ _ _ _ ih=>simp only[Mwt,wks,Exp9.wt,wk,jN2]at*;omega
 |shut _=>simp only[Mwt,wks,Exp9.wt]at*;omega
 |elem _ _ _ _ ih1 ih2=>simp only[Mwt,wks,Exp9.wt]at*;omega
 |comma _ _ _ _ ih1 ih2=>simp only[Mwt,wks,Exp9.wt]at*;omega
def It.wt:It->Nat
 | .tok k=>wk k
 | .ex e=>e.wt
def iw(I:List It):Nat:=(I.map It.wt).sum
theorem JV(I J:List It):iw (I++J)=iw I+iw J:=by unfold iw;rw[jN3,List.sum_append]
theorem kD(i:It)(J:List It):iw (i::J)=i.wt+iw J:=by unfold iw;rw[List.map_cons,List.sum_cons]
theorem jId:iw []=0:=rfl
theorem jIc{ts:List Tok}{I:List It}{r:List Tok}(h:Pit ts I r):iw I+wks r<=wks ts:=by
 induction h with
 |nil=>rw[jId];omega
 |tok _ ih=>rw[kD];simp only[It.wt,wks];omega
 |ex ha _ ih=>
  have h1:_ +_ <=_:=jJI ha;rw[kD];simp only[It.wt];omega
def Dcl.wt(d:Dcl):Nat:=iw d.items
theorem jDH(t:Nat):100<=(kw t).wt:=by simp only[kw,It.wt,wk];omega
theorem qK(w:LB):(nmI w).wt=100+5*w.length:=rfl
theorem jG5(w:LB):w.length<=iw (inI w):=by
 unfold inI;split
 ·rename_i h;rw[h];exact Nat.zero_le _
 ·rw[kD,kD,qK];omega
theorem jJh(t:Nat)(e:Exp9):e.wt<=iw (gI t e):=by
 unfold gI;split
 ·rename_i h;rw[Jr h];exact Nat.zero_le _
 ·rw[kD,kD];simp only[It.wt];omega
theorem jKC(t:Nat)(e:Exp9):e.wt<=iw (rI t e):=by
 unfold rI;split
 ·rename_i h;rw[Jr h];exact Nat.zero_le _
 ·rw[kD,kD,kD];simp only[It.wt];omega
theorem jIb:∀(l:List (LB×Nat)) (i:Nat),((l.map jDs).map wtP).sum<=iw (prI l i)
 |[],_=>Nat.zero_le _
 |p::l,i=>by
  have:=jIb l (i+1);rw[prI,JV,kD,kD,kD,qK,List.map_cons,List.map_cons,List.sum_cons];simp only[wtP,jDs,ya];omega
theorem jCf:∀(l:List (LB×Exp9)) (b:Nat),((efT l b).map wtE).sum+(l.map fun p=>p.2.wt).sum<=iw (efI l)
 |[],_=>Nat.zero_le _
 |p::l,b=>by
  have ih:=jCf l (b+p.2.size);rw[efT,efI,JV,List.map_cons,List.map_cons,List.sum_cons,List.sum_cons];simp only[wtE,ya];have h1:20+p.1.length+p.2.wt<=iw (if p.2.isNil=true then [kw 33,nmI p.1,kw 9]else [nmI p.1,kw 11,.ex p.2,kw 9]):=by
   split
   ·rename_i h;rw[Jr h,kD,kD,qK];simp only[Exp9.wt];omega
   ·rw[kD,kD,kD,qK];simp only[It.wt];omega
  omega
theorem KB{e:Exp9}(h:e.okO)(b:Nat):yf (e.lay b)<=e.wt/\∀n∈e.lay b,NdOk e.wt n:=by
 rcases h with rfl|h
 ·exact⟨jL3 _,fun n hn=>by cases hn⟩
 ·have:=(Xp e b).1 h;exact⟨by omega,Xq e b false h⟩
theorem jFV:∀(l:List (LB×Exp9)) (b:Nat),(∀p∈l,jQ p.1=true/\p.2.okO)->yf (efL l b)<=(l.map fun p=>p.2.wt).sum/\∀n∈efL l b,NdOk (l.map fun p=>p.2.wt).sum n
 |[],_,_=>⟨jL3 _,fun n hn=>by cases hn⟩
 |p::l,b,h=>by
  obtain⟨h1,h2⟩:=KB (h p (List.mem_cons_self ..)).2 b;obtain⟨h3,h4⟩:=jFV l (b+p.2.size) fun x hx=>h x (jN1 _ hx);rw[efL,zm,List.map_cons,List.sum_cons];refine⟨by omega,fun n hn=> ?_⟩;rcases jM6 hn with hn|hn
  ·exact(h2 n hn).mono (by omega)
  ·exact(h4 n hn).mono (by omega)
theorem jHQ{d:Dcl}(h:d.ok)(b:Nat):yf (d.nodes b)<=d.wt/\∀n∈d.nodes b,NdOk d.wt n:=by
 cases d with
 |attr nm opt kind d w=>
  obtain⟨_,_,hd,hw⟩:=h;obtain⟨h1,h2⟩:=KB hd b;obtain⟨h3,h4⟩:=KB hw (b+d.size);have hW:d.wt+w.wt<=(Dcl.attr nm opt kind d w).wt:=by
   have q1:=jJh 12 d;have q2:=jJh 32 w;unfold Dcl.wt Dcl.items;simp only[kD,JV];omega
  rw[Dcl.nodes,zm];refine⟨by omega,fun n hn=> ?_⟩;rcases jM6 hn with hn|hn
  ·exact(h2 n hn).mono (by omega)
  ·exact(h4 n hn).mono (by omega)
 |stage nm inn o c=>
  obtain⟨_,_,hd,hw⟩:=h;obtain⟨h1,h2⟩:=KB hd b;obtain⟨h3,h4⟩:=KB hw (b+o.size);have hW:o.wt+c.wt<=(Dcl.stage nm inn o c).wt:=by
   have q1:=jKC 29 o;have q2:=jKC 30 c;unfold Dcl.wt Dcl.items;simp only[kD,JV];omega
  rw[Dcl.nodes,zm];refine⟨by omega,fun n hn=> ?_⟩;rcases jM6 hn with hn|hn
  ·exact(h2 n hn).mono (by omega)
  ·exact(h4 n hn).mono (by omega)
 |mile nm inn w=>
  obtain⟨_,_,hw⟩:=h;obtain⟨h3,h4⟩:=KB (.inr hw) b;have hW:w.wt<=(Dcl.mile nm inn w).wt:=by
   unfold Dcl.wt Dcl.items;simp only[kD,JV];have:(It.ex w).wt=w.wt:=rfl;omega
  rw[Dcl.nodes];exact⟨by omega,fun n hn=>(h4 n hn).mono hW⟩
 |step nm ps inn w es=>
  obtain⟨_,_,_,hw,WE⟩:=h;obtain⟨h1,h2⟩:=KB hw b;obtain⟨h3,h4⟩:=jFV es (b+w.size) WE;have hW:w.wt+(es.map fun p=>p.2.wt).sum<=(Dcl.step nm ps inn w es).wt:=by
   have q1:=jJh 32 w;have q2:=jCf es 0;unfold Dcl.wt Dcl.items;simp only[kD,JV];omega
  rw[Dcl.nodes,zm];refine⟨by omega,fun n hn=> ?_⟩;rcases jM6 hn with hn|hn
  ·exact(h2 n hn).mono (by omega)
  ·exact(h4 n hn).mono (by omega)
def qD(t:Tre):Nat:=(t.attrs.map wtA).sum+(t.stages.map wtG).sum+(t.miles.map wtM).sum+(t.steps.map wtS).sum
theorem jEY(t:Tre):Ze t=20+t.name.size+qD t+t.count+2*yf t.nodes:=by
 unfold Ze jF7 qD;simp only[List.drop_zero]
theorem jI6{d:Dcl}(h:d.ok)(o:Nat)(t:Tre):qD (d.add o t)+(d.add o t).count<=qD t+t.count+d.wt:=by
 rw[uo];cases d with
 |attr nm opt kind d w=>
  have q1:=jDH 24;have q2:=qK nm;unfold Dcl.wt Dcl.items qD;simp only[Dcl.add,jN3,List.map_cons,List.map_nil,List.sum_append,List.sum_cons,List.sum_nil,kD,wtA,ya];omega
 |stage nm inn op c=>
  have q1:=jDH 25;have q2:=qK nm;have q3:=jG5 inn;unfold Dcl.wt Dcl.items qD;simp only[Dcl.add,jN3,List.map_cons,List.map_nil,List.sum_append,List.sum_cons,List.sum_nil,kD,JV,wtG,ya];omega
 |mile nm inn w=>
  have q1:=jDH 26;have q2:=qK nm;have q3:=jG5 inn;unfold Dcl.wt Dcl.items qD;simp only[Dcl.add,jN3,List.map_cons,List.map_nil,List.sum_append,List.sum_cons,List.sum_nil,kD,JV,wtM,ya];omega
 |step nm ps inn w es=>
  have q1:=jDH 27;have q2:=qK nm;have q3:=jG5 inn;have q4:=jIb ps 0;have q5:=jCf es (t.nodes.length+w.size);unfold Dcl.wt Dcl.items qD;simp only[Dcl.add,jN3,List.map_cons,List.map_nil,List.sum_append,List.sum_cons,List.sum_nil,kD,JV,wtS,ya];omega
theorem jFZ:∀(D:List Dcl) (o:Nat) (t:Tre),(∀d∈D,d.ok)->qD (vR D o t)+(vR D o t).count<=qD t+t.count+iw (D.flatMap Dcl.items)/\yf (vR D o t).nodes<=yf t.nodes+iw (D.flatMap Dcl.items)/\
  ∀W,(∀n∈t.nodes,NdOk W n)->iw (D.flatMap Dcl.items)<=W->∀n∈(vR D o t).nodes,NdOk W n
 |[],o,t,_=>⟨jL3 _,jL3 _,fun W h _=>h⟩
 |d::D,o,t,h=>by
  have hd:=h d (List.mem_cons_self ..);obtain⟨h1,h2,h3⟩:=jFZ D (o+1) (d.add o t) fun x hx=>h x (jN1 _ hx);have q:=jI6 hd o t;obtain⟨l1,l2⟩:=jHQ hd t.nodes.length;rw[jL9,JV];have hi:iw d.items=d.wt:=rfl;rw[VE,zm]at h2;refine⟨by show qD (vR D (o+1) (d.add o t))+_ <=_;rw[hi];show _ +(vR D (o+1) (d.add o t)).count<=_;omega,by show yf (vR D (o+1) (d.add o t)).nodes<=_;omega,fun W hW Fc=> ?_⟩;refine h3 W (fun n hn=> ?_) (by omega);rw[VE]at hn;rcases jM6 hn with hn|hn
  ·exact hW n hn
  ·exact(l2 n hn).mono (by omega)
theorem Jj{α:Type}{f:α->α}{w:α->Nat}(h:∀x,w (f x)=w x)(l:List α):((l.map f).map w).sum=(l.map w).sum:=by
 rw[List.map_map];exact congrArg List.sum (List.map_congr_left fun x _=>h x)
theorem jDU(t:Tre):qD t.str=qD t:=by
 unfold qD Tre.str;simp only;rw[Jj (f:=Atr.str) (fun _=>rfl),Jj (f:=Stg.str) (fun _=>rfl),Jj (f:=Mil.str) (fun _=>rfl),Jj (f:=Stp.str) (fun x=> ?_)];unfold wtS Stp.str;simp only;rw[Jj (f:=Prm.str) (fun _=>rfl),Jj (f:=Eff.str) (fun _=>rfl)]
theorem VJ:∀(n:Nat) (l:LB) (k:Nat),l.length<=n->strLen l=some k->1<=k/\k<=l.length
 |_,[],k,_,h=>by cases h
 |n,c::l,k,hn,h=>by
  rw[jK6]at hn;cases n with
  |zero=>omega
  |succ n=>
   by_cases Gw:c.toNat=34
   ·rw[QJ c l Gw]at h;obtain rfl:=jL5 h;simp
   by_cases FQ:c.toNat=92
   ·cases l with
    |nil=>
     rw[strLen,jJ5 Gw,jJ6 FQ]at h;cases h
    |cons d l=>
     rw[Yk c d l FQ]at h;obtain⟨q,hq,rfl⟩:=jM4 h;have:=VJ n l q (by rw[jK6]at hn;omega) hq;simp only[jK6];omega
   ·rw[zo c l Gw FQ]at h;obtain⟨q,hq,rfl⟩:=jM4 h;have:=VJ n l q (by omega) hq;simp only[jK6];omega
theorem jGh{src:LB}{k:Nat}{x:Nat×Nat}(h:ZB (src.drop k)=some x)(hlt:k<src.length):1<=x.1/\k+x.1<=src.length:=by
 have hl:(src.drop k).length=src.length-k:=jK8;generalize src.drop k=l at h hl
 suffices hh:1<=x.1/\x.1<=l.length by omega
 cases l with
 |nil=>cases h
 |cons c l=>
  rw[ZB]at h;split at h
  ·rename_i hw;obtain rfl:=jL5 h;exact⟨kt jS c l hw,(List.takeWhile_prefix _).length_le⟩
  ·split at h
   ·obtain⟨q,hq,rfl⟩:=jM4 h;have:=VJ l.length l q (jL3 _) hq;simp only[jK6];omega
   ·split at h
    ·rename_i Gm;obtain rfl:=jL5 h;cases l with
     |nil=>exact absurd Gm.1 (by decide)
     |cons d l=>simp
    ·obtain rfl:=jL5 h;simp
theorem jAZ{src:LB}:∀{p:Nat} {ts:List Tk},Toks src p ts->wks (tks src ts)<=105*(src.length-p)
 |_,_,.done _=>Nat.zero_le _
 |p,_,.more (k:=k) (x:=x) (ts:=ts) hk hlt hx hl ht=>by
  have ih:=jAZ ht;have Td:1<=x.1/\k+x.1<=src.length:=jGh hx hlt;have hlen:(Ve src ⟨x.2,k,k+x.1⟩).length<=x.1:=by
   unfold Ve;rw[jK8,jK9];simp only;omega
  show wk (vD src _)+wks (tks src ts)<=_;unfold wk vD;simp only;omega
theorem jFj{src:LB}{m:Mc}{r:Rdr}{f:Nat}(hb:ka src=.ok m)(h0:m.stack=[])(hr:yh src f=some r)(hs:src.length<=60000):
  Ze r.tree<=20000000/\qD r.tree<=6300000/\yf r.tree.nodes<=6300000/\∀n∈r.tree.nodes,NdOk 6300000 n:=by
 obtain⟨ts,h1,h2,_⟩:=Vn hb h0;have N5:=ux h1;obtain⟨I,a1,a2,a3⟩:=VF _ ts _ (jL3 _) N5 h2;obtain⟨nm,D,rfl,FS,hD⟩:=jC7 a3 a1;have NJ:=VP h1 a2 hD hr;have w1:=jIc a2;have w2:=jAZ h1;have w3:nm.length+iw (D.flatMap Dcl.items)<=iw (JF nm D):=by
  unfold JF;rw[kD,kD,kD,JV,qK];omega
 obtain⟨q1,q2,q3⟩:=jFZ D 0 ⟨⟨nm.toArray⟩,0,[],[],[],[],[],[]⟩ hD;have z1:qD ⟨⟨nm.toArray⟩,0,[],[],[],[],[],[]⟩=0:=rfl;have z2:yf (⟨⟨nm.toArray⟩,0,[],[],[],[],[],[]⟩:Tre).nodes=0:=rfl;have z3:Tre.count ⟨⟨nm.toArray⟩,0,[],[],[],[],[],[]⟩=0:=rfl;have NJ:r.tree.str=vR D 0 ⟨⟨nm.toArray⟩,0,[],[],[],[],[],[]⟩:=NJ;have e1:r.tree.nodes=(vR D 0 ⟨⟨nm.toArray⟩,0,[],[],[],[],[],[]⟩).nodes:=by rw[<-NJ];rfl
 have e2:qD r.tree=qD (vR D 0 ⟨⟨nm.toArray⟩,0,[],[],[],[],[],[]⟩):=(by rw[<-NJ,jDU]);have e3:r.tree.count=(vR D 0 ⟨⟨nm.toArray⟩,0,[],[],[],[],[],[]⟩).count:=(by rw[<-NJ,xb]);have e4:r.tree.str.name=⟨nm.toArray⟩:=by
  obtain⟨X,P,A,jG9,M,e,_⟩:=xP D 0 ⟨⟨nm.toArray⟩,0,[],[],[],[],[],[]⟩;rw[NJ,e]
 have e4:r.tree.name=⟨nm.toArray⟩:=e4;rw[jEY,e4,e1,e2,e3,ya];rw[z1,z3]at q1;refine⟨by omega,by omega,by omega,fun n hn=>q3 6300000 (fun n hn=>by cases hn) (by omega) n hn⟩
def rows9:List LB:=[[32],[9],[10],[13],[35,10],[10,9,32],[35,97,34,123,255,10],[32,35,32,115,116,97,103,101,32,35,10]]
def jFz(fill:LB)(k:Nat):LB:=rows9.getD ((fill.getD (k% fill.length) 0).toNat% 8) []
def zB(fill:LB):Nat->LB->Bool->Nat->LB
 |0,_,_,_=>[]
 |_ +1,[],_,_=>[]
 |n+1,c::l,q,k=>
  if q=true/\c=92/\l≠ []then c::l.headD 0::zB fill n l.tail q k
  else
   let q' :=if c=34 then !q else q
   if q' =false/\(c=32\/c=10)/\fill≠ []then jFz fill k++zB fill n l q' (k+1)else c::zB fill n l q' k
theorem yF(fill:LB):∀(n m:Nat) (l:LB) (q:Bool) (k:Nat),l.length<=n->l.length<=m->zB fill n l q k=zB fill m l q k
 |0,0,_,_,_,_,_=>rfl
 |0,m+1,[],q,k,_,_=>rfl
 |0,m+1,_::_,_,_,h,_=>by simp at h
 |n+1,0,[],q,k,_,_=>rfl
 |n+1,0,_::_,_,_,_,h=>by simp at h
 |n+1,m+1,[],q,k,_,_=>rfl
 |n+1,m+1,c::l,q,k,h1,h2=>by
  rw[jK6]at h1 h2;have ht:l.tail.length=l.length-1:=List.length_tail;rw[zB,zB,yF fill n m l.tail q k (by omega) (by omega)];simp only;rw[yF fill n m l (if c=34 then !q else q) (k+1) (by omega) (by omega),yF fill n m l (if c=34 then !q else q) k (by omega) (by omega)]
theorem VO:∀i:Fin 8,Jc (rows9.getD i.val []):=by
 intro i;have h:i.val=0\/i.val=1\/i.val=2\/i.val=3\/i.val=4\/i.val=5\/i.val=6\/i.val=7:=(by omega);rcases h with e|e|e|e|e|e|e|e<;>rw[e]
 ·exact⟨.bl (by decide) .nil,32,[],rfl,by decide,by decide⟩
 ·exact⟨.bl (by decide) .nil,9,[],rfl,by decide,by decide⟩
 ·exact⟨.bl (by decide) .nil,10,[],rfl,by decide,by decide⟩
 ·exact⟨.bl (by decide) .nil,13,[],rfl,by decide,by decide⟩
 ·exact⟨.com (x:=[]) (by decide) (by decide) (.bl (by decide) .nil),35,_,rfl,by decide,by decide⟩
 ·exact⟨.bl (by decide) (.bl (by decide) (.bl (by decide) .nil)),10,_,rfl,by decide,by decide⟩
 ·exact⟨.com (x:=[97,34,123,255]) (by decide) (by decide) (.bl (by decide) .nil),35,_,rfl,by decide,by decide⟩
 ·exact⟨.bl (by decide) (.com (x:=[32,115,116,97,103,101,32,35]) (by decide) (by decide) (.bl (by decide) .nil)),32,_,rfl,by decide,by decide⟩
theorem Ue(fill:LB)(k:Nat):Jc (jFz fill k):=VO ⟨(fill.getD (k% fill.length) 0).toNat% 8,Nat.mod_lt _ (by decide)⟩
theorem jDj(fill:LB)(k:Nat):(jFz fill k).length<=11:=by
 have:∀i:Fin 8,(rows9.getD i.val []).length<=11:=(by decide);exact this ⟨(fill.getD (k% fill.length) 0).toNat% 8,Nat.mod_lt _ (by decide)⟩
theorem UQ(fill:LB):∀(w Y:LB) (n k:Nat),(∀c∈w,c≠34/\c≠32/\c≠10)->zB fill (n+w.length) (w++Y) false k=w++zB fill n Y false k
 |[],Y,n,k,_=>rfl
 |c::w,Y,n,k,h=>by
  obtain⟨h1,h2,h3⟩:=h c (List.mem_cons_self ..);rw[jK6,<-Nat.add_assoc,jN6,zB,jJ5 (fun e=>absurd e.1 (by decide))];simp only;rw[jJ5 h1,jJ5 (fun e=>e.2.1.elim h2 h3),UQ fill w Y n k fun x hx=>h x (jN1 _ hx)];rfl
theorem jCt(fill:LB):∀(w Y:LB) (n k:Nat),(∀c∈w,c≠34/\c≠92)->zB fill (n+w.length) (w++Y) true k=w++zB fill n Y true k
 |[],Y,n,k,_=>rfl
 |c::w,Y,n,k,h=>by
  obtain⟨h1,h2⟩:=h c (List.mem_cons_self ..);rw[jK6,<-Nat.add_assoc,jN6,zB,jJ5 (fun e=>h2 e.2.1)];simp only;rw[jJ5 h1,jJ5 (fun e=>absurd e.1 (by decide)),jCt fill w Y n k fun x hx=>h x (jN1 _ hx)];rfl
theorem Qq(fill:LB)(d:UInt8)(Y:LB)(n k:Nat):zB fill (n+1) (92::d::Y) true k=92::d::zB fill n Y true k:=by
 rw[zB,jJ6 ⟨rfl,rfl,List.cons_ne_nil _ _⟩];rfl
theorem UP(fill:LB):∀(s Y:LB) (n k:Nat),(s.flatMap jz++Y).length<=n->zB fill n (s.flatMap jz++Y) true k=s.flatMap jz++zB fill n Y true k
 |[],Y,n,k,_=>rfl
 |c::s,Y,n,k,h=>by
  rw[jL9,jK1]at h⊢;have hY:Y.length<=(s.flatMap jz++Y).length:=by rw[jJ4];omega
  have ih:=fun m hm=>UP fill s Y m k hm;generalize s.flatMap jz=q at h ih hY⊢;have esc:∀d:UInt8,(92::d::(q++Y)).length<=n->zB fill n (92::d::(q++Y)) true k=92::d::(q++zB fill n Y true k):=by
   intro d hd;simp only[jK6]at hd;obtain⟨m,rfl⟩:∃m,n=m+1:=⟨n-1,by omega⟩;rw[Qq,ih m (by omega),yF fill m (m+1) Y true k (by omega) (by omega)]
  unfold jz at h⊢;by_cases e1:c.toNat=34\/c.toNat=92
  ·rw[jJ6 e1]at h⊢;exact esc c h
  rw[jJ5 e1]at h⊢;by_cases e2:c.toNat=10
  ·rw[jJ6 e2]at h⊢;exact esc 110 h
  rw[jJ5 e2]at h⊢;by_cases e3:c.toNat=9
  ·rw[jJ6 e3]at h⊢;exact esc 116 h
  rw[jJ5 e3]at h⊢;by_cases e4:c.toNat<32\/126<c.toNat
  ·rw[jJ6 e4]at h⊢;have hx:∀n:Fin 16,KM n.val≠34/\KM n.val≠92:=(by decide+kernel);have hlt:=c.toNat_lt;have a1:=hx ⟨c.toNat/16,by omega⟩;have b1:=hx ⟨c.toNat% 16,Nat.mod_lt _ (by decide)⟩;simp only at a1 b1;generalize KM (c.toNat/16)=u at a1 h⊢;generalize KM (c.toNat% 16)=v at b1 h⊢;show zB fill n (92::120::u::v::(q++Y)) true k=92::120::u::v::(q++zB fill n Y true k);have h:(92::120::u::v::(q++Y)).length<=n:=h;simp only[jK6]at h;obtain⟨m,rfl⟩:∃m,n=(m+2)+1:=⟨n-3,by omega⟩;rw[Qq];have h2:=jCt fill [u,v] (q++Y) m k (by
    intro x hx;rcases jN4 hx with rfl|hx
    ·exact a1
    ·rw[jM7 hx];exact b1)
   have h2:zB fill (m+2) (u::v::(q++Y)) true k=u::v::zB fill m (q++Y) true k:=h2;rw[h2,ih m (by omega),yF fill m (m+2+1) Y true k (by omega) (by omega)]
  ·rw[jJ5 e4]at h⊢;show zB fill n (c::(q++Y)) true k=c::(q++zB fill n Y true k);have h:(c::(q++Y)).length<=n:=h;simp only[jK6]at h;obtain⟨m,rfl⟩:∃m,n=m+1:=⟨n-1,by omega⟩;have h2:=jCt fill [c] (q++Y) m k (by
    intro x hx;rw[jM7 hx];exact⟨fun e=>e1 (.inl (by rw[e];rfl)),fun e=>e1 (.inr (by rw[e];rfl))⟩)
   have h2:zB fill (m+1) (c::(q++Y)) true k=c::zB fill m (q++Y) true k:=h2;rw[h2,ih m (by omega),yF fill m (m+1) Y true k (by omega) (by omega)]
theorem jAV{c:UInt8}(h:jS c=true):c≠34/\c≠32/\c≠10:=by
 refine⟨fun e=> ?_,fun e=> ?_,fun e=> ?_⟩<;>(rw[e]at h;cases h)
theorem jHV(fill:LB){t:Tok}(ht:Fine t)(Y:LB)(n k:Nat)(hn:(t.2++Y).length<=n):zB fill n (t.2++Y) false k=t.2++zB fill n Y false k:=by
 have copy:∀w:LB,(w++Y).length<=n->(∀c∈w,c≠34/\c≠32/\c≠10)->zB fill n (w++Y) false k=w++zB fill n Y false k:=by
  intro w hw hc;rw[jJ4]at hw;rw[yF fill n (n+w.length) (w++Y) false k (by rw[jJ4];omega) (by rw[jJ4];omega),UQ fill w Y n k hc]
 cases ht with
 | @word w Fa G9 hp=>exact copy w hn fun c hc=>jAV (List.all_eq_true.1 G9 c hc)
 | @sign t h4 GZ=>
  refine copy _ hn ?_;have:∀t:Fin 19,∀c∈jO (4+t.val),c≠34/\c≠32/\c≠10:=(by decide+kernel);have h:=this ⟨t-4,by omega⟩;simp only[show 4+(t-4)=t by omega]at h;exact h
 | @text s=>
  have e:ji s++Y=34::(s.flatMap jz++34::Y):=(by simp[ji]);have e2:ji s++zB fill n Y false k=34::(s.flatMap jz++34::zB fill n Y false k):=(by simp[ji]);simp only at hn⊢;rw[e]at hn;rw[e,e2];simp only[jK6,jJ4]at hn;obtain⟨m,rfl⟩:∃m,n=m+1:=⟨n-1,by omega⟩;rw[zB,jJ5 (fun e=>absurd e.1 (by decide))];simp only[if_true,Bool.not_false];rw[jJ5 (fun e=>absurd e.1 (by decide)),UP fill s (34::Y) m k (by simp only[jK6,jJ4];omega)];obtain⟨p,rfl⟩:∃p,m=p+1:=⟨m-1,by omega⟩;rw[zB,jJ5 (fun e=>absurd e.2.1 (by decide))];simp only[if_true,Bool.not_true];rw[jJ5 (fun e=>absurd e.2.1 (by decide)),yF fill p (p+1+1) Y false k (by omega) (by omega)]
theorem Qr(fill:LB):∀(P:List (Tok×UInt8)) (n k:Nat),jI7 P->(∀p∈P,Fine p.1)->(bz P).length<=n->∃Q:List (Tok×LB),zB fill n (bz P) false k=sz Q/\Q.map (·.1)=P.map (·.1)/\(∀q∈Q,Jc q.2)
 |[],n,k,_,_,_=>⟨[],by cases n<;>rfl,rfl,fun q hq=>by cases hq⟩
 |(t,s)::P,n,k,hs,hf,hn=>by
  have e:bz ((t,s)::P)=t.2++(s::bz P):=(by simp[bz]);have ht:Fine t:=hf (t,s) (List.mem_cons_self ..);have LT:s=32\/s=10:=hs (t,s) (List.mem_cons_self ..);rw[e]at hn⊢;rw[jHV fill ht _ n k hn];simp only[jJ4,jK6]at hn;obtain⟨m,rfl⟩:∃m,n=m+1:=⟨n-1,by omega⟩;have Gw:s≠34:=by rcases LT with rfl|rfl<;>decide
  rw[zB,jJ5 (fun e=>absurd e.1 (by decide))];simp only;rw[jJ5 Gw];by_cases P8:fill≠ []
  ·rw[jJ6 ⟨rfl,LT,P8⟩];obtain⟨Q,h1,h2,h3⟩:=Qr fill P m (k+1) (fun p hp=>hs p (jN1 _ hp)) (fun p hp=>hf p (jN1 _ hp)) (by omega);refine⟨(t,jFz fill k)::Q,?_,by simp[h2],fun q hq=> ?_⟩
   ·rw[h1];simp[sz]
   ·rcases jN4 hq with rfl|hq
    ·exact Ue fill k
    ·exact h3 q hq
  ·rw[jJ5 (fun e=>P8 e.2.2)];obtain⟨Q,h1,h2,h3⟩:=Qr fill P m k (fun p hp=>hs p (jN1 _ hp)) (fun p hp=>hf p (jN1 _ hp)) (by omega);refine⟨(t,[s])::Q,?_,by simp[h2],fun q hq=> ?_⟩
   ·rw[h1];simp[sz]
   ·rcases jN4 hq with rfl|hq
    ·rcases LT with rfl|rfl
     ·exact VO 0
     ·exact VO 2
    ·exact h3 q hq
theorem YP(fill:LB):∀(n:Nat) (l:LB) (q:Bool) (k:Nat),(zB fill n l q k).length<=11*l.length
 |0,_,_,_=>Nat.zero_le _
 |n+1,[],_,_=>Nat.zero_le _
 |n+1,c::l,q,k=>by
  rw[zB];split
  ·rename_i h;have hl:0<l.length:=List.length_pos_iff.2 h.2.2;have ih:=YP fill n l.tail q k;rw[List.length_tail]at ih;simp only[jK6];omega
  ·simp only;generalize (if c=34 then !q else q)=q';split
   ·have ih:=YP fill n l q' (k+1);have:=jDj fill k;rw[jJ4,jK6];omega
   ·have ih:=YP fill n l q' k;simp only[jK6];omega
end Go.Proofs.YtmmjcbbogokmfaaGreatDoor

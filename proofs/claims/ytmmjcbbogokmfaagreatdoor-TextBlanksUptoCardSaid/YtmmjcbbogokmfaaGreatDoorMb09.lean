import Derived.Test.YtmmjcbbogokmfaaGreatDoorMb08
set_option maxRecDepth 100000
set_option maxHeartbeats 25600000
namespace Go.Proofs.YtmmjcbbogokmfaaGreatDoor
open Go.Proofs.Tryz
structure Wr9 where
 ok:Bool
 used:Nat
 b:LB
def Wr9.put(s:Wr9)(x:LB):Wr9:=⟨s.ok,s.used,jI s.b x⟩
def Wr9.bad(s:Wr9):Wr9:=⟨false,s.used,s.b⟩
def Wr9.named(s:Wr9)(x:BA):Wr9:=if jb x=true then s.put (tb x)else s.bad
def Wr9.inn(s:Wr9)(x:BA):Wr9:=if x.size=0 then s else(s.put [105,110]).named x
def Wr9.kind(s:Wr9)(k:Int):Wr9:=if vE k=true then s.put (Vz k)else s.bad
def Wr9.done(s:Wr9)(root:Int):Wr9:=⟨s.ok&&decide (root=(s.used:Int)),s.used+1,s.b⟩
def KH(g:Int->Nat->Wr9->Wr9):List Int->Nat->Wr9->Wr9
 |[],_,s=>s
 |k::l,i,s=>if s.ok=true then KH g l (i+1) (g k 0 (if 0<i then s.put [44]else s))else s
def jC3(g:Int->Nat->Wr9->Wr9)(n:Nd)(s:Wr9):Wr9:=
 if n.op=1 then s.put (Yu n.vn)
 else if n.op=2 then s.put (if n.vn=1 then [116,114,117,101]else [102,97,108,115,101])
 else if n.op=3 then s.put (ji (tb n.vt))
 else if n.op=4 then s.put [110,111,116,104,105,110,103]
 else if n.op=5 then s.put (tb n.name)
 else if n.op=6 then(KH g n.kids 0 (let s1:=s.put [123];if n.name.size=0 then s1 else s1.put (tb n.name))).put [125]
 else(KH g n.kids 0 (let s1:=(s.put (jA n.op)).put [40];if n.name.size=0 then s1 else s1.put (tb n.name))).put [41]
def zC(g:Int->Nat->Wr9->Wr9)(n:Nd)(s:Wr9):Wr9:=
 if n.op=23 then g (n.kids.getD 2 0) 0 ((g (n.kids.getD 1 0) 0 ((g (n.kids.getD 0 0) 0 (s.put [105,102])).put [116,104,101,110])).put [101,108,115,101])
 else if jD n.op=3\/jD n.op=7 then g (n.kids.getD 0 0) (jD n.op) (s.put (jA n.op))
 else if jD n.op<8 then g (n.kids.getD 1 0) (jD n.op+1) ((g (n.kids.getD 0 0) (if jD n.op=4 then 5 else jD n.op) s).put (jA n.op))
 else jC3 g n s
def Uo(g:Int->Nat->Wr9->Wr9)(n:Nd)(root:Int)(least:Nat)(s:Wr9):Wr9:=
 let s1:=zC g n (if jD n.op<least then s.put [40]else s)
 (if jD n.op<least then s1.put [41]else s1).done root
def kz(ns:List Nd):Nat->Int->Int->Nat->Wr9->Wr9
 |0,_,_,_,s=>s.bad
 |f+1,root,below,least,s=>
  if s.ok=true/\0<=root/\root<below then
   match ns[root.toNat]? with
   |none=>s.bad
   |some n=>if jR n=true then Uo (fun k l s=>kz ns f k root l s) n root least s else s.bad
  else s.bad
def kr(ns:List Nd)(root:Int)(s:Wr9):Wr9:=kz ns (ns.length+1) root ns.length 0 s
def jGC(ns:List Nd)(a:Atr)(s:Wr9):Wr9:=
 let s1:=((s.put [97,116,116,114,105,98,117,116,101]).named a.name).put [58]
 let s2:=(if a.opt=true then s1.put [111,112,116,105,111,110,97,108]else s1).kind a.kind
 let s3:=if a.dflt= -1 then s2 else kr ns a.dflt (s2.put [61])
 let s4:=if a.when_= -1 then s3 else kr ns a.when_ (s3.put [119,104,101,110])
 s4.put [59]
def VN(ns:List Nd)(w:LB)(root:Int)(s:Wr9):Wr9:=if root= -1 then s else(kr ns root ((s.put w).put [119,104,101,110])).put [59]
def jGA(ns:List Nd)(a:Stg)(s:Wr9):Wr9:=
 (VN ns [99,108,111,115,101,115] a.closes (VN ns [111,112,101,110,115] a.opens ((((s.put [115,116,97,103,101]).named a.name).inn a.in_).put [123]))).put [125]
def jF9(ns:List Nd)(a:Mil)(s:Wr9):Wr9:=
 (kr ns a.when_ (((((s.put [109,105,108,101,115,116,111,110,101]).named a.name).inn a.in_).put [114,101,97,99,104,101,100]).put [119,104,101,110])).put [59]
def Yo:List Prm->Nat->Wr9->Wr9
 |[],_,s=>s
 |p::l,i,s=>Yo l (i+1) ((((if 0<i then s.put [44]else s).named p.name).put [58]).kind p.kind)
def Vj(ns:List Nd):List Eff->Wr9->Wr9
 |[],s=>s
 |e::l,s=>Vj ns l ((if e.worth= -1 then(s.put [114,101,111,112,101,110]).named e.name else kr ns e.worth ((s.named e.name).put [58,61])).put [59])
def jF8(ns:List Nd)(a:Stp)(s:Wr9):Wr9:=
 let s1:=((Yo a.params 0 (((s.put [115,116,101,112]).named a.name).put [40])).put [41]).inn a.in_
 let s2:=if a.when_= -1 then s1 else kr ns a.when_ (s1.put [119,104,101,110])
 (Vj ns a.effects (s2.put [123])).put [125]
structure Mg9 where
 a:Nat
 s:Nat
 m:Nat
 p:Nat
def zd(l:List Int)(k:Nat)(i:Nat):Bool:=decide (l[k]? =some (i:Int))
def VV(t:Tre)(c:Mg9)(i:Nat):Option (Int×Nat):=
 if zd (t.attrs.map Atr.order) c.a i=true then some (1,c.a)
 else if zd (t.stages.map Stg.order) c.s i=true then some (2,c.s)
 else if zd (t.miles.map Mil.order) c.m i=true then some (3,c.m)
 else if zd (t.steps.map Stp.order) c.p i=true then some (4,c.p)
 else none
def Mg9.go(c:Mg9)(fam:Int):Mg9:=if fam=1 then⟨c.a+1,c.s,c.m,c.p⟩else if fam=2 then⟨c.a,c.s+1,c.m,c.p⟩else if fam=3 then⟨c.a,c.s,c.m+1,c.p⟩else⟨c.a,c.s,c.m,c.p+1⟩
def jGB(t:Tre)(d:Int×Nat)(s:Wr9):Wr9:=
 if d.1=1 then(match t.attrs[d.2]? with|some a=>jGC t.nodes a s|none=>s)
 else if d.1=2 then(match t.stages[d.2]? with|some a=>jGA t.nodes a s|none=>s)
 else if d.1=3 then(match t.miles[d.2]? with|some a=>jF9 t.nodes a s|none=>s)
 else(match t.steps[d.2]? with|some a=>jF8 t.nodes a s|none=>s)
def Wr9.nl(s:Wr9):Wr9:=⟨s.ok,s.used,s.b++[10]⟩
def KG(t:Tre):Nat->Nat->Mg9->Wr9->Wr9
 |0,_,_,s=>s
 |n+1,i,c,s=>
  if s.ok=true then
   match VV t c i with
   |some d=>KG t n (i+1) (c.go d.1) (jGB t d s).nl
   |none=>KG t n (i+1) c s.bad.nl
  else s
def KT(t:Tre):Wr9:=(((⟨true,0,[]⟩:Wr9).put [116,121,112,101]).named t.name).put [123]|>.nl
def jDF(t:Tre):Wr9:=KG t t.count 0 ⟨0,0,0,0⟩ (KT t)
def jHh(t:Tre):Option LB:=if(jDF t).ok=true/\(jDF t).used=t.nodes.length then some ((jDF t).b++[125,10])else none
--what is written only jHG
def Wr9.le(s s' :Wr9):Prop:=s.b.length<=s'.b.length
theorem Wr9.le.refl(s:Wr9):s.le s:=jL3 _
theorem Wr9.le.trans{s s1 s2:Wr9}(h:s.le s1)(k:s1.le s2):s.le s2:=jL4 h k
theorem jGE(b x:LB):b.length<=(jI b x).length/\x.length<=(jI b x).length/\(jI b x).length<=b.length+1+x.length:=by
 unfold jI;split
 ·simp only[jJ4];omega
 ·simp only[jJ4,List.length_singleton];omega
def bz(P:List (Tok×UInt8)):LB:=P.flatMap fun p=>p.1.2++[p.2]
def Nt(w:LB):Prop:=w≠ []/\w.getLastD 0≠10
def jI7(P:List (Tok×UInt8)):Prop:=∀p∈P,p.2=32\/p.2=10
def Wo(T:List Tok)(b:LB):Prop:=∃P k,b=bz P++k.2/\T=P.map (·.1)++[k]/\jI7 P/\Nt k.2
def Wc(T:List Tok)(b:LB):Prop:=∃P,b=bz P/\T=P.map (·.1)/\jI7 P/\(b=[]\/b.getLastD 0=10)
def Wb(T:List Tok)(b:LB):Prop:=Wo T b\/Wc T b
theorem JY(a b:LB)(h:b≠ [])(d:UInt8):(a++b).getLastD d=b.getLastD d:=by
 rw[List.getLastD_eq_getLast?,List.getLastD_eq_getLast?,List.getLast?_append,List.getLast?_eq_some_getLast h];rfl
theorem Wb.put{T:List Tok}{b:LB}(h:Wb T b)(k:Tok)(hk:Nt k.2):Wo (T++[k]) (jI b k.2):=by
 rcases h with⟨P,k0,rfl,rfl,hs,hn⟩|⟨P,rfl,rfl,hs,hn⟩
 ·refine⟨P++[(k0,32)],k,?_,by simp,?_,hk⟩
  ·unfold jI;rw[jJ5]
   ·unfold bz;simp[List.flatMap_append]
   ·rintro (h|h)
    ·exact hn.1 (List.append_eq_nil_iff.1 h).2
    ·rw[JY _ _ hn.1]at h;exact hn.2 h
  ·intro p hp;rcases jM6 hp with h|h
   ·exact hs p h
   ·rw[jM7 h];exact .inl rfl
 ·refine⟨P,k,?_,rfl,hs,hk⟩;unfold jI;rw[jJ6 hn]
theorem Wo.nl{T:List Tok}{b:LB}(h:Wo T b):Wc T (b++[10]):=by
 obtain⟨P,k0,rfl,rfl,hs,hn⟩:=h;refine⟨P++[(k0,10)],by unfold bz;simp[List.flatMap_append],by simp,?_,.inr (JY _ _ (by decide) _)⟩;intro p hp;rcases jM6 hp with h|h
 ·exact hs p h
 ·rw[jM7 h];exact .inr rfl
theorem Wb.start:Wb [] []:=.inr ⟨[],rfl,rfl,fun _ h=>(by cases h),.inl rfl⟩
structure Ws(T:List Tok)(u:Nat)(s:Wr9):Prop where
 ok:s.ok=true
 used:s.used=u
 b:Wb T s.b
structure Wx(T:List Tok)(u:Nat)(s:Wr9):Prop where
 ok:s.ok=true
 used:s.used=u
 b:Wo T s.b
theorem Wx.ws{T:List Tok}{u:Nat}{s:Wr9}(h:Wx T u s):Ws T u s:=⟨h.ok,h.used,.inl h.b⟩
theorem Ws.put{T:List Tok}{u:Nat}{s:Wr9}(h:Ws T u s)(k:Tok)(hk:Nt k.2):Wx (T++[k]) u (s.put k.2):=⟨h.ok,h.used,h.b.put k hk⟩
theorem Wx.put{T:List Tok}{u:Nat}{s:Wr9}(h:Wx T u s)(k:Tok)(hk:Nt k.2):Wx (T++[k]) u (s.put k.2):=h.ws.put k hk
theorem qm{w:LB}(h0:w≠ [])(h:w.all jS=true):Nt w:=by
 refine⟨h0,fun e=> ?_⟩;rw[List.getLastD_eq_getLast?,List.getLast?_eq_some_getLast h0]at e;simp only[Option.getD_some]at e;have:=List.all_eq_true.1 h _ (List.getLast_mem h0);rw[e]at this;cases this
theorem vu{w:LB}(h:jQ w=true):w≠ []/\w.all jS=true:=by
 unfold jQ jk at h;simp only[Bool.and_eq_true,decide_eq_true_eq]at h;exact⟨fun e=>by subst e;have:=h.1.1.1.1;simp at this,h.1.2⟩
theorem UJ{c:UInt8}(h:yd c=true):jS c=true:=by
 unfold jS;rw[h];simp
theorem jIJ(x:Lt)(h:x.ok):Nt x.tok.2:=by
 cases x with
 |int v=>
  obtain⟨_,h2,_⟩:=QR v h;refine qm h2 (List.all_eq_true.2 fun c hc=>UJ (List.all_eq_true.1 (Kx 20 v) c hc))
 |bool b=>cases b<;>exact⟨by decide,by decide⟩
 |text s=>
  show Nt (ji s);unfold ji;refine⟨List.cons_ne_nil _ _,?_⟩;rw[<-jN6,JY _ _ (by decide)];decide
 |none_=>exact⟨by decide,by decide⟩
 |name w=>exact qm (vu h).1 (vu h).2
theorem jD4{op:Int}(h:7<=op/\op<=33):Nt (jA op):=by
 have:∀n:Fin 27,jA (7+(n.val:Int))≠ []/\(jA (7+(n.val:Int))).getLastD 0≠10:=(by decide+kernel);obtain⟨k,rfl⟩:∃k:Nat,op=7+(k:Int):=⟨(op-7).toNat,by omega⟩;exact this ⟨k,by omega⟩
def Sits(ns:List Nd)(e:Exp9)(b:Nat):Prop:=∀i n,(e.lay b)[i]? =some n->ns[b+i]? =some n
theorem Sits.cons{ns:List Nd}{e l:Exp9}{b:Nat}(h:Sits ns (.cons e l) b):Sits ns e b/\Sits ns l (b+e.size):=by
 refine⟨fun i n hi=>h i n ?_,fun i n hi=> ?_⟩
 ·rw[Exp9.lay,List.getElem?_append_left (jM5 hi).1];exact hi
 ·have:=h (e.size+i) n (by rw[Exp9.lay,List.getElem?_append_right (by rw[Exp9.lay_len];omega),Exp9.lay_len,Nat.add_sub_cancel_left];exact hi);rw[<-Nat.add_assoc]at this;exact this
theorem Sits.node{ns:List Nd}{op:Int}{nm:LB}{k:Exp9}{b:Nat}(h:Sits ns (.node op nm k) b):Sits ns k b/\ns[b+k.size]? =some ⟨op,⟨nm.toArray⟩,0,0,⟨#[]⟩,[],k.roots b⟩:=by
 refine⟨fun i n hi=>h i n ?_,h k.size _ ?_⟩
 ·rw[Exp9.lay,List.getElem?_append_left (jM5 hi).1];exact hi
 ·rw[Exp9.lay,List.getElem?_append_right (by rw[Exp9.lay_len];exact jL3 _),Exp9.lay_len,Nat.sub_self];rfl
def Prn(e:Exp9):Prop:=∀(ns:List Nd) (b:Nat),Sits ns e b->∀f,e.size<=f->∀below:Int,e.root b<below->∀(L:Nat),L<=8->∀(T:List Tok) (s:Wr9),Ws T b s->Wx (T++prt e L) (b+e.size) (kz ns f (e.root b) below L s)
theorem Xc(ns:List Nd)(f:Nat)(below:Int):∀(l:Exp9),l.ok true->l.each Prn->∀(b:Nat),Sits ns l b->l.size<=f->((b+l.size:Nat):Int)<=below->∀(i:Nat) (T:List Tok) (s:Wr9),Ws T b s->
  Ws (T++prt l i) (b+l.size) (KH (fun k l s=>kz ns f k below l s) (l.roots b) i s)
 | .nil,_,_,b,_,_,_,i,T,s,h=>by
  show Ws (T++[]) b s;rw[jN7];exact h
 | .lit _,h,_,_,_,_,_,_,_,_,_=>by cases h.1
 | .node _ _ _,h,_,_,_,_,_,_,_,_,_=>by cases h.1
 | .cons e l,ho,hp,b,hS,hf,hb,i,T,s,h=>by
  obtain⟨s1,s2⟩:=hS.cons;have Tp:=Exp9.pos ho.2.1;simp only[Exp9.size]at hf hb;have h1:Ws (T++(if 0<i then [(8,[44])]else [])) b (if 0<i then s.put [44]else s):=by
   split
   ·exact(h.put (8,[44]) ⟨by decide,by decide⟩).ws
   ·rw[jN7];exact h
  have h2:=hp.1 ns b s1 f (by omega) below (by unfold Exp9.root;omega) 0 (by decide) _ _ h1;have h3:=Xc ns f below l ho.2.2 hp.2 (b+e.size) s2 (by omega) (by omega) (i+1) _ _ h2.ws;rw[Exp9.roots,KH,jJ6 h.ok,prt,Exp9.size,<-Nat.add_assoc];simpa [jK1]using h3
theorem Zq{ns:List Nd}{f:Nat}{root below:Int}{L:Nat}{s:Wr9}{n:Nd}(Gk:s.ok=true)(h0:0<=root)(hb:root<below)(hn:ns[root.toNat]? =some n)(hr:jR n=true):
  kz ns (f+1) root below L s=Uo (fun k l s=>kz ns f k root l s) n root L s:=by
 rw[kz,jJ6 ⟨Gk,h0,hb⟩,hn];simp only;rw[jJ6 hr]
theorem yj{g:Int->Nat->Wr9->Wr9}{n:Nd}{root:Int}{L own:Nat}{X T:List Tok}{s:Wr9}{b u:Nat}(h:Ws T b s)(ho:jD n.op=own)(NB:root=(u:Int))(hc:∀T s,Ws T b s->Wx (T++X) u (zC g n s)):
  Wx (T++JE (decide (own<L)) X) (u+1) (Uo g n root L s):=by
 unfold Uo;rw[ho];by_cases hlt:own<L
 ·rw[jK5 hlt];simp only[hlt,if_true];have h1:=hc _ _ (h.put (6,[40]) ⟨by decide,by decide⟩).ws;have h2:=h1.put (7,[41]) ⟨by decide,by decide⟩;have h3:T++JE true X=T++[(6,[40])]++X++[(7,[41])]:=(by simp[JE]);rw[h3];refine⟨?_,?_,h2.b⟩
  ·show(_ &&decide _)=true;rw[Bool.and_eq_true];exact⟨h2.ok,by rw[h2.used,NB];exact jK5 rfl⟩
  ·show _ +1=u+1;rw[h2.used]
 ·rw[jK3 hlt];simp only[hlt,if_false];have h2:=hc _ _ h;refine⟨?_,?_,h2.b⟩
  ·show(_ &&decide _)=true;rw[Bool.and_eq_true];exact⟨h2.ok,by rw[h2.used,NB];exact jK5 rfl⟩
  ·show _ +1=u+1;rw[h2.used]
theorem ya(w:LB):(⟨w.toArray⟩:BA).size=w.length:=rfl
theorem jBP(x:Lt)(h:x.ok):jR x.nd=true:=by
 cases x with
 |int v=>(simp[Lt.nd,jR]<;>rfl)
 |bool b=>cases b<;>decide
 |text s=>(simp[Lt.nd,jR]<;>rfl)
 |none_=>decide
 |name w=>
  have:jb ⟨w.toArray⟩=true:=h
  (simp[Lt.nd,jR,this]<;>rfl)
theorem Uf{op:Int}{nm:LB}{ks:Exp9}{b:Nat}(h:(Exp9.node op nm ks).ok false):jR ⟨op,⟨nm.toArray⟩,0,0,⟨#[]⟩,[],ks.roots b⟩=true:=by
 have hlen:=Exp9.roots_len ks b;rcases h.2.2 with⟨rfl,rfl⟩|⟨ho,hn,hc⟩|⟨ho,rfl,hc⟩|⟨ho,rfl,hc⟩|⟨rfl,rfl,hc⟩|⟨ho,rfl,hc⟩
 ·(simp[jR]<;>rfl)
 ·have hl:jb ⟨nm.toArray⟩=true:=hn;rw[hc]at hlen;rcases ho with rfl|rfl|rfl<;>(simp[jR,hlen,hl]<;>rfl)
 ·rw[hc]at hlen;rcases ho with rfl|rfl<;>(simp[jR,hlen]<;>rfl)
 ·rw[hc]at hlen;rcases ho with rfl|rfl|rfl<;>(simp[jR,hlen]<;>rfl)
 ·rw[hc]at hlen
  (simp[jR,hlen]<;>rfl)
 ·rw[hc]at hlen;unfold jR;simp only;rw[jJ5 (by omega),jJ5 (by omega),jJ5 (by omega),jJ5 (by omega),jJ5 (by omega),jJ5 (by omega),jJ5 (by omega),jJ5 (by omega),jK5 (show 1<=op/\op<34 by omega),hlen];rfl
theorem jB0(x:Lt):jD x.nd.op=8:=by
 cases x with
 |bool b=>cases b<;>rfl
 |_=>rfl
theorem jGG(x:Lt)(h:x.ok):Prn (.lit x):=by
 intro ns b hS f hf below hb L hL T s hs;have hn:ns[b]? =some x.nd:=hS 0 x.nd rfl;have NB:(Exp9.lit x).root b=(b:Int):=(by simp[Exp9.root,Exp9.size]);rw[NB]at hb⊢;obtain⟨f,rfl⟩:∃g,f=g+1:=⟨f-1,by simp only[Exp9.size]at hf;omega⟩;rw[Zq hs.ok (by omega) hb (by simpa using hn) (jBP x h)];have hp:prt (.lit x) L=JE (decide (8<L)) [x.tok]:=by
  rw[jK3 (by omega)];rfl
 rw[hp];refine yj hs (jB0 x) rfl (fun T s h2=> ?_);have Gb:=h2.put x.tok (jIJ x h);have:zC (fun k l s=>kz ns f k (b:Int) l s) x.nd s=s.put x.tok.2:=by
  cases x with
  |bool b=>cases b<;>rfl
  |_=>rfl
 rw[this];exact Gb
theorem Xb{nm:LB}{ks:Exp9}(L:Nat):prt (.node 6 nm ks) L=JE (decide (jD 6<L)) ((4,[123])::(prt ks 0++[(5,[125])])):=by
 conv=>lhs;unfold prt
 rw[jJ5 (by decide),jJ5 (by decide),jJ5 (by decide),jJ6 rfl]
theorem qX:∀(e:Exp9),(e.ok false->Prn e)/\(e.ok true->e.each Prn)
 | .nil=>⟨fun h=>(by cases h),fun _=>trivial⟩
 | .cons e l=>⟨fun h=>(by cases h.1),fun h=>⟨(qX e).1 h.2.1,(qX l).2 h.2.2⟩⟩
 | .lit x=>⟨fun h=>jGG x h.2,fun h=>(by cases h.1)⟩
 | .node op nm ks=>⟨fun h=>by
   intro ns b hS f hf below hb L hL T s hs;have Gn:=(qX ks).2 h.2.1;obtain⟨sk,sn⟩:=hS.node;have NB:(Exp9.node op nm ks).root b=((b+ks.size:Nat):Int):=(by simp[Exp9.root,Exp9.size]);rw[NB]at hb⊢;simp only[Exp9.size]at hf⊢;obtain⟨f,rfl⟩:∃g,f=g+1:=⟨f-1,by omega⟩;rw[Zq hs.ok (by omega) hb (by rw[jL1];exact sn) (Uf h),<-Nat.add_assoc];have Lv:=fun i T s=>Xc ns f ((b+ks.size:Nat):Int) ks h.2.1 Gn b sk (by omega) (Int.le_refl _) i T s;have h8:∀op,op=6\/(24<=op/\op<=33)->jD op=8:=fun op=>(Kh op).2.2.2.2.2.2.2.2
   --a call with a row of parts
   have W7:nm=[]->(24<=op/\op<=33)->∀T s,Ws T b s->Wx (T++(vI op::(6,[40])::((if nm=[]then []else [(1,nm)])++(prt ks 0++[(7,[41])])))) (b+ks.size) (zC (fun k l s=>kz ns f k ((b+ks.size:Nat):Int) l s) ⟨op,⟨nm.toArray⟩,0,0,⟨#[]⟩,[],ks.roots b⟩ s):=by
    intro FS ho T s h2;subst FS;have hl:=h8 op (.inr ho);have q:=(((Lv 0 _ _ (((h2.put (vI op) (jD4 (by omega))).put (6,[40]) ⟨by decide,by decide⟩).ws)).put (7,[41]) ⟨by decide,by decide⟩));have e:zC (fun k l s=>kz ns f k ((b+ks.size:Nat):Int) l s) ⟨op,⟨([]:LB).toArray⟩,0,0,⟨#[]⟩,[],ks.roots b⟩ s=(KH (fun k l s=>kz ns f k ((b+ks.size:Nat):Int) l s) (ks.roots b) 0 ((s.put (jA op)).put [40])).put [41]:=by
     unfold zC;simp only;rw[jJ5 (by omega),jJ5 (by omega),jJ5 (by omega)];unfold jC3;simp only;rw[jJ5 (by omega),jJ5 (by omega),jJ5 (by omega),jJ5 (by omega),jJ5 (by omega),jJ5 (by omega)];rfl
    rw[e];simpa [jK1,vI]using q
   rcases h.2.2 with⟨rfl,rfl⟩|⟨ho,hn,hc⟩|⟨ho,rfl,hc⟩|⟨ho,rfl,hc⟩|⟨rfl,rfl,hc⟩|⟨ho,rfl,hc⟩
   ·rw[Xb];refine yj hs rfl rfl (fun T s h2=> ?_);have q:=(Lv 0 _ _ (h2.put (4,[123]) ⟨by decide,by decide⟩).ws).put (5,[125]) ⟨by decide,by decide⟩;have e:zC (fun k l s=>kz ns f k ((b+ks.size:Nat):Int) l s) ⟨6,⟨([]:LB).toArray⟩,0,0,⟨#[]⟩,[],ks.roots b⟩ s=(KH (fun k l s=>kz ns f k ((b+ks.size:Nat):Int) l s) (ks.roots b) 0 (s.put [123])).put [125]:=rfl;rw[e];simpa [jK1]using q
   ·obtain rfl:=jGz h.2.1 hc;have hl:=h8 op (by omega);have Fa:nm≠ []:=fun e=>by subst e;cases hn
    rw[yi hl (by omega)];refine yj hs rfl rfl (fun T s h2=> ?_);have q:=((((h2.put (vI op) (jD4 (by omega))).put (6,[40]) ⟨by decide,by decide⟩).put (1,nm) (qm (vu hn).1 (vu hn).2)).put (7,[41]) ⟨by decide,by decide⟩);have e:zC (fun k l s=>kz ns f k ((b+Exp9.nil.size:Nat):Int) l s) ⟨op,⟨nm.toArray⟩,0,0,⟨#[]⟩,[],Exp9.nil.roots b⟩ s=(((s.put (jA op)).put [40]).put nm).put [41]:=by
     unfold zC;simp only;rw[jJ5 (by omega),jJ5 (by omega),jJ5 (by omega)];unfold jC3;simp only;rw[jJ5 (by omega),jJ5 (by omega),jJ5 (by omega),jJ5 (by omega),jJ5 (by omega),jJ5 (by omega),jJ5 (by rw[ya];intro e;exact Fa (List.length_eq_zero_iff.1 e))];rfl
    rw[e,jJ5 Fa];simpa [jK1,vI,prt,Exp9.size]using q
   ·have hl:=h8 op (by omega);rw[yi hl (by omega)];exact yj hs rfl rfl (W7 rfl (by omega))
   ·obtain⟨a,rfl,ha⟩:=jES h.2.1 hc;by_cases WG:op=27
    ·subst WG;rw[yi rfl (by decide)];exact yj hs rfl rfl (W7 rfl (by decide))
    ·have Np:jD op=3\/jD op=7:=by rcases ho with rfl|rfl|rfl<;>first|exact .inl rfl|exact .inr rfl|exact absurd rfl WG
     have GZ:op≠23:=(by omega);rw[Xa Np GZ];refine yj hs rfl rfl (fun T s h2=> ?_);obtain⟨s1,_⟩:=sk.cons;have q:=Gn.1 ns b s1 f (by simp only[Exp9.size]at hf;omega) ((b+(Exp9.cons a .nil).size:Nat):Int) (by have:=Exp9.pos ha;unfold Exp9.root;simp only[Exp9.size];omega) (jD op) (by omega) _ _ (h2.put (vI op) (jD4 (by omega))).ws;have e:zC (fun k l s=>kz ns f k ((b+(Exp9.cons a .nil).size:Nat):Int) l s) ⟨op,⟨([]:LB).toArray⟩,0,0,⟨#[]⟩,[],(Exp9.cons a .nil).roots b⟩ s=kz ns f (a.root b) ((b+(Exp9.cons a .nil).size:Nat):Int) (jD op) (s.put (jA op)):=by
      unfold zC;simp only;rw[jJ5 GZ,jJ6 Np];rfl
     rw[e];simpa [jK1,vI,Exp9.size]using q
   ·obtain⟨a,c,d,rfl,ha,FE,hd⟩:=jGy h.2.1 hc;rw[jBc];refine yj hs rfl rfl (fun T s h2=> ?_);obtain⟨s1,s2⟩:=sk.cons;obtain⟨s2,s3⟩:=s2.cons;obtain⟨s3,_⟩:=s3.cons;have pa:=Exp9.pos ha;have pc:=Exp9.pos FE;have pd:=Exp9.pos hd;simp only[Exp9.size]at hf;have q1:=Gn.1 ns b s1 f (by omega) ((b+(Exp9.cons a (.cons c (.cons d .nil))).size:Nat):Int) (by unfold Exp9.root;simp only[Exp9.size];omega) 0 (by decide) _ _ (h2.put (40,[105,102]) ⟨by decide,by decide⟩).ws;have q2:=Gn.2.1 ns (b+a.size) s2 f (by omega) ((b+(Exp9.cons a (.cons c (.cons d .nil))).size:Nat):Int) (by unfold Exp9.root;simp only[Exp9.size];omega) 0 (by decide) _ _ (q1.put (41,[116,104,101,110]) ⟨by decide,by decide⟩).ws;have q3:=Gn.2.2.1 ns (b+a.size+c.size) s3 f (by omega) ((b+(Exp9.cons a (.cons c (.cons d .nil))).size:Nat):Int) (by unfold Exp9.root;simp only[Exp9.size];omega) 0 (by decide) _ _ (q2.put (42,[101,108,115,101]) ⟨by decide,by decide⟩).ws;have e:zC (fun k l s=>kz ns f k ((b+(Exp9.cons a (.cons c (.cons d .nil))).size:Nat):Int) l s) ⟨23,⟨([]:LB).toArray⟩,0,0,⟨#[]⟩,[],(Exp9.cons a (.cons c (.cons d .nil))).roots b⟩ s=kz ns f (d.root (b+a.size+c.size)) ((b+(Exp9.cons a (.cons c (.cons d .nil))).size:Nat):Int) 0 ((kz ns f (c.root (b+a.size)) ((b+(Exp9.cons a (.cons c (.cons d .nil))).size:Nat):Int) 0 ((kz ns f (a.root b) ((b+(Exp9.cons a (.cons c (.cons d .nil))).size:Nat):Int) 0 (s.put [105,102])).put [116,104,101,110])).put [101,108,115,101]):=rfl;rw[e];have hz:b+(Exp9.cons a (.cons c (.cons d .nil))).size=b+a.size+c.size+d.size:=by simp only[Exp9.size];omega
    rw[hz]at q3⊢;simpa [jK1]using q3
   ·obtain⟨a,c,rfl,ha,FE⟩:=jER h.2.1 hc;by_cases Fk:9<=op/\op<=22
    ·have Np:jD op<8/\¬(jD op=3\/jD op=7):=by
      have:∀n:Fin 14,jD (9+(n.val:Int))<8/\¬(jD (9+(n.val:Int))=3\/jD (9+(n.val:Int))=7):=(by decide+kernel);obtain⟨k,rfl⟩:∃k:Nat,op=9+(k:Int):=⟨(op-9).toNat,by omega⟩;exact this ⟨k,by omega⟩
     have GZ:op≠23:=(by omega);rw[KA Np.1 Np.2 GZ];refine yj hs rfl rfl (fun T s h2=> ?_);obtain⟨s1,s2⟩:=sk.cons;obtain⟨s2,_⟩:=s2.cons;have pa:=Exp9.pos ha;have pc:=Exp9.pos FE;simp only[Exp9.size]at hf;have q1:=Gn.1 ns b s1 f (by omega) ((b+(Exp9.cons a (.cons c .nil)).size:Nat):Int) (by unfold Exp9.root;simp only[Exp9.size];omega) (if jD op=4 then 5 else jD op) (by split<;>omega) _ _ h2;have q2:=Gn.2.1 ns (b+a.size) s2 f (by omega) ((b+(Exp9.cons a (.cons c .nil)).size:Nat):Int) (by unfold Exp9.root;simp only[Exp9.size];omega) (jD op+1) (by omega) _ _ (q1.put (vI op) (jD4 (by omega))).ws;have e:zC (fun k l s=>kz ns f k ((b+(Exp9.cons a (.cons c .nil)).size:Nat):Int) l s) ⟨op,⟨([]:LB).toArray⟩,0,0,⟨#[]⟩,[],(Exp9.cons a (.cons c .nil)).roots b⟩ s=kz ns f (c.root (b+a.size)) ((b+(Exp9.cons a (.cons c .nil)).size:Nat):Int) (jD op+1) ((kz ns f (a.root b) ((b+(Exp9.cons a (.cons c .nil)).size:Nat):Int) (if jD op=4 then 5 else jD op) s).put (jA op)):=by
      unfold zC;simp only;rw[jJ5 GZ,jJ5 Np.2,jJ6 Np.1];rfl
     rw[e];have hz:b+(Exp9.cons a (.cons c .nil)).size=b+a.size+c.size:=by simp only[Exp9.size];omega
     rw[hz]at q2⊢;simpa [jK1,vI]using q2
    ·have hl:=h8 op (by omega);rw[yi hl (by omega)];exact yj hs rfl rfl (W7 rfl (by omega)),fun h=>(by cases h.1)⟩
inductive It where
 |tok (k:Tok)
 |ex (e:Exp9)
def It.pit:It->List Tok
 | .tok k=>[k]
 | .ex e=>prt e 0
def VS(I:List It):List Tok:=I.flatMap It.pit
inductive Pit:List Tok->List It->List Tok->Prop
 |nil {ts:List Tok}:Pit ts [] ts
 |tok {k:Tok} {ts r:List Tok} {I:List It}:Pit ts I r->Pit (k::ts) (.tok k::I) r
 |ex {ts t2 r:List Tok} {e:Exp9} {I:List It}:Pa .expr ts e t2->Pit t2 I r->Pit ts (.ex e::I) r
inductive AccI:List Nat->List It->Prop
 |done:AccI [] []
 |tak {k:Tok} {f:Nat} {st st' :List Nat} {I:List It}:st.headD 0≠69->k.1<58->kI k.1 st=true->kO k.1 f st=some st' ->AccI st' I->AccI st (.tok k::I)
 |ex {st:List Nat} {e:Exp9} {I:List It}:AccI st I->AccI (69::st) (.ex e::I)
def It.ok:It->Prop
 | .tok k=>jHk k
 | .ex e=>e.ok false
theorem VF{src:LB}:∀(n:Nat) (ts:List Tk) (st:List Nat),ts.length<=n->Al src ts->Acc st ts->∃I,AccI st I/\Pit (tks src ts) I []/\∀i∈I,It.ok i
 |n,ts,st,hn,N5,ha=>by
  by_cases h69:st.headD 0=69
  ·cases st with
   |nil=>cases h69
   |cons s st=>
    obtain rfl:s=69:=h69;obtain⟨e,ts',hp,ho,hg⟩:=(Yr src (10*ts.length+8)).ex ts st N5 (jL3 _) ha;have hlen:=hg.len;cases n with
    |zero=>omega
    |succ n=>
     obtain⟨I,h1,h2,h3⟩:=VF n ts' st (by omega) hg.al hg.acc;refine⟨.ex e::I,.ex h1,.ex hp h2,fun i hi=> ?_⟩;rcases jN4 hi with rfl|hi
     ·exact ho
     ·exact h3 i hi
  ·cases ha with
   |done=>exact⟨[],.done,.nil,fun i hi=>by cases hi⟩
   | @tak k f _ st' ts2 hJ hm ht ha=>
    cases n with
    |zero=>simp at hn
    |succ n=>
     obtain⟨I,h1,h2,h3⟩:=VF n ts2 st' (by rw[jK6]at hn;omega) (fun k hk=>N5 k (jN1 _ hk)) ha;refine⟨.tok (vD src k)::I,.tak h69 hJ hm ht h1,.tok h2,fun i hi=> ?_⟩;rcases jN4 hi with rfl|hi
     ·exact N5 k (List.mem_cons_self ..)
     ·exact h3 i hi
theorem jE9{st:List Nat}{I:List It}(h:AccI st I):∀{ts:List Tok},Pit ts I []->Acc st (sy ts):=by
 induction h with
 |done=>intro ts hp;cases hp;exact .done
 |tak h69 hJ hm ht _ ih=>
  intro ts hp;cases hp with
  |tok hp=>exact .tak (k:=⟨_,0,0⟩) hJ hm ht (ih hp)
 |ex _ ih=>
  intro ts hp;cases hp with
  |ex ha hp=>exact jIL ha _ (ih hp)
theorem uq{n:Nat}{st:List Nat}{I:List It}(hn:n≠69)(hr:∀t,t<58->jE n t=true->n=t\/(jK n t++st).headD 0≠69)(hs:kX n=true->st.headD 0≠69)(h:AccI (n::st) I):
  ∃k I',I=.tok k::I' /\k.1<58/\((n=k.1/\AccI st I')\/(n≠k.1/\jE n k.1=true/\AccI (jK n k.1++st) I)\/(jE n k.1=false/\kX n=true/\AccI st I)):=by
 cases h with
 |ex _=>exact absurd rfl hn
 | @tak k f _ st' I' h69 hJ hm ht ha=>
  refine⟨k,I',rfl,hJ,?_⟩;cases f with
  |zero=>cases ht
  |succ f=>
   rw[kO]at ht;by_cases hk:n=k.1
   ·rw[jJ6 hk]at ht;obtain rfl:=jL5 ht;exact .inl ⟨hk,ha⟩
   rw[jJ5 hk]at ht;rw[kI]at hm;by_cases hb:jE n k.1=true
   ·refine .inr (.inl ⟨hk,hb,.tak ((hr k.1 hJ hb).resolve_left hk) hJ ?_ ht ha⟩);have h1:=ZP ⟨n,ZQ hJ hb⟩ ⟨k.1,hJ⟩;simp only[hb,Bool.not_true,Bool.false_or,jK3 hk]at h1;exact ZA k.1 _ st h1
   ·have Gs:jE n k.1=false:=(by simpa using hb);rw[jJ5 hb]at hm;split at hm
    ·rename_i he;rw[zW n k.1 Gs,jN8]at ht;exact .inr (.inr ⟨Gs,he,.tak (hs he) hJ hm ht ha⟩)
    ·cases hm
theorem up{n:Nat}{st:List Nat}{I:List It}(hn:n<58)(h:AccI (n::st) I):∃w I',I=.tok (n,w)::I' /\AccI st I' :=by
 have he:kX n=true->st.headD 0≠69:=fun he=>by have:=zx n he;omega
 obtain⟨⟨t,w⟩,I',e,hJ,⟨e2,ha⟩|⟨Fa,hb,_⟩|⟨_,MV,_⟩⟩:=uq (by omega) (fun t _ hb=>.inl (yz hn hb)) he h
 ·obtain rfl:n=t:=e2;exact⟨w,I',e,ha⟩
 ·exact absurd (yz hn hb) Fa
 ·have:=zx n MV;omega
theorem jHd{st:List Nat}{I:List It}(h:AccI (69::st) I):∃e I',I=.ex e::I' /\AccI st I' :=by
 cases h with
 |tak h69 _ _ _ _=>exact absurd rfl h69
 |ex h=>exact⟨_,_,rfl,h⟩
end Go.Proofs.YtmmjcbbogokmfaaGreatDoor

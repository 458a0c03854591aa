import Derived.Test.YtmmjcbbogokmfaaGreatDoorMb28
import Derived.Lib.AtoiAll
set_option maxRecDepth 100000
set_option maxHeartbeats 25600000
namespace Go.Proofs.YtmmjcbbogokmfaaGreatDoor
open Go.Proofs.Tryz
inductive Md9 where
 |btw
 |com
 |wrd (w:LB)
 |sgn (c:UInt8)
 |txt (e:Nat)
structure Bs where
 st:List Nat
 md:Md9
def Uz(st:List Nat)(w:LB):Bool:=jEa (kI 1 st) (kI 2 st) (zV st resL 0) w
def qg(st:List Nat)(w:LB):Prop:=jc w≠0/\kI (jc w) st=true
instance (st:List Nat) (w:LB):Decidable (qg st w):=inferInstanceAs (Decidable (_ /\_))
def jJF(st:List Nat)(c:UInt8):Option Bs:=
 if kL c=true then some ⟨st,.btw⟩
 else if c.toNat=35 then some ⟨st,.com⟩
 else if c.toNat=34 then(if kI 3 st=true then some ⟨st,.txt 4⟩else none)
 else if jS c=true then(if Uz st [c]=true then some ⟨st,.wrd [c]⟩else none)
 else if qg st [c,61]then some ⟨st,.sgn c⟩
 else if qg st [c]then some ⟨kq (jc [c]) st,.btw⟩
 else none
def jKG(st:List Nat)(e:Nat)(c:UInt8):Option Bs:=
 if e=4 then(if c.toNat=34 then some ⟨kq 3 st,.btw⟩else if c.toNat=92 then some ⟨st,.txt 5⟩else if c.toNat<32\/126<c.toNat then none else some ⟨st,.txt 4⟩)
 else if e=5 then(if c.toNat=120 then some ⟨st,.txt 6⟩else if c.toNat=34\/c.toNat=92\/c.toNat=110\/c.toNat=116 then some ⟨st,.txt 4⟩else none)
 else if xC c=false then none else some ⟨st,.txt (if e=7 then 4 else e+1)⟩
def jDZ(b:Bs)(c:UInt8):Option Bs:=match b.md with
 | .btw=>jJF b.st c
 | .com=>if lfC c=true then some ⟨b.st,.btw⟩else some ⟨b.st,.com⟩
 | .wrd w=>if jS c=true then(if Uz b.st (w++[c])=true then some ⟨b.st,.wrd (w++[c])⟩else none)
   else if vH w=true/\kI (jj w) b.st=true then jJF (kq (jj w) b.st) c else none
 | .sgn s=>if c=61 then some ⟨kq (jc [s,61]) b.st,.btw⟩else if qg b.st [s]then jJF (kq (jc [s]) b.st) c else none
 | .txt e=>jKG b.st e c
def jHg:Bs->LB->Nat->Except Nat Bs
 |b,[],_=>.ok b
 |b,c::l,k=>match jDZ b c with
  |none=>.error k
  |some b' =>jHg b' l (k+1)
inductive Rel (src:LB) (m:Mc):Bs->Prop
 |btw:m.fin=0->Rel src m ⟨m.stack,.btw⟩
 |com:m.fin=1->Rel src m ⟨m.stack,.com⟩
 |wrd {w:LB}:m.fin=2->src.drop m.from_=w->Uz m.stack w=true->Rel src m ⟨m.stack,.wrd w⟩
 |one {st:List Nat} {c:UInt8}:m.fin=0->qg st [c,61]->qg st [c]->m.stack=kq (jc [c]) st->m.stack≠ []->Rel src m ⟨st,.sgn c⟩
 |two {c:UInt8}:m.fin=3->src.drop m.from_=[c]->qg m.stack [c,61]->¬qg m.stack [c]->Rel src m ⟨m.stack,.sgn c⟩
 |txt {e:Nat}:m.fin=e->4<=e->e<=7->kI 3 m.stack=true->Rel src m ⟨m.stack,.txt e⟩
theorem xT{t:Nat}(ht:t<58){st:List Nat}(hm:kI t st=true):kO t (st.length+100) st=some (kq t st):=by
 obtain⟨s,h1,-⟩:=KQ t ht ⟨0,st,0,0⟩ 0 hm;unfold kq;rw[h1];rfl
theorem jGT{t:Nat}(ht:t<58){st:List Nat}(h:jAQ st=true)(hm:kI t st=true):jAQ (kq t st)=true:=jBn ht h hm (xT ht hm)
theorem jBI:∀(l:LB) (b b' :Bs) (k j:Nat),jHg b l k=.ok b' ->jHg b l j=.ok b'
 |[],b,b',k,j,h=>h
 |c::l,b,b',k,j,h=>by
  rw[jHg]at h⊢;cases hs:jDZ b c with
  |none=>rw[hs]at h;cases h
  |some b1=>
   rw[hs]at h;exact jBI l b1 b' (k+1) (j+1) h
def jKF(b:Bs):Prop:=b.st=[]/\(b.md=.btw\/b.md=.com)
theorem uF{t:Nat}{st:List Nat}(h:kI t st=true):st≠ []:=fun e=>by rw[e]at h;cases h
theorem jCT{st:List Nat}{w:LB}(h:Uz st w=true):st≠ []:=fun e=>by
 rw[e]at h;have h1:zV [] resL 0=[]:=(by decide);unfold Uz at h;rw[h1]at h;cases h
theorem Rel.acc{src:LB}{m:Mc}{b:Bs}(h:Rel src m b):m.stack=[]↔jKF b:=by
 cases h with
 |btw h=>exact⟨fun e=>⟨e,.inl rfl⟩,fun e=>e.1⟩
 |com h=>exact⟨fun e=>⟨e,.inr rfl⟩,fun e=>e.1⟩
 |wrd h1 h2 h3=>exact⟨fun e=>absurd e (jCT h3),fun e=>absurd e.1 (jCT h3)⟩
 |one h1 h2 h3 h4 h5=>exact⟨fun e=>absurd e h5,fun e=>absurd e.1 (uF h3.2)⟩
 |two h1 h2 h3 h4=>exact⟨fun e=>absurd e (uF h3.2),fun e=>absurd e.1 (uF h3.2)⟩
 |txt h1 h2 h3 h4=>exact⟨fun e=>absurd e (uF h4),fun e=>absurd e.1 (uF h4)⟩
def jKO:List Nat:=[9,58,5]
structure Brk where
 opn:UInt8
 cls:UInt8
 o:Nat
 s:Nat
 X:Nat->Nat
 Z:Nat->List Nat
structure Brk.Ok(b:Brk):Prop where
 ob:kL b.opn=false/\¬b.opn.toNat=35/\¬b.opn.toNat=34/\jS b.opn=false/\jc [b.opn]=b.o/\b.o≠0/\jc [b.opn,61]=0
 cb:kL b.cls=false/\¬b.cls.toNat=35/\¬b.cls.toNat=34/\jS b.cls=false/\jc [b.cls]=b.s/\b.s≠0/\jc [b.cls,61]=0
 x0:b.X 0=69
 on:∀n,kI b.o [b.X n]=true/\kO b.o 30 [b.X n]=some (b.X (n+1)::b.s::b.Z n)
 zero:∀n,kI 2 [b.X n]=true/\kO 2 30 [b.X n]=some (b.Z n)
 shut:∀n,kI b.s (b.Z n++[b.s])=true/\kO b.s 30 (b.Z n++[b.s])=some []
 skip:∀n,(b.Z n).all kX=true
 z0:kI 9 (b.Z 0++[9])=true/\kO 9 30 (b.Z 0++[9])=some []/\kI b.s (b.Z 0++jKO)=false
 sp:kX b.s=false/\b.s<23/\¬b.s=1/\¬b.s=2/\¬b.s=3/\signL.getD (b.s-4) []=[b.cls]
def JW:List Nat->Option Nat
 |[]=>none
 |n::l=>if kX n=true then JW l else some n
def xF(m:Nat):List Nat:=if m<58 then [m]else if m=60 then [34]else [2,3]
def jIE(t:Nat):Bool:=decide (t=43\/t=44\/(12<=t/\t<=22)\/t=28)
def jEs(n t:Nat):Bool:=
 if n=58 then decide (24<=t/\t<=27)
 else if n=59 then decide (t=39)
 else if n=61 then decide (t=12)||jIE t
 else if n=62 then decide (t=32)||jIE t
 else if n=63 then decide (t=28)
 else if n=64 then decide (t=29)
 else if n=65 then decide (t=30)
 else if n=66 then decide (t=1\/t=8)
 else if n=67 then decide (t=8)
 else if n=68 then decide (t=1\/t=33)
 else if n=83 then jE 69 t||decide (t=8)||jIE t
 else if n=84 then decide (t=8)||jIE t
 else decide (69<=n)&&jIE t
def jFC(n:Nat):Bool:=decide (n=1\/(4<=n/\n<=11)\/(23<=n/\n<85))
def jJB(n:Nat)(o:Option Nat):Bool:=match o with
 |none=>true
 |some m=>(xF m).all fun t=> !jEs n t
def qN:List Nat->Bool
 |[]=>true
 |n::l=>jFC n&&jJB n (JW l)&&qN l
def xZ(st:List Nat):Bool:=decide (st=[])||decide (st.getLastD 0=5)
structure Inv(st:List Nat):Prop where
 ok:jAQ st=true
 well:qN st=true
 tail:xZ st=true
theorem qB:∀(k l:List Nat),JW (k++l)=match JW k with|some m=>some m|none=>JW l
 |[],l=>rfl
 |n::k,l=>by
  rw[jN6,JW,JW];by_cases h:kX n=true
  ·rw[jJ6 h,jJ6 h];exact qB k l
  ·rw[jJ5 h,jJ5 h]
theorem YW:∀(a b:List Nat),qN (a++b)=true->qN b=true
 |[],b,h=>h
 |n::a,b,h=>by
  rw[jN6,qN,Bool.and_eq_true]at h;exact YW a b h.2
def okK(n:Nat):List Nat->Bool
 |[]=>true
 |x::r=>jFC x&&(match JW r with
  |some m=>jJB x (some m)
  |none=>(List.range 58).all fun t=> !jEs x t||jEs n t)&&okK n r
theorem jCW{m:Nat}:∀t∈xF m,t<58:=by
 intro t h;unfold xF at h;split at h
 ·rw[jL7]at h;omega
 ·split at h
  ·rw[jL7]at h;omega
  ·simp only[List.mem_cons,List.not_mem_nil,or_false]at h;omega
theorem XE(n:Nat)(l:List Nat)(hl:qN l=true)(hs:jJB n (JW l)=true):∀k,okK n k=true->qN (k++l)=true
 |[],_=>hl
 |x::r,h=>by
  rw[okK,Bool.and_eq_true,Bool.and_eq_true]at h;obtain⟨⟨h1,h2⟩,h3⟩:=h;rw[jN6,qN,h1,XE n l hl hs r h3,Bool.and_true,Bool.true_and,qB];cases hr:JW r with
  |some m=>rw[hr]at h2;exact h2
  |none=>
   rw[hr]at h2;simp only at h2⊢;cases ho:JW l with
   |none=>rfl
   |some m=>
    rw[ho]at hs;unfold jJB at hs⊢;simp only at hs⊢;refine List.all_eq_true.2 fun t ht=> ?_;have h4:=List.all_eq_true.1 hs t ht;have h5:=List.all_eq_true.1 h2 t (List.mem_range.2 (jCW t ht));cases hc:jEs x t with
    |false=>rfl
    |true=>
     rw[hc,Bool.not_true,Bool.false_or]at h5;rw[h5]at h4;exact h4
def XF(n t:Nat):Bool:= !jE n t||(match kO t 30 [n]with|some k=>okK n k|none=>true)
theorem xV:∀n:Fin 85,∀t:Fin 58,XF n.val t.val=true:=by decide+kernel
theorem uN(a:List Nat){b:List Nat}(hb:b≠ []):(a++b).getLastD 0=b.getLastD 0:=by
 rw[List.getLastD_eq_getLast?,List.getLastD_eq_getLast?,List.getLast?_append,List.getLast?_eq_some_getLast hb];rfl
theorem XM{a b:List Nat}(h:xZ (a++b)=true)(hb:b≠ []):xZ b=true:=by
 unfold xZ at h⊢;rw[Bool.or_eq_true]at h⊢;rcases h with h|h
 ·exact absurd (List.append_eq_nil_iff.1 (jM8 h)).2 hb
 ·rw[uN a hb]at h;exact .inr h
theorem tail_cons{k b:List Nat}(h:xZ b=true)(hb:b≠ []):xZ (k++b)=true:=by
 unfold xZ at h⊢;rw[Bool.or_eq_true]at h⊢;rcases h with h|h
 ·exact absurd (jM8 h) hb
 ·rw[uN k hb];exact .inr h
theorem Inv.take{st:List Nat}(h:Inv st){t:Nat}(ht:t<58)(hm:kI t st=true):Inv (kq t st):=by
 obtain⟨e,n,l,k,Hm,he,hb,Q1,hk,Ra⟩:=Jh ht hm (xT ht hm);have hw:=h.well;rw[Hm]at hw;have MK:=YW e _ hw;rw[qN,Bool.and_eq_true,Bool.and_eq_true]at MK;have hg:=xV ⟨n,Q1⟩ ⟨t,ht⟩;simp only[XF,hb,Bool.not_true,Bool.false_or,hk]at hg;refine⟨jGT ht h.ok hm,by rw[Ra];exact XE n l MK.2 MK.1.2 k hg,?_⟩;rw[Ra];have Tg:=h.tail;rw[Hm]at Tg;by_cases hl:l=[]
 ·subst hl;have h5:n=5:=by
   have:=XM (a:=e) Tg (by simp);unfold xZ at this;rw[Bool.or_eq_true]at this;rcases this with e|e
   ·exact absurd (jM8 e) (by simp)
   ·exact jM8 e
  subst h5;have:t=5:=(yz (by decide) hb).symm;subst this;have h0:kO 5 30 [5]=some []:=(by decide);rw[h0]at hk;rw[<-jL5 hk];rfl
 ·have:=XM (a:=e++[n]) (b:=l) (by rw[jK1];exact Tg) hl;exact tail_cons this hl
theorem Inv.start:Inv [23,1,4,58,5]:=⟨by decide,by decide,by decide⟩
def Done(b:Bs)(q:LB):Prop:=∃b',jHg b q 0=.ok b' /\jKF b'
theorem Done.cons{b b1:Bs}{c:UInt8}{q:LB}(h:jDZ b c=some b1)(hd:Done b1 q):Done b (c::q):=by
 obtain⟨b',h1,h2⟩:=hd;refine⟨b',?_,h2⟩;rw[jHg,h];exact jBI q b1 b' 0 1 h1
theorem jJA(st:List Nat)(c:UInt8):jDZ ⟨st,.btw⟩ c=jJF st c:=rfl
structure RestOk(st:List Nat):Prop where
 two:Done ⟨st,.btw⟩ (kY st).2
 one:Done ⟨st,.btw⟩ (kY st).1
 ne1:st≠ []->(kY st).1≠ []
 hd1:st≠ []->jS ((kY st).1.headD 0)=false
 ne2:st≠ []->(kY st).2≠ []
 hd2:(kY st).2.headD 0≠61
def jKI(st:List Nat):Md9->Prop
 | .btw=>True
 | .com=>True
 | .wrd w=>Uz st w=true/\w≠ []/\w.all jS=true
 | .sgn c=>qg st [c,61]
 | .txt e=>kI 3 st=true/\4<=e/\e<=7
structure InvB(b:Bs):Prop where
 st:Inv b.st
 md:jKI b.st b.md
open Go.RowKit
structure LastN(w:World)(g:Nat)(src:BA)(r:Rdr)(s:Sl)(k q:Nat)(ns:List MNd)(x:MNd)(ps:List MSt)(W:World)(L:List Value):Prop where
 st:St w g src r s
 at_:s.nA=some ⟨k,0,none⟩
 len:ns.length=q
 cnt:r.tree.nodes.length=q+1
 rows:TRows w (AX g s) r.tree s (ns++[x]) ps
 kp:Kp (fun b=>s.nA.map (·.block)=some b) w W
 own:W.ownsRow 8 46 7 (.slice s.nA r.tree.nodes.length s.nc) r.tree.nodes.length (ns.flatMap ndC++L)
theorem UE(ns:List MNd):(ns.flatMap ndC).length=ns.length*7:=by
 induction ns with
 |nil=>rfl
 |cons x l ih=>rw[jL9,jJ4,ih,jK6];simp only[ndC,jK6,jN2];omega
theorem St.lastN{w:World}{g:Nat}{src:BA}{r:Rdr}{s:Sl}(h:St w g src r s){L:List Nd}{m:Nd}(hl:r.tree.nodes=L++[m]):
  ∃k ns x ps,x.n=m/\ns.map (·.n)=L/\LastN w g src r s k L.length ns x ps w (ndC x):=by
 obtain⟨ns,x,ps,h1,h2,h3⟩:=h.last hl;have hlen:r.tree.nodes.length=L.length+1:=by rw[hl,jJ4];rfl
 obtain⟨k,hk⟩:=Jl h3.rN (by omega);refine⟨k,ns,x,ps,h1,h2,h,hk,by rw[<-h2,jK7],hlen,h3,jQ0 _ _,?_⟩;have:=h3.rN
 rwa [jN5,List.flatMap_singleton]at this
section
variable{w:World}{g:Nat}{src:BA}{r:Rdr}{s:Sl}{k q:Nat}{ns:List MNd}{x:MNd}{ps:List MSt}{W:World}{L:List Value}
theorem LastN.cell(h:LastN w g src r s k q ns x ps W L)(i:Nat){u:Value}(hu:L[i]? =some u):W.cell? ⟨k,q*7+i,none⟩=some u/\W.frozen? ⟨k,q*7+i,none⟩=false:=by
 have ho:=h.own;rw[h.at_]at ho;refine zG ho (q*7+i) ?_;have hl:=UE ns;rw[h.len]at hl;rw[<-hl,List.getElem?_append_right (by omega),Nat.add_sub_cancel_left];exact hu
theorem LastN.set_(h:LastN w g src r s k q ns x ps W L)(i:Nat)(u:Value):LastN w g src r s k q ns x ps (W.setCell ⟨k,q*7+i,none⟩ u) (L.set i u):=by
 have ho:=h.own;rw[h.at_]at ho;have L1:=VT ho (q*7+i) u;have hl:=UE ns;rw[h.len]at hl;rw[List.set_append_right _ _ (by omega),hl,Nat.add_sub_cancel_left]at L1;exact⟨h.st,h.at_,h.len,h.cnt,h.rows,h.kp.setCell (p:=⟨k,q*7+i,none⟩) (fun _=>by rw[h.at_];rfl) u,by rw[h.at_];exact L1⟩
theorem LastN.old{W' :World}(h:LastN w g src r s k q ns x ps W L)(ho:Old W W'):LastN w g src r s k q ns x ps W' L:=
 ⟨h.st,h.at_,h.len,h.cnt,h.rows,h.kp.old ho,jW h.own ho (fun _ _ e=>e)⟩
theorem LastN.done(h:LastN w g src r s k q ns x ps W L)(x' :MNd)(hL:L=ndC x')(hx:OkN w (AX g s) x'):St W g src {r with tree:={r.tree with nodes:=ns.map (·.n)++[x'.n]}} s/\Fr g s s w W:=by
 have ho:=h.own;rw[hL]at ho;exact h.st.turn h.rows h.kp ho hx
theorem jGZ(w:World)(X:Nat->Prop)(m:Nd)(A:OA)(c:Nat)(vA:OA)(vc:Nat)(hm:m.kids=[])(hv:m.vs=[]):OkN w X ⟨m,A,c,vA,vc⟩:=by
 refine⟨?_,?_,?_,?_⟩
 ·simp only[hm];exact⟨rfl,fun h=>absurd h (Nat.lt_irrefl 0)⟩
 ·simp only[hm];exact fun h0=>absurd h0 (Nat.lt_irrefl 0)
 ·simp only[hv];exact⟨rfl,fun h=>absurd h (Nat.lt_irrefl 0)⟩
 ·simp only[hv];exact fun h0=>absurd h0 (Nat.lt_irrefl 0)
theorem LastN.lit{r' :Rdr}{Ln:List Nd}{b:Nd}(h:LastN w g src {r' with tree:={r'.tree with nodes:=Ln++[b]}} s k q ns x ps W L)(Wk:ns.map (·.n)=Ln){m:Nd}(hT:r'.tree.nodes=Ln++[m])
  (hk:m.kids=[]) (hv:m.vs=[]) (vA:OA) (vc:Nat) (hL:L=ndC ⟨m,x.A,x.c,vA,vc⟩):St W g src r' s/\Fr g s s w W:=by
 have h1:=h.done ⟨m,x.A,x.c,vA,vc⟩ hL (jGZ _ _ _ _ _ _ _ hk hv);simp only[Wk,<-hT]at h1;exact h1
end
theorem St.lastC{w:World}{g:Nat}{src:BA}{r:Rdr}{s:Sl}(h:St w g src r s){L:List Nd}{m:Nd}{q:Nat}(hl:r.tree.nodes=L++[m])(hq:L.length=q):
  ∃k ns x ps,x.n=m/\ns.map (·.n)=L/\LastN w g src r s k q ns x ps w (ndC x)/\w.cell? ⟨g,11,none⟩=some (.slice (some ⟨k,0,none⟩) (q+1) s.nc):=by
 obtain⟨k,ns,x,ps,h1,h2,h3⟩:=h.lastN hl;subst hq;have hc:w.cell? ⟨g,11,none⟩=some (.slice s.nA r.tree.nodes.length s.nc):=Blk.at_ h.box 11 rfl;rw[h3.at_,h3.cnt]at hc;exact⟨k,ns,x,ps,h1,h2,h3,hc⟩
theorem yn{n:Nd}{at_:Nat}{r r' :Rdr}{x:Int}(h:yA n at_ r=some (x,r')):yA (kg 4 []) at_ r=some (x,{r' with tree:={r'.tree with nodes:=r.tree.nodes++[kg 4 []]}})/\r'.tree.nodes=r.tree.nodes++[n]/\x=(r.tree.nodes.length:Int)/\r.tree.nodes.length<1000000:=by
 unfold yA at h⊢;split at h
 case isFalse=>cases h
 rename_i hlt;injection h with h;injection h with h1 h2;rw[jJ6 hlt];subst h1 h2;exact⟨rfl,rfl,rfl,hlt.1⟩
theorem jEK(w:World)(g:Nat)(src:BA)(r r1 r' :Rdr)(s:Sl)(x:Int)(at_:Nat)(h:St w g src r s)(ht:r.t=1)(hn:jw (sb src) r=some r1)
  (hx:yA ⟨5,⟨(kC (sb src) r).toArray⟩,0,0,⟨#[]⟩,[],[]⟩ at_ r1=some (x,r')):
  Calls prog 236 #[.pointer (some ⟨g,0,none⟩),iv (at_:Int)] w (Ex w g src s r' (iv x)):=by
 have Fh:=h.box.c3;rw[ht]at Fh;have HS:=G h;have HN:=G hn;have HL:=G (fun n=>yu (w.drewN n) g src r s (h.drewN n));obtain⟨h1,h2,h3,h4⟩:=yn hx;generalize kC (sb src) r=lx at*;have HB:=G h1;have HT:=G h2;generalize hq:r1.tree.nodes.length=q at*;subst h3;clear h hn hx h1 h2 ht;unfold iv;have f1:(0:Int)<=(q:Int):=(by omega);have f2:(q:Int).toNat=q:=(by omega);have f3:(q:Int)<(q:Int)+1:=(by omega);go_enter func236,ntmps236;go_wp2;go_quiet ((go_at_call 165;exact Calls.quiet_of (HL.out _)));go_wp2_with (first|(go_at_call 135;refine(jX _ g src _ _ s (HS.out.drewN _) HN.out).mono ?_;rintro e w1 ⟨rfl,hX⟩;have HX:=G hX;clear hX)|(go_at_call 201;refine(yP _ g src _ _ s 4 _ _ none 0 [] HX.out.1 Rd.none_ (fun h0=>absurd h0 (Nat.lt_irrefl 0)) HB.out).mono ?_;rintro e w2 ⟨rfl,s2,hY,NG⟩;obtain⟨k,ns,xx,ps,WJ,Wk,Fu,Nu⟩:=hY.lastC rfl hq;have d0:w2.cell? ⟨k,q*7,none⟩=_:=(Fu.cell 0 rfl).1;have z0:w2.frozen? ⟨k,q*7,none⟩=false:=(Fu.cell 0 rfl).2;have d1:=(Fu.cell 1 rfl).1;have z1:=(Fu.cell 1 rfl).2;have WV:=G Fu;have HF:=G NG;clear Fu hY NG;unfold iv)|fail);go_ret;have HD:=G (((WV.out.set_ 0 (.int .i64 5)).set_ 1 (.string ⟨lx.toArray⟩)).lit Wk HT.out rfl rfl xx.vA xx.vc (by simp only[ndC,WJ];rfl));exact⟨rfl,s2,HD.out.1,(((Fr.of_old s ((jQ0 _ _).drewN _)).trans HX.out.2).trans HF.out).trans HD.out.2⟩
theorem Uv(w:World)(g:Nat)(src:BA)(r r1 r' :Rdr)(s:Sl)(x:Int)(at_:Nat)(h:St w g src r s)(ht:r.t=46)(hn:jw (sb src) r=some r1)
  (hx:yA ⟨2,⟨#[]⟩,2,1,⟨#[]⟩,[],[]⟩ at_ r1=some (x,r')):
  Calls prog 236 #[.pointer (some ⟨g,0,none⟩),iv (at_:Int)] w (Ex w g src s r' (iv x)):=by
 have Fh:=h.box.c3;rw[ht]at Fh;have HS:=G h;have HN:=G hn;have HL:=G (fun n=>yu (w.drewN n) g src r s (h.drewN n));obtain⟨h1,h2,h3,h4⟩:=yn hx;generalize kC (sb src) r=lx at*;have HB:=G h1;have HT:=G h2;generalize hq:r1.tree.nodes.length=q at*;subst h3;clear h hn hx h1 h2 ht;unfold iv;have f1:(0:Int)<=(q:Int):=(by omega);have f2:(q:Int).toNat=q:=(by omega);have f3:(q:Int)<(q:Int)+1:=(by omega);go_enter func236,ntmps236;go_wp2;go_quiet ((go_at_call 165;exact Calls.quiet_of (HL.out _)));go_wp2_with (first|(go_at_call 135;refine(jX _ g src _ _ s (HS.out.drewN _) HN.out).mono ?_;rintro e w1 ⟨rfl,hX⟩;have HX:=G hX;clear hX)|(go_at_call 201;refine(yP _ g src _ _ s 4 _ _ none 0 [] HX.out.1 Rd.none_ (fun h0=>absurd h0 (Nat.lt_irrefl 0)) HB.out).mono ?_;rintro e w2 ⟨rfl,s2,hY,NG⟩;obtain⟨k,ns,xx,ps,WJ,Wk,Fu,Nu⟩:=hY.lastC rfl hq;have d0:w2.cell? ⟨k,q*7,none⟩=_:=(Fu.cell 0 rfl).1;have z0:w2.frozen? ⟨k,q*7,none⟩=false:=(Fu.cell 0 rfl).2;have d2:=(Fu.cell 2 rfl).1;have z2:=(Fu.cell 2 rfl).2;have d3:=(Fu.cell 3 rfl).1;have z3:=(Fu.cell 3 rfl).2;have d4:=(Fu.cell 4 rfl).1;have z4:=(Fu.cell 4 rfl).2;have d5:=(Fu.cell 5 rfl).1;have z5:=(Fu.cell 5 rfl).2;have WV:=G Fu;have HF:=G NG;clear Fu hY NG;unfold iv)|fail);go_ret;have HD:=G ((((((WV.out.set_ 0 (.int .i64 2)).set_ 2 (.int .i64 2)).set_ 3 (.int .i64 1)).set_ 4 (.string ⟨#[]⟩)).set_ 5 (.slice none 0 0)).lit Wk HT.out rfl rfl none 0 (by simp only[ndC,WJ];rfl));exact⟨rfl,s2,HD.out.1,(((Fr.of_old s ((jQ0 _ _).drewN _)).trans HX.out.2).trans HF.out).trans HD.out.2⟩
theorem Uu(w:World)(g:Nat)(src:BA)(r r1 r' :Rdr)(s:Sl)(x:Int)(at_:Nat)(h:St w g src r s)(ht:r.t=47)(hn:jw (sb src) r=some r1)
  (hx:yA ⟨2,⟨#[]⟩,2,0,⟨#[]⟩,[],[]⟩ at_ r1=some (x,r')):
  Calls prog 236 #[.pointer (some ⟨g,0,none⟩),iv (at_:Int)] w (Ex w g src s r' (iv x)):=by
 have Fh:=h.box.c3;rw[ht]at Fh;have HS:=G h;have HN:=G hn;have HL:=G (fun n=>yu (w.drewN n) g src r s (h.drewN n));obtain⟨h1,h2,h3,h4⟩:=yn hx;generalize kC (sb src) r=lx at*;have HB:=G h1;have HT:=G h2;generalize hq:r1.tree.nodes.length=q at*;subst h3;clear h hn hx h1 h2 ht;unfold iv;have f1:(0:Int)<=(q:Int):=(by omega);have f2:(q:Int).toNat=q:=(by omega);have f3:(q:Int)<(q:Int)+1:=(by omega);go_enter func236,ntmps236;go_wp2;go_quiet ((go_at_call 165;exact Calls.quiet_of (HL.out _)));go_wp2_with (first|(go_at_call 135;refine(jX _ g src _ _ s (HS.out.drewN _) HN.out).mono ?_;rintro e w1 ⟨rfl,hX⟩;have HX:=G hX;clear hX)|(go_at_call 201;refine(yP _ g src _ _ s 4 _ _ none 0 [] HX.out.1 Rd.none_ (fun h0=>absurd h0 (Nat.lt_irrefl 0)) HB.out).mono ?_;rintro e w2 ⟨rfl,s2,hY,NG⟩;obtain⟨k,ns,xx,ps,WJ,Wk,Fu,Nu⟩:=hY.lastC rfl hq;have d0:w2.cell? ⟨k,q*7,none⟩=_:=(Fu.cell 0 rfl).1;have z0:w2.frozen? ⟨k,q*7,none⟩=false:=(Fu.cell 0 rfl).2;have d2:=(Fu.cell 2 rfl).1;have z2:=(Fu.cell 2 rfl).2;have d3:=(Fu.cell 3 rfl).1;have z3:=(Fu.cell 3 rfl).2;have d4:=(Fu.cell 4 rfl).1;have z4:=(Fu.cell 4 rfl).2;have d5:=(Fu.cell 5 rfl).1;have z5:=(Fu.cell 5 rfl).2;have WV:=G Fu;have HF:=G NG;clear Fu hY NG;unfold iv)|fail);go_ret;have HD:=G ((((((WV.out.set_ 0 (.int .i64 2)).set_ 2 (.int .i64 2)).set_ 3 (.int .i64 0)).set_ 4 (.string ⟨#[]⟩)).set_ 5 (.slice none 0 0)).lit Wk HT.out rfl rfl none 0 (by simp only[ndC,WJ];rfl));exact⟨rfl,s2,HD.out.1,(((Fr.of_old s ((jQ0 _ _).drewN _)).trans HX.out.2).trans HF.out).trans HD.out.2⟩
theorem uA:∀(l:LB) (acc:Nat),l.all yd=true->zy l acc<18446744073709551616->Lib.parseUint10 acc l=.ok (zy l acc)
 |[],acc,_,_=>rfl
 |c::l,acc,h,hl=>by
  rw[List.all_cons,Bool.and_eq_true]at h;have hc:=ZK h.1;rw[zy]at hl⊢;have hg:=jHP l (10*acc+(c.toNat-48));rw[Lib.parseUint10,jJ6 hc,jJ5 (by omega),jJ5 (by omega),Nat.mul_comm acc 10];exact uA l _ h.2 hl
theorem jEo{l:LB}(h:jo l=true)(Fa:l≠ []):Lib.atoiAll l=.ok (zy l 0:Int):=by
 obtain⟨h1,h2⟩:=jFU h;cases l with
 |nil=>exact absurd rfl Fa
 |cons c r=>
  have hc:48<=c.toNat/\c.toNat<=57:=by
   rw[List.all_cons,Bool.and_eq_true]at h1;exact ZK h1.1
  have hp:=uA (c::r) 0 h1 (by omega);unfold Lib.atoiAll;simp only;rw[jJ5 (by omega)];unfold Lib.parseMag;rw[jJ5 (by simp),hp];simp only;rw[jJ5 (by omega),jJ5 (by omega),jJ5 (by omega)]
theorem xB{c:UInt8}(h:xC c=true):(48<=c.toNat/\c.toNat<=57/\YM c=c.toNat-48)\/(97<=c.toNat/\c.toNat<=102/\YM c=c.toNat-87):=by
 unfold xC at h;rw[Bool.or_eq_true]at h;rcases h with h|h
 ·have h2:48<=c.toNat/\c.toNat<=57:=jM8 h;exact .inl ⟨h2.1,h2.2,by unfold YM;rw[jJ6 h]⟩
 ·have h2:=jM8 h;refine .inr ⟨h2.1,h2.2,?_⟩;unfold YM;rw[jJ5 (by unfold yd;rw[jK3 (by omega)];decide)]
theorem jDt(w:World)(s:BA)(a b:UInt8)(hs:sb s=[a,b])(ha:xC a=true)(hb:xC b=true):
  Calls prog 265 #[.string s,.int .i64 16,.int .i64 8] w fun e w' =>e=.returned (.tuple #[.int .u64 ((16*YM a+YM b:Nat):Int),.nilIface])/\Old w w' :=by
 have G6:s.size=2:=by rw[<-jB,hs];rfl
 have Fa:s.toList.isEmpty=false:=by
  rw[ByteArray.toList_eq];show(sb s).isEmpty=false;rw[hs];rfl
 have e0:(sb s).length=2:=by rw[hs];rfl
 have HS:=G hs;obtain⟨da,Ry⟩:∃d,YM a=d:=⟨_,rfl⟩;obtain⟨db,Ct⟩:∃d,YM b=d:=⟨_,rfl⟩;have H1:=G (xB ha);have H2:=G (xB hb);rw[Ry]at H1⊢;rw[Ct]at H2⊢;clear hs ha hb Ry Ct;go_enter func265,ntmps265;go_wp2_with (first|(with_reducible refine jHa 9 33 ?_;refine ZW _ underlying9 underlying33 underlying5 s rfl ?_;intro A1 c1 w1 V9 GW TR)|fail);have HR:=G V9;have HO:=G GW;clear V9 GW TR;go_loopw [101,13,12] (fun i n u wr=>∃(j nj k:Nat),j<=2/\i=.int .i64 (j:Int)/\n=.int .u64 (nj:Int)/\u=.bool false/\(j=0->nj=0)/\(j=1->nj=da)/\(j=2->nj=16*da+db)/\nj<=255/\(j<=1->nj<=15)/\wr=w1.drewN k) (fun i _ _ _=>2-(intOf i).toNat)
 case atStart=>exact⟨0,0,0,by omega,rfl,rfl,rfl,fun _=>rfl,fun e=>by omega,fun e=>by omega,by omega,fun _=>by omega,by simp[World.drewN_zero]⟩
 case round=>
  obtain⟨j,nj,k,hj,rfl,rfl,rfl,h0,h1,h2,RP,TY,rfl⟩:=hrel;have HJ:=G (And.intro h0 (And.intro h1 h2));by_cases hlt:j<2
  ·obtain⟨x,d,hx,hc,GC⟩:∃x d:Nat,(sb s)[j]? =some (UInt8.ofNat x)/\((48<=x/\x<=57/\d=x-48)\/(97<=x/\x<=102/\d=x-87))/\(j=0->d=da)/\(j=1->d=db):=by
    have Sx:j=0\/j=1:=(by omega);rcases Sx with rfl|rfl
    ·refine⟨a.toNat,da,by rw[HS.out,UInt8.ofNat_toNat];rfl,H1.out,fun _=>rfl,fun e=>by omega⟩
    ·refine⟨b.toNat,db,by rw[HS.out,UInt8.ofNat_toNat];rfl,H2.out,fun e=>by omega,fun _=>rfl⟩
   obtain⟨b3,o3,u3,hA,hu,FH⟩:=HR.out.at_ (k:=j) (by rw[G6];exact hlt);subst hA;have Ac:x<256:=(by omega);have Nk:u3=.int .u8 (x:Int):=by
    rw[jM1,hx]at hu;injection hu with hu;rw[<-hu];unfold bv;rw[UInt8.toNat_ofNat_of_lt' (by omega)]
   subst Nk;have Cu:(w1.drewN k).cell? ⟨b3,o3+j,none⟩=some (.int .u8 (x:Int)):=FH;have Dy:nj<=15:=TY (by omega);have DP:d<=15:=(by omega);have b1:(0:Int)<=(j:Int):=(by omega);have b2:(j:Int).toNat=j:=(by omega);have b3' :(j:Int)<(s.size:Int):=(by omega);have b4:IntKind.i64.wrap ((j:Int)+1)=(j:Int)+1:=jQ3 _ (by omega);have c1:((x:Int)==95)=false:=jM3 (by omega);have c5:¬(16:Int)<=(d:Int):=(by omega);have c6:¬(1152921504606846976:Int)<=(nj:Int):=(by omega);have c7:IntKind.u64.wrap ((nj:Int)*16)=(nj:Int)*16:=IntWalk.u64_in _ (by omega);have c8:IntKind.u64.wrap ((nj:Int)*16+(d:Int))=(nj:Int)*16+(d:Int):=IntWalk.u64_in _ (by omega);have c9:¬(nj:Int)*16+(d:Int)<(nj:Int)*16:=(by omega);have c10:¬(255:Int)<(nj:Int)*16+(d:Int):=(by omega);have SW:=G GC;clear hu FH hx h0 h1 h2 TY GC RP;rcases hc with⟨x1,x2,x3⟩|⟨x1,x2,x3⟩
   ·have c2:(48:Int)<=(x:Int):=(by omega);have c3:(x:Int)<=57:=(by omega);have c4:IntKind.u8.wrap ((x:Int)-48)=(d:Int):=by rw[show(x:Int)-48=(d:Int)by omega];exact IntWalk.u8_in _ (by omega)
    clear x1 x2 x3;go_wp2_with (first|go_quiet (fail)|fail);exact⟨⟨j+1,nj*16+d,k,by omega,by rw[show((j+1:Nat):Int)=(j:Int)+1 by omega],by rw[show((nj*16+d:Nat):Int)=(nj:Int)*16+(d:Int)by omega],rfl,fun e=>by omega,fun e=>by have:=SW.out.1 (by omega);have:=HJ.out.1 (by omega);omega,fun e=>by have:=SW.out.2 (by omega);have:=HJ.out.2.1 (by omega);omega,by omega,fun e=>by have:=HJ.out.1 (by omega);omega,rfl⟩,by simp only[intOf];omega⟩
   ·have c2:(48:Int)<=(x:Int):=(by omega);have c3:¬(x:Int)<=57:=(by omega);have c4:IntKind.u8.wrap ((x:Int)-97)=(x:Int)-97:=IntWalk.u8_in _ (by omega);have c4' :IntKind.u8.wrap ((x:Int)-97+10)=(d:Int):=by rw[show(x:Int)-97+10=(d:Int)by omega];exact IntWalk.u8_in _ (by omega)
    have c3' :(97:Int)<=(x:Int):=(by omega);have c3'' :(x:Int)<=122:=(by omega);have cb:bits BinOp.or IntKind.u8 (x:Int) 32=(x:Int):=by
     have De:x=97\/x=98\/x=99\/x=100\/x=101\/x=102:=(by omega);rcases De with rfl|rfl|rfl|rfl|rfl|rfl<;>decide
    clear x1 x2 x3;go_wp2;exact⟨⟨j+1,nj*16+d,k,by omega,by rw[show((j+1:Nat):Int)=(j:Int)+1 by omega],by rw[show((nj*16+d:Nat):Int)=(nj:Int)*16+(d:Int)by omega],rfl,fun e=>by omega,fun e=>by have:=SW.out.1 (by omega);have:=HJ.out.1 (by omega);omega,fun e=>by have:=SW.out.2 (by omega);have:=HJ.out.2.1 (by omega);omega,by omega,fun e=>by have:=HJ.out.1 (by omega);omega,rfl⟩,by simp only[intOf];omega⟩
  ·obtain rfl:j=2:=(by omega);have hn:=h2 rfl;clear h0 h1 h2 TY RP;subst hn;go_wp2_with (first|go_quiet (fail)|fail)
   go_ret2
   exact⟨rfl,HO.out.drewN _⟩
theorem jBi(w:World)(s:BA)(a b:UInt8)(hs:sb s=[a,b])(ha:xC a=true)(hb:xC b=true):
  Calls prog 253 #[.string s,.int .i64 16,.int .i64 8] w fun e w' =>e=.returned (.tuple #[.int .u64 ((16*YM a+YM b:Nat):Int),.nilIface])/\Old w w' :=by
 have H:=G (jDt w s a b hs ha hb);clear hs ha hb;generalize 16*YM a+YM b=n at*;go_enter func253,ntmps253;go_wp2_with (go_at_call 265;refine H.out.mono ?_;rintro e w1 ⟨rfl,hO⟩)
 go_ret2
 exact⟨rfl,hO⟩
theorem XR(s:BA)(k:Nat)(h:k<s.size):(sb s).drop k=s[k]::(sb s).drop (k+1):=by
 have h' :k<(sb s).length:=by rw[jB];exact h
 rw[jM9 h'];rfl
structure Mean(w:World)(s:BA)(v:LB)(wr:World)(j:Nat)(acc:LB)(A:OA)(c:Nat):Prop where
 le:j<=s.size
 rest:∃f r,meantN f ((sb s).drop j)=some r/\acc++r=v
 own:wr.ownsRow w.heap.size 5 1 (.slice A acc.length c) acc.length (acc.map bv)
 old:Old w wr
 len:acc.length<=j
theorem Mean.put{w w2:World}{s:BA}{v:LB}{wr w3:World}{j n:Nat}{acc:LB}{A A' :OA}{c c' :Nat}(h:Mean w s v wr j acc A c)(z:UInt8)(hn:j<j+n/\j+n<=s.size)(hr:∃f r,meantN f ((sb s).drop (j+n))=some r/\acc++z::r=v)
  (ho:Old wr w2) (hg:w2.grownBy w3 ((Value.slice A acc.length c).ownBlock)) (Hh:w3.ownsRow w.heap.size 5 1 (.slice A' (acc.length+1) c') (acc.length+1) (acc.map bv++[bv z])):Mean w s v w3 (j+n) (acc++[z]) A' c' :=by
 obtain⟨f,r,h1,h2⟩:=hr;refine⟨hn.2,⟨f,r,h1,by rw[jK1];exact h2⟩,?_,(h.old.trans ho (fun _ _ e=>e)).grown hg (fun k e hlt=> ?_),?_⟩
 ·rw[jJ4,jN3];exact Hh
 ·have:=(h.own.lt k e).1;omega
 ·rw[jJ4,List.length_singleton];have:=h.len;omega
theorem jBv(w:World)(s:BA)(v:LB)(f:Nat)(hv:meantN f (sb s)=some v)(hs:s.size<=1000000000):
  Calls prog 244 #[.string s] w fun e w' =>e=.returned (.string ⟨v.toArray⟩)/\Old w w' :=by
 obtain⟨i0,hi,FF,Gy,GI⟩:=info_parts Kn;have H0:=G (show Mean w s v w 0 [] none 0 from⟨Nat.zero_le _,⟨f,v,hv,rfl⟩,World.ownsRow_nil _ _ _ _,jQ0 _ _,jL3 _⟩);clear hv;go_enter func244,ntmps244;go_wp2;go_loopw [3,4] (fun b i wr=>∃j acc A c,b=.slice A acc.length c/\i=.int .i64 ((j:Nat):Int)/\Mean w s v wr j acc A c) (fun _ i _=>s.size-(intOf i).toNat)
 case atStart=>exact⟨0,[],none,0,rfl,rfl,H0.out⟩
 case round=>
  clear H0;obtain⟨j,acc,A,c,rfl,rfl,hm⟩:=hrel;have HM:=G hm;have Hh:=hm.own;obtain⟨f1,r1,FJ,FT⟩:=hm.rest;have Fc:=hm.le;have N5:=hm.len;have NI:=G hm.old.size;clear hm;by_cases hlt:j<s.size
  ·have hd:=XR s j hlt;rw[hd]at FJ;have b1:(0:Int)<=(j:Int):=(by omega);have b2:(j:Int)<(s.size:Int):=(by omega);have b3:(j:Int).toNat=j:=(by omega);have b4:IntKind.i64.wrap ((j:Int)+1)=(j:Int)+1:=jQ3 _ (by omega);have J63:=G (show acc.length+1<=maxLen by unfold maxLen;omega);have J47:=G (show(acc.length+1)*1<=140737488355328 by omega);have RS:=G (fun(z:UInt8)=>(show(acc++[z]).length=acc.length+1 by rw[jJ4];rfl));obtain⟨f1,rfl⟩:∃g,f1=g+1:=by
    cases f1 with
    |zero=>cases FJ
    |succ g=>exact⟨g,rfl⟩
   have Nf:=G Hh;generalize hx:s[j]=x at*;by_cases FQ:x.toNat=92
   ·have e92:((x.toNat:Int)==92)=true:=beq_iff_eq.2 (by omega);have Gc:j+1<s.size:=by
     rcases Nat.lt_or_ge (j+1) s.size with h|h
     ·exact h
     ·rw[List.drop_eq_nil_of_le (by rw[jB];exact h),jBx f1 x FQ]at FJ;cases FJ
    have hd2:=XR s (j+1) Gc;rw[hd2]at FJ;have i1:(0:Int)<=(j:Int)+1:=(by omega);have i2:(j:Int)+1<(s.size:Int):=(by omega);have i3:((j:Int)+1).toNat=j+1:=(by omega);have i4:IntKind.i64.wrap ((j:Int)+1+1)=(j:Int)+1+1:=jQ3 _ (by omega);generalize hy:s[j+1]=y at*;by_cases h120:y.toNat=120
    ·obtain⟨L,hL⟩:∃L,(sb s).drop (j+2)=L:=⟨_,rfl⟩;rw[show j+1+1=j+2 from rfl,hL]at FJ;obtain⟨a,b,l2,Gg⟩:∃a b l2,L=a::b::l2:=by
      match L,FJ with
      |[],h=>rw[jGd f1 x y FQ h120]at h;cases h
      |[a],h=>rw[jGc f1 x y a FQ h120]at h;cases h
      |a::b::l,h=>exact⟨a,b,l,rfl⟩
     subst Gg;rw[jHj f1 x y a b l2 FQ h120]at FJ;have Gg:=hL;clear hL;split at FJ
     case isFalse=>cases FJ
     rename_i Wq;obtain⟨r2,e2,e3⟩:=jM4 FJ;have hlen:=congrArg List.length Gg;rw[jK8,jB,jK6,jK6]at hlen;have Mp:(sb s).drop (j+4)=l2:=by rw[show j+4=(j+2)+2 from rfl,<-List.drop_drop,Gg];rfl
     have Hu:sb (s.extract (j+2) (j+4))=[a,b]:=by rw[js,Gg,show j+4-(j+2)=2 by omega];rfl
     have HC:=G (fun W=>jBi W (s.extract (j+2) (j+4)) a b Hu Wq.1 Wq.2);have Dj:YM a<=15:=by have:=xB Wq.1;omega
     have Di:YM b<=15:=by have:=xB Wq.2;omega
     generalize YM a=va at*;generalize YM b=vb at*;generalize hz:16*va+vb=zn at*;obtain⟨z,C9⟩:∃z:UInt8,z.toNat=zn:=⟨UInt8.ofNat zn,UInt8.toNat_ofNat_of_lt' (show zn<256 by omega)⟩;rw[<-C9,UInt8.ofNat_toNat]at e3;have PG:=z.toNat_lt;have HR:=G (show∃f r,meantN f ((sb s).drop (j+4))=some r/\acc++z::r=v from⟨f1,r2,by rw[Mp];exact e2,by rw[<-FT,<-e3]⟩);have HB:=G (show j<j+4/\j+4<=s.size by omega);have z1:IntKind.u8.wrap (z.toNat:Int)=(z.toNat:Int):=IntWalk.u8_in _ (by omega);subst C9;have k1:IntKind.i64.wrap ((j:Int)+1+1)=(j:Int)+1+1:=jQ3 _ (by omega);have k2:IntKind.i64.wrap ((j:Int)+1+3)=(j:Int)+1+3:=jQ3 _ (by omega);have k3:(0:Int)<=(j:Int)+1+1:=(by omega);have k4:(j:Int)+1+3<=(s.size:Int):=(by omega);have k5:(j:Int)+1+1<=(j:Int)+1+3:=(by omega);have k6:((j:Int)+1+1).toNat=j+2:=(by omega);have k7:((j:Int)+1+3).toNat=j+4:=(by omega);have k8:IntKind.i64.wrap ((j:Int)+1+2)=(j:Int)+1+2:=jQ3 _ (by omega);have k9:IntKind.i64.wrap ((j:Int)+1+2+1)=(j:Int)+1+2+1:=jQ3 _ (by omega);have e110:((y.toNat:Int)==110)=false:=jM3 (by omega);have e116:((y.toNat:Int)==116)=false:=jM3 (by omega);have e120:((y.toNat:Int)==120)=true:=beq_iff_eq.2 (by omega);generalize hk:acc.length=k at*;clear FJ FT e2 e3 hd hd2 FQ Fc N5 Hh Gg Mp Hu Wq Dj Di hlen h120 hz PG;go_wp2_with (first|(go_at_call 253;refine(HC.out _).mono ?_;rintro e w2 ⟨rfl,hO⟩;have HO:=G hO;clear hO)|(at_builtin;refine jF _ rfl (.tmp 45) (.tmp 47) 33 rfl w.heap.size 5 i0 (.int .u8 0) 1 1 underlying33 hi FF Gy GI rfl (by decide) (.slice A k c) k (acc.map bv) rfl (jW (jW Nf.out HO.out (fun _ _ e=>e)) ((jQ0 NoX _).alloc _) (fun _ _ e=>e)) _ 1 1 [bv z] rfl (Rd.one_new _ _ _) (kK _ rfl) J63.out J47.out (jL4 (jL4 NI.out HO.out.size) ((jQ0 NoX _).alloc _).size) ?_;intro A' c' w3 Fz hgrow Ff;subst hk;have HP:=G (HM.out.put z HB.out HR.out (HO.out.alloc _) hgrow Fz);clear Fz hgrow Ff)|fail);exact⟨⟨j+4,_,A',c',by rw[RS.out],by rw[show((j+4:Nat):Int)=(j:Int)+1+2+1 by omega],HP.out⟩,by have:=HB.out;simp only[intOf];omega⟩
    ·rw[Vv f1 x y _ FQ h120]at FJ;obtain⟨r2,e2,e3⟩:=jM4 FJ;have HB:=G (show j<j+2/\j+2<=s.size by omega);have HR:=G (show∃f r,meantN f ((sb s).drop (j+2))=some r/\acc++jDE y::r=v from⟨f1,r2,e2,by rw[<-FT,<-e3]⟩);have e120:((y.toNat:Int)==120)=false:=jM3 (by omega);clear FJ FT e2 e3;by_cases h110:y.toNat=110
     ·have e110:((y.toNat:Int)==110)=true:=beq_iff_eq.2 (by omega);rw[show jDE y=10 by unfold jDE;rw[jJ6 h110]]at HR;generalize hk:acc.length=k at*;clear hd hd2 FQ Fc N5 Hh h120 h110;go_wp2_with (at_builtin;refine jF _ rfl (.tmp 45) (.tmp 47) 33 rfl w.heap.size 5 i0 (.int .u8 0) 1 1 underlying33 hi FF Gy GI rfl (by decide) (.slice A k c) k (acc.map bv) rfl (jW Nf.out ((jQ0 NoX _).alloc _) (fun _ _ e=>e)) _ 1 1 [bv 10] rfl (Rd.one_new _ _ _) (kK _ rfl) J63.out J47.out (jL4 NI.out ((jQ0 NoX _).alloc _).size) ?_;intro A' c' w3 Fz hgrow Ff;subst hk;have HP:=G (HM.out.put 10 HB.out HR.out ((jQ0 NoX _).alloc _) hgrow Fz);clear Fz hgrow Ff);exact⟨⟨j+2,_,A',c',by rw[RS.out],by rw[show((j+2:Nat):Int)=(j:Int)+1+1 by omega],HP.out⟩,by have:=HB.out;simp only[intOf];omega⟩
     ·have e110:((y.toNat:Int)==110)=false:=jM3 (by omega);by_cases h116:y.toNat=116
      ·have e116:((y.toNat:Int)==116)=true:=beq_iff_eq.2 (by omega);rw[show jDE y=9 by unfold jDE;rw[jJ5 h110,jJ6 h116]]at HR;generalize hk:acc.length=k at*;clear hd hd2 FQ Fc N5 Hh h120 h110 h116;go_wp2_with (at_builtin;refine jF _ rfl (.tmp 45) (.tmp 47) 33 rfl w.heap.size 5 i0 (.int .u8 0) 1 1 underlying33 hi FF Gy GI rfl (by decide) (.slice A k c) k (acc.map bv) rfl (jW Nf.out ((jQ0 NoX _).alloc _) (fun _ _ e=>e)) _ 1 1 [bv 9] rfl (Rd.one_new _ _ _) (kK _ rfl) J63.out J47.out (jL4 NI.out ((jQ0 NoX _).alloc _).size) ?_;intro A' c' w3 Fz hgrow Ff;subst hk;have HP:=G (HM.out.put 9 HB.out HR.out ((jQ0 NoX _).alloc _) hgrow Fz);clear Fz hgrow Ff);exact⟨⟨j+2,_,A',c',by rw[RS.out],by rw[show((j+2:Nat):Int)=(j:Int)+1+1 by omega],HP.out⟩,by have:=HB.out;simp only[intOf];omega⟩
      ·have e116:((y.toNat:Int)==116)=false:=jM3 (by omega);rw[show jDE y=y by unfold jDE;rw[jJ5 h110,jJ5 h116]]at HR;generalize hk:acc.length=k at*;clear hd hd2 FQ Fc N5 Hh h120 h110 h116;go_wp2_with (at_builtin;refine jF _ rfl (.tmp 45) (.tmp 47) 33 rfl w.heap.size 5 i0 (.int .u8 0) 1 1 underlying33 hi FF Gy GI rfl (by decide) (.slice A k c) k (acc.map bv) rfl (jW Nf.out ((jQ0 NoX _).alloc _) (fun _ _ e=>e)) _ 1 1 [bv y] rfl (Rd.one_new _ _ _) (kK _ rfl) J63.out J47.out (jL4 NI.out ((jQ0 NoX _).alloc _).size) ?_;intro A' c' w3 Fz hgrow Ff;subst hk;have HP:=G (HM.out.put y HB.out HR.out ((jQ0 NoX _).alloc _) hgrow Fz);clear Fz hgrow Ff);exact⟨⟨j+2,_,A',c',by rw[RS.out],by rw[show((j+2:Nat):Int)=(j:Int)+1+1 by omega],HP.out⟩,by have:=HB.out;simp only[intOf];omega⟩
   ·rw[Jn f1 x _ FQ]at FJ;obtain⟨r2,e2,e3⟩:=jM4 FJ;have e92:((x.toNat:Int)==92)=false:=jM3 (by omega);have HR:=G (show∃f r,meantN f ((sb s).drop (j+1))=some r/\acc++x::r=v from⟨f1,r2,e2,by rw[<-FT,<-e3]⟩);have HB:=G (show j<j+1/\j+1<=s.size by omega);generalize hk:acc.length=k at*;clear FJ FT e2 e3 hd FQ Fc N5 Hh;go_wp2_with (at_builtin;refine jF _ rfl (.tmp 45) (.tmp 47) 33 rfl w.heap.size 5 i0 (.int .u8 0) 1 1 underlying33 hi FF Gy GI rfl (by decide) (.slice A k c) k (acc.map bv) rfl (jW Nf.out ((jQ0 NoX _).alloc _) (fun _ _ e=>e)) _ 1 1 [bv x] rfl (Rd.one_new _ _ _) (kK _ rfl) J63.out J47.out (jL4 NI.out ((jQ0 NoX _).alloc _).size) ?_;intro A' c' w3 Fz hgrow Ff;subst hk;have HP:=G (HM.out.put x HB.out HR.out ((jQ0 NoX _).alloc _) hgrow Fz);clear Fz hgrow Ff);exact⟨⟨j+1,_,A',c',by rw[RS.out],by rw[show((j+1:Nat):Int)=(j:Int)+1 by omega],HP.out⟩,by have:=HB.out;simp only[intOf];omega⟩
  ·obtain rfl:j=s.size:=(by omega);rw[List.drop_eq_nil_of_le (by rw[jB];exact jL3 _)]at FJ;have Sp:r1=[]:=by
    cases f1 with
    |zero=>cases FJ
    |succ g=>rw[meantN]at FJ;injection FJ with FJ;exact FJ.symm
   rw[Sp,jN7]at FT;subst FT;have Pc:=yJ (P:=prog) (w:=wr) underlying33 underlying5 underlying9 A acc.length c acc (Rd.of_own Hh);have HO:=G HM.out.old;clear FJ Hh HM Fc N5 NI;go_wp2;go_ret;exact⟨rfl,HO.out⟩
end Go.Proofs.YtmmjcbbogokmfaaGreatDoor

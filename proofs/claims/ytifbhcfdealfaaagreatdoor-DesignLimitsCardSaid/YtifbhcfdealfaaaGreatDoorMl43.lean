import Derived.Test.YtifbhcfdealfaaaGreatDoorMl18
set_option maxRecDepth 100000
set_option maxHeartbeats 25600000
namespace Go.Proofs.YtifbhcfdealfaaaGreatDoor
open Go.Proofs.Tryz
def jH7(t:Tre):List Dk:=t.attrs.map Dk.A++(t.stages.map Dk.jG9++(t.miles.map Dk.M++t.steps.map Dk.S))
def dOf(t:Tre):List Dk:=(List.range (jH7 t).length).map fun(i:Nat)=>((jH7 t).find? fun(d:Dk)=>decide (d.order=(i:Int))).getD (.A ⟨⟨#[]⟩,0,0,false,0,0,0⟩)
theorem jIb:∀D:List Dk,(D.filterMap Dk.asA).length+((D.filterMap Dk.asG).length+((D.filterMap Dk.asM).length+(D.filterMap Dk.asS).length))=D.length
 |[]=>rfl
 |d::D=>by
  have:=jIb D;cases d<;>simp only[List.filterMap_cons,Dk.asA,Dk.asG,Dk.asM,Dk.asS,jK6]<;>omega
theorem jID{n:Nat}{t:Tre}{D:List Dk}(h:WfT n t D)(d:Dk):d∈jH7 t↔d∈D:=by
 unfold jH7;rw[h.eA,h.eG,h.eM,h.eS];simp only[List.mem_append,List.mem_map];constructor
 ·rintro (⟨x,hx,rfl⟩|⟨x,hx,rfl⟩|⟨x,hx,rfl⟩|⟨x,hx,rfl⟩)
  ·exact jEk hx
  ·exact jDC hx
  ·exact jDB hx
  ·exact XQ hx
 ·intro hd;cases d with
  |A x=>exact .inl ⟨x,List.mem_filterMap.2 ⟨_,hd,rfl⟩,rfl⟩
  |jG9 x=>exact .inr (.inl ⟨x,List.mem_filterMap.2 ⟨_,hd,rfl⟩,rfl⟩)
  |M x=>exact .inr (.inr (.inl ⟨x,List.mem_filterMap.2 ⟨_,hd,rfl⟩,rfl⟩))
  |S x=>exact .inr (.inr (.inr ⟨x,List.mem_filterMap.2 ⟨_,hd,rfl⟩,rfl⟩))
theorem jIW{n:Nat}{t:Tre}{D:List Dk}(h:WfT n t D):(jH7 t).length=D.length:=by
 unfold jH7;rw[h.eA,h.eG,h.eM,h.eS];simp only[jJ4,jK7];exact jIb D
theorem jJv{n:Nat}{t:Tre}{D:List Dk}(h:WfT n t D):D=dOf t:=by
 have hl:=jIW h;unfold dOf;refine List.ext_getElem (by simp[hl]) fun i hi _=> ?_;rw[List.getElem_map,List.getElem_range];cases hf:(jH7 t).find? fun d=>decide (d.order=(i:Int))with
 |none=>exact absurd (jK5 (h.ord i _ (jJ9 hi))) (List.find?_eq_none.1 hf D[i] ((jID h _).2 (jL6 hi)))
 |some d=>
  have h1:decide (d.order=(i:Int))=true:=List.find?_some (p:=fun(d:Dk)=>decide (d.order=(i:Int))) hf;have h1:=jM8 h1;obtain⟨j,hj,rfl⟩:=List.getElem_of_mem ((jID h _).1 (List.mem_of_find?_eq_some hf));have h2:=h.ord j _ (jJ9 hj);have:j=i:=(by omega);subst this;rfl
def jIL(l:LB)(name:BA):Option Wr9N:=match kC l with
 | .error _=>none
 | .ok m=>if m.stack.isEmpty=true then(Jb l (10*l.length+20)).map fun r=>Kr r.tree (dOf r.tree) name else none
def asc(s:List Nat):LB:=s.map UInt8.ofNat
def jHs(i:Nat):LB:=[UInt8.ofNat (97+i/26% 26),UInt8.ofNat (97+i% 26)]
def jHx:Nat->Nat
 |5=>16|6=>32|7=>16|9=>1024|_=>64
def jIG:Nat->Nat
 |6=>91|7=>91|8=>114|9=>113|_=>7
-- "type t {"
def t0L:LB:=[116,121,112,101,32,116,32,123]
def jIF:Nat->LB
 |5=>t0L++[32,115,116,101,112,32,112,32,40]
 |6=>t0L++[32,109,105,108,101,115,116,111,110,101,32,109,32,114,101,97,99,104,101,100,32,119,104,101,110,32]
 |8=>t0L++[32,97,116,116,114,105,98,117,116,101,32,97,32,58,32,115,101,116,32,61,32,123,32]
 |9=>t0L++[32,97,116,116,114,105,98,117,116,101,32,97,32,58,32,116,101,120,116,32,61,32,34]
 |_=>t0L
def jHw(k:Nat):LB:=
 if k=1 then [32,97,116,116,114,105,98,117,116,101,32]
 else if k=2\/k=7 then [32,115,116,97,103,101,32]
 else if k=3 then [32,109,105,108,101,115,116,111,110,101,32]
 else if k=4 then [32,115,116,101,112,32]
 else []
def jHr(k n i:Nat):LB:=
 if k=1 then 110::jHs i++[32,58,32,105,110,116,32,59]
 else if k=2 then 110::jHs i++[32,123,32,125]
 else if k=3 then 110::jHs i++[32,114,101,97,99,104,101,100,32,119,104,101,110,32,116,114,117,101,32,59]
 else if k=4 then 110::jHs i++[32,40,32,41,32,123,32,125]
 else if k=5 then 110::jHs i++[32,58,32,105,110,116]++(if i+1<n then [32,44,32]else [])
 else if k=6 then [110,111,116,32]
 else if k=7 then 110::jHs i++(if 0<i then [32,105,110,32,110]++jHs (i-1)else [])++[32,123,32,125]
 else if k=8 then [34,107]++jHs i++[34]++(if i+1<n then [32,44,32]else [])
 else [121]
def jHg(k n:Nat):Nat->LB
 |0=>jIF k
 |i+1=>jHg k n i++(jHw k++jHr k n i)
def jHz:Nat->LB
 |5=>[32,41,32,123,32,125,32,125]
 |6=>[116,114,117,101,32,59,32,125]
 |8=>[32,125,32,59,32,125]
 |9=>[34,32,59,32,125]
 |_=>[32,125]
def jHo(k n:Nat):LB:=jHg k n n++jHz k
def jHm(k n:Nat):Nat:=
 if k=6 then 34 else if k=8 then 29 else if k=9 then 30
 else(jHg k n (jHx k)++jHw k).length
def jJs(k n:Nat):Bool:=jIL (jHo k n) ⟨#[116]⟩==some (if(if k=6 then n+1 else n)<=jHx k then(0,0)else((jHm k n:Int),jIG k))
theorem jHe{src rest:LB}{p:Nat}(h:src.drop p=rest)(b n t:Nat)(hb:jQ false rest=b)(hx:qa (rest.drop b)=some (n,t))(fr t0 o:Nat)(T:Tre):jc src ⟨p,fr,t0,o,T⟩=some ⟨p+b+n,p+b,t,o,T⟩:=by
 have Fe:b<rest.length:=by
  rcases Nat.lt_or_ge b rest.length with h1|h1
  ·exact h1
  ·rw[List.drop_of_length_le h1]at hx;cases hx
 have hl:rest.length=src.length-p:=(by rw[<-h,jK8]);unfold jc;simp only[h,hb];rw[jJ5 (by omega),<-List.drop_drop,h,hx];rfl
theorem jHu{src rest:LB}{p:Nat}(h:src.drop p=rest)(at_ t o:Nat)(T:Tre):jh src ⟨at_,p,t,o,T⟩=rest.take (at_ -p):=by
 unfold jh;rw[List.drop_take,h]
theorem jHd{src rest:LB}{p:Nat}(h:src.drop p=rest)(k:Nat):src.drop (p+k)=rest.drop k:=by rw[<-h,List.drop_drop]
structure N3(x y:UInt8):Prop where
 hx:jR x=true
 hy:jR y=true
 hw:vO [110,x,y]=0
theorem N3.lex{x y:UInt8}(h:N3 x y)(l:LB):qa (110::x::y::32::l)=some (3,1):=by
 have e:(110::x::y::32::l).takeWhile jR=[110,x,y]:=zc [110,x,y] 32 l (by simp[h.hx,h.hy];decide) (by decide);rw[qa,jJ6 (by decide),e];show some (3,jv [110,x,y])=_;unfold jv;rw[jJ5 (show¬yU (([110,x,y]:LB).headD 0)=true from(show¬yU 110=true by decide)),jJ6 h.hw]
section
variable{p f g:Nat}{st st' :List Nat}{l l' :LB}{m' :Mc}
theorem jHf(k:Goes ⟨p+1,st,f,g⟩ l m' l'):Goes ⟨p,st,f,g⟩ (32::l) m' l' :=
 Goes.one 1 (jDt _ 32 l (by decide)) rfl (by simp) rfl k
theorem jHk(w:LB)(c:UInt8)(t:Nat)(h0:w≠ [])(hw:w.all jR=true)(hc:jR c=false)(hp:vZ w=true)(hn:jv w=t)(hm:jz t st=true)(ht:kB t 30 st=some st')(k:Goes ⟨p+w.length,st',f,p⟩ (c::l) m' l'):
  Goes ⟨p,st,f,g⟩ (w++c::l) m' l' :=by
 cases w with
 |nil=>exact absurd rfl h0
 |cons x w=>
  refine Goes.one (x::w).length (jEB ⟨p,st,f,g⟩ x w c l t st st' [] hw hc hp hn (jN7 _).symm hm ht) rfl (by simp) (List.drop_left' rfl) ?_;rw[jN7];exact k
theorem jHj(c:UInt8)(t:Nat)(hb:vM c=false)(h5:¬c.toNat=35)(h4:¬c.toNat=34)(hw:jR c=false)(h1:jf [c]=t)(h0:t≠0)(h2:l.headD 0≠61)(hm:jz t st=true)(ht:kB t 30 st=some st')(k:Goes ⟨p+1,st',f,p⟩ l m' l'):
  Goes ⟨p,st,f,g⟩ (c::l) m' l' :=by
 refine Goes.one 1 (m1:=⟨p+1,st',f,p⟩) ?_ rfl (by simp) rfl k;rw[vP,jJ5 (by rw[hb];decide),jJ5 h5,jJ5 h4,jJ5 (by rw[hw];decide)];unfold kf;simp only[h1];rw[jJ6 ⟨h0,hm⟩,jJ5 (fun e=>h2 e.2.2),xC (s:=st') (by
  have:=Ym ht []
  rwa [jN7,jN7]at this)]
theorem N3.go{x y:UInt8}(h:N3 x y)(hm:jz 1 st=true)(ht:kB 1 30 st=some st')(k:Goes ⟨p+3,st',f,p⟩ (32::l) m' l'):Goes ⟨p,st,f,g⟩ (110::x::y::32::l) m' l' :=by
 have hw:([110,x,y]:LB).all jR=true:=by simp[h.hx,h.hy];decide
 have hl:kY [110,x,y]=true:=by
  unfold kY ji;rw[hw,h.hw];rfl
 exact jHk [110,x,y] 32 1 (by simp) hw (by decide) (by unfold vZ;rw[hl];simp) (by unfold jv;rw[jJ5 (show¬yU (([110,x,y]:LB).headD 0)=true from(show¬yU 110=true by decide)),jJ6 h.hw]) hm ht k
end
abbrev L2:=UInt8×UInt8
def Qs9(o:Nat)(T:Tre):Prop:=T.attrs.length<=o/\T.stages.length<=o/\T.miles.length<=o/\T.steps.length<=o/\T.nodes.length<=o/\T.ats.length<=o
structure Fam9 where
 t0:Nat
 kl:Nat
 len:Nat
 dec:L2->LB
 upd:Nat->Nat->L2->Tre->Tre
namespace Fam9
def all(F:Fam9):Nat->Nat->List L2->Tre->Tre
 |_,_,[],T=>T
 |p,o,z::ns,T=>all F (p+F.len) (o+1) ns (F.upd p o z T)
def start(F:Fam9)(p:Nat)(ns:List L2)(o:Nat)(T:Tre):Rdr:=match ns with
 |[]=>⟨p+1+1,p+1,5,o,T⟩
 |_::_=>⟨p+1+F.kl,p+1,F.t0,o,T⟩
structure Ok(F:Fam9):Prop where
 hl:∀z,(F.dec z).length=F.len
 h32:∀z,∃l,F.dec z=32::l
 hk:∀z l,jQ false (F.dec z++l)=1/\qa ((F.dec z++l).drop 1)=some (F.kl,F.t0)
 step:∀(src:LB) (f p q fr' t' o:Nat) (T:Tre) (z:L2) (l:LB),N3 z.1 z.2->src.drop p=F.dec z++32::l->(∀fr t o T,jc src ⟨p+F.len,fr,t,o,T⟩=some ⟨q,fr',t',o,T⟩)->Qs9 o T->o<100->
  ya src (f+21) ⟨p+1+F.kl,p+1,F.t0,o,T⟩=ya src (f+20) ⟨q,fr',t',o+1,F.upd p o z T⟩
 q9:∀p o z T,Qs9 o T->Qs9 (o+1) (F.upd p o z T)
 go:∀(p f g:Nat) (z:L2) (l:LB),N3 z.1 z.2->∃g',Goes ⟨p,[58,5],f,g⟩ (F.dec z++32::l) ⟨p+F.len,[58,5],f,g'⟩ (32::l)
variable{F:Fam9}{src:LB}
theorem Ok.next(h:F.Ok){p:Nat}{ns:List L2}(hd:src.drop p=ns.flatMap F.dec++[32,125])(fr t o:Nat)(T:Tre):jc src ⟨p,fr,t,o,T⟩=some (F.start p ns o T):=by
 cases ns with
 |nil=>exact jHe hd 1 1 5 rfl rfl fr t o T
 |cons z ns=>
  rw[jL9,jK1]at hd;obtain⟨h1,h2⟩:=h.hk z (ns.flatMap F.dec++[32,125]);exact jHe hd 1 F.kl F.t0 h1 h2 fr t o T
theorem Ok.head(h:F.Ok)(ns:List L2):∃l,ns.flatMap F.dec++[32,125]=32::l:=by
 cases ns with
 |nil=>exact⟨_,rfl⟩
 |cons z ns=>
  obtain⟨l,e⟩:=h.h32 z;rw[jL9,jK1,e];exact⟨_,rfl⟩
theorem Ok.read(h:F.Ok):∀(ns:List L2) (p o f:Nat) (T:Tre),(∀z∈ns,N3 z.1 z.2)->src.drop p=ns.flatMap F.dec++[32,125]->Qs9 o T->o+ns.length<=100->ns.length<=f->∃r,ya src (f+21) (F.start p ns o T)=some r/\r.tree=F.all p o ns T
 |[],p,o,f,T,_,_,_,_,_=>⟨_,rfl,rfl⟩
 |z::ns,p,o,f,T,hn,hd,hq,hc,hf=>by
  rw[jK6]at hc hf;obtain⟨f,rfl⟩:∃f',f=f' +1:=⟨f-1,by omega⟩;rw[jL9,jK1]at hd;have NW:src.drop (p+F.len)=ns.flatMap F.dec++[32,125]:=(by rw[jHd hd,<-h.hl z,List.drop_left]);obtain⟨l,hl⟩:=h.head ns;obtain⟨r,h1,h2⟩:=Ok.read h ns (p+F.len) (o+1) f (F.upd p o z T) (fun z hz=>hn z (jN1 _ hz)) NW (h.q9 p o z T hq) (by omega) (by omega);refine⟨r,?_,h2⟩;rw[<-h1];have nx:=fun fr t o T=>h.next NW fr t o T;rw[hl]at hd;cases ns with
  |nil=>exact h.step src (f+1) p _ _ _ o T z l (hn z (List.mem_cons_self ..)) hd nx hq (by omega)
  |cons y ns=>exact h.step src (f+1) p _ _ _ o T z l (hn z (List.mem_cons_self ..)) hd nx hq (by omega)
theorem Ok.goes(h:F.Ok):∀(ns:List L2) (p f g:Nat),(∀z∈ns,N3 z.1 z.2)->∃m,Goes ⟨p,[58,5],f,g⟩ (ns.flatMap F.dec++[32,125]) m []/\m.stack=[]
 |[],p,f,g,_=>⟨_,jHf (jHj 125 5 (by decide) (by decide) (by decide) (by decide) (by decide) (by decide) (by decide) (by decide) (by decide) (.refl _ _)),rfl⟩
 |z::ns,p,f,g,hn=>by
  obtain⟨l,hl⟩:=h.head ns;rw[jL9,jK1,hl];obtain⟨g',h1⟩:=h.go p f g z l (hn z (List.mem_cons_self ..));obtain⟨m,h2,h3⟩:=Ok.goes h ns (p+F.len) f g' (fun z hz=>hn z (jN1 _ hz));rw[hl]at h2;exact⟨m,h1.trans h2,h3⟩
theorem Ok.whole(h:F.Ok)(ns:List L2)(hn:∀z∈ns,N3 z.1 z.2)(hc:ns.length<=100)(f:Nat)(hf:ns.length<=f)(hs:src=t0L++(ns.flatMap F.dec++[32,125])):
  (∃m,kC src=.ok m/\m.stack=[])/\∃r,Jb src (f+21)=some r/\r.tree=F.all 8 0 ns ⟨⟨#[116]⟩,5,[],[],[],[],[],[]⟩:=by
 have d0:src.drop 0=[116,121,112,101]++32::([116]++32::123::(ns.flatMap F.dec++[32,125])):=hs;have d8:src.drop 8=ns.flatMap F.dec++[32,125]:=jHd d0 8;constructor
 ·obtain⟨m,h1,h2⟩:=h.goes ns 8 0 7 hn;obtain⟨l,hl⟩:=h.head ns;rw[hl]at h1 d0;refine⟨m,jDx ?_,h2⟩;rw[show src=src.drop 0 from rfl,d0];exact jHk (p:=0) (st' :=[1,4,58,5]) [116,121,112,101] 32 23 (by decide) (by decide) (by decide) (by decide+kernel) (by decide+kernel) (by decide) (by decide) (jHf (jHk (st' :=[4,58,5]) [116] 32 1 (by decide) (by decide) (by decide) (by decide+kernel) (by decide+kernel) (by decide) (by decide) (jHf (jHj 123 4 (by decide) (by decide) (by decide) (by decide) (by decide) (by decide) (by simp) (by decide) (by decide) h1))))
 ·obtain⟨r,h1,h2⟩:=h.read ns 8 0 f ⟨⟨#[116]⟩,5,[],[],[],[],[],[]⟩ hn d8 ⟨jL3 _,jL3 _,jL3 _,jL3 _,jL3 _,jL3 _⟩ (by omega) hf;refine⟨r,?_,h2⟩;have n1:jc src ⟨0,0,0,0,Tre.none_⟩=some ⟨4,0,23,0,Tre.none_⟩:=jHe d0 0 4 23 rfl (by rfl) 0 0 0 _;have n2:jc src ⟨4,0,23,0,Tre.none_⟩=some ⟨6,5,1,0,Tre.none_⟩:=jHe (jHd d0 4) 1 1 1 rfl (by rfl) 0 23 0 _;obtain⟨l,hl⟩:=h.head ns;have e0:=d0;rw[hl]at e0;have n3:jc src ⟨6,5,1,0,Tre.none_⟩=some ⟨8,7,4,0,Tre.none_⟩:=jHe (jHd e0 6) 1 1 4 rfl (by rfl) 5 1 0 _;have lx:jh src ⟨6,5,1,0,Tre.none_⟩=[116]:=jHu (jHd d0 5) 6 1 0 _;unfold Jb zC;rw[n1,jL2,n2,jL2,n3,lx];show((jc src ⟨8,7,4,0,Tre.none_⟩).bind fun r3=>_)=_;rw[h.next d8,jL2,<-h1];cases ns<;>rfl
end Fam9
def nm3(z:L2):BA:=⟨#[110,z.1,z.2]⟩
def attrF:Fam9:=⟨24,9,22,fun z=>32::97::116::116::114::105::98::117::116::101::32::110::z.1::z.2::32::58::32::105::110::116::32::59::[],
 fun p o z T=>{T with attrs:=T.attrs++[⟨nm3 z,(p+11:Nat),(o:Nat),false,1,-1,-1⟩]}⟩
theorem jIz:attrF.Ok where
 hl _:=rfl
 h32 _:=⟨_,rfl⟩
 hk _ _:=⟨rfl,rfl⟩
 q9 p o z T h:=by
  obtain⟨h1,h2,h3,h4,h5,h6⟩:=h;exact⟨by show(T.attrs++[_]).length<=_;simp;omega,Nat.le_succ_of_le h2,Nat.le_succ_of_le h3,Nat.le_succ_of_le h4,Nat.le_succ_of_le h5,Nat.le_succ_of_le h6⟩
 go p f g z l h:=⟨_,jHf (jHk (st' :=[1,10,59,60,61,62,9,58,5]) [97,116,116,114,105,98,117,116,101] 32 24 (by decide) (by decide) (by decide) (by decide+kernel) (by decide+kernel) (by decide) (by decide)
  (jHf (h.go (st' :=[10,59,60,61,62,9,58,5]) (by decide) (by decide)
  (jHf (jHj (st' :=[59,60,61,62,9,58,5]) 58 10 (by decide) (by decide) (by decide) (by decide) (by decide) (by decide) (by simp) (by decide) (by decide)
  (jHf (jHk (st' :=[61,62,9,58,5]) [105,110,116] 32 34 (by decide) (by decide) (by decide) (by decide+kernel) (by decide+kernel) (by decide) (by decide)
  (jHf (jHj (st' :=[58,5]) 59 9 (by decide) (by decide) (by decide) (by decide) (by decide) (by decide) (by simp) (by decide) (by decide) (.refl _ _))))))))))⟩
 step src f p q fr' t' o T z l h hd nx hq ho:=by
  have n1:jc src ⟨p+10,p+1,24,o,T⟩=some ⟨p+14,p+11,1,o,T⟩:=jHe (jHd hd 10) 1 3 1 rfl (h.lex _) _ _ _ _;have n2:jc src ⟨p+14,p+11,1,o,T⟩=some ⟨p+16,p+15,10,o,T⟩:=jHe (jHd hd 14) 1 1 10 rfl rfl _ _ _ _;have n3:jc src ⟨p+16,p+15,10,o+1,T⟩=some ⟨p+20,p+17,34,o+1,T⟩:=jHe (jHd hd 16) 1 3 34 rfl rfl _ _ _ _;have n4:jc src ⟨p+20,p+17,34,o+1,T⟩=some ⟨p+22,p+21,9,o+1,T⟩:=jHe (jHd hd 20) 1 1 9 rfl rfl _ _ _ _;have n5:jc src ⟨p+22,p+21,9,o+1,T⟩=some ⟨q,fr',t',o+1,T⟩:=nx _ _ _ _;have lx:jh src ⟨p+14,p+11,1,o,T⟩=[110,z.1,z.2]:=by
   rw[jHu (jHd hd 11),show p+14-(p+11)=3 by omega];rfl
  have hA:T.attrs.length<1000000:=by have:=hq.1;omega
  show ya src (f+20+1) ⟨p+10,p+1,24,o,T⟩=_;rw[ya,jJ6 rfl];unfold qr VQ zC;rw[n1,jL2,n2,lx,Option.map_some,jL2,jJ6 (show o<1000000 by omega),jL2];simp only[n3,jL2];unfold jb;rw[jJ5 (show¬(34:Nat)=39 by decide),jL2];unfold ZO;rw[jJ6 (show 34<=(34:Nat)/\(34:Nat)<=38 by decide)];simp only[n4,jL2];unfold kZ;rw[jJ6 (show(9:Nat)≠12 by decide),jL2,jJ6 (show(9:Nat)≠32 by decide),jL2];simp only[n5,jL2];rw[jJ6 hA];rfl
def stageF:Fam9:=⟨25,5,14,fun z=>32::115::116::97::103::101::32::110::z.1::z.2::32::123::32::125::[],
 fun p o z T=>{T with stages:=T.stages++[⟨nm3 z,(p+7:Nat),(o:Nat),⟨#[]⟩,0,-1,-1⟩]}⟩
theorem jIh:stageF.Ok where
 hl _:=rfl
 h32 _:=⟨_,rfl⟩
 hk _ _:=⟨rfl,rfl⟩
 q9 p o z T h:=by
  obtain⟨h1,h2,h3,h4,h5,h6⟩:=h;exact⟨Nat.le_succ_of_le h1,by show(T.stages++[_]).length<=_;simp;omega,Nat.le_succ_of_le h3,Nat.le_succ_of_le h4,Nat.le_succ_of_le h5,Nat.le_succ_of_le h6⟩
 go p f g z l h:=⟨_,jHf (jHk (st' :=[1,63,4,64,65,5,58,5]) [115,116,97,103,101] 32 25 (by decide) (by decide) (by decide) (by decide+kernel) (by decide+kernel) (by decide) (by decide)
  (jHf (h.go (st' :=[63,4,64,65,5,58,5]) (by decide) (by decide)
  (jHf (jHj (st' :=[64,65,5,58,5]) 123 4 (by decide) (by decide) (by decide) (by decide) (by decide) (by decide) (by simp) (by decide) (by decide)
  (jHf (jHj (st' :=[58,5]) 125 5 (by decide) (by decide) (by decide) (by decide) (by decide) (by decide) (by simp) (by decide) (by decide) (.refl _ _))))))))⟩
 step src f p q fr' t' o T z l h hd nx hq ho:=by
  have n1:jc src ⟨p+6,p+1,25,o,T⟩=some ⟨p+10,p+7,1,o,T⟩:=jHe (jHd hd 6) 1 3 1 rfl (h.lex _) _ _ _ _;have n2:jc src ⟨p+10,p+7,1,o,T⟩=some ⟨p+12,p+11,4,o,T⟩:=jHe (jHd hd 10) 1 1 4 rfl rfl _ _ _ _;have n3:jc src ⟨p+12,p+11,4,o+1,T⟩=some ⟨p+14,p+13,5,o+1,T⟩:=jHe (jHd hd 12) 1 1 5 rfl rfl _ _ _ _;have n5:jc src ⟨p+14,p+13,5,o+1,T⟩=some ⟨q,fr',t',o+1,T⟩:=nx _ _ _ _;have lx:jh src ⟨p+10,p+7,1,o,T⟩=[110,z.1,z.2]:=by
   rw[jHu (jHd hd 7),show p+10-(p+7)=3 by omega];rfl
  have hA:T.stages.length<1000000:=by have:=hq.2.1;omega
  show ya src (f+20+1) ⟨p+6,p+1,25,o,T⟩=_;rw[ya,jJ5 (show¬(25:Nat)=24 by decide),jJ6 rfl];unfold KY VQ zC;rw[n1,jL2,n2,lx,Option.map_some,jL2,jJ6 (show o<1000000 by omega),jL2];unfold inN;rw[jJ5 (show¬(4:Nat)=28 by decide),jL2];simp only[n3,jL2];unfold vp kZ;rw[jJ6 (show(5:Nat)≠29 by decide),jL2,jJ5 (show¬(0:Int)<= -1 by decide),jL2,jJ6 (show(5:Nat)≠30 by decide),jL2,jJ5 (show¬(0:Int)<= -1 by decide),jL2];simp only[n5,jL2];rw[jJ6 hA];rfl
def stepF:Fam9:=⟨27,4,17,fun z=>32::115::116::101::112::32::110::z.1::z.2::32::40::32::41::32::123::32::125::[],
 fun p o z T=>{T with steps:=T.steps++[⟨nm3 z,(p+6:Nat),(o:Nat),[],⟨#[]⟩,0,-1,[]⟩]}⟩
theorem jIv:stepF.Ok where
 hl _:=rfl
 h32 _:=⟨_,rfl⟩
 hk _ _:=⟨rfl,rfl⟩
 q9 p o z T h:=by
  obtain⟨h1,h2,h3,h4,h5,h6⟩:=h;exact⟨Nat.le_succ_of_le h1,Nat.le_succ_of_le h2,Nat.le_succ_of_le h3,by show(T.steps++[_]).length<=_;simp;omega,Nat.le_succ_of_le h5,Nat.le_succ_of_le h6⟩
 go p f g z l h:=⟨_,jHf (jHk (st' :=[1,6,66,7,63,62,4,68,5,58,5]) [115,116,101,112] 32 27 (by decide) (by decide) (by decide) (by decide+kernel) (by decide+kernel) (by decide) (by decide)
  (jHf (h.go (st' :=[6,66,7,63,62,4,68,5,58,5]) (by decide) (by decide)
  (jHf (jHj (st' :=[66,7,63,62,4,68,5,58,5]) 40 6 (by decide) (by decide) (by decide) (by decide) (by decide) (by decide) (by simp) (by decide) (by decide)
  (jHf (jHj (st' :=[63,62,4,68,5,58,5]) 41 7 (by decide) (by decide) (by decide) (by decide) (by decide) (by decide) (by simp) (by decide) (by decide)
  (jHf (jHj (st' :=[68,5,58,5]) 123 4 (by decide) (by decide) (by decide) (by decide) (by decide) (by decide) (by simp) (by decide) (by decide)
  (jHf (jHj (st' :=[58,5]) 125 5 (by decide) (by decide) (by decide) (by decide) (by decide) (by decide) (by simp) (by decide) (by decide) (.refl _ _))))))))))))⟩
 step src f p q fr' t' o T z l h hd nx hq ho:=by
  have n1:jc src ⟨p+5,p+1,27,o,T⟩=some ⟨p+9,p+6,1,o,T⟩:=jHe (jHd hd 5) 1 3 1 rfl (h.lex _) _ _ _ _;have n2:jc src ⟨p+9,p+6,1,o,T⟩=some ⟨p+11,p+10,6,o,T⟩:=jHe (jHd hd 9) 1 1 6 rfl rfl _ _ _ _;have n3:jc src ⟨p+11,p+10,6,o+1,T⟩=some ⟨p+13,p+12,7,o+1,T⟩:=jHe (jHd hd 11) 1 1 7 rfl rfl _ _ _ _;have n4:jc src ⟨p+13,p+12,7,o+1,T⟩=some ⟨p+15,p+14,4,o+1,T⟩:=jHe (jHd hd 13) 1 1 4 rfl rfl _ _ _ _;have n6:jc src ⟨p+15,p+14,4,o+1,T⟩=some ⟨p+17,p+16,5,o+1,T⟩:=jHe (jHd hd 15) 1 1 5 rfl rfl _ _ _ _;have n5:jc src ⟨p+17,p+16,5,o+1,T⟩=some ⟨q,fr',t',o+1,T⟩:=nx _ _ _ _;have lx:jh src ⟨p+9,p+6,1,o,T⟩=[110,z.1,z.2]:=by
   rw[jHu (jHd hd 6),show p+9-(p+6)=3 by omega];rfl
  have hA:T.steps.length<1000000:=by have:=hq.2.2.2.1;omega
  show ya src (f+20+1) ⟨p+5,p+1,27,o,T⟩=_;rw[ya,jJ5 (show¬(27:Nat)=24 by decide),jJ5 (show¬(27:Nat)=25 by decide),jJ5 (show¬(27:Nat)=26 by decide),jJ6 rfl];unfold qB VQ zC;rw[n1,jL2,n2,lx,Option.map_some,jL2,jJ6 (show o<1000000 by omega),jL2];simp only[n3,jL2];rw[yT,jJ6 rfl,jL2];simp only[n4,jL2];unfold inN;rw[jJ5 (show¬(4:Nat)=28 by decide),jL2];unfold kZ;rw[jJ6 (show(4:Nat)≠32 by decide),jL2];simp only[n6,jL2];rw[vH,jJ6 rfl,jL2];simp only[n5,jL2];rw[jJ6 hA];rfl
theorem jIZ{src:LB}{r R:Rdr}{x:Int}(f:Nat)(ht:R.t=9\/R.t=8\/R.t=5)(N5:r.t≠40)(G7:r.t≠45)(hu:exN src (f+1) .unary r=some (x,[],R)):exN src (f+8) .expr r=some (x,[],R):=by
 have G6:exN src (f+2) (.row 19) r=some (x,[],R):=by
  rw[exN,jJ5 (by decide),jJ5 (by decide)];exact hu
 have mo:∀g l,l=43\/l=44\/l=18\/l=20->exN src (g+1) (.more l x) R=some (x,[],R):=fun g l hl=>by
  rw[exN,jJ6 (by rcases ht with ht|ht|ht<;>rw[ht]<;>rcases hl with rfl|rfl|rfl|rfl<;>rfl)]
 have PJ:exN src (f+3) (.row 20) r=some (x,[],R):=by
  rw[exN,jJ5 (by decide),jJ6 (by decide),show YY 20=19 from rfl,G6,jL2];exact mo (f+1) 20 (by decide)
 have IO:exN src (f+4) (.row 18) r=some (x,[],R):=by
  rw[exN,jJ5 (by decide),jJ6 (by decide),show YY 18=20 from rfl,PJ,jL2];exact mo (f+2) 18 (by decide)
 have G7:exN src (f+5) (.row 45) r=some (x,[],R):=by
  rw[exN,jJ6 rfl,jJ5 G7,IO,jL2];rw[jJ5 (by show¬(12<=R.t/\R.t<=17);omega),jJ5 (by show¬R.t=28;omega)]
 have Ca:exN src (f+6) (.row 44) r=some (x,[],R):=by
  rw[exN,jJ5 (by decide),jJ6 (by decide),show YY 44=45 from rfl,G7,jL2];exact mo (f+4) 44 (by decide)
 have IN:exN src (f+7) (.row 43) r=some (x,[],R):=by
  rw[exN,jJ5 (by decide),jJ6 (by decide),show YY 43=44 from rfl,Ca,jL2];exact mo (f+5) 43 (by decide)
 rw[exN,jJ6 N5];exact IN
theorem jIY{src:LB}{a b t a2 b2 o t2:Nat}{T:Tre}{n9:Nd}(f:Nat)(h9:t2=9\/t2=8\/t2=5)(hl:Uo t=true)(G6:t≠19)(N5:t≠40)(G7:t≠45)(hn:kJ t (jh src ⟨a,b,t,o,T⟩)=some n9)(n:jc src ⟨a,b,t,o,T⟩=some ⟨a2,b2,t2,o,T⟩)(h1:T.nodes.length<1000000)(h2:T.ats.length<1000000):
  exN src (f+8) .expr ⟨a,b,t,o,T⟩=some ((T.nodes.length:Int),[],⟨a2,b2,t2,o,{T with nodes:=T.nodes++[n9],ats:=T.ats++[(b:Int)]}⟩):=by
 exact jIZ (R:=⟨a2,b2,t2,o,{T with nodes:=T.nodes++[n9],ats:=T.ats++[(b:Int)]}⟩) (x:=(T.nodes.length:Int)) f h9 N5 G7 (by
  rw[exN,jJ5 G6,jJ6 hl,hn,jL2,n,jL2];unfold vJ;rw[jJ6 ⟨h1,h2⟩];rfl)
theorem jIs{src:LB}{a b t a2 b2 o:Nat}{T:Tre}{n9:Nd}(f:Nat)(hl:Uo t=true)(G6:t≠19)(N5:t≠40)(G7:t≠45)(hn:kJ t (jh src ⟨a,b,t,o,T⟩)=some n9)(n:jc src ⟨a,b,t,o,T⟩=some ⟨a2,b2,9,o,T⟩)(h1:T.nodes.length<1000000)(h2:T.ats.length<1000000):
  ZZ src (f+8) ⟨a,b,t,o,T⟩=some ((T.nodes.length:Int),⟨a2,b2,9,o,{T with nodes:=T.nodes++[n9],ats:=T.ats++[(b:Int)]}⟩):=by
 unfold ZZ;rw[jIY f (.inl rfl) hl G6 N5 G7 hn n h1 h2];rfl
def mileF:Fam9:=⟨26,9,34,fun z=>32::109::105::108::101::115::116::111::110::101::32::110::z.1::z.2::32::114::101::97::99::104::101::100::32::119::104::101::110::32::116::114::117::101::32::59::[],
 fun p o z T=>{T with miles:=T.miles++[⟨nm3 z,(p+11:Nat),(o:Nat),⟨#[]⟩,0,(T.nodes.length:Nat)⟩],nodes:=T.nodes++[⟨2,⟨#[]⟩,2,1,⟨#[]⟩,[],[]⟩],ats:=T.ats++[((p+28:Nat):Int)]}⟩
theorem jIw:mileF.Ok where
 hl _:=rfl
 h32 _:=⟨_,rfl⟩
 hk _ _:=⟨rfl,rfl⟩
 q9 p o z T h:=by
  obtain⟨h1,h2,h3,h4,h5,h6⟩:=h;exact⟨Nat.le_succ_of_le h1,Nat.le_succ_of_le h2,by show(T.miles++[_]).length<=_;simp;omega,Nat.le_succ_of_le h4,by show(T.nodes++[_]).length<=_;simp;omega,by show(T.ats++[_]).length<=_;simp;omega⟩
 go p f g z l h:=⟨_,jHf (jHk (st' :=[1,63,31,32,69,9,58,5]) [109,105,108,101,115,116,111,110,101] 32 26 (by decide) (by decide) (by decide) (by decide+kernel) (by decide+kernel) (by decide) (by decide)
  (jHf (h.go (st' :=[63,31,32,69,9,58,5]) (by decide) (by decide)
  (jHf (jHk (st' :=[32,69,9,58,5]) [114,101,97,99,104,101,100] 32 31 (by decide) (by decide) (by decide) (by decide+kernel) (by decide+kernel) (by decide) (by decide)
  (jHf (jHk (st' :=[69,9,58,5]) [119,104,101,110] 32 32 (by decide) (by decide) (by decide) (by decide+kernel) (by decide+kernel) (by decide) (by decide)
  (jHf (jHk (st' :=[80,78,76,73,71,9,58,5]) [116,114,117,101] 32 46 (by decide) (by decide) (by decide) (by decide+kernel) (by decide+kernel) (by decide) (by decide)
  (jHf (jHj (st' :=[58,5]) 59 9 (by decide) (by decide) (by decide) (by decide) (by decide) (by decide) (by simp) (by decide) (by decide) (.refl _ _))))))))))))⟩
 step src f p q fr' t' o T z l h hd nx hq ho:=by
  have n1:jc src ⟨p+10,p+1,26,o,T⟩=some ⟨p+14,p+11,1,o,T⟩:=jHe (jHd hd 10) 1 3 1 rfl (h.lex _) _ _ _ _;have n2:jc src ⟨p+14,p+11,1,o,T⟩=some ⟨p+22,p+15,31,o,T⟩:=jHe (jHd hd 14) 1 7 31 rfl rfl _ _ _ _;have n3:jc src ⟨p+22,p+15,31,o+1,T⟩=some ⟨p+27,p+23,32,o+1,T⟩:=jHe (jHd hd 22) 1 4 32 rfl rfl _ _ _ _;have n4:jc src ⟨p+27,p+23,32,o+1,T⟩=some ⟨p+32,p+28,46,o+1,T⟩:=jHe (jHd hd 27) 1 4 46 rfl rfl _ _ _ _;have n6:jc src ⟨p+32,p+28,46,o+1,T⟩=some ⟨p+34,p+33,9,o+1,T⟩:=jHe (jHd hd 32) 1 1 9 rfl rfl _ _ _ _;have lx:jh src ⟨p+14,p+11,1,o,T⟩=[110,z.1,z.2]:=by
   rw[jHu (jHd hd 11),show p+14-(p+11)=3 by omega];rfl
  obtain⟨q1,q2,q3,q4,q5,q6⟩:=hq;have n5:∀T,jc src ⟨p+34,p+33,9,o+1,T⟩=some ⟨q,fr',t',o+1,T⟩:=fun T=>nx _ _ _ _;have hx:=jIs (src:=src) (n9:=⟨2,⟨#[]⟩,2,1,⟨#[]⟩,[],[]⟩) (f+12) (t:=46) (by decide) (by decide) (by decide) (by decide) rfl n6 (by omega) (by omega);show ya src (f+20+1) ⟨p+10,p+1,26,o,T⟩=_;rw[ya,jJ5 (show¬(26:Nat)=24 by decide),jJ5 (show¬(26:Nat)=25 by decide),jJ6 rfl];unfold qX VQ zC;rw[n1,jL2,n2,lx,Option.map_some,jL2,jJ6 (show o<1000000 by omega),jL2];unfold inN;rw[jJ5 (show¬(31:Nat)=28 by decide),jL2];unfold vp kZ;rw[jJ5 (show¬(31:Nat)≠31 from fun h=>h rfl)];simp only[n3,jL2];rw[jJ5 (show¬((31:Nat)=32\/(31:Nat)=12)by decide),n4,jL2,show f+20=f+12+8 from rfl,hx,jL2,jJ6 (Int.natCast_nonneg _)];simp only[n5,jL2];rw[jJ6 (show T.miles.length<1000000 by omega)];rfl
def zI9(i:Nat):L2:=(UInt8.ofNat (97+i/26% 26),UInt8.ofNat (97+i% 26))
def zsL(n:Nat):List L2:=(List.range n).map zI9
theorem jH3(k n:Nat):∀i,jHg k n i=jIF k++(List.range i).flatMap fun j=>jHw k++jHr k n j
 |0=>by rw[List.range_zero,List.flatMap_nil,jN7];rfl
 |i+1=>by rw[jHg,jH3 k n i,List.range_succ,jN5,jK1,jL9,List.flatMap_nil,jN7]
def jJL:Nat->Fam9
 |1=>attrF|2=>stageF|3=>mileF|_=>stepF
theorem jJJ(k:Nat):(jJL k).Ok:=by
 unfold jJL;split
 ·exact jIz
 ·exact jIh
 ·exact jIw
 ·exact jIv
theorem jIk(k n:Nat)(hk:k=1\/k=2\/k=3\/k=4):jHo k n=t0L++((zsL n).flatMap (jJL k).dec++[32,125]):=by
 unfold jHo zsL;rw[jH3,List.flatMap_map];rcases hk with rfl|rfl|rfl|rfl<;>exact jK1 ..
theorem jJM{n:Nat}(h:n<=67):∀z∈zsL n,N3 z.1 z.2:=fun z hz=>by
 unfold zsL at hz;obtain⟨i,hi,rfl⟩:=List.mem_map.1 hz;have hi:=List.mem_range.1 hi;have h2:((List.range 67).all fun i=>jR (zI9 i).1&&jR (zI9 i).2&&decide (vO [110,(zI9 i).1,(zI9 i).2]=0))=true:=(by decide+kernel);have h3:=List.all_eq_true.1 h2 i (List.mem_range.2 (by omega));simp only[Bool.and_eq_true,decide_eq_true_eq]at h3;exact⟨h3.1.1,h3.1.2,h3.2⟩
def jI5(k n:Nat):Tre:=(jJL k).all 8 0 (zsL n) ⟨⟨#[116]⟩,5,[],[],[],[],[],[]⟩
def jIe(k n:Nat):Wr9N:=if(if k=6 then n+1 else n)<=jHx k then(0,0)else((jHm k n:Int),jIG k)
def jIM(k n:Nat):Bool:=Kr (jI5 k n) (dOf (jI5 k n)) ⟨#[116]⟩==jIe k n
end Go.Proofs.YtifbhcfdealfaaaGreatDoor

import Derived.Test.YtmmjcbbogokmfaaGreatDoorMb09
set_option maxRecDepth 100000
set_option maxHeartbeats 25600000
namespace Go.Proofs.YtmmjcbbogokmfaaGreatDoor
open Go.Proofs.Tryz
def kw(t:Nat):It:=.tok (t,jO t)
def nmI(w:LB):It:=.tok (1,w)
inductive Dcl where
 |attr (nm:LB) (opt:Bool) (kind:Nat) (d w:Exp9)
 |stage (nm inn:LB) (o c:Exp9)
 |mile (nm inn:LB) (w:Exp9)
 |step (nm:LB) (ps:List (LB×Nat)) (inn:LB) (w:Exp9) (es:List (LB×Exp9))
def Exp9.isNil:Exp9->Bool
 | .nil=>true
 |_=>false
def gI(t:Nat)(e:Exp9):List It:=if e.isNil=true then []else [kw t,.ex e]
def rI(t:Nat)(e:Exp9):List It:=if e.isNil=true then []else [kw t,kw 32,.ex e,kw 9]
def inI(w:LB):List It:=if w=[]then []else [kw 28,nmI w]
def prI:List (LB×Nat)->Nat->List It
 |[],_=>[]
 |p::l,i=>(if 0<i then [kw 8]else [])++(nmI p.1::kw 10::kw (33+p.2)::prI l (i+1))
def efI:List (LB×Exp9)->List It
 |[]=>[]
 |p::l=>(if p.2.isNil=true then [kw 33,nmI p.1,kw 9]else [nmI p.1,kw 11,.ex p.2,kw 9])++efI l
def Dcl.items:Dcl->List It
 | .attr nm opt kind d w=>kw 24::nmI nm::kw 10::((if opt=true then [kw 39]else [])++(kw (33+kind)::(gI 12 d++(gI 32 w++[kw 9]))))
 | .stage nm inn o c=>kw 25::nmI nm::(inI inn++(kw 4::(rI 29 o++(rI 30 c++[kw 5]))))
 | .mile nm inn w=>kw 26::nmI nm::(inI inn++[kw 31,kw 32,.ex w,kw 9])
 | .step nm ps inn w es=>kw 27::nmI nm::kw 6::(prI ps 0++(kw 7::(inI inn++(gI 32 w++(kw 4::(efI es++[kw 5]))))))
def Exp9.okO(e:Exp9):Prop:=e=.nil\/e.ok false
def Ur(w:LB):Prop:=w=[]\/jQ w=true
def JC(k:Nat):Prop:=1<=k/\k<=5
def Dcl.ok:Dcl->Prop
 | .attr nm _ kind d w=>jQ nm=true/\JC kind/\d.okO/\w.okO
 | .stage nm inn o c=>jQ nm=true/\Ur inn/\o.okO/\c.okO
 | .mile nm inn w=>jQ nm=true/\Ur inn/\w.ok false
 | .step nm ps inn w es=>jQ nm=true/\(∀p∈ps,jQ p.1=true/\JC p.2)/\Ur inn/\w.okO/\∀p∈es,jQ p.1=true/\p.2.okO
def JF(nm:LB)(D:List Dcl):List It:=kw 23::nmI nm::kw 4::(D.flatMap Dcl.items++[kw 5])
def OkI(I:List It):Prop:=∀i∈I,It.ok i
theorem OkI.tail{i:It}{I:List It}(h:OkI (i::I)):OkI I:=fun x hx=>h x (jN1 _ hx)
theorem OkI.app{I J:List It}(h:OkI (I++J)):OkI J:=fun x hx=>h x (List.mem_append_right _ hx)
theorem Ka{e:Exp9}(h:e.ok false):e.isNil=false:=by
 cases e with
 |nil=>cases h
 |_=>rfl
theorem jAL:∀n:Fin 11,∀t:Fin 58,jE (58+n.val) t.val=true->(jK (58+n.val) t.val).headD 69=t.val:=by decide+kernel
theorem vU{n:Nat}{st:List Nat}{I:List It}(hn:58<=n/\n<=68)(hs:st.headD 0≠69)(h:AccI (n::st) I):
  ∃k I',I=.tok k::I' /\k.1<58/\((jE n k.1=true/\AccI (jK n k.1++st) (.tok k::I'))\/(jE n k.1=false/\AccI st (.tok k::I'))):=by
 have hr:∀t,t<58->jE n t=true->n=t\/(jK n t++st).headD 0≠69:=by
  intro t ht hb;have h1:=jAL ⟨n-58,by omega⟩ ⟨t,ht⟩;simp only[show 58+(n-58)=n by omega]at h1;have h2:=h1 hb;cases hr:jK n t with
  |nil=>
   rw[hr]at h2;have h3:69=t:=h2;omega
  |cons a l=>
   rw[hr]at h2;have h3:a=t:=h2;refine .inr ?_;show a≠69;omega
 obtain⟨k,I',e,hJ,⟨e2,_⟩|⟨_,hb,ha⟩|⟨hb,_,ha⟩⟩:=uq (by omega) hr (fun _=>hs) h
 ·omega
 ·exact⟨k,I',e,hJ,.inl ⟨hb,by rw[<-e];exact ha⟩⟩
 ·exact⟨k,I',e,hJ,.inr ⟨hb,by rw[<-e];exact ha⟩⟩
theorem KJ{a:Nat}{st:List Nat}(h:a≠69):(a::st).headD 0≠69:=h
theorem vw{n:Nat}{st:List Nat}{I:List It}(hn:4<=n/\n<58)(ho:OkI I)(h:AccI (n::st) I):∃I',I=kw n::I' /\AccI st I' /\OkI I' :=by
 obtain⟨w,I',rfl,ha⟩:=up hn.2 h;have h1:jHk (n,w):=ho _ (List.mem_cons_self ..);have h2:w=jO n:=h1.2.2 hn.1;subst h2;exact⟨I',rfl,ha,ho.tail⟩
theorem YC{n:Nat}{k:Tok}{st:List Nat}{I:List It}(hn:4<=n/\n<58)(ho:OkI (.tok k::I))(h:AccI (n::st) (.tok k::I)):It.tok k=kw n/\AccI st I/\OkI I:=by
 obtain⟨I',e,h1,h2⟩:=vw hn ho h;injection e with e1 e2;subst e2;exact⟨e1,h1,h2⟩
theorem VH{st:List Nat}{I:List It}(ho:OkI I)(h:AccI (1::st) I):∃w I',I=nmI w::I' /\jQ w=true/\AccI st I' /\OkI I' :=by
 obtain⟨w,I',rfl,ha⟩:=up (by decide) h;have h1:jHk (1,w):=ho _ (List.mem_cons_self ..);exact⟨w,I',rfl,h1.2.1 rfl,ha,ho.tail⟩
theorem jJG{st:List Nat}{I:List It}(ho:OkI I)(h:AccI (69::st) I):∃e I',I=.ex e::I' /\e.ok false/\AccI st I' /\OkI I' :=by
 obtain⟨e,I',rfl,ha⟩:=jHd h;exact⟨e,I',rfl,ho _ (List.mem_cons_self ..),ha,ho.tail⟩
theorem jJr{st:List Nat}{I:List It}(ho:OkI I)(h:AccI (59::60::st) I):∃b I',I=(if b=true then [kw 39]else [])++I' /\AccI (60::st) I' /\OkI I' :=by
 obtain⟨k,I',rfl,hJ,⟨hb,ha⟩|⟨hb,ha⟩⟩:=vU (by decide) (KJ (by decide)) h
 ·have ht:k.1=39:=(by simpa [jE]using hb);rw[show jK 59 k.1=[39]by rw[ht];rfl]at ha;obtain⟨e,h1,h2⟩:=YC (by decide) ho ha;exact⟨true,I',by rw[e];rfl,h1,h2⟩
 ·exact⟨false,_,rfl,ha,ho⟩
theorem jFc{st:List Nat}{I:List It}(hs:st.headD 0≠69)(ho:OkI I)(h:AccI (60::st) I):∃k I',I=kw (33+k)::I' /\JC k/\AccI st I' /\OkI I' :=by
 obtain⟨k,I',rfl,hJ,⟨hb,ha⟩|⟨hb,ha⟩⟩:=vU (by decide) hs h
 ·have ht:34<=k.1/\k.1<=38:=(by simpa [jE]using hb);have hr:jK 60 k.1=[k.1]:=by
   have:∀t:Fin 58,jE 60 t.val=true->jK 60 t.val=[t.val]:=(by decide+kernel);exact this ⟨k.1,hJ⟩ hb
  rw[hr]at ha;obtain⟨e,h1,h2⟩:=YC (by omega) ho ha;exact⟨k.1-33,I',by rw[e,show 33+(k.1-33)=k.1 by omega],by unfold JC;omega,h1,h2⟩
 ·exfalso;cases h with
  | @tak _ f _ st' _ h69 hJ hm ht ha=>
   rw[kI,jJ5 (by rw[hb];decide)]at hm;cases hm
theorem a_g(t n:Nat)(hn:(t=12/\n=61)\/(t=32/\n=62)){st:List Nat}{I:List It}(hs:st.headD 0≠69)(ho:OkI I)(h:AccI (n::st) I):∃e I',I=gI t e++I' /\e.okO/\AccI st I' /\OkI I' :=by
 obtain⟨k,I',rfl,hJ,⟨hb,ha⟩|⟨hb,ha⟩⟩:=vU (by omega) hs h
 ·have hr:k.1=t/\jK n k.1=[t,69]:=by
   rcases hn with⟨rfl,rfl⟩|⟨rfl,rfl⟩
   ·have ht:k.1=12:=(by simpa [jE]using hb);exact⟨ht,by rw[ht];rfl⟩
   ·have ht:k.1=32:=(by simpa [jE]using hb);exact⟨ht,by rw[ht];rfl⟩
  rw[hr.2]at ha;obtain⟨e,h1,h2⟩:=YC (by omega) ho ha;obtain⟨x,I2,rfl,hx,h3,h4⟩:=jJG h2 h1;exact⟨x,I2,by rw[e,gI,Ka hx];rfl,.inr hx,h3,h4⟩
 ·exact⟨.nil,_,rfl,.inl rfl,ha,ho⟩
theorem a_r(t n:Nat)(hn:(t=29/\n=64)\/(t=30/\n=65)){st:List Nat}{I:List It}(hs:st.headD 0≠69)(ho:OkI I)(h:AccI (n::st) I):∃e I',I=rI t e++I' /\e.okO/\AccI st I' /\OkI I' :=by
 obtain⟨k,I',rfl,hJ,⟨hb,ha⟩|⟨hb,ha⟩⟩:=vU (by omega) hs h
 ·have hr:k.1=t/\jK n k.1=[t,32,69,9]:=by
   rcases hn with⟨rfl,rfl⟩|⟨rfl,rfl⟩
   ·have ht:k.1=29:=(by simpa [jE]using hb);exact⟨ht,by rw[ht];rfl⟩
   ·have ht:k.1=30:=(by simpa [jE]using hb);exact⟨ht,by rw[ht];rfl⟩
  rw[hr.2]at ha;obtain⟨e,h1,h2⟩:=YC (by omega) ho ha;obtain⟨I2,rfl,h1,h2⟩:=vw (by decide) h2 h1;obtain⟨x,I3,rfl,hx,h3,h4⟩:=jJG h2 h1;obtain⟨I4,rfl,h5,h6⟩:=vw (by decide) h4 h3;exact⟨x,I4,by rw[e,rI,Ka hx];rfl,.inr hx,h5,h6⟩
 ·exact⟨.nil,_,rfl,.inl rfl,ha,ho⟩
theorem Ki{w:LB}(h:jQ w=true):w≠ []:=(vu h).1
theorem jJs{st:List Nat}{I:List It}(hs:st.headD 0≠69)(ho:OkI I)(h:AccI (63::st) I):∃w I',I=inI w++I' /\Ur w/\AccI st I' /\OkI I' :=by
 obtain⟨k,I',rfl,hJ,⟨hb,ha⟩|⟨hb,ha⟩⟩:=vU (by decide) hs h
 ·have ht:k.1=28:=(by simpa [jE]using hb);rw[show jK 63 k.1=[28,1]by rw[ht];rfl]at ha;obtain⟨e,h1,h2⟩:=YC (by decide) ho ha;obtain⟨w,I2,rfl,hw,h3,h4⟩:=VH h2 h1;exact⟨w,I2,by rw[e,inI,jJ5 (Ki hw)];rfl,.inr hw,h3,h4⟩
 ·exact⟨[],_,rfl,.inl rfl,ha,ho⟩
theorem UR:∀(m:Nat) (I:List It) (st:List Nat) (i:Nat),I.length<=m->OkI I->AccI ((if i=0 then 66 else 67)::7::st) I->∃ps I',I=prI ps i++I' /\(∀p∈ps,jQ p.1=true/\JC p.2)/\AccI (7::st) I' /\OkI I'
 |m,I,st,i,hm,ho,h=>by
  have stop:∀I,AccI (7::st) I->OkI I->∃ps I',I=prI ps i++I' /\(∀p∈ps,jQ p.1=true/\JC p.2)/\AccI (7::st) I' /\OkI I' :=fun I ha ho=>⟨[],I,rfl,fun p hp=>(by cases hp),ha,ho⟩;have go:∀I2,AccI (1::10::60::67::7::st) I2->OkI I2->I2.length<=m->∃ps I',I2=nmI (ps.headD ([],0)).1::kw 10::kw (33+(ps.headD ([],0)).2)::prI ps.tail (i+1)++I' /\ps≠ []/\(∀p∈ps,jQ p.1=true/\JC p.2)/\AccI (7::st) I' /\OkI I' :=by
   intro I2 ha L1 hlen;obtain⟨w,I3,rfl,hw,h1,h2⟩:=VH L1 ha;obtain⟨I4,rfl,h1,h2⟩:=vw (by decide) h2 h1;obtain⟨k,I5,rfl,hk,h1,h2⟩:=jFc (KJ (by decide)) h2 h1;simp only[jK6]at hlen;cases m with
   |zero=>omega
   |succ m=>
    obtain⟨ps,I6,rfl,hp,h1,h2⟩:=UR m I5 st (i+1) (by omega) h2 (by rw[jJ5 (Nat.succ_ne_zero i)];exact h1);refine⟨(w,k)::ps,I6,rfl,List.cons_ne_nil _ _,fun p Nn=> ?_,h1,h2⟩;rcases jN4 Nn with rfl|Nn
    ·exact⟨hw,hk⟩
    ·exact hp p Nn
  rcases Nat.eq_zero_or_pos i with h0|h0
  ·subst h0;rw[jJ6 rfl]at h;obtain⟨k,I',rfl,hJ,⟨hb,ha⟩|⟨hb,ha⟩⟩:=vU (by decide) (KJ (by decide)) h
   ·have ht:k.1=1:=(by simpa [jE]using hb);rw[show jK 66 k.1=[1,10,60,67]by rw[ht];rfl]at ha;obtain⟨ps,I2,e,Fa,hp,h1,h2⟩:=go _ ha ho hm;cases ps with
    |nil=>exact absurd rfl Fa
    |cons p ps=>exact⟨p::ps,I2,by rw[e];rfl,hp,h1,h2⟩
   ·exact stop _ ha ho
  ·rw[jJ5 (by omega)]at h;obtain⟨k,I',rfl,hJ,⟨hb,ha⟩|⟨hb,ha⟩⟩:=vU (by decide) (KJ (by decide)) h
   ·have ht:k.1=8:=(by simpa [jE]using hb);rw[show jK 67 k.1=[8,1,10,60,67]by rw[ht];rfl]at ha;obtain⟨e,h1,h2⟩:=YC (by decide) ho ha;obtain⟨ps,I2,e2,Fa,hp,h1,h2⟩:=go _ h1 h2 (by rw[jK6]at hm;omega);cases ps with
    |nil=>exact absurd rfl Fa
    |cons p ps=>exact⟨p::ps,I2,by rw[e,e2,prI,jJ6 h0];rfl,hp,h1,h2⟩
   ·exact stop _ ha ho
theorem ZU:∀(m:Nat) (I:List It) (st:List Nat),I.length<=m->OkI I->AccI (68::5::st) I->∃es I',I=efI es++I' /\(∀p∈es,jQ p.1=true/\p.2.okO)/\AccI (5::st) I' /\OkI I'
 |m,I,st,hm,ho,h=>by
  obtain⟨k,I',rfl,hJ,⟨hb,ha⟩|⟨hb,ha⟩⟩:=vU (by decide) (KJ (by decide)) h
  ·have ht:k.1=1\/k.1=33:=(by simpa [jE]using hb);rw[jK6]at hm;by_cases h33:k.1=33
   ·rw[show jK 68 k.1=[33,1,9,68]by rw[h33];rfl]at ha;obtain⟨e,h1,h2⟩:=YC (by decide) ho ha;obtain⟨w,I2,rfl,hw,h1,h2⟩:=VH h2 h1;obtain⟨I3,rfl,h1,h2⟩:=vw (by decide) h2 h1;simp only[jK6]at hm;cases m with
    |zero=>omega
    |succ m=>
     obtain⟨es,I4,rfl,hp,h1,h2⟩:=ZU m I3 st (by omega) h2 h1;refine⟨(w,.nil)::es,I4,by rw[e];rfl,fun p Nn=> ?_,h1,h2⟩;rcases jN4 Nn with rfl|Nn
     ·exact⟨hw,.inl rfl⟩
     ·exact hp p Nn
   ·have h1:k.1=1:=(by omega);rw[show jK 68 k.1=[1,11,69,9,68]by rw[h1];rfl]at ha;obtain⟨w,I1,e,hw,h1,h2⟩:=VH ho ha;injection e with e1 e2;subst e2;obtain⟨I2,rfl,h1,h2⟩:=vw (by decide) h2 h1;obtain⟨x,I3,rfl,hx,h1,h2⟩:=jJG h2 h1;obtain⟨I4,rfl,h1,h2⟩:=vw (by decide) h2 h1;simp only[jK6]at hm;cases m with
    |zero=>omega
    |succ m=>
     obtain⟨es,I5,rfl,hp,h1,h2⟩:=ZU m I4 st (by omega) h2 h1;refine⟨(w,x)::es,I5,by rw[e1,efI];simp only;rw[Ka hx];rfl,fun p Nn=> ?_,h1,h2⟩;rcases jN4 Nn with rfl|Nn
     ·exact⟨hw,.inr hx⟩
     ·exact hp p Nn
  ·exact⟨[],_,rfl,fun p hp=>(by cases hp),ha,ho⟩
theorem jC8:∀(m:Nat) (I:List It),I.length<=m->OkI I->AccI [58,5] I->∃D:List Dcl,I=D.flatMap Dcl.items++[kw 5]/\∀d∈D,d.ok
 |m,I,hm,ho,h=>by
  obtain⟨k,I',rfl,hJ,⟨hb,ha⟩|⟨hb,ha⟩⟩:=vU (by decide) (KJ (by decide)) h
  ·have ht:24<=k.1/\k.1<=27:=(by simpa [jE]using hb);have next:∀(d:Dcl) (I2:List It),It.tok k::I' =d.items++I2->d.ok->AccI [58,5] I2->OkI I2->∃D:List Dcl,It.tok k::I' =D.flatMap Dcl.items++[kw 5]/\∀d∈D,d.ok:=by
    intro d I2 e hd h1 h2;have hlen:0<d.items.length:=by cases d<;>simp[Dcl.items]
    have Gg:=congrArg List.length e;rw[jJ4]at Gg;cases m with
    |zero=>simp at hm
    |succ m=>
     obtain⟨D,rfl,hD⟩:=jC8 m I2 (by omega) h2 h1;refine⟨d::D,by rw[e,jL9,jK1],fun x hx=> ?_⟩;rcases jN4 hx with rfl|hx
     ·exact hd
     ·exact hD x hx
   by_cases h24:k.1=24
   ·rw[show jK 58 k.1=[24,1,10,59,60,61,62,9,58]by rw[h24];rfl]at ha;obtain⟨e,h1,h2⟩:=YC (by decide) ho ha;obtain⟨nm,I1,rfl,FS,h1,h2⟩:=VH h2 h1;obtain⟨I2,rfl,h1,h2⟩:=vw (by decide) h2 h1;obtain⟨b,I3,rfl,h1,h2⟩:=jJr h2 h1;obtain⟨kd,I4,rfl,Nq,h1,h2⟩:=jFc (KJ (by decide)) h2 h1;obtain⟨d,I5,rfl,hd,h1,h2⟩:=a_g 12 61 (.inl ⟨rfl,rfl⟩) (KJ (by decide)) h2 h1;obtain⟨w,I6,rfl,hw,h1,h2⟩:=a_g 32 62 (.inr ⟨rfl,rfl⟩) (KJ (by decide)) h2 h1;obtain⟨I7,rfl,h1,h2⟩:=vw (by decide) h2 h1;exact next (.attr nm b kd d w) I7 (by rw[e];simp[Dcl.items,List.append_assoc]) ⟨FS,Nq,hd,hw⟩ h1 h2
   by_cases h25:k.1=25
   ·rw[show jK 58 k.1=[25,1,63,4,64,65,5,58]by rw[h25];rfl]at ha;obtain⟨e,h1,h2⟩:=YC (by decide) ho ha;obtain⟨nm,I1,rfl,FS,h1,h2⟩:=VH h2 h1;obtain⟨inn,I2,rfl,FB,h1,h2⟩:=jJs (KJ (by decide)) h2 h1;obtain⟨I3,rfl,h1,h2⟩:=vw (by decide) h2 h1;obtain⟨o,I4,rfl,hU,h1,h2⟩:=a_r 29 64 (.inl ⟨rfl,rfl⟩) (KJ (by decide)) h2 h1;obtain⟨c,I5,rfl,hc,h1,h2⟩:=a_r 30 65 (.inr ⟨rfl,rfl⟩) (KJ (by decide)) h2 h1;obtain⟨I6,rfl,h1,h2⟩:=vw (by decide) h2 h1;exact next (.stage nm inn o c) I6 (by rw[e];simp[Dcl.items,List.append_assoc]) ⟨FS,FB,hU,hc⟩ h1 h2
   by_cases h26:k.1=26
   ·rw[show jK 58 k.1=[26,1,63,31,32,69,9,58]by rw[h26];rfl]at ha;obtain⟨e,h1,h2⟩:=YC (by decide) ho ha;obtain⟨nm,I1,rfl,FS,h1,h2⟩:=VH h2 h1;obtain⟨inn,I2,rfl,FB,h1,h2⟩:=jJs (KJ (by decide)) h2 h1;obtain⟨I3,rfl,h1,h2⟩:=vw (by decide) h2 h1;obtain⟨I4,rfl,h1,h2⟩:=vw (by decide) h2 h1;obtain⟨w,I5,rfl,hw,h1,h2⟩:=jJG h2 h1;obtain⟨I6,rfl,h1,h2⟩:=vw (by decide) h2 h1;exact next (.mile nm inn w) I6 (by rw[e];simp[Dcl.items,List.append_assoc]) ⟨FS,FB,hw⟩ h1 h2
   ·have WG:k.1=27:=(by omega);rw[show jK 58 k.1=[27,1,6,66,7,63,62,4,68,5,58]by rw[WG];rfl]at ha;obtain⟨e,h1,h2⟩:=YC (by decide) ho ha;obtain⟨nm,I1,rfl,FS,h1,h2⟩:=VH h2 h1;obtain⟨I2,rfl,h1,h2⟩:=vw (by decide) h2 h1;obtain⟨ps,I3,rfl,Wj,h1,h2⟩:=UR _ I2 _ 0 (jL3 _) h2 (by rw[jJ6 rfl];exact h1);obtain⟨I4,rfl,h1,h2⟩:=vw (by decide) h2 h1;obtain⟨inn,I5,rfl,FB,h1,h2⟩:=jJs (KJ (by decide)) h2 h1;obtain⟨w,I6,rfl,hw,h1,h2⟩:=a_g 32 62 (.inr ⟨rfl,rfl⟩) (KJ (by decide)) h2 h1;obtain⟨I7,rfl,h1,h2⟩:=vw (by decide) h2 h1;obtain⟨es,I8,rfl,WE,h1,h2⟩:=ZU _ I7 _ (jL3 _) h2 h1;obtain⟨I9,rfl,h1,h2⟩:=vw (by decide) h2 h1;exact next (.step nm ps inn w es) I9 (by rw[e];simp[Dcl.items,List.append_assoc]) ⟨FS,Wj,FB,hw,WE⟩ h1 h2
  ·obtain⟨e,h1,h2⟩:=YC (by decide) ho ha;cases h1 with
   |done=>exact⟨[],by rw[e];rfl,fun d hd=>by cases hd⟩
   |tak _ _ hmm _ _=>rw[kI]at hmm;cases hmm
theorem jC7{I:List It}(ho:OkI I)(h:AccI [23,1,4,58,5] I):∃nm D,I=JF nm D/\jQ nm=true/\∀d∈D,d.ok:=by
 obtain⟨I1,rfl,h1,h2⟩:=vw (by decide) ho h;obtain⟨nm,I2,rfl,FS,h1,h2⟩:=VH h2 h1;obtain⟨I3,rfl,h1,h2⟩:=vw (by decide) h2 h1;obtain⟨D,rfl,hD⟩:=jC8 _ I3 (jL3 _) h2 h1;exact⟨nm,D,rfl,FS,hD⟩
def Li(src:LB)(r:Rdr)(I:List It):Prop:=∃k,Look src r k/\Pit (tks src k) I []
section
variable{src:LB}{r r1:Rdr}{k:Tok}{I:List It}
theorem Li.head(h:Li src r (.tok k::I)):r.t=k.1/\kC src r=k.2:=by
 obtain⟨K,hl,hp⟩:=h;generalize hT:tks src K=T at hp;cases hp with
 |tok hp=>
  obtain⟨k0,ks,rfl,e1,e2⟩:=jy hT;exact⟨by rw[hl.1,<-e1];rfl,by rw[VY hl,e1]⟩
theorem Li.next(h:Li src r (.tok k::I))(hn:jw src r=some r1):Li src r1 I/\r1.tree=r.tree/\r1.order=r.order:=by
 obtain⟨K,hl,hp⟩:=h;generalize hT:tks src K=T at hp;cases hp with
 |tok hp=>
  obtain⟨k0,ks,rfl,e1,e2⟩:=jy hT;obtain⟨h1,h2,h3⟩:=qn hl hn;exact⟨⟨ks,h1,by rw[e2];exact hp⟩,h2,h3⟩
structure Ga(src:LB)(r r' :Rdr)(l:List Nd)(I:List It):Prop where
 li:Li src r' I
 nodes:r'.tree.nodes=r.tree.nodes++l
 husk:r'.tree.husk=r.tree.husk
 order:r'.order=r.order
theorem Ga.refl(h:Li src r I):Ga src r r [] I:=⟨h,(jN7 _).symm,rfl,rfl⟩
theorem Ga.trans{r2:Rdr}{l l2:List Nd}{J:List It}(h:Ga src r r1 l I)(k:Ga src r1 r2 l2 J):Ga src r r2 (l++l2) J:=
 ⟨k.li,by rw[k.nodes,h.nodes,jK1],k.husk.trans h.husk,k.order.trans h.order⟩
theorem Ga.next{r2:Rdr}{l:List Nd}(h:Ga src r r1 l (.tok k::I))(hn:jw src r1=some r2):Ga src r r2 l I:=by
 obtain⟨h1,h2,h3⟩:=h.li.next hn;exact⟨h1,by rw[h2];exact h.nodes,by rw[h2];exact h.husk,h3.trans h.order⟩
theorem Ga.len{l:List Nd}(h:Ga src r r1 l I):r1.tree.nodes.length=r.tree.nodes.length+l.length:=by rw[h.nodes,jJ4]
theorem Li.ex{e:Exp9}{f:Nat}{y:Int×Rdr}(h:Li src r (.ex e::I))(hy:ud src f r=some y):y.1=e.root r.tree.nodes.length/\Ga src r y.2 (e.lay r.tree.nodes.length) I:=by
 obtain⟨K,hl,hp⟩:=h;generalize hT:tks src K=T at hp;cases hp with
 | @ex _ t2 _ _ _ ha hp=>
  unfold ud at hy;obtain⟨z,hz,rfl⟩:=jM4 hy;obtain⟨h1,_,h3⟩:=(jIK ha:Mot src .expr _ _ _) f r K z _ hl hT rfl hz;obtain⟨k',l1,l2⟩:=h3.look;exact⟨h1,⟨k',l1,by rw[l2];exact hp⟩,h3.nodes,h3.husk,h3.order⟩
end
def Exp9.at_(e:Exp9)(b:Nat):Int:=if e.isNil=true then-1 else e.root b
theorem Jr{e:Exp9}(h:e.isNil=true):e=.nil:=by
 cases e with
 |nil=>rfl
 |_=>cases h
section
variable{src:LB}{f:Nat}{r:Rdr}
theorem XY{t0:Nat}{nm:LB}{I:List It}{d:BA×Int×Int×Rdr}(h:Li src r (kw t0::nmI nm::I))(hd:Zf src r=some d):
  d.1=⟨nm.toArray⟩/\d.2.2.1=(r.order:Int)/\Li src d.2.2.2 I/\d.2.2.2.tree=r.tree/\d.2.2.2.order=r.order+1:=by
 unfold Zf at hd;obtain⟨r1,n1,hd⟩:=jM2 hd;obtain⟨w,n2,hd⟩:=jM2 hd;obtain⟨l1,t1,o1⟩:=h.next n1;unfold ze at n2;obtain⟨r2,n3,rfl⟩:=jM4 n2;obtain⟨l2,t2,o2⟩:=l1.next n3;split at hd
 ·obtain rfl:=jL5 hd;refine⟨by rw[l1.head.2],by rw[o2,o1],?_,t2.trans t1,by simp only[o2,o1]⟩;obtain⟨K,hl,hp⟩:=l2;exact⟨K,yt hl rfl rfl rfl,hp⟩
 ·cases hd
theorem xq{nm:LB}{I:List It}{w:BA×Int×Rdr}(h:Li src r (nmI nm::I))(hn:ze src r=some w):w.1=⟨nm.toArray⟩/\Li src w.2.2 I/\w.2.2.tree=r.tree/\w.2.2.order=r.order:=by
 unfold ze at hn;obtain⟨r2,n3,rfl⟩:=jM4 hn;exact⟨by rw[h.head.2],h.next n3⟩
theorem jJC{w:LB}{q:Tok}{I:List It}{i:BA×Int×Rdr}(hq:q.1≠28)(h:Li src r (inI w++ .tok q::I))(hi:inN src r=some i):
  i.1=⟨w.toArray⟩/\Li src i.2.2 (.tok q::I)/\i.2.2.tree=r.tree/\i.2.2.order=r.order:=by
 unfold inN at hi;unfold inI at h;by_cases hw:w=[]
 ·rw[jJ6 hw]at h;rw[jJ5 (by rw[(show Li src r (.tok q::I)from h).head.1];exact hq)]at hi;obtain rfl:=jL5 hi;subst hw;exact⟨rfl,h,rfl,rfl⟩
 ·rw[jJ5 hw]at h;have h:Li src r (kw 28::nmI w:: .tok q::I):=h;rw[jJ6 h.head.1]at hi;obtain⟨r1,n1,hi⟩:=jM2 hi;obtain⟨l1,t1,o1⟩:=h.next n1;obtain⟨e1,l2,t2,o2⟩:=xq l1 hi;exact⟨e1,l2,t2.trans t1,o2.trans o1⟩
theorem jFH{n:Nat}{I:List It}{k:Int×Rdr}(hn:JC n)(h:Li src r (kw (33+n)::I))(hk:qx src r=some k):k.1=(n:Int)/\Li src k.2 I/\k.2.tree=r.tree/\k.2.order=r.order:=by
 unfold qx at hk;have ht:r.t=33+n:=h.head.1;unfold JC at hn;rw[jJ6 (by omega)]at hk;obtain⟨r1,n1,hk⟩:=jM2 hk;obtain rfl:=jL5 hk;exact⟨by simp only[ht];omega,h.next n1⟩
theorem jJU{b:Bool}{n:Nat}{I:List It}{o:Bool×Rdr}(hn:JC n)(h:Li src r ((if b=true then [kw 39]else [])++kw (33+n)::I))(ho:jn src 39 r=some o):o.1=b/\Li src o.2 (kw (33+n)::I)/\o.2.tree=r.tree/\o.2.order=r.order:=by
 unfold jn at ho;cases b with
 |true=>
  have h:Li src r (kw 39::kw (33+n)::I):=h;rw[jJ6 h.head.1]at ho;obtain⟨r1,n1,rfl⟩:=jM4 ho;exact⟨rfl,h.next n1⟩
 |false=>
  have h:Li src r (kw (33+n)::I):=h;have ht:r.t=33+n:=h.head.1;unfold JC at hn;rw[jJ5 (by omega)]at ho;obtain rfl:=jL5 ho;exact⟨rfl,h,rfl,rfl⟩
theorem r_g{t:Nat}(ht:t=12\/t=32){e:Exp9}{q:Tok}{I:List It}{k:Int×Rdr}(hq:q.1≠t)(h:Li src r (gI t e++ .tok q::I))(hk:vQ src f t r=some k):k.1=e.at_ r.tree.nodes.length/\Ga src r k.2 (e.lay r.tree.nodes.length) (.tok q::I):=by
 unfold vQ at hk;unfold gI at h;unfold Exp9.at_;by_cases hn:e.isNil=true
 ·rw[jJ6 hn]at h⊢;have h:Li src r (.tok q::I):=h;rw[jJ6 (by rw[h.head.1];exact hq)]at hk;obtain rfl:=jL5 hk;rw[Jr hn];exact⟨rfl,Ga.refl h⟩
 ·rw[jJ5 hn]at h⊢;have h:Li src r (kw t:: .ex e:: .tok q::I):=h;rw[jJ5 (by rw[h.head.1];exact fun e=>e rfl)]at hk;obtain⟨r1,n1,hk⟩:=jM2 hk;rw[jJ6 (by omega)]at hk;obtain⟨l1,t1,o1⟩:=h.next n1;obtain⟨e1,g⟩:=l1.ex hk;rw[t1]at e1 g;exact⟨e1,g.li,by rw[g.nodes,t1],by rw[g.husk,t1],g.order.trans o1⟩
theorem r_r{t:Nat}(ht:t=29\/t=30){e:Exp9}{q:Tok}{I:List It}{k:Int×Rdr}(hq:q.1≠t)(h:Li src r (rI t e++ .tok q::I))(hk:yU src f t r=some k):k.1=e.at_ r.tree.nodes.length/\Ga src r k.2 (e.lay r.tree.nodes.length) (.tok q::I):=by
 unfold yU vQ at hk;unfold rI at h;unfold Exp9.at_;by_cases hn:e.isNil=true
 ·rw[jJ6 hn]at h⊢;have h:Li src r (.tok q::I):=h;rw[jJ6 (by rw[h.head.1];exact hq)]at hk;simp only[jL2]at hk;rw[jJ5 (by decide)]at hk;obtain rfl:=jL5 hk;rw[Jr hn];exact⟨rfl,Ga.refl h⟩
 ·rw[jJ5 hn]at h⊢;have h:Li src r (kw t::kw 32:: .ex e::kw 9:: .tok q::I):=h;rw[jJ5 (by rw[h.head.1];exact fun e=>e rfl)]at hk;obtain⟨k1,hk,Fg⟩:=jM2 hk;obtain⟨r1,n1,hk⟩:=jM2 hk;rw[jJ5 (by omega)]at hk;obtain⟨r2,n2,hk⟩:=jM2 hk;have g2:=((Ga.refl h).next n1).next n2;obtain⟨e1,g⟩:=g2.li.ex hk;have hl:=g2.len;simp only[jN2,Nat.add_zero]at hl;rw[hl]at e1 g;rw[e1,jJ6 (by unfold Exp9.root;omega)]at Fg;obtain⟨r3,n3,Fg⟩:=jM2 Fg;obtain rfl:=jL5 Fg;exact⟨rfl,(g2.trans g).next n3⟩
theorem jH5{e:Exp9}{I:List It}{k:Int×Rdr}(h:Li src r (kw 31::kw 32:: .ex e::kw 9::I))(hk:yU src f 31 r=some k):k.1=e.root r.tree.nodes.length/\Ga src r k.2 (e.lay r.tree.nodes.length) I:=by
 unfold yU vQ at hk;rw[jJ5 (by rw[h.head.1];exact fun e=>e rfl)]at hk;obtain⟨k1,hk,Fg⟩:=jM2 hk;obtain⟨r1,n1,hk⟩:=jM2 hk;rw[jJ5 (by decide)]at hk;obtain⟨r2,n2,hk⟩:=jM2 hk;have g2:=((Ga.refl h).next n1).next n2;obtain⟨e1,g⟩:=g2.li.ex hk;have hl:=g2.len;simp only[jN2,Nat.add_zero]at hl;rw[hl]at e1 g;rw[e1,jJ6 (by unfold Exp9.root;omega)]at Fg;obtain⟨r3,n3,Fg⟩:=jM2 Fg;obtain rfl:=jL5 Fg;exact⟨rfl,(g2.trans g).next n3⟩
end
def Prm.str(p:Prm):Prm:={p with at_:=0}
def Eff.str(p:Eff):Eff:={p with at_:=0}
def Atr.str(p:Atr):Atr:={p with at_:=0}
def Stg.str(p:Stg):Stg:={p with at_:=0,inAt:=0}
def Mil.str(p:Mil):Mil:={p with at_:=0,inAt:=0}
def Stp.str(p:Stp):Stp:={p with at_:=0,inAt:=0,params:=p.params.map Prm.str,effects:=p.effects.map Eff.str}
def Tre.str(t:Tre):Tre:=⟨t.name,0,[],t.nodes,t.steps.map Stp.str,t.attrs.map Atr.str,t.stages.map Stg.str,t.miles.map Mil.str⟩
def jDs(p:LB×Nat):Prm:=⟨⟨p.1.toArray⟩,0,(p.2:Int)⟩
def efT:List (LB×Exp9)->Nat->List Eff
 |[],_=>[]
 |p::l,b=>⟨⟨p.1.toArray⟩,0,p.2.at_ b⟩::efT l (b+p.2.size)
def efL:List (LB×Exp9)->Nat->List Nd
 |[],_=>[]
 |p::l,b=>p.2.lay b++efL l (b+p.2.size)
def efZ:List (LB×Exp9)->Nat
 |[]=>0
 |p::l=>p.2.size+efZ l
theorem jCg:∀(l:List (LB×Exp9)) (b:Nat),(efL l b).length=efZ l
 |[],_=>rfl
 |p::l,b=>by simp[efL,efZ,Exp9.lay_len,jCg l]
def Dcl.nodes:Dcl->Nat->List Nd
 | .attr _ _ _ d w,b=>d.lay b++w.lay (b+d.size)
 | .stage _ _ o c,b=>o.lay b++c.lay (b+o.size)
 | .mile _ _ w,b=>w.lay b
 | .step _ _ _ w es,b=>w.lay b++efL es (b+w.size)
def Dcl.add(x:Dcl)(o:Nat)(t:Tre):Tre:=match x with
 | .attr nm opt kind d w=>{t with nodes:=t.nodes++x.nodes t.nodes.length,attrs:=t.attrs++[⟨⟨nm.toArray⟩,0,(o:Int),opt,(kind:Int),d.at_ t.nodes.length,w.at_ (t.nodes.length+d.size)⟩]}
 | .stage nm inn op c=>{t with nodes:=t.nodes++x.nodes t.nodes.length,stages:=t.stages++[⟨⟨nm.toArray⟩,0,(o:Int),⟨inn.toArray⟩,0,op.at_ t.nodes.length,c.at_ (t.nodes.length+op.size)⟩]}
 | .mile nm inn w=>{t with nodes:=t.nodes++x.nodes t.nodes.length,miles:=t.miles++[⟨⟨nm.toArray⟩,0,(o:Int),⟨inn.toArray⟩,0,w.root t.nodes.length⟩]}
 | .step nm ps inn w es=>{t with nodes:=t.nodes++x.nodes t.nodes.length,steps:=t.steps++[⟨⟨nm.toArray⟩,0,(o:Int),ps.map jDs,⟨inn.toArray⟩,0,w.at_ t.nodes.length,efT es (t.nodes.length+w.size)⟩]}
def vR:List Dcl->Nat->Tre->Tre
 |[],_,t=>t
 |d::D,o,t=>vR D (o+1) (d.add o t)
def jAX(nm:LB)(D:List Dcl):Tre:=vR D 0 ⟨⟨nm.toArray⟩,0,[],[],[],[],[],[]⟩
end Go.Proofs.YtmmjcbbogokmfaaGreatDoor

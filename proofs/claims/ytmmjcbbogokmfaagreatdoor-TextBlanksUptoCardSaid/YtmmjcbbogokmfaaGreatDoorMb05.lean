import Derived.Test.YtmmjcbbogokmfaaGreatDoorMb04
set_option maxRecDepth 100000
set_option maxHeartbeats 25600000
namespace Go.Proofs.YtmmjcbbogokmfaaGreatDoor
open Go.Proofs.Tryz
theorem vP{n:Nat}(hn:58<=n){st:List Nat}{k:Tk}{ts:List Tk}(hb:jE n k.t=true)(h:Acc (jK n k.t++st) (k::ts)):Acc (n::st) (k::ts):=by
 generalize hs:jK n k.t++st=s at h;cases h with
 | @tak _ f _ st' _ hJ hm ht ha=>
  refine .tak (f:=f+1) hJ (by rw[kI,jJ6 hb]) ?_ ha;rw[kO,jJ5 (by omega),hs];exact ht
theorem qp{n:Nat}{st:List Nat}{k:Tk}{ts:List Tk}(hb:jE n k.t=false)(he:kX n=true)(h:Acc st (k::ts)):Acc (n::st) (k::ts):=by
 cases h with
 | @tak _ f _ st' _ hJ hm ht ha=>
  have:=zx n he;refine .tak (f:=f+1) hJ (by rw[kI,jJ5 (by rw[hb];decide),jJ6 he];exact hm) ?_ ha;rw[kO,jJ5 (by omega),zW n k.t hb,jN8];exact ht
theorem Qu:∀t:Fin 58,jE t.val t.val=true:=by decide+kernel
theorem kV{n:Nat}{st:List Nat}{k:Tk}{ts:List Tk}(hn:k.t=n)(hJ:n<58)(h:Acc st ts):Acc (n::st) (k::ts):=by
 subst hn;refine .tak (f:=1) hJ ?_ ?_ h
 ·rw[kI,jJ6 (Qu ⟨k.t,hJ⟩)]
 ·rw[kO,jJ6 rfl]
def sy(ts:List Tok):List Tk:=ts.map fun k=>⟨k.1,0,0⟩
theorem uz(k:Tok)(ts:List Tok):sy (k::ts)=⟨k.1,0,0⟩::sy ts:=rfl
theorem jFb{st:List Nat}{k:Tok}{ts:List Tok}(h:Acc st (sy (k::ts))):k.1<58:=by
 rw[uz]at h;cases h with
 |tak hJ _ _ _=>exact hJ
def jJE(l:Nat):Nat:=if l=43 then 70 else if l=44 then 72 else if l=45 then 74 else if l=18 then 77 else if l=20 then 79 else 81
def Us(l:Nat):Nat:=if l=43 then 71 else if l=44 then 73 else if l=18 then 78 else 80
def jJo:Nat->List Nat
 |0=>[7]
 |n+1=>8::69::jJo n
def stL:Bool->Nat->List Nat
 |true,n+1=>69::jJo n
 |_,n=>jJo n
def jKS:PJ->List Tok->Exp9->List Tok->Prop
 | .expr,ts,_,rest=>∀st,Acc st (sy rest)->Acc (69::st) (sy ts)
 | .row l,ts,_,rest=>∀st,Acc st (sy rest)->Acc (jJE l::st) (sy ts)
 | .unary,ts,_,rest=>∀st,Acc st (sy rest)->Acc (81::st) (sy ts)
 | .more l _,ts,_,rest=>∀st,Acc st (sy rest)->Acc (Us l::st) (sy ts)
 | .two _ _ l,ts,_,rest=>∀st,Acc st (sy rest)->Acc (jJE l::st) (sy ts.tail)
 | .list last i,ts,e,rest=>∀st,Acc st (sy rest)->(last=5->Acc ((if i=true then 83 else 84)::5::st) (sy ts))/\(last=7->Acc (stL i e.cnt++st) (sy ts))
theorem Zu(l t:Nat)(ht:t<58):(kJ l t≠0->jE (Us l) t=true/\jK (Us l) t=[t,jJE (zS l),Us l])/\(kJ l t=0->jE (Us l) t=false):=by
 have E9:∀t:Fin 58,(kJ 43 t.val≠0->jE 71 t.val=true/\jK 71 t.val=[t.val,72,71])/\(kJ 43 t.val=0->jE 71 t.val=false):=(by decide+kernel);have E8:∀t:Fin 58,(kJ 44 t.val≠0->jE 73 t.val=true/\jK 73 t.val=[t.val,74,73])/\(kJ 44 t.val=0->jE 73 t.val=false):=(by decide+kernel);have Ed:∀t:Fin 58,(kJ 18 t.val≠0->jE 78 t.val=true/\jK 78 t.val=[t.val,79,78])/\(kJ 18 t.val=0->jE 78 t.val=false):=(by decide+kernel);have SM:∀t:Fin 58,(kJ 20 t.val≠0->jE 80 t.val=true/\jK 80 t.val=[t.val,81,80])/\(kJ 20 t.val=0->jE 80 t.val=false):=(by decide+kernel);by_cases e1:l=43
 ·subst e1;exact E9 ⟨t,ht⟩
 by_cases e2:l=44
 ·subst e2;exact E8 ⟨t,ht⟩
 by_cases e3:l=18
 ·subst e3;exact Ed ⟨t,ht⟩
 have a1:Us l=80:=by unfold Us;rw[jJ5 e1,jJ5 e2,jJ5 e3]
 have a2:zS l=19:=by unfold zS;rw[jJ5 e1,jJ5 e2,jJ5 e3]
 have a3:kJ l t=kJ 20 t:=by unfold kJ;rw[jJ5 e1,jJ5 e2,jJ5 e3];rfl
 rw[a1,a2,a3];exact SM ⟨t,ht⟩
theorem zl:∀t:Fin 58,(jE 70 t.val=true->jE 69 t.val=true/\(t.val≠40->jK 69 t.val=[70]))/\(jE 72 t.val=true->jE 70 t.val=true/\jK 70 t.val=[72,71])/\(jE 74 t.val=true->jE 72 t.val=true/\jK 72 t.val=[74,73])/\
  (jE 77 t.val=true->t.val≠45->jE 75 t.val=true/\jK 75 t.val=[77,76]/\jE 74 t.val=true/\jK 74 t.val=[75])/\(jE 79 t.val=true->jE 77 t.val=true/\jK 77 t.val=[79,78])/\(jE 81 t.val=true->jE 79 t.val=true/\jK 79 t.val=[81,80]):=by decide+kernel
theorem Vo:∀t:Fin 58,((12<=t.val/\t.val<=17)\/t.val=28->jE 76 t.val=true/\jK 76 t.val=[t.val,77])/\(¬(12<=t.val/\t.val<=17)->t.val≠28->jE 76 t.val=false):=by decide+kernel
theorem yM{n:Nat}{st:List Nat}{k:Tok}{ts:List Tok}(hn:58<=n)(he:kX n=false)(h:Acc (n::st) (sy (k::ts))):k.1<58/\jE n k.1=true:=by
 obtain⟨k',ts',e,h1,h2,_⟩:=ki hn he h;rw[uz]at e;injection e with e1 e2;subst e1;exact⟨h1,h2⟩
theorem VG(t:Nat)(h:vW t=true){st:List Nat}{w:LB}{ts:List Tok}(ha:Acc (zU t++st) (sy ((t,w)::ts))):Acc (81::st) (sy ((t,w)::ts)):=by
 have h1:∀t:Fin 58,vW t.val=true->jE 81 t.val=true/\jK 81 t.val=[82]/\jE 82 t.val=true/\jK 82 t.val=zU t.val:=(by decide+kernel);obtain⟨b1,b2,b3,b4⟩:=h1 ⟨t,by have:=ZS h;omega⟩ h;simp only at b1 b2 b3 b4;refine vP (by decide) b1 ?_;show Acc (jK 81 t++st) _;rw[b2];refine vP (by decide) b3 ?_;show Acc (jK 82 t++st) _;rw[b4];exact ha
theorem jJJ{k:Tok}{ts:List Tok}{st:List Nat}(hk:k.1≠45)(h:Acc (77::76::st) (sy (k::ts))):Acc (74::st) (sy (k::ts)):=by
 obtain⟨hJ,hb⟩:=yM (n:=77) (by decide) (by decide) h;obtain⟨b1,b2,b3,b4⟩:=(zl ⟨k.1,hJ⟩).2.2.2.1 hb hk;refine vP (by decide) b3 ?_;show Acc (jK 74 k.1++st) _;rw[b4];refine vP (by decide) b1 ?_;show Acc (jK 75 k.1++st) _;rw[b2];exact h
theorem jIL{j:PJ}{ts:List Tok}{e:Exp9}{rest:List Tok}(h:Pa j ts e rest):jKS j ts e rest:=by
 induction h with
 | @expr_row k ts r e hk _ ih=>
  intro st h;have h1:=ih st h;obtain⟨hJ,hb⟩:=yM (n:=70) (by decide) (by decide) h1;obtain⟨b1,b2⟩:=(zl ⟨k.1,hJ⟩).1 hb;refine vP (by decide) b1 ?_;show Acc (jK 69 k.1++st) _;rw[b2 hk];exact h1
 | @expr_if k k2 k3 t1 t2 t3 r c a d hk Fg Gu _ _ _ ih1 ih2 ih3=>
  intro st h;obtain⟨t,w⟩:=k;obtain rfl:t=40:=hk;refine vP (by decide) rfl ?_;show Acc (40::69::41::69::42::69::st) _;exact kV rfl (by decide) (ih1 _ (kV Fg (by decide) (ih2 _ (kV Gu (by decide) (ih3 st h)))))
 | @not_ k ts r e hk _ ih=>
  intro st h;obtain⟨t,w⟩:=k;obtain rfl:t=45:=hk;show Acc (74::st) _;refine vP (by decide) rfl ?_;show Acc (45::74::st) _;exact kV rfl (by decide) (ih st h)
 | @rel k k2 ts t2 r e e' hk _ hU _ ih1 ih2=>
  intro st h;have h2:Acc (77::st) (sy t2):=ih2 st h;have hJ:k2.1<58:=(by omega);have h3:Acc (76::st) (sy (k2::t2)):=by
   obtain⟨b1,b2⟩:=(Vo ⟨k2.1,hJ⟩).1 (.inl hU);refine vP (by decide) b1 ?_;show Acc (jK 76 k2.1++st) _;rw[b2];exact kV rfl hJ h2
  exact jJJ hk (ih1 _ h3)
 | @in_ k k2 ts t2 r e e' hk _ hU _ ih1 ih2=>
  intro st h;have h2:Acc (77::st) (sy t2):=ih2 st h;have hJ:k2.1<58:=(by omega);have h3:Acc (76::st) (sy (k2::t2)):=by
   obtain⟨b1,b2⟩:=(Vo ⟨k2.1,hJ⟩).1 (.inr hU);refine vP (by decide) b1 ?_;show Acc (jK 76 k2.1++st) _;rw[b2];exact kV rfl hJ h2
  exact jJJ hk (ih1 _ h3)
 | @sum k k2 ts t2 e hk _ h1 h2 ih1=>
  intro st h;have hJ:=jFb h;exact jJJ hk (ih1 _ (qp ((Vo ⟨k2.1,hJ⟩).2 h1 h2) (by decide) h))
 | @rowm l ts t2 r e e' Mp _ _ ih1 ih2=>
  intro st h;have h1:=ih1 _ (ih2 st h);cases ts with
  |nil=>rcases Mp with rfl|rfl|rfl|rfl<;>exact absurd (xQ h1) (by decide)
  |cons k ts=>
   rcases Mp with rfl|rfl|rfl|rfl
   ·obtain⟨hJ,hb⟩:=yM (n:=72) (by decide) (by decide) h1;obtain⟨b1,b2⟩:=(zl ⟨k.1,hJ⟩).2.1 hb;show Acc (70::st) _;refine vP (by decide) b1 ?_;show Acc (jK 70 k.1++st) _;rw[b2];exact h1
   ·obtain⟨hJ,hb⟩:=yM (n:=74) (by decide) (by decide) h1;obtain⟨b1,b2⟩:=(zl ⟨k.1,hJ⟩).2.2.1 hb;show Acc (72::st) _;refine vP (by decide) b1 ?_;show Acc (jK 72 k.1++st) _;rw[b2];exact h1
   ·obtain⟨hJ,hb⟩:=yM (n:=79) (by decide) (by decide) h1;obtain⟨b1,b2⟩:=(zl ⟨k.1,hJ⟩).2.2.2.2.1 hb;show Acc (77::st) _;refine vP (by decide) b1 ?_;show Acc (jK 77 k.1++st) _;rw[b2];exact h1
   ·obtain⟨hJ,hb⟩:=yM (n:=81) (by decide) (by decide) h1;obtain⟨b1,b2⟩:=(zl ⟨k.1,hJ⟩).2.2.2.2.2 hb;show Acc (79::st) _;refine vP (by decide) b1 ?_;show Acc (jK 79 k.1++st) _;rw[b2];exact h1
 | @rowu ts r e _ ih=>
  intro st h;exact ih st h
 | @stop l k ts e h0=>
  intro st h;have hJ:=jFb h;have hs:kX (Us l)=true:=by
   unfold Us;split
   ·rfl
   split
   ·rfl
   split<;>rfl
  exact qp ((Zu l k.1 hJ).2 h0) hs h
 | @go l k ts t2 r e e1 e' h0 _ _ ih1 ih2=>
  intro st h;have h1:Acc (jJE (zS l)::Us l::st) (sy ts):=ih1 _ (ih2 st h);have hJ:k.1<58:=by
   rcases Nat.lt_or_ge k.1 58 with h|h
   ·exact h
   ·exfalso;apply h0;unfold kJ;rw[jJ5 (show¬k.1=43 by omega),jJ5 (show¬k.1=44 by omega),jJ5 (show¬(k.1=18\/k.1=19)by omega),jJ5 (show¬(20<=k.1/\k.1<=22)by omega)];split
    ·rfl
    split
    ·rfl
    split<;>rfl
  obtain⟨b1,b2⟩:=(Zu l k.1 hJ).1 h0;have hm:58<=Us l:=by
   unfold Us;split
   ·decide
   split
   ·decide
   split<;>decide
  refine vP hm b1 ?_;show Acc (jK (Us l) k.1++st) _;rw[b2];exact kV rfl hJ h1
 | @two l op k ts r e q _ ih=>
  intro st h;exact ih st h
 | @neg k ts r e hk _ ih=>
  intro st h;obtain⟨t,w⟩:=k;obtain rfl:t=19:=hk;refine vP (by decide) rfl ?_;show Acc (19::81::st) _;exact kV rfl (by decide) (ih st h)
 | @lit k ts x hk hx=>
  intro st h;obtain⟨t,w⟩:=k;have ht:=jM8 hk;simp only at ht;obtain⟨q1,q2,q3,q4⟩:=qu t ht;refine VG t ?_ ?_
  ·rcases ht with rfl|rfl|rfl|rfl|rfl|rfl<;>decide
  ·rw[q1];exact kV rfl q4 h
 | @par k k2 ts r e hk Fg _ ih=>
  intro st h;obtain⟨t,w⟩:=k;obtain rfl:t=6:=hk;exact VG 6 (by decide) (kV rfl (by decide) (ih _ (kV Fg (by decide) h)))
 | @set k ts r l hk _ ih=>
  intro st h;obtain⟨t,w⟩:=k;obtain rfl:t=4:=hk;exact VG 4 (by decide) (kV rfl (by decide) ((ih st h).1 rfl))
 | @named k k1 k2 k3 ts hk MT Fg Gu=>
  intro st h;obtain⟨t,w⟩:=k;simp only at hk;obtain⟨q1,q2,q3,q4,q5,q6,q7⟩:=Ke _ hk;refine VG t ?_ ?_
  ·rcases hk with rfl|rfl|rfl<;>decide
  ·rw[q1];exact kV rfl q6 (kV MT (by decide) (kV Fg (by decide) (kV Gu (by decide) h)))
 | @call k k1 ts r l hk MT hc _ ih=>
  intro st h;obtain⟨t,w⟩:=k;simp only at hk hc;have h1:=(ih st h).2 rfl;rw[<-hc]at h1;have ht:vW t=true/\t<58/\zU t=t::6::stL true (jAP t):=by
   rcases hk with rfl|rfl|rfl|rfl|rfl|rfl|rfl<;>decide
  refine VG t ht.1 ?_;rw[ht.2.2];exact kV rfl ht.2.1 (kV MT (by decide) h1)
 | @shut last i k ts hk=>
  intro st h;refine⟨fun e=> ?_,fun e=> ?_⟩
  ·obtain⟨t,w⟩:=k;obtain rfl:t=5:=hk.trans e;cases i with
   |true=>exact qp (by rfl) (by rfl) (kV rfl (by decide) h)
   |false=>exact qp (by rfl) (by rfl) (kV rfl (by decide) h)
  ·have:stL i Exp9.nil.cnt=[7]:=by cases i<;>rfl
   rw[this];exact kV (hk.trans e) (by decide) h
 | @elem last k ts t2 r e l h1 h8 _ _ ih1 ih2=>
  intro st h;obtain⟨j1,j2⟩:=ih2 st h;refine⟨fun e5=> ?_,fun e7=> ?_⟩
  ·have a:=ih1 _ (j1 e5);obtain⟨hJ,hb⟩:=yM (n:=69) (by decide) (by decide) a;have E7:∀t:Fin 58,jE 69 t.val=true->jE 83 t.val=true/\jK 83 t.val=[69,84]:=(by decide+kernel);obtain⟨b1,b2⟩:=E7 ⟨k.1,hJ⟩ hb;refine vP (by decide) b1 ?_;show Acc (jK 83 k.1++5::st) _;rw[b2];exact a
  ·exact ih1 _ (j2 e7)
 | @comma last k ts t2 r e l h1 h8 _ _ ih1 ih2=>
  intro st h;obtain⟨j1,j2⟩:=ih2 st h;obtain⟨t,w⟩:=k;obtain rfl:t=8:=h8;refine⟨fun e5=> ?_,fun e7=> ?_⟩
  ·have a:=ih1 _ (j1 e5);refine vP (by decide) rfl ?_;show Acc (8::69::84::5::st) _;exact kV rfl (by decide) a
  ·exact kV rfl (by decide) (ih1 _ (j2 e7))
def ke(op:Int):Nat:=
 if op=10 then 43 else if op=9 then 44 else if op=8 then 45 else if op=17 then 28 else if op=7 then 19
 else if 11<=op/\op<=16 then(op+1).toNat else if 18<=op/\op<=22 then op.toNat
 else if op=24 then 49 else if op=25 then 52 else if op=26 then 31 else if op=27 then 50 else if op=28 then 51 else(op+24).toNat
def vI(op:Int):Tok:=(ke op,jA op)
def JE(b:Bool)(X:List Tok):List Tok:=if b=true then(6,[40])::(X++[(7,[41])])else X
def prt:Exp9->Nat->List Tok
 | .lit k,_=>[k.tok]
 | .nil,_=>[]
 | .cons e l,i=>(if 0<i then [(8,[44])]else [])++(prt e 0++prt l (i+1))
 | .node op nm ks,L=>JE (decide (jD op<L))
  (if op=23 then(match ks with
   | .cons a (.cons c (.cons d .nil))=>(40,[105,102])::(prt a 0++(41,[116,104,101,110])::(prt c 0++(42,[101,108,115,101])::prt d 0))
   |_=>[])
  else if jD op=3\/jD op=7 then(match ks with
   | .cons a .nil=>vI op::prt a (jD op)
   |_=>[])
  else if jD op<8 then(match ks with
   | .cons a (.cons c .nil)=>prt a (if jD op=4 then 5 else jD op)++vI op::prt c (jD op+1)
   |_=>[])
  else if op=6 then(4,[123])::(prt ks 0++[(5,[125])])
  else vI op::(6,[40])::((if nm=[]then []else [(1,nm)])++(prt ks 0++[(7,[41])])))
def zi(t:Nat):Nat:=if t=43 then 1 else if t=44 then 2 else if(12<=t/\t<=17)\/t=28 then 4 else if t=18\/t=19 then 5 else if 20<=t/\t<=22 then 6 else 0
def UU(X:List Tok)(e:Exp9):Prop:=∀k r,Pa .unary (X++k::r) e (k::r)
def M6(X:List Tok)(e:Exp9):Prop:=∀k r e' r',Pa (.more 20 e) (k::r) e' r' ->Pa (.row 20) (X++k::r) e' r'
def M5(X:List Tok)(e:Exp9):Prop:=∀k r e' r',zi k.1<6->Pa (.more 18 e) (k::r) e' r' ->Pa (.row 18) (X++k::r) e' r'
def P3(X:List Tok)(e:Exp9):Prop:=∀k r,zi k.1<3->Pa (.row 45) (X++k::r) e (k::r)
def M2(X:List Tok)(e:Exp9):Prop:=∀k r e' r',zi k.1<3->Pa (.more 44 e) (k::r) e' r' ->Pa (.row 44) (X++k::r) e' r'
def M1(X:List Tok)(e:Exp9):Prop:=∀k r e' r',zi k.1<2->Pa (.more 43 e) (k::r) e' r' ->Pa (.row 43) (X++k::r) e' r'
def P0(X:List Tok)(e:Exp9):Prop:=∀k r,zi k.1<1->Pa .expr (X++k::r) e (k::r)
def Hd(X:List Tok)(L:Nat):Prop:=∃k r,X=k::r/\(k.1=40->L=0)/\(k.1=45->L<=3)/\k.1≠5/\k.1≠7/\k.1≠8
theorem Kz(t:Nat):(zi t<6->kJ 20 t=0)/\(zi t<5->kJ 18 t=0)/\(zi t<2->kJ 44 t=0)/\(zi t<1->kJ 43 t=0)/\(zi t<4->¬(12<=t/\t<=17)/\t≠28):=by
 unfold zi kJ;by_cases e1:t=43
 ·subst e1;decide
 rw[jJ5 e1];by_cases e2:t=44
 ·subst e2;decide
 rw[jJ5 e2];by_cases e3:(12<=t/\t<=17)\/t=28
 ·rw[jJ6 e3];simp only[e1,e2,show¬(t=18\/t=19)by omega,show¬(20<=t/\t<=22)by omega,if_false,if_true];simp
 rw[jJ5 e3];by_cases e4:t=18\/t=19
 ·rw[jJ6 e4];simp only[e1,e2,e4,show¬(20<=t/\t<=22)by omega,if_false,if_true];simp<;>omega
 rw[jJ5 e4];by_cases e5:20<=t/\t<=22
 ·rw[jJ6 e5];simp only[e1,e2,e4,e5,if_false,if_true];simp<;>omega
 rw[jJ5 e5];simp only[e1,e2,e4,e5,if_false,if_true];simp<;>omega
section
variable{X:List Tok}{e:Exp9}
theorem jJn(h:UU X e):M6 X e:=fun k r _ _ hm=>.rowm (.inr (.inr (.inr rfl))) (.rowu (h k r)) hm
theorem M6.p(h:M6 X e)(k:Tok)(r:List Tok)(hc:zi k.1<6):Pa (.row 20) (X++k::r) e (k::r):=h k r _ _ (.stop ((Kz k.1).1 hc))
theorem jIs(h:M6 X e):M5 X e:=fun k r _ _ hc hm=>.rowm (.inr (.inr (.inl rfl))) (h.p k r hc) hm
theorem M5.p(h:M5 X e)(k:Tok)(r:List Tok)(hc:zi k.1<5):Pa (.row 18) (X++k::r) e (k::r):=h k r _ _ (by omega) (.stop ((Kz k.1).2.1 hc))
theorem jHN(h:M5 X e){L:Nat}(hh:Hd X L)(hL:3<L):P3 X e:=fun k r hc=>by
 obtain⟨c,q,rfl,_,Gv,_⟩:=hh;have hn:=(Kz k.1).2.2.2.2 (by omega);exact .sum (fun e=>by have:=Gv e;omega) (h.p k r (by omega)) hn.1 hn.2
theorem jEk(h:P3 X e):M2 X e:=fun k r _ _ hc hm=>.rowm (.inr (.inl rfl)) (h k r hc) hm
theorem M2.p(h:M2 X e)(k:Tok)(r:List Tok)(hc:zi k.1<2):Pa (.row 44) (X++k::r) e (k::r):=h k r _ _ (by omega) (.stop ((Kz k.1).2.2.1 hc))
theorem jCi(h:M2 X e):M1 X e:=fun k r _ _ hc hm=>.rowm (.inl rfl) (h.p k r hc) hm
theorem M1.p(h:M1 X e)(k:Tok)(r:List Tok)(hc:zi k.1<1):Pa (.row 43) (X++k::r) e (k::r):=h k r _ _ (by omega) (.stop ((Kz k.1).2.2.2.1 hc))
theorem jAE(h:M1 X e){L:Nat}(hh:Hd X L)(hL:0<L):P0 X e:=fun k r hc=>by
 obtain⟨c,q,rfl,NQ,_⟩:=hh;exact .expr_row (fun e=>by have:=NQ e;omega) (h.p k r hc)
theorem jAT(X:List Tok)(L:Nat):Hd (JE true X) L:=⟨(6,[40]),X++[(7,[41])],rfl,fun e=>(by cases e),fun e=>(by cases e),by decide,by decide,by decide⟩
theorem jFe(h:P0 X e):UU (JE true X) e:=fun k r=>by
 have h1:=h (7,[41]) (k::r) (by decide);show Pa .unary ((6,[40])::((X++[(7,[41])])++k::r)) e (k::r);rw[jK1];exact .par rfl rfl h1
def AtL(L:Nat)(X:List Tok)(e:Exp9):Prop:=
 if L=0 then P0 X e else if L=1 then M1 X e else if L=2 then M2 X e else if L=3 then P3 X e else if L=5 then M5 X e else if L=6 then M6 X e else UU X e
def Lvl(L:Nat):Prop:=L=0\/L=1\/L=2\/L=3\/L=5\/L=6\/L=7
theorem Qy(o:Nat)(ho:Lvl o)(h:AtL o X e){H:Nat}(hh:Hd X H)(hH:o<=H):∀L,Lvl L->L<=o->AtL L X e:=by
 unfold Lvl at ho;rcases ho with rfl|rfl|rfl|rfl|rfl|rfl|rfl
 ·intro L hL Fc;obtain rfl:L=0:=(by omega);exact h
 ·have g1:M1 X e:=h;have g0:P0 X e:=jAE g1 hh (by omega);intro L hL Fc;rcases hL with rfl|rfl|rfl|rfl|rfl|rfl|rfl<;>first|exact g0|exact g1|omega
 ·have g2:M2 X e:=h;have g1:=jCi g2;have g0:P0 X e:=jAE g1 hh (by omega);intro L hL Fc;rcases hL with rfl|rfl|rfl|rfl|rfl|rfl|rfl<;>first|exact g0|exact g1|exact g2|omega
 ·have g3:P3 X e:=h;have g2:=jEk g3;have g1:=jCi g2;have g0:P0 X e:=jAE g1 hh (by omega);intro L hL Fc;rcases hL with rfl|rfl|rfl|rfl|rfl|rfl|rfl<;>first|exact g0|exact g1|exact g2|exact g3|omega
 ·have g5:M5 X e:=h;have g3:=jHN g5 hh (by omega);have g2:=jEk g3;have g1:=jCi g2;have g0:P0 X e:=jAE g1 hh (by omega);intro L hL Fc;rcases hL with rfl|rfl|rfl|rfl|rfl|rfl|rfl<;>first|exact g0|exact g1|exact g2|exact g3|exact g5|omega
 ·have g6:M6 X e:=h;have g5:=jIs g6;have g3:=jHN g5 hh (by omega);have g2:=jEk g3;have g1:=jCi g2;have g0:P0 X e:=jAE g1 hh (by omega);intro L hL Fc;rcases hL with rfl|rfl|rfl|rfl|rfl|rfl|rfl<;>first|exact g0|exact g1|exact g2|exact g3|exact g5|exact g6|omega
 ·have g7:UU X e:=h;have g6:=jJn g7;have g5:=jIs g6;have g3:=jHN g5 hh (by omega);have g2:=jEk g3;have g1:=jCi g2;have g0:P0 X e:=jAE g1 hh (by omega);intro L hL Fc;rcases hL with rfl|rfl|rfl|rfl|rfl|rfl|rfl<;>first|exact g0|exact g1|exact g2|exact g3|exact g5|exact g6|exact g7
theorem jI4(own o:Nat)(ho:Lvl o)(Ss:o<=own/\∀L,Lvl L->(own<L↔o<L))(h:AtL o X e){H:Nat}(hh:Hd X H)(hH:o<=H)(L:Nat)(hL:Lvl L):AtL L (JE (decide (own<L)) X) e:=by
 by_cases hlt:own<L
 ·rw[jK5 hlt];have g0:P0 X e:=Qy o ho h hh hH 0 (.inl rfl) (Nat.zero_le _);exact Qy 7 (by unfold Lvl;omega) (show UU _ e from jFe g0) (jAT X 8) (by decide) L hL (by unfold Lvl at hL;omega)
 ·rw[jK3 hlt];have:=(Ss.2 L hL).2;exact Qy o ho h hh hH L hL (by omega)
end
end Go.Proofs.YtmmjcbbogokmfaaGreatDoor

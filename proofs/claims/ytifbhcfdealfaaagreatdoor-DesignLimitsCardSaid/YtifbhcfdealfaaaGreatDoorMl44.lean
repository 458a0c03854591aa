import Derived.Test.YtifbhcfdealfaaaGreatDoorMl43
set_option maxRecDepth 100000
set_option maxHeartbeats 25600000
namespace Go.Proofs.YtifbhcfdealfaaaGreatDoor
open Go.Proofs.Tryz
def plC(c:UInt8):Bool:=decide (32<=c.toNat/\c.toNat<=126/\c.toNat≠34/\c.toNat≠92)
theorem jIS{c:UInt8}(h:plC c=true):32<=c.toNat/\c.toNat<=126/\c.toNat≠34/\c.toNat≠92:=jM8 h
theorem jIR:∀(w l:LB) (k:Nat),w.all plC=true->jj (w++34::l) k 4=.shut (k+w.length+1)
 |[],l,k,_=>by
  rw[jN8,jj,jJ6 rfl,jJ6 (by decide)];rfl
 |c::w,l,k,h=>by
  rw[List.all_cons,Bool.and_eq_true]at h;obtain⟨h1,h2,h3,h4⟩:=jIS h.1;rw[jN6,jj,jJ6 rfl,jJ5 h3,jJ5 h4,jJ5 (by omega),jIR w l (k+1) h.2,jK6]
  congr 1
  omega
theorem jIm:∀(w l:LB),w.all plC=true->strLen (w++34::l)=some (w.length+1)
 |[],l,_=>by rw[jN8,strLen.eq_def];rfl
 |c::w,l,h=>by
  rw[List.all_cons,Bool.and_eq_true]at h;obtain⟨h1,h2,h3,h4⟩:=jIS h.1;rw[jN6,strLen.eq_def];simp only;rw[jJ5 h3,jJ5 h4,jIm w l h.2];rfl
theorem jIT:∀(w:LB) (f:Nat),w.all plC=true->w.length<f->meantN f w=some w
 |[],f,_,hf=>by
  obtain⟨f,rfl⟩:∃f',f=f' +1:=⟨f-1,by omega⟩;rfl
 |c::w,f,h,hf=>by
  rw[jK6]at hf;obtain⟨f,rfl⟩:∃f',f=f' +1:=⟨f-1,by omega⟩;rw[List.all_cons,Bool.and_eq_true]at h;rw[meantN.eq_def];simp only;rw[jJ5 (jIS h.1).2.2.2,jIT w f h.2 (by omega)];rfl
theorem jIo(w:LB)(h:w.all plC=true):kJ 3 (34::(w++[34]))=some ⟨3,⟨#[]⟩,3,0,⟨w.toArray⟩,[],[]⟩:=by
 unfold kJ;rw[jJ5 (by decide),jJ5 (by decide),jJ6 rfl,jJ6 (by simp),show((34::(w++[34])).drop 1).take ((34::(w++[34])).length-2)=w by simp,jIT w _ h (by simp;omega)];rfl
theorem jIV(w l:LB)(h:w.all plC=true):qa (34::(w++34::l))=some (w.length+2,3):=by
 rw[qa,jJ5 (by decide),jJ6 (by decide),jIm w l h];rfl
section
variable{p g:Nat}{st st' :List Nat}{l l' :LB}{m' :Mc}
theorem jIX(w:LB)(h:w.all plC=true)(hm:jz 3 st=true)(ht:kB 3 30 st=some st')(k:Goes ⟨p+(w.length+2),st',0,p⟩ l m' l'):Goes ⟨p,st,0,g⟩ (34::(w++34::l)) m' l' :=by
 refine Goes.one (w.length+2) (m1:=⟨p+(w.length+2),st',0,p⟩) ?_ rfl (by simp) (by simp) k;rw[vP,jJ5 (by decide),jJ5 (by decide),jJ6 (by decide)];unfold ke;rw[jJ5 (by rw[hm];decide)];simp only[List.drop_succ_cons,List.drop_zero];rw[jIR w l (p+1) h];simp only;rw[xC (s:=st') (by
  have:=Ym ht []
  rwa [jN7,jN7]at this)]
 have:p+1+w.length+1=p+(w.length+2):=(by omega);rw[this]
end
def tx9(n:Nat):LB:=List.replicate n 121
theorem jIQ(n:Nat):(tx9 n).all plC=true:=by
 unfold tx9;rw[List.all_eq_true];intro c hc;rw[List.eq_of_mem_replicate hc];decide
def jH1(n:Nat):LB:=jIF 9++(tx9 n++[34,32,59,32,125])
def jIf(n:Nat):Tre:=⟨⟨#[116]⟩,5,[30],[⟨3,⟨#[]⟩,3,0,⟨(tx9 n).toArray⟩,[],[]⟩],[],[⟨⟨#[97]⟩,19,0,false,3,0,-1⟩],[],[]⟩
theorem jIt(n f:Nat):(∃m,kC (jH1 n)=.ok m/\m.stack=[])/\∃r,Jb (jH1 n) (f+21)=some r/\r.tree=jIf n:=by
 have d0:(jH1 n).drop 0=[116,121,112,101]++32::([116]++32::123::32::([97,116,116,114,105,98,117,116,101]++32::([97]++32::58::32::([116,101,120,116]++32::61::32::34::(tx9 n++34::[32,59,32,125]))))):=rfl;have hl:(tx9 n).length=n:=List.length_replicate ..;constructor
 ·have hg:∃m,Goes startM (jH1 n) m []/\m.stack=[]:=by
   rw[show jH1 n=(jH1 n).drop 0 from rfl,d0];exact⟨_,jHk (p:=0) (st' :=[1,4,58,5]) [116,121,112,101] 32 23 (by decide) (by decide) (by decide) (by decide+kernel) (by decide+kernel) (by decide) (by decide) (jHf (jHk (st' :=[4,58,5]) [116] 32 1 (by decide) (by decide) (by decide) (by decide+kernel) (by decide+kernel) (by decide) (by decide) (jHf (jHj (st' :=[58,5]) 123 4 (by decide) (by decide) (by decide) (by decide) (by decide) (by decide) (by simp) (by decide) (by decide)
    (jHf (jHk (st' :=[1,10,59,60,61,62,9,58,5]) [97,116,116,114,105,98,117,116,101] 32 24 (by decide) (by decide) (by decide) (by decide+kernel) (by decide+kernel) (by decide) (by decide)
    (jHf (jHk (st' :=[10,59,60,61,62,9,58,5]) [97] 32 1 (by decide) (by decide) (by decide) (by decide+kernel) (by decide+kernel) (by decide) (by decide)
    (jHf (jHj (st' :=[59,60,61,62,9,58,5]) 58 10 (by decide) (by decide) (by decide) (by decide) (by decide) (by decide) (by simp) (by decide) (by decide)
    (jHf (jHk (st' :=[61,62,9,58,5]) [116,101,120,116] 32 36 (by decide) (by decide) (by decide) (by decide+kernel) (by decide+kernel) (by decide) (by decide)
    (jHf (jHj (st' :=[69,62,9,58,5]) 61 12 (by decide) (by decide) (by decide) (by decide) (by decide) (by decide) (by simp) (by decide) (by decide)
    (jHf (jIX (st' :=[80,78,76,73,71,62,9,58,5]) (tx9 n) (jIQ n) (by decide) (by decide)
    (jHf (jHj (st' :=[58,5]) 59 9 (by decide) (by decide) (by decide) (by decide) (by decide) (by decide) (by simp) (by decide) (by decide)
    (jHf (jHj (st' :=[]) 125 5 (by decide) (by decide) (by decide) (by decide) (by decide) (by decide) (by decide) (by decide) (by decide) (.refl _ _))))))))))))))))))))),rfl⟩
  obtain⟨m,h1,h2⟩:=hg;exact⟨m,jDx h1,h2⟩
 ·have dE:(jH1 n).drop (30+(n+2))=[32,59,32,125]:=by
   rw[jHd (jHd d0 30:(jH1 n).drop 30=34::(tx9 n++34::[32,59,32,125])) (n+2)];show(tx9 n++34::[32,59,32,125]).drop (n+1)=_;rw[<-List.drop_drop,List.drop_left' hl];rfl
  have n1:jc (jH1 n) ⟨0,0,0,0,Tre.none_⟩=some ⟨4,0,23,0,Tre.none_⟩:=jHe d0 0 4 23 rfl (by rfl) 0 0 0 _;have n2:jc (jH1 n) ⟨4,0,23,0,Tre.none_⟩=some ⟨6,5,1,0,Tre.none_⟩:=jHe (jHd d0 4) 1 1 1 rfl (by rfl) 0 23 0 _;have n3:jc (jH1 n) ⟨6,5,1,0,Tre.none_⟩=some ⟨8,7,4,0,Tre.none_⟩:=jHe (jHd d0 6) 1 1 4 rfl (by rfl) 5 1 0 _;have n4:jc (jH1 n) ⟨8,7,4,0,Tre.none_⟩=some ⟨18,9,24,0,Tre.none_⟩:=jHe (jHd d0 8) 1 9 24 rfl (by rfl) 7 4 0 _;have n5:∀T,jc (jH1 n) ⟨18,9,24,0,T⟩=some ⟨20,19,1,0,T⟩:=jHe (jHd d0 18) 1 1 1 rfl (by rfl) 9 24 0;have n6:∀T,jc (jH1 n) ⟨20,19,1,0,T⟩=some ⟨22,21,10,0,T⟩:=jHe (jHd d0 20) 1 1 10 rfl (by rfl) 19 1 0;have n7:∀T,jc (jH1 n) ⟨22,21,10,1,T⟩=some ⟨27,23,36,1,T⟩:=jHe (jHd d0 22) 1 4 36 rfl (by rfl) 21 10 1;have n8:∀T,jc (jH1 n) ⟨27,23,36,1,T⟩=some ⟨29,28,12,1,T⟩:=jHe (jHd d0 27) 1 1 12 rfl (by rfl) 23 36 1;have n9:∀T,jc (jH1 n) ⟨29,28,12,1,T⟩=some ⟨30+(n+2),30,3,1,T⟩:=jHe (jHd d0 29) 1 (n+2) 3 rfl (by
   have:=jIV (tx9 n) [32,59,32,125] (jIQ n);rw[hl]at this;exact this) 28 12 1
  have nA:∀T,jc (jH1 n) ⟨30+(n+2),30,3,1,T⟩=some ⟨30+(n+2)+2,30+(n+2)+1,9,1,T⟩:=jHe dE 1 1 9 rfl (by rfl) 30 3 1;have nB:∀T,jc (jH1 n) ⟨30+(n+2)+2,30+(n+2)+1,9,1,T⟩=some ⟨30+(n+2)+2+2,30+(n+2)+2+1,5,1,T⟩:=jHe (jHd dE 2) 1 1 5 rfl (by rfl) _ 9 1;have lx:jh (jH1 n) ⟨6,5,1,0,Tre.none_⟩=[116]:=jHu (jHd d0 5) 6 1 0 _;have lx2:∀T,jh (jH1 n) ⟨20,19,1,0,T⟩=[97]:=fun T=>jHu (jHd d0 19) 20 1 0 T;have lx3:∀T,jh (jH1 n) ⟨30+(n+2),30,3,1,T⟩=34::(tx9 n++[34]):=fun T=>by
   rw[jHu (jHd d0 30),show 30+(n+2)-30=n+2 by omega];show(34::(tx9 n++34::[32,59,32,125])).take (n+2)=_;rw[List.take_succ_cons,List.take_append,hl,show n+1-n=1 by omega,jK4 (by omega)];rfl
  refine⟨⟨30+(n+2)+2+2,30+(n+2)+2+1,5,1,jIf n⟩,?_,rfl⟩;unfold Jb zC;rw[n1,jL2,n2,jL2,n3,lx,Option.map_some,jL2];simp only[n4,jL2];show ya (jH1 n) (f+20+1) ⟨18,9,24,0,⟨⟨#[116]⟩,5,[],[],[],[],[],[]⟩⟩=_;have hx:=jIs (src:=jH1 n) (n9:=⟨3,⟨#[]⟩,3,0,⟨(tx9 n).toArray⟩,[],[]⟩) (f+12) (t:=3) (T:=⟨⟨#[116]⟩,5,[],[],[],[],[],[]⟩) (by decide) (by decide) (by decide) (by decide) (by rw[lx3];exact jIo _ (jIQ n)) (nA _) (by decide) (by decide);rw[ya,jJ6 rfl];unfold qr VQ zC;rw[n5,jL2,n6,lx2,Option.map_some,jL2,jJ6 (show(0:Nat)<1000000 by decide),jL2];simp only[n7,jL2];unfold jb;rw[jJ5 (show¬(36:Nat)=39 by decide),jL2];unfold ZO;rw[jJ6 (show 34<=(36:Nat)/\(36:Nat)<=38 by decide)];simp only[n8,jL2];unfold kZ;rw[jJ5 (show¬(12:Nat)≠12 from fun h=>h rfl),n9,jL2,jJ6 (show(12:Nat)=32\/(12:Nat)=12 by decide),show f+20=f+12+8 from rfl,hx,jL2,jJ6 (show(9:Nat)≠32 by decide),jL2];simp only[nB,jL2];rw[jJ6 (show([]:List Atr).length<1000000 by decide)];rfl
def inL(z:L2):LB:=[107,z.1,z.2]
def elL(z:L2):LB:=34::(inL z++[34])
def jIC(z:L2):LB:=32::44::32::elL z
def jHy:LB:=[32,125,32,59,32,125]
def jI3(z:L2):Nd:=⟨3,⟨#[]⟩,3,0,⟨(inL z).toArray⟩,[],[]⟩
def jH2:Nat->List L2->Tre->Tre
 |_,[],T=>T
 |p,z::ns,T=>jH2 (p+8) ns {T with nodes:=T.nodes++[jI3 z],ats:=T.ats++[((p+3:Nat):Int)]}
def jII:Nat->List L2->List Int->List Int
 |_,[],ks=>ks
 |i,_::ns,ks=>jII (i+1) ns (ks++[(i:Int)])
def P2(z:L2):Prop:=(inL z).all plC=true
def jIO(ns:List L2):Nat:=match ns with
 |[]=>5
 |_::_=>8
def E8:List Nat:=[80,78,76,73,71,84,5,80,78,76,73,71,62,9,58,5]
theorem jIr:∀(ns:List L2) (p g:Nat),(∀z∈ns,P2 z)->∃m,Goes ⟨p,E8,0,g⟩ (ns.flatMap jIC++jHy) m []/\m.stack=[]
 |[],p,g,_=>⟨_,jHf (jHj (st' :=[80,78,76,73,71,62,9,58,5]) 125 5 (by decide) (by decide) (by decide) (by decide) (by decide) (by decide) (by simp) (by decide) (by decide)
   (jHf (jHj (st' :=[58,5]) 59 9 (by decide) (by decide) (by decide) (by decide) (by decide) (by decide) (by simp) (by decide) (by decide)
   (jHf (jHj (st' :=[]) 125 5 (by decide) (by decide) (by decide) (by decide) (by decide) (by decide) (by decide) (by decide) (by decide) (.refl _ _)))))),rfl⟩
 |z::ns,p,g,h=>by
  obtain⟨m,h1,h2⟩:=jIr ns (p+1+1+1+((inL z).length+2)) (p+1+1+1) (fun y hy=>h y (jN1 _ hy));refine⟨m,?_,h2⟩;rw[jL9,jK1];exact jHf (jHj (st' :=[69,84,5,80,78,76,73,71,62,9,58,5]) 44 8 (by decide) (by decide) (by decide) (by decide) (by decide) (by decide) (by simp) (by decide) (by decide)
   (jHf (jIX (st' :=E8) (inL z) (h z (List.mem_cons_self ..)) (by decide) (by decide) h1)))
theorem jI8{src:LB}{p:Nat}{ns:List L2}(hd:src.drop p=ns.flatMap jIC++jHy)(fr t o:Nat)(T:Tre):jc src ⟨p,fr,t,o,T⟩=some ⟨p+2,p+1,jIO ns,o,T⟩:=by
 cases ns with
 |nil=>exact jHe hd 1 1 5 rfl rfl fr t o T
 |cons z ns=>exact jHe hd 1 1 8 rfl rfl fr t o T
theorem jJK(ns:List L2):jIO ns=9\/jIO ns=8\/jIO ns=5:=by
 cases ns with
 |nil=>exact .inr (.inr rfl)
 |cons=>exact .inr (.inl rfl)
theorem jJq{src:LB}{p o:Nat}{T:Tre}{z:L2}{ns:List L2}(f:Nat)(hz:P2 z)(hd:src.drop p=elL z++(ns.flatMap jIC++jHy))(h1:T.nodes.length<1000000)(h2:T.ats.length<1000000):
  exN src (f+8) .expr ⟨p+5,p,3,o,T⟩=some ((T.nodes.length:Int),[],⟨p+5+2,p+5+1,jIO ns,o,{T with nodes:=T.nodes++[jI3 z],ats:=T.ats++[(p:Int)]}⟩):=by
 have Qn:src.drop (p+5)=ns.flatMap jIC++jHy:=jHd hd 5;refine jIY f (jJK ns) (by decide) (by decide) (by decide) (by decide) ?_ (jI8 Qn _ _ _ _) h1 h2;rw[jHu hd,show p+5-p=5 by omega];exact jIo (inL z) hz
theorem jIp{src:LB}{o:Nat}:∀(ns:List L2) (p f:Nat) (ks:List Int) (T:Tre),(∀z∈ns,P2 z)->src.drop p=ns.flatMap jIC++jHy->ks.length+ns.length<1000000->T.nodes.length+ns.length<1000000->T.ats.length+ns.length<1000000->
  exN src (f+ns.length+9) (.list 5 ks) ⟨p+2,p+1,jIO ns,o,T⟩=some (0,jII T.nodes.length ns ks,⟨p+8*ns.length+4,p+8*ns.length+3,9,o,jH2 p ns T⟩)
 |[],p,f,ks,T,_,hd,_,_,_=>by
  show exN src (f+8+1) (.list 5 ks) ⟨p+2,p+1,5,o,T⟩=_;rw[exN,jJ6 rfl];have n1:jc src ⟨p+2,p+1,5,o,T⟩=some ⟨p+4,p+3,9,o,T⟩:=jHe (jHd hd 2) 1 1 9 rfl rfl _ _ _ _;rw[n1];rfl
 |z::ns,p,f,ks,T,h,hd,b1,b2,b3=>by
  rw[jK6]at b1 b2 b3;rw[jL9,jK1]at hd;have hz:=h z (List.mem_cons_self ..);have QC:src.drop (p+3)=elL z++(ns.flatMap jIC++jHy):=jHd hd 3;have Qm:src.drop (p+8)=ns.flatMap jIC++jHy:=jHd hd 8;have n1:jc src ⟨p+2,p+1,8,o,T⟩=some ⟨p+8,p+3,3,o,T⟩:=jHe (jHd hd 2) 1 5 3 rfl (jIV (inL z) _ hz) _ _ _ _;have hx:=jJq (src:=src) (p:=p+3) (o:=o) (T:=T) (ns:=ns) (f+ns.length+1) hz QC (by omega) (by omega);have ih:=jIp (src:=src) (o:=o) ns (p+8) f (ks++[(T.nodes.length:Int)]) {T with nodes:=T.nodes++[jI3 z],ats:=T.ats++[((p+3:Nat):Int)]} (fun y hy=>h y (jN1 _ hy)) Qm (by simp;omega) (by simp;omega) (by simp;omega);show exN src (f+ns.length+9+1) (.list 5 ks) ⟨p+2,p+1,8,o,T⟩=_;rw[exN,jJ5 (show¬(8:Nat)=5 by decide),jJ6 (by omega)];unfold jb;rw[jJ6 rfl,n1,Option.map_some,jL2];show((exN src (f+ns.length+1+8) .expr ⟨p+3+5,p+3,3,o,T⟩).bind fun k=>exN src (f+ns.length+9) (.list 5 (ks++[k.1])) k.2.2)=_;rw[hx,jL2];refine ih.trans ?_;rw[jK6];simp only[jH2,jII,jJ4,jK6,jN2]
  congr 5<;>omega
theorem jId:∀(ns:List L2) (p:Nat) (T:Tre),(jH2 p ns T).nodes.length=T.nodes.length+ns.length/\(jH2 p ns T).ats.length=T.ats.length+ns.length/\(jH2 p ns T).attrs=T.attrs
 |[],p,T=>⟨rfl,rfl,rfl⟩
 |z::ns,p,T=>by
  obtain⟨h1,h2,h3⟩:=jId ns (p+8) {T with nodes:=T.nodes++[jI3 z],ats:=T.ats++[((p+3:Nat):Int)]};refine⟨?_,?_,h3⟩
  ·rw[jH2,h1,jJ4,jK6,jK6,jN2];omega
  ·rw[jH2,h2,jJ4,jK6,jK6,jN2];omega
def jHv(z:L2)(ns:List L2):LB:=jIF 8++(elL z++(ns.flatMap jIC++jHy))
def in8(z:L2)(ns:List L2):Tre:=jH2 36 ns ⟨⟨#[116]⟩,5,[31],[jI3 z],[],[],[],[]⟩
def jIg(z:L2)(ns:List L2):Tre:={in8 z ns with nodes:=(in8 z ns).nodes++[jn 6 (jII 1 ns [0])],ats:=(in8 z ns).ats++[29],attrs:=[⟨⟨#[97]⟩,19,0,false,5,((in8 z ns).nodes.length:Int),-1⟩]}
theorem jIu(z:L2)(ns:List L2)(hz:P2 z)(hn:∀y∈ns,P2 y)(hc:ns.length<=1000)(f:Nat):(∃m,kC (jHv z ns)=.ok m/\m.stack=[])/\∃r,Jb (jHv z ns) (f+ns.length+19)=some r/\r.tree=jIg z ns:=by
 have d0:(jHv z ns).drop 0=[116,121,112,101]++32::([116]++32::123::32::([97,116,116,114,105,98,117,116,101]++32::([97]++32::58::32::([115,101,116]++32::61::32::123::32::34::(inL z++34::(ns.flatMap jIC++jHy)))))):=by
  show jIF 8++((34::(inL z++[34]))++(ns.flatMap jIC++jHy))=_;rw[jN6,jK1];rfl
 have d31:(jHv z ns).drop 31=elL z++(ns.flatMap jIC++jHy):=by
  rw[show(jHv z ns).drop 31=((jHv z ns).drop 0).drop 31 from rfl,d0];show 34::(inL z++34::(ns.flatMap jIC++jHy))=(34::(inL z++[34]))++_;rw[jN6,jK1];rfl
 have d36:(jHv z ns).drop 36=ns.flatMap jIC++jHy:=jHd d31 5;constructor
 ·have hg:∃m,Goes startM (jHv z ns) m []/\m.stack=[]:=by
   obtain⟨m,h1,h2⟩:=jIr ns (0+4+1+1+1+1+1+9+1+1+1+1+1+3+1+1+1+1+1+((inL z).length+2)) 31 hn;rw[show jHv z ns=(jHv z ns).drop 0 from rfl,d0];exact⟨m,jHk (p:=0) (st' :=[1,4,58,5]) [116,121,112,101] 32 23 (by decide) (by decide) (by decide) (by decide+kernel) (by decide+kernel) (by decide) (by decide) (jHf (jHk (st' :=[4,58,5]) [116] 32 1 (by decide) (by decide) (by decide) (by decide+kernel) (by decide+kernel) (by decide) (by decide) (jHf (jHj (st' :=[58,5]) 123 4 (by decide) (by decide) (by decide) (by decide) (by decide) (by decide) (by simp) (by decide) (by decide)
    (jHf (jHk (st' :=[1,10,59,60,61,62,9,58,5]) [97,116,116,114,105,98,117,116,101] 32 24 (by decide) (by decide) (by decide) (by decide+kernel) (by decide+kernel) (by decide) (by decide)
    (jHf (jHk (st' :=[10,59,60,61,62,9,58,5]) [97] 32 1 (by decide) (by decide) (by decide) (by decide+kernel) (by decide+kernel) (by decide) (by decide)
    (jHf (jHj (st' :=[59,60,61,62,9,58,5]) 58 10 (by decide) (by decide) (by decide) (by decide) (by decide) (by decide) (by simp) (by decide) (by decide)
    (jHf (jHk (st' :=[61,62,9,58,5]) [115,101,116] 32 38 (by decide) (by decide) (by decide) (by decide+kernel) (by decide+kernel) (by decide) (by decide)
    (jHf (jHj (st' :=[69,62,9,58,5]) 61 12 (by decide) (by decide) (by decide) (by decide) (by decide) (by decide) (by simp) (by decide) (by decide)
    (jHf (jHj (st' :=[83,5,80,78,76,73,71,62,9,58,5]) 123 4 (by decide) (by decide) (by decide) (by decide) (by decide) (by decide) (by simp) (by decide) (by decide)
    (jHf (jIX (st' :=E8) (inL z) hz (by decide) (by decide) h1)))))))))))))))))),h2⟩
  obtain⟨m,h1,h2⟩:=hg;exact⟨m,jDx h1,h2⟩
 ·have n1:jc (jHv z ns) ⟨0,0,0,0,Tre.none_⟩=some ⟨4,0,23,0,Tre.none_⟩:=jHe d0 0 4 23 rfl (by rfl) 0 0 0 _;have n2:jc (jHv z ns) ⟨4,0,23,0,Tre.none_⟩=some ⟨6,5,1,0,Tre.none_⟩:=jHe (jHd d0 4) 1 1 1 rfl (by rfl) 0 23 0 _;have n3:jc (jHv z ns) ⟨6,5,1,0,Tre.none_⟩=some ⟨8,7,4,0,Tre.none_⟩:=jHe (jHd d0 6) 1 1 4 rfl (by rfl) 5 1 0 _;have n4:jc (jHv z ns) ⟨8,7,4,0,Tre.none_⟩=some ⟨18,9,24,0,Tre.none_⟩:=jHe (jHd d0 8) 1 9 24 rfl (by rfl) 7 4 0 _;have n5:∀T,jc (jHv z ns) ⟨18,9,24,0,T⟩=some ⟨20,19,1,0,T⟩:=jHe (jHd d0 18) 1 1 1 rfl (by rfl) 9 24 0;have n6:∀T,jc (jHv z ns) ⟨20,19,1,0,T⟩=some ⟨22,21,10,0,T⟩:=jHe (jHd d0 20) 1 1 10 rfl (by rfl) 19 1 0;have n7:∀T,jc (jHv z ns) ⟨22,21,10,1,T⟩=some ⟨26,23,38,1,T⟩:=jHe (jHd d0 22) 1 3 38 rfl (by rfl) 21 10 1;have n8:∀T,jc (jHv z ns) ⟨26,23,38,1,T⟩=some ⟨28,27,12,1,T⟩:=jHe (jHd d0 26) 1 1 12 rfl (by rfl) 23 38 1;have n9:∀T,jc (jHv z ns) ⟨28,27,12,1,T⟩=some ⟨30,29,4,1,T⟩:=jHe (jHd d0 28) 1 1 4 rfl (by rfl) 27 12 1;have nA:∀T,jc (jHv z ns) ⟨30,29,4,1,T⟩=some ⟨36,31,3,1,T⟩:=jHe (jHd d0 30) 1 5 3 rfl (jIV (inL z) _ hz) 29 4 1;have lx:jh (jHv z ns) ⟨6,5,1,0,Tre.none_⟩=[116]:=jHu (jHd d0 5) 6 1 0 _;have lx2:∀T,jh (jHv z ns) ⟨20,19,1,0,T⟩=[97]:=fun T=>jHu (jHd d0 19) 20 1 0 T;obtain⟨a1,a2,a3⟩:=jId ns 36 ⟨⟨#[116]⟩,5,[31],[jI3 z],[],[],[],[]⟩;have nB:∀T,jc (jHv z ns) ⟨36+8*ns.length+4,36+8*ns.length+3,9,1,T⟩=some ⟨36+8*ns.length+6,36+8*ns.length+5,5,1,T⟩:=by
   have hE:(jHv z ns).drop (36+8*ns.length)=jHy:=by
    rw[jHd d36 (8*ns.length)];have hl:(ns.flatMap jIC).length=8*ns.length:=by
     rw[List.length_flatMap];have:(ns.map fun a=>(jIC a).length)=ns.map fun _=>8:=rfl;rw[this,List.map_const',List.sum_replicate_nat];omega
    rw[List.drop_left' hl]
   exact jHe (jHd hE 4) 1 1 5 rfl (by rfl) _ 9 1
  have hl:exN (jHv z ns) (f+ns.length+9+1) (.list 5 []) ⟨36,31,3,1,⟨⟨#[116]⟩,5,[],[],[],[],[],[]⟩⟩=some (0,jII 1 ns [0],⟨36+8*ns.length+4,36+8*ns.length+3,9,1,in8 z ns⟩):=by
   rw[exN,jJ5 (show¬(3:Nat)=5 by decide),jJ6 (show([]:List Int).length<1000000 by decide)];unfold jb;rw[jJ5 (show¬(3:Nat)=8 by decide),jL2];have hx:=jJq (src:=jHv z ns) (p:=31) (o:=1) (T:=⟨⟨#[116]⟩,5,[],[],[],[],[],[]⟩) (ns:=ns) (f+ns.length+1) hz d31 (by decide) (by decide);show((exN (jHv z ns) (f+ns.length+1+8) .expr ⟨31+5,31,3,1,_⟩).bind fun k=>exN (jHv z ns) (f+ns.length+9) (.list 5 ([]++[k.1])) k.2.2)=_;rw[hx,jL2];exact jIp (src:=jHv z ns) (o:=1) ns 36 f [0] _ hn d36 (by simp;omega) (by simp;omega) (by simp;omega)
  have hx:ZZ (jHv z ns) (f+ns.length+18) ⟨30,29,4,1,⟨⟨#[116]⟩,5,[],[],[],[],[],[]⟩⟩=some (((in8 z ns).nodes.length:Int),⟨36+8*ns.length+4,36+8*ns.length+3,9,1,{in8 z ns with nodes:=(in8 z ns).nodes++[jn 6 (jII 1 ns [0])],ats:=(in8 z ns).ats++[29]}⟩):=by
   unfold ZZ;rw[show f+ns.length+18=f+ns.length+10+8 from rfl,jIZ (R:=⟨36+8*ns.length+4,36+8*ns.length+3,9,1,{in8 z ns with nodes:=(in8 z ns).nodes++[jn 6 (jII 1 ns [0])],ats:=(in8 z ns).ats++[29]}⟩) (x:=((in8 z ns).nodes.length:Int)) (f+ns.length+10) (.inl rfl) (by decide) (by decide) (by
    rw[exN,jJ5 (show¬(4:Nat)=19 by decide),jJ5 (show¬Uo 4=true by decide),jJ5 (show¬(4:Nat)=6 by decide),jJ6 rfl,nA,jL2,hl,jL2];unfold vJ;rw[jJ6 (show(in8 z ns).nodes.length<1000000/\(in8 z ns).ats.length<1000000 from⟨by show(jH2 _ _ _).nodes.length<_;rw[a1];simp;omega,by show(jH2 _ _ _).ats.length<_;rw[a2];simp;omega⟩)];rfl)]
   rfl
  refine⟨⟨36+8*ns.length+6,36+8*ns.length+5,5,1,jIg z ns⟩,?_,rfl⟩;unfold Jb zC;rw[n1,jL2,n2,jL2,n3,lx,Option.map_some,jL2];simp only[n4,jL2];show ya (jHv z ns) (f+ns.length+18+1) ⟨18,9,24,0,⟨⟨#[116]⟩,5,[],[],[],[],[],[]⟩⟩=_;rw[ya,jJ6 rfl];unfold qr VQ zC;rw[n5,jL2,n6,lx2,Option.map_some,jL2,jJ6 (show(0:Nat)<1000000 by decide),jL2];simp only[n7,jL2];unfold jb;rw[jJ5 (show¬(38:Nat)=39 by decide),jL2];unfold ZO;rw[jJ6 (show 34<=(38:Nat)/\(38:Nat)<=38 by decide)];simp only[n8,jL2];unfold kZ;rw[jJ5 (show¬(12:Nat)≠12 from fun h=>h rfl),n9,jL2,jJ6 (show(12:Nat)=32\/(12:Nat)=12 by decide),hx,jL2,jJ6 (show(9:Nat)≠32 by decide),jL2];simp only[nB,jL2];rw[jJ6 (show(in8 z ns).attrs.length<1000000 by show(jH2 _ _ _).attrs.length<_;rw[a3];exact(by decide:(0:Nat)<1000000))];have e:(in8 z ns).attrs=[]:=a3;show ya (jHv z ns) (f+ns.length+17+1) ⟨36+8*ns.length+6,36+8*ns.length+5,5,1,_⟩=_;rw[e];rfl
theorem jJt(n:Nat):jHo 9 n=jH1 n:=by
 have h:∀i,jHg 9 n i=jIF 9++List.replicate i 121:=fun i=>by
  induction i with
  |zero=>exact(jN7 _).symm
  |succ i ih=>
   rw[jHg,ih,jK1,List.replicate_succ'];rfl
 unfold jHo jH1 tx9;rw[h,jK1];rfl
theorem jI7{i:Nat}(h:i<67):P2 (zI9 i):=by
 have h2:((List.range 67).all fun i=>(inL (zI9 i)).all plC)=true:=(by decide+kernel);exact List.all_eq_true.1 h2 i (List.mem_range.2 h)
def zsE:Nat->Nat->List L2
 |_,0=>[]
 |i,m+1=>zI9 i::zsE (i+1) m
theorem jIP:∀(m i:Nat),(zsE i m).length=m
 |0,_=>rfl
 |m+1,i=>by rw[zsE,jK6,jIP m (i+1)]
theorem jIl:∀(m i:Nat),i+m<=67->∀z∈zsE i m,P2 z
 |0,_,_,_,h=>by cases h
 |m+1,i,hi,z,h=>by
  rcases jN4 h with rfl|h
  ·exact jI7 (by omega)
  ·exact jIl m (i+1) (by omega) z h
theorem jI6(n i:Nat):jHw 8++jHr 8 n i=elL (zI9 i)++(if i+1<n then [32,44,32]else []):=rfl
theorem jJI(n:Nat):∀(m i:Nat),i+(m+1)=n->((List.range' i (m+1)).flatMap fun j=>jHw 8++jHr 8 n j)=elL (zI9 i)++(zsE (i+1) m).flatMap jIC
 |0,i,h=>by
  rw[List.range'_succ,jL9,jI6,jJ5 (by omega)];rfl
 |m+1,i,h=>by
  rw[List.range'_succ,jL9,jJI n m (i+1) (by omega),jI6,jJ6 (by omega),zsE,jL9];simp only[jIC,jK1,jN6,jN8]
theorem jJu(n:Nat):jHo 8 (n+1)=jHv (zI9 0) (zsE 1 n):=by
 unfold jHo jHv;rw[jH3,List.range_eq_range',jJI (n+1) n 0 (by omega),jK1,jK1];rfl
def txL(k n:Nat):LB:=jIF k++((List.range n).flatMap (fun j=>jHw k++jHr k n j)++jHz k)
theorem jIU(k n:Nat):jHo k n=txL k n:=by
 unfold jHo txL;rw[jH3,jK1]
def jJX(n:Nat):Bool:=Kr (jIg (zI9 0) (zsE 1 n)) (dOf (jIg (zI9 0) (zsE 1 n))) ⟨#[116]⟩==jIe 8 (n+1)
def jIi(n:Nat):Bool:=Kr (jIf n) (dOf (jIf n)) ⟨#[116]⟩==jIe 9 n
def jIn(k n:Nat):Bool:=jIL (txL k n) ⟨#[116]⟩==some (jIe k n)
set_option maxRecDepth 100000
theorem jJn:((List.range' 1 40).all fun n=>jIM 1 n)=true:=by decide+kernel
theorem jJm:((List.range' 41 15).all fun n=>jIM 1 n)=true:=by decide+kernel
theorem jJl:((List.range' 56 12).all fun n=>jIM 1 n)=true:=by decide+kernel
theorem jJk:((List.range' 1 40).all fun n=>jIM 2 n)=true:=by decide+kernel
theorem jJj:((List.range' 41 15).all fun n=>jIM 2 n)=true:=by decide+kernel
theorem jJi:((List.range' 56 12).all fun n=>jIM 2 n)=true:=by decide+kernel
end Go.Proofs.YtifbhcfdealfaaaGreatDoor

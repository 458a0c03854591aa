import Derived.Test.YtifbhcfdealfaaaGreatDoorMl21
import Derived.Test.YtifbhcfdealfaaaGreatDoorMl22
set_option maxRecDepth 100000
set_option maxHeartbeats 25600000
namespace Go.Proofs.YtifbhcfdealfaaaGreatDoor
open Go.Proofs.Tryz
open Go.RowKit
theorem jHc(w:World)(o1 o2 o3:Obj)(t:TypeId)(cs:Array Value):Blk ((((w.alloc o1).alloc o2).alloc o3).alloc (.cells cs t)) (w.heap.size+1+1+1) t cs:=by
 simpa using jQ2 (((w.alloc o1).alloc o2).alloc o3) t cs
theorem Uy(w:World)(hn:Kn w)(op:Int)(x y:Kd)(S:Value)(h:op=11\/op=12):Calls prog 266 #[iq op,S,kdV x,kdV y] w (KdR w (Zo op x y)):=by
 have HR:=G (show Zo op x y=((2,false),decide (x.1=y.1)||(decide (x=noK)&&y.2)||(decide (y=noK)&&x.2))by unfold Zo;rw[jJ6 h]);generalize Zo op x y=R at*;have ho:(op==11)=true\/(op==11)=false/\(op==12)=true:=by
  rcases h with rfl|rfl
  ·exact .inl rfl
  ·exact .inr ⟨rfl,rfl⟩
 obtain⟨a,o⟩:=x;obtain⟨b,p⟩:=y;have n0:=hn.c0;have n1:=hn.c1;have hp:0<w.heap.size:=jU n0;have ways:(a==b)=true/\R=((2,false),true)\/(a==b)=false/\((a==0)=true/\(b==0)=false/\R=((2,false),o&&p)\/(a==0)=false/\(b==0)=true/\R=((2,false),p&&o)\/(a==0)=false/\(b==0)=false/\R=((2,false),false)):=by
  rw[HR.out];simp only[noK,Prod.mk.injEq];by_cases e:a=b
  ·exact .inl ⟨beq_iff_eq.2 e,by simp[e]⟩
  ·refine .inr ⟨jM3 e,?_⟩;rw[jK3 e,Bool.false_or];by_cases e1:a=0
   ·subst e1;have e2:¬b=0:=fun h=>e h.symm;refine .inl ⟨rfl,jM3 e2,?_⟩;simp only[e2,false_and,decide_false,Bool.false_and,Bool.or_false,true_and];cases o<;>rfl
   ·by_cases e2:b=0
    ·subst e2;refine .inr (.inl ⟨jM3 e1,rfl,?_⟩);simp only[e1,false_and,decide_false,Bool.false_and,Bool.false_or,true_and];cases p<;>rfl
    ·refine .inr (.inr ⟨jM3 e1,jM3 e2,?_⟩);simp[e1,e2]
 clear hn h HR;unfold kdV KdR;rcases ho with y1|⟨y1,y2⟩
 all_goals rcases ways with⟨q1,e⟩|⟨q1,⟨q2,q3,e⟩|⟨q2,q3,e⟩|⟨q2,q3,e⟩⟩
 all_goals cases o<;>cases p
 all_goals
  have HR:=G e;clear e;go_enter func266,ntmps266;go_wp2;refine jL (g:=w.heap.size+1+1) rfl rfl (Uq _ _ _ _ _) underlying81 rfl kR rfl ?_;obtain rfl:=HR.out;exact⟨rfl,Zp _ _ _ _⟩
theorem Uz(w:World)(hn:Kn w)(x y:Kd)(S:Value):Calls prog 266 #[iq 33,S,kdV x,kdV y] w (KdR w (Zo 33 x y)):=by
 obtain⟨J,hJ⟩:∃J,J=vv x y:=⟨_,rfl⟩;have HR:=G (show Zo 33 x y=((J.1.1,y.2),J.2)by unfold Zo;rw[jJ5 (by decide),jJ6 rfl,hJ]);generalize Zo 33 x y=R at*;have HJ:=G (fun W (ho:Old w W)=>Vh W (hn.old ho) x y);rw[<-hJ]at HJ;obtain⟨⟨ja,jo⟩,jk⟩:=J;obtain⟨a,o⟩:=x;obtain⟨b,p⟩:=y;have K2:=G ((show Blk ((w.alloc (.cells #[iq a,.bool o] 81)).alloc (.cells #[iq b,.bool p] 81)) (w.heap.size+1) 81 #[iq b,.bool p]by simpa using jQ2 (w.alloc (.cells #[iq a,.bool o] 81)) 81 #[iq b,.bool p]).alloc (.cells #[iq 0,.bool false] 81));have K3:=G (Uq w (.cells #[iq a,.bool o] 81) (.cells #[iq b,.bool p] 81) 81 #[iq 0,.bool false]);have fin:∀w2,Old (((w.alloc (.cells #[iq a,.bool o] 81)).alloc (.cells #[iq b,.bool p] 81)).alloc (.cells #[iq 0,.bool false] 81)) w2->
   w2.cell? ⟨w.heap.size+1,1,none⟩=some (.bool p)/\w2.cell? ⟨w.heap.size+1+1,0,none⟩=some (iq 0)/\w2.cell? ⟨w.heap.size+1+1,1,none⟩=some (.bool false)/\w2.frozen? ⟨w.heap.size+1+1,0,none⟩=false/\w2.frozen? ⟨w.heap.size+1+1,1,none⟩=false/\w.heap.size+1+1<w2.heap.size/\w.heap.size+1<w2.heap.size:=fun w2 ho=>
  ⟨(K2.out.old ho).at_ 1 rfl,(K3.out.old ho).at_ 0 rfl,(K3.out.old ho).at_ 1 rfl,(K3.out.old ho).frozen 0,(K3.out.old ho).frozen 1,(K3.out.old ho).lt,(K2.out.old ho).lt⟩
 have HF:=G fin;clear hn hJ fin;unfold KdR kdV at*;simp only at HR HJ;go_enter func266,ntmps266;go_wp2_with (first|(go_at_call 265;refine(HJ.out _ (Zp _ _ _ _)).mono ?_;rintro e w2 ⟨rfl,hO⟩;have HO:=G hO;obtain⟨p1,p2,p3,p4,p5,p6,p7⟩:=HF.out w2 hO;clear hO)|fail);have HB:=((((K3.out.old HO.out).set_ 0 (iq ja)).set_ 1 (.bool p)).alloc (.cells #[iq ja,.bool p] 81));refine jL (g:=w.heap.size+1+1) rfl rfl HB underlying81 rfl kR rfl ?_;obtain rfl:=HR.out;exact⟨rfl,(((vu HO.out).setCell (p:=⟨w.heap.size+1+1,0,none⟩) (fun h=>absurd h (by simp only;omega)) _).setCell (p:=⟨w.heap.size+1+1,1,none⟩) (fun h=>absurd h (by simp only;omega)) _).alloc _⟩
theorem jCO(w:World)(hn:Kn w)(op:Int)(x y:Kd)(A:OA)(c:Nat)(hr:Rd w 4 A 22 (pairsL.flatMap rwC)):
  Calls prog 266 #[iq op,.slice A 22 c,kdV x,kdV y] w (KdR w (Zo op x y)):=by
 by_cases h1:op=11\/op=12
 ·exact Uy w hn op x y _ h1
 ·by_cases h3:op=33
  ·subst h3;exact Uz w hn x y _
  ·exact jCN w op x y A c hr (fun e=>h1 (.inl e)) (fun e=>h1 (.inr e)) h3
structure LkA where
 sA:OA
 sc:Nat
 rA:OA
 rc:Nat
 kA:OA
 kc:Nat
structure LkW(w:World)(g:Nat)(a:LkA)(scope:List (BA×Kd))(ks:List Kd):Prop where
 kn:Kn w
 bx:LkB w g a.sA scope.length a.sc a.rA a.rc a.kA ks.length a.kc
 sr:Rd w 3 a.sA scope.length (scope.flatMap scC)
 sl:scope.length<=100000000
 rr:Rd w 4 a.rA 22 (pairsL.flatMap rwC)
 kr:Rd w 2 a.kA ks.length (ks.flatMap kdC)
 kl:ks.length<=4000000
theorem LkW.old{w w' :World}{g:Nat}{a:LkA}{scope:List (BA×Kd)}{ks:List Kd}(h:LkW w g a scope ks)(ho:Old w w'):LkW w' g a scope ks:=
 ⟨h.kn.old ho,Blk.old h.bx ho,h.sr.old ho,h.sl,h.rr.old ho,h.kr.old ho,h.kl⟩
def LkR(w:World)(r:Kd×Nat)(e:Ending)(w' :World):Prop:=e=.returned (.tuple #[kdV r.1,iq r.2])/\Old w w'
theorem jDi(w:World)(o1 o3:Obj)(t:TypeId)(cs:Array Value):Blk (((w.alloc o1).alloc (.cells cs t)).alloc o3) (w.heap.size+1) t cs:=by
 simpa using (jQ2 (w.alloc o1) t cs).alloc o3
theorem uX(w:World)(hn:Kn w)(g:Nat)(x:MNd)(scope:List (BA×Kd))(ks:List Kd)(h:x.n.op=1\/x.n.op=30\/x.n.op=2\/x.n.op=25\/x.n.op=26\/x.n.op=3\/x.n.op=29\/x.n.op=4):
  Calls prog 228 #[.pointer (some ⟨g,0,none⟩),.agg (ndC x).toArray] w (LkR w (vq scope ks x.n)):=by
 obtain⟨⟨op,name,vk,vn,vt,vs,kids⟩,A,c,vA,vc⟩:=x;have n0:=hn.c0;have n1:=hn.c1;have hp:0<w.heap.size:=jU n0;clear hn;simp only at h;unfold ndC iv LkR;rcases h with h|h|h|h|h|h|h|h
 all_goals
  subst h;unfold vq;simp only[if_true,if_false,true_or,or_true,Int.reduceEq,or_self];go_enter func228,ntmps228;go_wp2;refine jL (g:=w.heap.size+1) rfl rfl (jDi _ _ _ _ _) underlying81 rfl kR rfl ?_;exact⟨rfl,Zp _ _ _ _⟩
theorem KH(w:World)(c1 c2 c3:Array Value):∀w2,Old (((w.alloc (.cells c1 146)).alloc (.cells c2 81)).alloc (.cells c3 81)) w2->Blk w2 w.heap.size 146 c1/\Blk w2 (w.heap.size+1) 81 c2/\Blk w2 (w.heap.size+1+1) 81 c3:=fun _ ho=>
 ⟨(((jQ2 w 146 c1).alloc _).alloc _).old ho,(jDi _ _ _ _ _).old ho,(Uq _ _ _ _ _).old ho⟩
theorem uf{w w2:World}(h:Old w w2){q:Nat}(hq:w.heap.size<=q)(a b:Value):Old w ((w2.setCell ⟨q,0,none⟩ a).setCell ⟨q,1,none⟩ b):=
 (h.setCell (p:=⟨q,0,none⟩) (fun hh=>absurd hh (by simp only;omega)) a).setCell (p:=⟨q,1,none⟩) (fun hh=>absurd hh (by simp only;omega)) b
theorem ZQ{w:World}{g q:Nat}{t:TypeId}{cs:Array Value}(h:Blk w g t cs)(hq:g≠q)(a b:Value):Blk ((w.setCell ⟨q,0,none⟩ a).setCell ⟨q,1,none⟩ b) g t cs:=
 (h.far (p:=⟨q,0,none⟩) hq a).far (p:=⟨q,1,none⟩) hq b
theorem zH{w:World}{g:Nat}{t:TypeId}{x0 y0:Value}(h:Blk w g t #[x0,y0])(x y:Value):Blk ((w.setCell ⟨g,0,none⟩ x).setCell ⟨g,1,none⟩ y) g t #[x,y]:=(h.set_ 0 x).set_ 1 y
theorem LkW.named{w:World}{g:Nat}{a:LkA}{scope:List (BA×Kd)}{ks:List Kd}(h:LkW w g a scope ks)(s:BA):Calls prog 263 #[.pointer (some ⟨g,0,none⟩),.string s] w (KdR w (vF scope s)):=
 XN w g a.sA a.sc scope a.rA a.rc a.kA ks.length a.kc h.bx h.sr h.sl s
theorem uY(w:World)(g:Nat)(a:LkA)(x:MNd)(scope:List (BA×Kd))(ks:List Kd)(hw:LkW w g a scope ks)(h:x.n.op=5\/x.n.op=24):
  Calls prog 228 #[.pointer (some ⟨g,0,none⟩),.agg (ndC x).toArray] w (LkR w (vq scope ks x.n)):=by
 obtain⟨⟨op,name,vk,vn,vt,vs,kids⟩,A,c,vA,vc⟩:=x;have HW:=G (fun W (ho:Old w W)=>(hw.old ho).named name);obtain⟨J,hJ⟩:∃J,J=vF scope name:=⟨_,rfl⟩;have HJ:=G hJ;rw[<-hJ]at HW;have hg:g<w.heap.size:=Blk.lt hw.bx;clear hw hJ;simp only at h;obtain⟨⟨ja,jo⟩,jk⟩:=J;unfold ndC iv LkR;unfold KdR kdV at*;have HF:=G (KH w #[.int .i64 op,.string name,.int .i64 vk,.int .i64 vn,.string vt,.slice vA vs.length vc,.slice A kids.length c] #[.int .i64 0,.bool false] #[.int .i64 0,.bool false]);have Hm:∀w2,Old (((w.alloc (.cells #[.int .i64 op,.string name,.int .i64 vk,.int .i64 vn,.string vt,.slice vA vs.length vc,.slice A kids.length c] 146)).alloc (.cells #[.int .i64 0,.bool false] 81)).alloc (.cells #[.int .i64 0,.bool false] 81)) w2->Old w w2:=fun w2 ho=>vu ho;have HM:=G Hm;clear Hm;have ne1:w.heap.size+1≠w.heap.size+1+1:=(by omega);have le1:w.heap.size<=w.heap.size+1:=(by omega);have le2:w.heap.size<=w.heap.size+1+1:=(by omega);have GK:=G ne1;have WC:=G le1;have Nv:=G le2;clear ne1 le1 le2;rcases h with h|h<;>cases jk
 all_goals
  subst h;unfold vq;simp only[if_true,if_false,true_or,or_true,Int.reduceEq,or_self];rw[<-HJ.out];simp only[if_true,if_false,Bool.false_eq_true];go_enter func228,ntmps228
 rotate_left 3
 ·go_upto_region 38 with(first|(go_at_call 263;refine(HW.out _ (Zp _ _ _ _)).mono ?_;rintro e w2 ⟨rfl,hO⟩;have HO:=G (HM.out _ hO);obtain⟨B0,B1,B2⟩:=HF.out w2 hO;have pp:=B0.lt;have pn:=B0.cell 0;have p1:=B1.lt;have p2:=B2.lt;have p3:=B1.at_ 0 (v:=.int .i64 0) rfl;have p4:=B1.at_ 1 (v:=.bool false) rfl;have p5:=B2.at_ 0 (v:=.int .i64 0) rfl;have p6:=B2.at_ 1 (v:=.bool false) rfl;have p7:=B1.frozen 0;have p8:=B1.frozen 1;have p9:=B2.frozen 0;have p0:=B2.frozen 1;simp only[jJ7,List.getElem?_cons_zero]at pn;have Fg:=G B1;have Gj:=G B2;clear hO B0 B1 B2)|fail);have NI:=G (ZQ (ZQ Fg.out GK.out (.int .i64 ja) (.bool jo)) GK.out (.int .i64 2) (.bool false));have Pk:=G (zH (zH Gj.out (.int .i64 ja) (.bool jo)) (.int .i64 2) (.bool false));have Nw:=G (uf (uf HO.out Nv.out (.int .i64 ja) (.bool jo)) Nv.out (.int .i64 2) (.bool false));clear Fg Gj HO pp pn p1 p2 p3 p4 p5 p6 p7 p8 p9 p0;generalize ((((w2.setCell ⟨w.heap.size+1+1,0,none⟩ (.int .i64 ja)).setCell ⟨w.heap.size+1+1,1,none⟩ (.bool jo)).setCell ⟨w.heap.size+1+1,0,none⟩ (.int .i64 2)).setCell ⟨w.heap.size+1+1,1,none⟩ (.bool false))=w4 at*;have p1:=NI.out.lt;have p2:=Pk.out.lt;have p3:=NI.out.at_ 0 (v:=.int .i64 0) rfl;have p4:=NI.out.at_ 1 (v:=.bool false) rfl;have p5:=Pk.out.at_ 0 (v:=.int .i64 2) rfl;have p6:=Pk.out.at_ 1 (v:=.bool false) rfl;have p7:=NI.out.frozen 0;have p8:=NI.out.frozen 1;go_wp2;refine jL (g:=w.heap.size+1) rfl rfl (zH NI.out _ _) underlying81 rfl kR rfl ?_;exact⟨rfl,uf Nw.out WC.out _ _⟩
 all_goals
  go_wp2_with (first|(go_at_call 263;refine(HW.out _ (Zp _ _ _ _)).mono ?_;rintro e w2 ⟨rfl,hO⟩;have HO:=G (HM.out _ hO);obtain⟨B0,B1,B2⟩:=HF.out w2 hO;have pp:=B0.lt;have pn:=B0.cell 0;have p1:=B1.lt;have p2:=B2.lt;have p3:=B1.at_ 0 (v:=.int .i64 0) rfl;have p4:=B1.at_ 1 (v:=.bool false) rfl;have p5:=B2.at_ 0 (v:=.int .i64 0) rfl;have p6:=B2.at_ 1 (v:=.bool false) rfl;have p7:=B1.frozen 0;have p8:=B1.frozen 1;have p9:=B2.frozen 0;have p0:=B2.frozen 1;simp only[jJ7,List.getElem?_cons_zero]at pn;have Fg:=G B1;have Gj:=G B2;clear hO B0 B1 B2)|fail);refine jL (g:=w.heap.size+1) rfl rfl (zH (ZQ Fg.out GK.out _ _) _ _) underlying81 rfl kR rfl ?_;exact⟨rfl,uf (uf HO.out Nv.out _ _) WC.out _ _⟩
theorem jD{w W:World}{p:Addr}{v:Value}(h:w.cell? p=some v)(ho:Old w W):W.cell? p=some v:=(World.cell?_of_block (ho.block _ (jU h) (fun f=>f))).trans h
theorem YW{X:Nat->Prop}{w W:World}{p:Addr}{v:Value}(h:w.cell? p=some v)(ho:Kp X w W)(hx:¬X p.block):W.cell? p=some v:=(World.cell?_of_block (ho.block _ (jU h) hx)).trans h
theorem LkW.kid{w:World}{g:Nat}{a:LkA}{scope:List (BA×Kd)}{ks:List Kd}(h:LkW w g a scope ks){x:MNd}(hx:Rd w 1 x.A x.n.kids.length (x.n.kids.map iv))(hb:∀k∈x.n.kids,0<=k/\k<(ks.length:Int)){j:Nat}(hj:j<x.n.kids.length):
  ∃xb xo kb ko kv,x.A=some ⟨xb,xo,none⟩/\a.kA=some ⟨kb,ko,none⟩/\w.cell? ⟨xb,xo+j,none⟩=some (.int .i64 kv)/\(0:Int)<=kv/\kv<(ks.length:Int)/\
   w.cell? ⟨kb,ko+kv.toNat*2,none⟩=some (.int .i64 (JW ks x.n j).1)/\w.cell? ⟨kb,ko+kv.toNat*2+1,none⟩=some (.bool (JW ks x.n j).2):=by
 obtain⟨xb,xo,u,GJ,hu,NC⟩:=hx.at_ hj;have Ns:=hb _ (jL6 hj);rw[jM1,jJ9 hj]at hu;obtain rfl:=jL5 hu;have FV:(x.n.kids[j]).toNat<ks.length:=(by omega);obtain⟨kb,ko,hA,hc⟩:=jK (C:=kdC) (fun x=>rfl) h.kr (jJ9 FV) FV;have e:JW ks x.n j=ks[(x.n.kids[j]).toNat]:=by
  unfold JW;rw[List.getD,List.getD,jJ9 hj,Option.getD_some,jJ9 FV];rfl
 rw[e];exact⟨xb,xo,kb,ko,x.n.kids[j],GJ,hA,NC,Ns.1,Ns.2,hc 0 _ rfl,hc 1 _ rfl⟩
theorem jAh(w:World)(g:Nat)(a:LkA)(x:MNd)(scope:List (BA×Kd))(ks:List Kd)(hw:LkW w g a scope ks)(h:x.n.op=7\/x.n.op=8\/x.n.op=27)
  (hx:Rd w 1 x.A x.n.kids.length (x.n.kids.map iv)) (hb:∀k∈x.n.kids,0<=k/\k<(ks.length:Int)) (hl:x.n.kids.length=1):
  Calls prog 228 #[.pointer (some ⟨g,0,none⟩),.agg (ndC x).toArray] w (LkR w (vq scope ks x.n)):=by
 obtain⟨xb,xo,kb,ko,kv,hA,Wa,h1,k1,k2,h2,h3⟩:=hw.kid hx hb (j:=0) (by omega);have Hk:vq scope ks x.n=Up (((jBv x.n.op (JW ks x.n 0)).1,false),(jBv x.n.op (JW ks x.n 0)).2):=by
  unfold vq;rcases h with h|h|h<;>simp[h]
 rw[Hk];clear Hk;generalize JW ks x.n 0=kk at*;obtain⟨ka,kp⟩:=kk;obtain⟨⟨op,name,vk,vn,vt,vs,kids⟩,A,c,vA,vc⟩:=x;simp only at h hx hb hl hA h1 h2 h3;have c2:=Blk.at_ hw.bx 2 (v:=.slice a.kA ks.length a.kc) rfl;have hg:g<w.heap.size:=Blk.lt hw.bx;rw[Wa]at c2;rw[Nat.add_zero]at h1;have D1:xb<w.heap.size:=jU h1;have PC:kb<w.heap.size:=jU h2;obtain⟨J,hJ⟩:∃J,J=jBv op (ka,kp):=⟨_,rfl⟩;have HJ:=G (fun W=>jCz W op (ka,kp));rw[<-hJ]at HJ⊢;obtain⟨ja,jk⟩:=J;unfold ndC iv LkR;unfold kdV at*;subst hA;rw[hl];have Wl:Old w (((w.alloc (.cells #[.int .i64 op,.string name,.int .i64 vk,.int .i64 vn,.string vt,.slice vA vs.length vc,.slice (some ⟨xb,xo,none⟩) 1 c] 146)).alloc (.cells #[.int .i64 0,.bool false] 81)).alloc (.cells #[.int .i64 0,.bool false] 81)):=Zp _ _ _ _;obtain⟨B0,B1,B2⟩:=KH w #[.int .i64 op,.string name,.int .i64 vk,.int .i64 vn,.string vt,.slice vA vs.length vc,.slice (some ⟨xb,xo,none⟩) 1 c] #[.int .i64 0,.bool false] #[.int .i64 0,.bool false] _ (jQ0 _ _);have HF:=G (fun w2 (hO:Old (((w.alloc (.cells #[.int .i64 op,.string name,.int .i64 vk,.int .i64 vn,.string vt,.slice vA vs.length vc,.slice (some ⟨xb,xo,none⟩) 1 c] 146)).alloc (.cells #[.int .i64 0,.bool false] 81)).alloc (.cells #[.int .i64 0,.bool false] 81)) w2)=>(⟨B1.old hO,B2.old hO,Wl.trans hO (fun _ _ e=>e),hO.mono (fun _ _ e=>e.elim)⟩:Blk w2 (w.heap.size+1) 81 #[.int .i64 0,.bool false]/\Blk w2 (w.heap.size+1+1) 81 #[.int .i64 0,.bool false]/\Old w w2/\Kp (fun k=>k=w.heap.size+1+1) (((w.alloc (.cells #[.int .i64 op,.string name,.int .i64 vk,.int .i64 vn,.string vt,.slice vA vs.length vc,.slice (some ⟨xb,xo,none⟩) 1 c] 146)).alloc (.cells #[.int .i64 0,.bool false] 81)).alloc (.cells #[.int .i64 0,.bool false] 81)) w2));have kc:=fun{p:Addr} {v:Value} (hc:w.cell? p=some v) (w2:World) (hk:Kp (fun k=>k=w.heap.size+1+1) (((w.alloc (.cells #[.int .i64 op,.string name,.int .i64 vk,.int .i64 vn,.string vt,.slice vA vs.length vc,.slice (some ⟨xb,xo,none⟩) 1 c] 146)).alloc (.cells #[.int .i64 0,.bool false] 81)).alloc (.cells #[.int .i64 0,.bool false] 81)) w2)=>(YW (jD hc Wl) hk (fun e=>by have:=jU hc;rw[e]at this;omega):w2.cell? p=some v);have HS:=G (fun w2 (hk:Kp (fun k=>k=w.heap.size+1+1) (((w.alloc (.cells #[.int .i64 op,.string name,.int .i64 vk,.int .i64 vn,.string vt,.slice vA vs.length vc,.slice (some ⟨xb,xo,none⟩) 1 c] 146)).alloc (.cells #[.int .i64 0,.bool false] 81)).alloc (.cells #[.int .i64 0,.bool false] 81)) w2)=>
  (⟨kc c2 w2 hk,(B0.kp hk (by omega)).at_ 0 rfl,(B0.kp hk (by omega)).at_ 6 rfl,kc h1 w2 hk,kc h2 w2 hk,kc h3 w2 hk⟩:
  w2.cell? ⟨g,2,none⟩=some (.slice (some ⟨kb,ko,none⟩) ks.length a.kc)/\w2.cell? ⟨w.heap.size,0,none⟩=some (.int .i64 op)/\w2.cell? ⟨w.heap.size,6,none⟩=some (.slice (some ⟨xb,xo,none⟩) 1 c)/\w2.cell? ⟨xb,xo,none⟩=some (.int .i64 kv)/\w2.cell? ⟨kb,ko+kv.toNat*2,none⟩=some (.int .i64 ka)/\w2.cell? ⟨kb,ko+kv.toNat*2+1,none⟩=some (.bool kp)))
 have GK:=G (show w.heap.size+1≠w.heap.size+1+1 by omega);have WC:=G (show w.heap.size<=w.heap.size+1 by omega);have Nv:=G (show w.heap.size<=w.heap.size+1+1 by omega);clear kc hw hx hb Wa hl hJ B0 B1 B2 Wl;unfold Up;rcases h with h|h|h
 ·subst h;cases jk
  all_goals
   simp only[if_true,if_false,Bool.false_eq_true];go_enter func228,ntmps228;go_upto_region 34 with fail
   go_region_held3 (fun w' =>w'.cell? ⟨g,2,none⟩=some (.slice (some ⟨kb,ko,none⟩) ks.length a.kc)/\w'.cell? ⟨w.heap.size,0,none⟩=some (.int .i64 7)/\w'.cell? ⟨w.heap.size,6,none⟩=some (.slice (some ⟨xb,xo,none⟩) 1 c)/\w'.cell? ⟨xb,xo,none⟩=some (.int .i64 kv)/\w'.cell? ⟨kb,ko+kv.toNat*2,none⟩=some (.int .i64 ka)/\w'.cell? ⟨kb,ko+kv.toNat*2+1,none⟩=some (.bool kp)) (first|exact HS.out _ (by first|exact(jQ0 _ _).drew|exact HK.out|exact HK.out.setCell (p:=⟨w.heap.size+1+1,0,none⟩) (fun _=>rfl) _)|go_keep)
    ((go_at_call 264;refine(HJ.out _).mono ?_;rintro e w2 ⟨rfl,hO⟩;obtain⟨B1,B2,O2,K2⟩:=HF.out _ ((jQ0 _ _).drew.trans hO (fun _ _ e=>e));have HK:=G K2;have HO:=G O2;obtain⟨s1,s2,s3,s4,s5,s6⟩:=HS.out w2 K2;have p1:=B1.lt;have p2:=B2.lt;have p3:=B1.at_ 0 (v:=.int .i64 0) rfl;have p4:=B1.at_ 1 (v:=.bool false) rfl;have p5:=B2.at_ 0 (v:=.int .i64 0) rfl;have p6:=B2.at_ 1 (v:=.bool false) rfl;have p7:=B1.frozen 0;have p8:=B1.frozen 1;have p9:=B2.frozen 0;have p0:=B2.frozen 1;have Fg:=G B1;have Gj:=G B2;clear hO B1 B2 O2 K2))
   all_goals
    go_wp2;refine jL (g:=w.heap.size+1) rfl rfl (zH (Fg.out.far (p:=⟨w.heap.size+1+1,0,none⟩) GK.out _) _ _) underlying81 rfl kR rfl ?_;exact⟨rfl,uf (HO.out.setCell (p:=⟨w.heap.size+1+1,0,none⟩) (fun hh=>absurd hh (by simp only;omega)) _) WC.out _ _⟩
 ·subst h;cases jk
  all_goals
   simp only[if_true,if_false,Bool.false_eq_true];go_enter func228,ntmps228;go_upto_region 34 with fail
   go_region_held3 (fun w' =>w'.cell? ⟨g,2,none⟩=some (.slice (some ⟨kb,ko,none⟩) ks.length a.kc)/\w'.cell? ⟨w.heap.size,0,none⟩=some (.int .i64 8)/\w'.cell? ⟨w.heap.size,6,none⟩=some (.slice (some ⟨xb,xo,none⟩) 1 c)/\w'.cell? ⟨xb,xo,none⟩=some (.int .i64 kv)/\w'.cell? ⟨kb,ko+kv.toNat*2,none⟩=some (.int .i64 ka)/\w'.cell? ⟨kb,ko+kv.toNat*2+1,none⟩=some (.bool kp)) (first|exact HS.out _ (by first|exact(jQ0 _ _).drew|exact HK.out|exact HK.out.setCell (p:=⟨w.heap.size+1+1,0,none⟩) (fun _=>rfl) _)|go_keep)
    ((go_at_call 264;refine(HJ.out _).mono ?_;rintro e w2 ⟨rfl,hO⟩;obtain⟨B1,B2,O2,K2⟩:=HF.out _ ((jQ0 _ _).drew.trans hO (fun _ _ e=>e));have HK:=G K2;have HO:=G O2;obtain⟨s1,s2,s3,s4,s5,s6⟩:=HS.out w2 K2;have p1:=B1.lt;have p2:=B2.lt;have p3:=B1.at_ 0 (v:=.int .i64 0) rfl;have p4:=B1.at_ 1 (v:=.bool false) rfl;have p5:=B2.at_ 0 (v:=.int .i64 0) rfl;have p6:=B2.at_ 1 (v:=.bool false) rfl;have p7:=B1.frozen 0;have p8:=B1.frozen 1;have p9:=B2.frozen 0;have p0:=B2.frozen 1;have Fg:=G B1;have Gj:=G B2;clear hO B1 B2 O2 K2))
   all_goals
    go_wp2;refine jL (g:=w.heap.size+1) rfl rfl (zH (Fg.out.far (p:=⟨w.heap.size+1+1,0,none⟩) GK.out _) _ _) underlying81 rfl kR rfl ?_;exact⟨rfl,uf (HO.out.setCell (p:=⟨w.heap.size+1+1,0,none⟩) (fun hh=>absurd hh (by simp only;omega)) _) WC.out _ _⟩
 ·subst h;cases jk
  all_goals
   simp only[if_true,if_false,Bool.false_eq_true];go_enter func228,ntmps228;go_upto_region 34 with fail
   go_region_held3 (fun w' =>w'.cell? ⟨g,2,none⟩=some (.slice (some ⟨kb,ko,none⟩) ks.length a.kc)/\w'.cell? ⟨w.heap.size,0,none⟩=some (.int .i64 27)/\w'.cell? ⟨w.heap.size,6,none⟩=some (.slice (some ⟨xb,xo,none⟩) 1 c)/\w'.cell? ⟨xb,xo,none⟩=some (.int .i64 kv)/\w'.cell? ⟨kb,ko+kv.toNat*2,none⟩=some (.int .i64 ka)/\w'.cell? ⟨kb,ko+kv.toNat*2+1,none⟩=some (.bool kp)) (first|exact HS.out _ (by first|exact(jQ0 _ _).drew|exact HK.out|exact HK.out.setCell (p:=⟨w.heap.size+1+1,0,none⟩) (fun _=>rfl) _)|go_keep)
    ((go_at_call 264;refine(HJ.out _).mono ?_;rintro e w2 ⟨rfl,hO⟩;obtain⟨B1,B2,O2,K2⟩:=HF.out _ ((jQ0 _ _).drew.trans hO (fun _ _ e=>e));have HK:=G K2;have HO:=G O2;obtain⟨s1,s2,s3,s4,s5,s6⟩:=HS.out w2 K2;have p1:=B1.lt;have p2:=B2.lt;have p3:=B1.at_ 0 (v:=.int .i64 0) rfl;have p4:=B1.at_ 1 (v:=.bool false) rfl;have p5:=B2.at_ 0 (v:=.int .i64 0) rfl;have p6:=B2.at_ 1 (v:=.bool false) rfl;have p7:=B1.frozen 0;have p8:=B1.frozen 1;have p9:=B2.frozen 0;have p0:=B2.frozen 1;have Fg:=G B1;have Gj:=G B2;clear hO B1 B2 O2 K2))
   all_goals
    go_wp2;refine jL (g:=w.heap.size+1) rfl rfl (zH (Fg.out.far (p:=⟨w.heap.size+1+1,0,none⟩) GK.out _) _ _) underlying81 rfl kR rfl ?_;exact⟨rfl,uf (HO.out.setCell (p:=⟨w.heap.size+1+1,0,none⟩) (fun hh=>absurd hh (by simp only;omega)) _) WC.out _ _⟩
theorem jAf(w:World)(g:Nat)(a:LkA)(x:MNd)(scope:List (BA×Kd))(ks:List Kd)(hw:LkW w g a scope ks)(h:9<=x.n.op/\x.n.op<=22\/x.n.op=28\/31<=x.n.op/\x.n.op<=33)
  (hx:Rd w 1 x.A x.n.kids.length (x.n.kids.map iv)) (hb:∀k∈x.n.kids,0<=k/\k<(ks.length:Int)) (hl:x.n.kids.length=2):
  Calls prog 228 #[.pointer (some ⟨g,0,none⟩),.agg (ndC x).toArray] w (LkR w (vq scope ks x.n)):=by
 obtain⟨xb,xo,kb,ko,v0,hA,Wa,Nm,k10,k20,PJ,Sf⟩:=hw.kid hx hb (j:=0) (by omega);obtain⟨xb',xo',kb',ko',v1,Gy,GD,PK,k11,k21,PI,Se⟩:=hw.kid hx hb (j:=1) (by omega);rw[hA]at Gy;rw[Wa]at GD;obtain⟨rfl,rfl⟩:xb=xb' /\xo=xo' :=by injection Gy with e;injection e with e1 e2;exact⟨e1,e2⟩
 obtain⟨rfl,rfl⟩:kb=kb' /\ko=ko' :=by injection GD with e;injection e with e1 e2;exact⟨e1,e2⟩
 clear Gy GD;have Hk:vq scope ks x.n=Up (Zo x.n.op (JW ks x.n 0) (JW ks x.n 1)):=by
  unfold vq;simp only[show¬(x.n.op=1\/x.n.op=30)by omega,show¬(x.n.op=2\/x.n.op=25\/x.n.op=26)by omega,show¬x.n.op=3 by omega,show¬x.n.op=29 by omega,show¬x.n.op=4 by omega,show¬(x.n.op=5\/x.n.op=24)by omega,show¬x.n.op=6 by omega,show¬(x.n.op=7\/x.n.op=8\/x.n.op=27)by omega,show¬x.n.op=23 by omega,if_false]
 rw[Hk];clear Hk;generalize JW ks x.n 0=q0 at*;obtain⟨a0,p0⟩:=q0;generalize JW ks x.n 1=q1 at*;obtain⟨a1,p1⟩:=q1;obtain⟨⟨op,name,vk,vn,vt,vs,kids⟩,A,c,vA,vc⟩:=x;simp only at h hx hb hl hA Nm PJ Sf PK PI Se;have c2:=Blk.at_ hw.bx 2 (v:=.slice a.kA ks.length a.kc) rfl;have c1:=Blk.at_ hw.bx 1 (v:=.slice a.rA 22 a.rc) rfl;have hg:g<w.heap.size:=Blk.lt hw.bx;rw[Wa]at c2;rw[Nat.add_zero]at Nm;have D1:xb<w.heap.size:=jU Nm;have PC:kb<w.heap.size:=jU PJ;have HJ:=G (fun W (ho:Old w W)=>jCO W (hw.kn.old ho) op (a0,p0) (a1,p1) a.rA a.rc (hw.rr.old ho));obtain⟨J,hJ⟩:∃J,J=Zo op (a0,p0) (a1,p1):=⟨_,rfl⟩;rw[<-hJ]at HJ⊢;obtain⟨⟨ja,jo⟩,jk⟩:=J;unfold ndC iv LkR;unfold KdR kdV at*;simp only at HJ;subst hA;rw[hl];have Wl:Old w (((w.alloc (.cells #[.int .i64 op,.string name,.int .i64 vk,.int .i64 vn,.string vt,.slice vA vs.length vc,.slice (some ⟨xb,xo,none⟩) 2 c] 146)).alloc (.cells #[.int .i64 0,.bool false] 81)).alloc (.cells #[.int .i64 0,.bool false] 81)):=Zp _ _ _ _;obtain⟨B0,B1,B2⟩:=KH w #[.int .i64 op,.string name,.int .i64 vk,.int .i64 vn,.string vt,.slice vA vs.length vc,.slice (some ⟨xb,xo,none⟩) 2 c] #[.int .i64 0,.bool false] #[.int .i64 0,.bool false] _ (jQ0 _ _);have HF:=G (fun w2 (hO:Old (((w.alloc (.cells #[.int .i64 op,.string name,.int .i64 vk,.int .i64 vn,.string vt,.slice vA vs.length vc,.slice (some ⟨xb,xo,none⟩) 2 c] 146)).alloc (.cells #[.int .i64 0,.bool false] 81)).alloc (.cells #[.int .i64 0,.bool false] 81)) w2)=>(⟨B1.old hO,B2.old hO,Wl.trans hO (fun _ _ e=>e),hO.mono (fun _ _ e=>e.elim)⟩:Blk w2 (w.heap.size+1) 81 #[.int .i64 0,.bool false]/\Blk w2 (w.heap.size+1+1) 81 #[.int .i64 0,.bool false]/\Old w w2/\Kp (fun k=>k=w.heap.size+1+1) (((w.alloc (.cells #[.int .i64 op,.string name,.int .i64 vk,.int .i64 vn,.string vt,.slice vA vs.length vc,.slice (some ⟨xb,xo,none⟩) 2 c] 146)).alloc (.cells #[.int .i64 0,.bool false] 81)).alloc (.cells #[.int .i64 0,.bool false] 81)) w2));have kc:=fun{p:Addr} {v:Value} (hc:w.cell? p=some v) (w2:World) (hk:Kp (fun k=>k=w.heap.size+1+1) (((w.alloc (.cells #[.int .i64 op,.string name,.int .i64 vk,.int .i64 vn,.string vt,.slice vA vs.length vc,.slice (some ⟨xb,xo,none⟩) 2 c] 146)).alloc (.cells #[.int .i64 0,.bool false] 81)).alloc (.cells #[.int .i64 0,.bool false] 81)) w2)=>(YW (jD hc Wl) hk (fun e=>by have:=jU hc;rw[e]at this;omega):w2.cell? p=some v);have HS:=G (fun w2 (hk:Kp (fun k=>k=w.heap.size+1+1) (((w.alloc (.cells #[.int .i64 op,.string name,.int .i64 vk,.int .i64 vn,.string vt,.slice vA vs.length vc,.slice (some ⟨xb,xo,none⟩) 2 c] 146)).alloc (.cells #[.int .i64 0,.bool false] 81)).alloc (.cells #[.int .i64 0,.bool false] 81)) w2)=>
  (⟨kc c2 w2 hk,kc c1 w2 hk,(B0.kp hk (by omega)).at_ 0 rfl,(B0.kp hk (by omega)).at_ 6 rfl,kc Nm w2 hk,kc PJ w2 hk,kc Sf w2 hk,kc PK w2 hk,kc PI w2 hk,kc Se w2 hk⟩:
  w2.cell? ⟨g,2,none⟩=some (.slice (some ⟨kb,ko,none⟩) ks.length a.kc)/\w2.cell? ⟨g,1,none⟩=some (.slice a.rA 22 a.rc)/\w2.cell? ⟨w.heap.size,0,none⟩=some (.int .i64 op)/\w2.cell? ⟨w.heap.size,6,none⟩=some (.slice (some ⟨xb,xo,none⟩) 2 c)/\w2.cell? ⟨xb,xo,none⟩=some (.int .i64 v0)/\w2.cell? ⟨kb,ko+v0.toNat*2,none⟩=some (.int .i64 a0)/\w2.cell? ⟨kb,ko+v0.toNat*2+1,none⟩=some (.bool p0)/\w2.cell? ⟨xb,xo+1,none⟩=some (.int .i64 v1)/\w2.cell? ⟨kb,ko+v1.toNat*2,none⟩=some (.int .i64 a1)/\w2.cell? ⟨kb,ko+v1.toNat*2+1,none⟩=some (.bool p1)))
 have We:=G (Wl.drew);have GK:=G (show w.heap.size+1≠w.heap.size+1+1 by omega);have WC:=G (show w.heap.size<=w.heap.size+1 by omega);have Nv:=G (show w.heap.size<=w.heap.size+1+1 by omega);clear kc hw hx hb Wa hl hJ B0 B1 B2 Wl;have b1:(op==1)=false:=jM3 (by omega);have b30:(op==30)=false:=jM3 (by omega);have b2:(op==2)=false:=jM3 (by omega);have b25:(op==25)=false:=jM3 (by omega);have b26:(op==26)=false:=jM3 (by omega);have b3:(op==3)=false:=jM3 (by omega);have b29:(op==29)=false:=jM3 (by omega);have b4:(op==4)=false:=jM3 (by omega);have b5:(op==5)=false:=jM3 (by omega);have b24:(op==24)=false:=jM3 (by omega);have b6:(op==6)=false:=jM3 (by omega);have b7:(op==7)=false:=jM3 (by omega);have b8:(op==8)=false:=jM3 (by omega);have b27:(op==27)=false:=jM3 (by omega);have b23:(op==23)=false:=jM3 (by omega);clear h;unfold Up;cases jk
 all_goals
  simp only[if_true,if_false,Bool.false_eq_true];go_enter func228,ntmps228;go_upto_region 3 with fail
  go_region_held3 (fun w' =>w'.cell? ⟨g,2,none⟩=some (.slice (some ⟨kb,ko,none⟩) ks.length a.kc)/\w'.cell? ⟨g,1,none⟩=some (.slice a.rA 22 a.rc)/\w'.cell? ⟨w.heap.size,0,none⟩=some (.int .i64 op)/\w'.cell? ⟨w.heap.size,6,none⟩=some (.slice (some ⟨xb,xo,none⟩) 2 c)/\w'.cell? ⟨xb,xo,none⟩=some (.int .i64 v0)/\w'.cell? ⟨kb,ko+v0.toNat*2,none⟩=some (.int .i64 a0)/\w'.cell? ⟨kb,ko+v0.toNat*2+1,none⟩=some (.bool p0)/\w'.cell? ⟨xb,xo+1,none⟩=some (.int .i64 v1)/\w'.cell? ⟨kb,ko+v1.toNat*2,none⟩=some (.int .i64 a1)/\w'.cell? ⟨kb,ko+v1.toNat*2+1,none⟩=some (.bool p1)) (first|exact HS.out _ (by first|exact(jQ0 _ _).drew|exact HK.out|exact HK.out.setCell (p:=⟨w.heap.size+1+1,0,none⟩) (fun _=>rfl) _ |exact(HK.out.setCell (p:=⟨w.heap.size+1+1,0,none⟩) (fun _=>rfl) _).setCell (p:=⟨w.heap.size+1+1,1,none⟩) (fun _=>rfl) _)|go_keep)
   ((go_at_call 266;refine(HJ.out _ We.out).mono ?_;rintro e w2 ⟨rfl,hO⟩;obtain⟨B1,B2,O2,K2⟩:=HF.out _ ((jQ0 _ _).drew.trans hO (fun _ _ e=>e));have HK:=G K2;have HO:=G O2;obtain⟨s0,s1,s2,s3,s4,s5,s6,s7,s8,s9⟩:=HS.out w2 K2;have p1:=B1.lt;have p2:=B2.lt;have p3:=B1.at_ 0 (v:=.int .i64 0) rfl;have p4:=B1.at_ 1 (v:=.bool false) rfl;have p5:=B2.at_ 0 (v:=.int .i64 0) rfl;have p6:=B2.at_ 1 (v:=.bool false) rfl;have p7:=B1.frozen 0;have p8:=B1.frozen 1;have p9:=B2.frozen 0;have p0:=B2.frozen 1;have Fg:=G B1;have Gj:=G B2;clear hO B1 B2 O2 K2))
  all_goals
   go_wp2;refine jL (g:=w.heap.size+1) rfl rfl (zH (ZQ Fg.out GK.out _ _) _ _) underlying81 rfl kR rfl ?_;exact⟨rfl,uf (uf HO.out Nv.out _ _) WC.out _ _⟩
end Go.Proofs.YtifbhcfdealfaaaGreatDoor

import Derived.Test.YtnaolhjbapgjgaaGreatMg07
import Derived.Deep.CutBlock
set_option maxRecDepth 100000
set_option maxHeartbeats 6400000
namespace Go.Proofs.YtnaolhjbapgjgaaGreat
open Go.Proofs.Tryz
open Go.RowKit
def vK:Val:=⟨0,0,ByteArray.empty,[]⟩
def i64(n:Nat):Int:=wrap64 (n:Int)
def vF(bs:LB)(k:Nat)(s:Rs):Val×Rs:=
 if k=1\/k=4 then(⟨k,i64 (tkN bs 8 s).1,ByteArray.empty,[]⟩,(tkN bs 8 s).2)
 else if k=2 then(⟨2,if(jw bs s).1 then 1 else 0,ByteArray.empty,[]⟩,(jw bs s).2)
 else if k=3 then(⟨3,0,⟨(zx bs 1024 s).1.toArray⟩,[]⟩,(zx bs 1024 s).2)
 else if k=5 then(⟨5,0,ByteArray.empty,(kI bs 64 1024 s).1⟩,(kI bs 64 1024 s).2)
 else(⟨k,0,ByteArray.empty,[]⟩,s)
def Jw(vs:Val×Rs):Val×Rs:=
 if vs.2.why≠0 then(vK,vs.2)else if jS vs.1≠0 then(vK,⟨vs.2.at_,8⟩)else vs
def jc(bs:LB)(s:Rs):Val×Rs:=Jw (vF bs (tkN bs 1 s).1 (tkN bs 1 s).2)
def jJx(w:World)(g:Nat)(bs:LB)(vs:Val×Rs)(e:Ending)(w' :World):Prop:=
 ∃A c,e=.returned (.tuple #[vV vs.1 A c,.int .i64 vs.2.why])/\Rd w' 1 A vs.1.s.length (vs.1.s.map sv)/\Av (fun k=>k<w.heap.size) vs.1.s.length A/\vs.1.s.length<=c/\Rr w' g bs vs.2/\Kp (RX g) w w'
theorem ku(bs:LB)(k:Nat)(s:Rs):(tkN bs k s).1<256^k:=by
 unfold tkN;split
 ·exact Nat.pow_pos (by decide)
 ·split
  ·exact jm _ _
  ·exact Nat.pow_pos (by decide)
theorem qE(bs:LB)(each:Int):∀(n p:Nat) (acc:List BA),(jk bs each n p acc).2.1.length<=acc.length+n:=by
 intro n
 induction n with
 |zero=>intro p acc;simp[jk]
 |succ n ih=>
  intro p acc;rw[jk];split
  ·simp
  ·refine jL4 (ih _ _) ?_;simp;omega
theorem xN(bs:LB)(most each:Int)(s:Rs):(kI bs most each s).1.length<=65536:=by
 unfold kI;split
 ·simp
 ·split
  ·simp
  ·split
   ·simp
   ·split
    ·simp
    ·refine jL4 (qE _ _ _ _ _) ?_;have:=jm (bs.drop s.at_) 2;simp;omega
structure TkV(w:World)(g V:Nat)(bs:LB)(v:Val)(A:OA)(c:Nat)(s:Rs)(W:World):Prop where
 box:Blk W w.heap.size 29 #[.int .i64 0,.int .i64 0,.string ⟨#[]⟩,.slice none 0 0]
 val:Blk W V 29 #[.int .i64 v.kind,.int .i64 v.n,.string v.t,.slice A v.s.length c]
 rr:Rr W g bs s
 kp:Kp (RX g) w W
 ne:w.heap.size<V/\g<w.heap.size
 rd:Rd W 1 A v.s.length (v.s.map sv)
 av:Av (fun k=>k<=V) v.s.length A
 cap:v.s.length<=c
 big:v.s.length<=65536
section
variable{w:World}{g V:Nat}{bs:LB}{v:Val}{A:OA}{c:Nat}{s s' :Rs}{W W' :World}
theorem TkV.step(h:TkV w g V bs v A c s W)(hr:Rr W' g bs s')(hk:Kp (RX g) W W'):TkV w g V bs v A c s' W' :=
 ⟨h.box.kp hk (fun e=>by have h1:w.heap.size=g:=e;have:=h.ne;omega),h.val.kp hk (fun e=>by have h1:V=g:=e;have:=h.ne;omega),hr,h.kp.trans hk (fun _ _ e=>e),h.ne,
  h.rd.kp hk (fun hn ad e hx=>h.av hn ad e (by have h1:ad.block=g:=hx;have:=h.ne;omega)),h.av,h.cap,h.big⟩
theorem TkV.old(h:TkV w g V bs v A c s W)(hk:Old W W'):TkV w g V bs v A c s W' :=h.step (h.rr.old hk) (hk.mono (fun _ _ f=>f.elim))
theorem TkV.put(h:TkV w g V bs v A c s W)(i:Nat)(u:Value){v' :Val}{A' :OA}{c' :Nat}(e:(#[.int .i64 v.kind,.int .i64 v.n,.string v.t,.slice A v.s.length c]:Array Value).setIfInBounds i u= #[.int .i64 v'.kind,.int .i64 v'.n,.string v'.t,.slice A' v'.s.length c'])
  (hr:Rd W 1 A' v'.s.length (v'.s.map sv)) (ha:Av (fun k=>k<=V) v'.s.length A') (hc:v'.s.length<=c') (hb:v'.s.length<=65536):TkV w g V bs v' A' c' s (W.setCell ⟨V,i,none⟩ u):=by
 have hk:Kp (fun k=>k=V) W (W.setCell ⟨V,i,none⟩ u):=(jQ0 (fun k=>k=V) W).setCell (p:=⟨V,i,none⟩) (fun _=>rfl) u;have Ff:=h.ne;have hv:=h.val.set_ i u;rw[e]at hv;exact⟨h.box.kp hk (fun e=>by omega),hv,h.rr.kp hk (fun b hb e=>by omega),h.kp.trans hk (fun b hb e=>by omega),Ff,hr.kp hk (fun hn ad e hx=>ha hn ad e (by omega)),ha,hc,hb⟩
theorem TkV.told(h:TkV w g V bs v A c s W)(u0 u1 u2 u3:Value):
  Blk ((((W.setCell ⟨w.heap.size,0,none⟩ u0).setCell ⟨w.heap.size,1,none⟩ u1).setCell ⟨w.heap.size,2,none⟩ u2).setCell ⟨w.heap.size,3,none⟩ u3) w.heap.size 29 #[u0,u1,u2,u3]/\
  Rr ((((W.setCell ⟨w.heap.size,0,none⟩ u0).setCell ⟨w.heap.size,1,none⟩ u1).setCell ⟨w.heap.size,2,none⟩ u2).setCell ⟨w.heap.size,3,none⟩ u3) g bs s/\
  Kp (RX g) w ((((W.setCell ⟨w.heap.size,0,none⟩ u0).setCell ⟨w.heap.size,1,none⟩ u1).setCell ⟨w.heap.size,2,none⟩ u2).setCell ⟨w.heap.size,3,none⟩ u3)/\
  Rd ((((W.setCell ⟨w.heap.size,0,none⟩ u0).setCell ⟨w.heap.size,1,none⟩ u1).setCell ⟨w.heap.size,2,none⟩ u2).setCell ⟨w.heap.size,3,none⟩ u3) 1 A v.s.length (v.s.map sv):=by
 have hk:Kp (fun k=>k=w.heap.size) W ((((W.setCell ⟨w.heap.size,0,none⟩ u0).setCell ⟨w.heap.size,1,none⟩ u1).setCell ⟨w.heap.size,2,none⟩ u2).setCell ⟨w.heap.size,3,none⟩ u3):=
  ((((jQ0 (fun k=>k=w.heap.size) W).setCell (p:=⟨w.heap.size,0,none⟩) (fun _=>rfl) u0).setCell (p:=⟨w.heap.size,1,none⟩) (fun _=>rfl) u1).setCell (p:=⟨w.heap.size,2,none⟩) (fun _=>rfl) u2).setCell (p:=⟨w.heap.size,3,none⟩) (fun _=>rfl) u3
 have Ff:=h.ne;exact⟨(((h.box.set_ 0 u0).set_ 1 u1).set_ 2 u2).set_ 3 u3,h.rr.kp hk (fun b hb e=>by omega),h.kp.trans hk (fun b hb e=>by omega),h.rd.kp hk (fun hn ad e hx=>h.av hn ad e (by omega))⟩
end
theorem jDA(w:World)(g:Nat)(bs:LB)(s:Rs)(h:Rr w g bs s):
  Calls prog 85 #[.pointer (some ⟨g,0,none⟩)] w (jJx w g bs (jc bs s)):=by
 have HT:=G (show jc bs s=Jw (vF bs (tkN bs 1 s).1 (tkN bs 1 s).2)from rfl);generalize jc bs s=TV at HT⊢;have NV:=h.lt;have SR:=ku bs 1 s;have H0:=G (vm _ g bs s (h.old ((jQ0 NoX w).alloc (.cells #[.int .i64 0,.int .i64 0,.string ⟨#[]⟩,.slice none 0 0] 29))));clear h;generalize tkN bs 1 s=t0 at*;obtain⟨k,s1⟩:=t0;simp only at HT H0 SR;go_enter func85,ntmps85;go_wp2_with fail;refine H0.out.mono ?_;rintro e w1 ⟨rfl,Fd,Fc⟩;have Cx:=(jQ2 w 29 #[.int .i64 0,.int .i64 0,.string ⟨#[]⟩,.slice none 0 0]).kp Fc (show¬RX g w.heap.size from fun e=>by have:w.heap.size=g:=e;omega);have BG:w.heap.size<w1.heap.size:=Cx.lt;have HS:=G (show TkV w g w1.heap.size bs ⟨(k:Int),0,⟨#[]⟩,[]⟩ none 0 s1 (w1.alloc (.cells #[.int .i64 (k:Int),.int .i64 0,.string ⟨#[]⟩,.slice none 0 0] 29))from
  ⟨Cx.alloc _,jQ2 w1 _ _,Fd.old ((jQ0 NoX w1).alloc _),(((jQ0 (RX g) w).alloc _).trans Fc (fun _ _ h=>h)).alloc _,⟨BG,NV⟩,Rd.none_,fun hn=>absurd hn (by simp),jL3 _,by simp⟩)
 clear H0 Fd Fc Cx;go_upto_block 0 with fail;generalize hW:w1.alloc _=W at*;have OP:W.heap.size=w1.heap.size+1:=by rw[<-hW];simp
 generalize hV:w1.heap.size=V at*;clear hW hV;go_cut [4] (fun x wx=>x=.pointer (some ⟨V,0,none⟩)/\∃(v:Val) (A:OA) (c:Nat) (sz:Rs),vF bs k s1=(v,sz)/\TkV w g V bs v A c sz wx)
 case first=>
  have hc:k=0\/(k=1\/k=4)\/k=2\/k=3\/k=5\/5<k:=(by omega);rcases hc with rfl|(rfl|rfl)|rfl|rfl|rfl|hc
  ·go_wp2_with fail;go_meet
   case rel=>exact⟨rfl,⟨0,0,⟨#[]⟩,[]⟩,none,0,s1,rfl,HS.out⟩
  ·have H6:=G (yY _ g bs s1 HS.out.rr);go_wp2_with fail;refine H6.out.mono ?_;rintro e w3 ⟨rfl,Gl,Gd⟩;have HS:=G (HS.out.step Gl Gd);have p1:=HS.out.val.at_ 1 rfl;have pz:=HS.out.val.frozen 1;clear Gl Gd;go_wp2_with fail;go_meet
   case rel=>exact⟨rfl,⟨1,wrap64 ((tkN bs 8 s1).1:Int),⟨#[]⟩,[]⟩,none,0,_,rfl,HS.out.put 1 _ rfl Rd.none_ (fun hn=>absurd hn (by simp)) (jL3 _) (by simp)⟩
  ·have H6:=G (yY _ g bs s1 HS.out.rr);go_wp2_with fail;refine H6.out.mono ?_;rintro e w3 ⟨rfl,Gl,Gd⟩;have HS:=G (HS.out.step Gl Gd);have p1:=HS.out.val.at_ 1 rfl;have pz:=HS.out.val.frozen 1;clear Gl Gd;go_wp2_with fail;go_meet
   case rel=>exact⟨rfl,⟨4,wrap64 ((tkN bs 8 s1).1:Int),⟨#[]⟩,[]⟩,none,0,_,rfl,HS.out.put 1 _ rfl Rd.none_ (fun hn=>absurd hn (by simp)) (jL3 _) (by simp)⟩
  ·have H6:=G (qQ _ g bs s1 HS.out.rr);have Er:=G (show vF bs 2 s1=(⟨2,if(jw bs s1).1 then 1 else 0,⟨#[]⟩,[]⟩,(jw bs s1).2)from rfl);generalize vF bs 2 s1=KV at*;go_wp2_with fail;refine H6.out.mono ?_;clear H6;generalize jw bs s1=fl at*;obtain⟨f,s2⟩:=fl;simp only at Er⊢;rintro e w3 ⟨rfl,Gl,Gd⟩;have HS:=G (HS.out.step Gl Gd);have p1:=HS.out.val.at_ 1 rfl;have pz:=HS.out.val.frozen 1;clear Gl Gd;cases f
   ·go_wp2_with fail;go_meet
    case rel=>exact⟨rfl,⟨2,0,⟨#[]⟩,[]⟩,none,0,s2,Er.out,HS.out⟩
   ·go_wp2_with fail;go_meet
    case rel=>exact⟨rfl,⟨2,1,⟨#[]⟩,[]⟩,none,0,s2,Er.out,HS.out.put 1 _ rfl Rd.none_ (fun hn=>absurd hn (by simp)) (jL3 _) (by simp)⟩
  ·have H6:=G (jDJ _ g bs 1024 s1 HS.out.rr (by omega));go_wp2_with fail;refine H6.out.mono ?_;rintro e w3 ⟨rfl,Gl,Gd⟩;have HS:=G (HS.out.step Gl Gd);have p1:=HS.out.val.at_ 2 rfl;have pz:=HS.out.val.frozen 2;clear Gl Gd;go_wp2_with fail;go_meet
   case rel=>exact⟨rfl,⟨3,0,⟨(zx bs 1024 s1).1.toArray⟩,[]⟩,none,0,_,rfl,HS.out.put 2 _ rfl Rd.none_ (fun hn=>absurd hn (by simp)) (jL3 _) (by simp)⟩
  ·have H6:=G (jBH _ g bs 64 1024 s1 HS.out.rr (by omega) (by omega));go_wp2_with fail;refine H6.out.mono ?_;rintro e w3 ⟨A3,c3,rfl,FP,GD,Gb,Gl,Gd⟩;have HS:=G (HS.out.step Gl Gd);have p1:=HS.out.val.at_ 3 rfl;have pz:=HS.out.val.frozen 3;have Hr:=G FP;have Ha:=G (show Av (fun k=>k<=V) _ A3 from fun hn ad e hx=>GD hn ad e (by omega));have Hc:=G Gb;clear Gl Gd FP GD Gb;go_wp2_with fail;go_meet
   case rel=>exact⟨rfl,⟨5,0,⟨#[]⟩,(kI bs 64 1024 s1).1⟩,A3,c3,_,rfl,HS.out.put 3 _ rfl Hr.out Ha.out Hc.out (xN bs 64 1024 s1)⟩
  ·have q0:((k:Int)==0)=false:=beq_eq_false_iff_ne.2 (by omega);have q1:((k:Int)==1)=false:=beq_eq_false_iff_ne.2 (by omega);have q2:((k:Int)==2)=false:=beq_eq_false_iff_ne.2 (by omega);have q3:((k:Int)==3)=false:=beq_eq_false_iff_ne.2 (by omega);have q4:((k:Int)==4)=false:=beq_eq_false_iff_ne.2 (by omega);have q5:((k:Int)==5)=false:=beq_eq_false_iff_ne.2 (by omega);have Er:=G (show vF bs k s1=(⟨k,0,⟨#[]⟩,[]⟩,s1)by rw[vF,jJ5 (by omega),jJ5 (by omega),jJ5 (by omega),jJ5 (by omega)];rfl);clear hc;go_wp2_with fail;go_meet
   case rel=>exact⟨rfl,⟨k,0,⟨#[]⟩,[]⟩,none,0,s1,Er.out,HS.out⟩
 case rest=>
  obtain⟨rfl,v,A,c,sz,Di,hs⟩:=hcut;rw[Di]at HT;have HS:=G hs;have Ff:w.heap.size≠V:=by have:=hs.ne;omega
  clear Di hs;have u0:=HS.out.val.at_ 0 rfl;have u1:=HS.out.val.at_ 1 rfl;have u2:=HS.out.val.at_ 2 rfl;have u3:=HS.out.val.at_ 3 rfl;have v0:=HS.out.box.at_ 0 rfl;have v1:=HS.out.box.at_ 1 rfl;have v2:=HS.out.box.at_ 2 rfl;have v3:=HS.out.box.at_ 3 rfl;have y0:=HS.out.box.frozen 0;have y1:=HS.out.box.frozen 1;have y2:=HS.out.box.frozen 2;have y3:=HS.out.box.frozen 3;obtain⟨pz,yz⟩:=sz;by_cases hyz:yz=0
  case neg=>
   have SA:=G (show TV=(vK,⟨pz,yz⟩)by rw[HT.out,Jw,jJ6 hyz]);have hyz1:(yz==0)=false:=beq_eq_false_iff_ne.2 hyz;have hyz2:(yz !=0)=true:=(by simpa using hyz);have hT:=HS.out.told (.int .i64 0) (.int .i64 0) (.string ⟨#[]⟩) (.slice none 0 0);clear hyz;go_wp2_with fail;refine(yL _ g bs ⟨pz,yz⟩ HS.out.rr).mono ?_;rintro e w' ⟨rfl,rfl⟩;go_wp2_with fail;refine(yL _ g bs ⟨pz,yz⟩ HS.out.rr).mono ?_;rintro e w' ⟨rfl,rfl⟩;go_wp2;rw[SA.out];exact jD rfl rfl hT.1 underlying29 rfl (by kernel_rfl) rfl ⟨none,0,rfl,Rd.none_,fun h=>absurd h (by simp[vK]),jL3 _,hT.2.1,hT.2.2.1⟩
  subst hyz;have HR:=G (yl v A c wc HS.out.rd HS.out.cap (jL4 HS.out.big (by decide)));unfold vV at HR;by_cases hR:jS v=0
  ·have SA:=G (show TV=(v,⟨pz,0⟩)by rw[HT.out,Jw,jJ5 (by simp),jJ5 (by simpa using hR)]);rw[hR]at HR;clear hR;go_wp2_with fail;refine(yL _ g bs ⟨pz,0⟩ HS.out.rr).mono ?_;rintro e w' ⟨rfl,rfl⟩;go_wp2_with fail;refine HR.out.mono ?_;rintro e w3 ⟨rfl,Gj⟩;have HS:=G (HS.out.old Gj);clear Gj u0 u1 u2 u3 v0 v1 v2 v3 y0 y1 y2 y3;have u0:=HS.out.val.at_ 0 rfl;have u1:=HS.out.val.at_ 1 rfl;have u2:=HS.out.val.at_ 2 rfl;have u3:=HS.out.val.at_ 3 rfl;have v0:=HS.out.box.at_ 0 rfl;have v1:=HS.out.box.at_ 1 rfl;have v2:=HS.out.box.at_ 2 rfl;have v3:=HS.out.box.at_ 3 rfl;have y0:=HS.out.box.frozen 0;have y1:=HS.out.box.frozen 1;have y2:=HS.out.box.frozen 2;have y3:=HS.out.box.frozen 3;have hT:=HS.out.told (.int .i64 v.kind) (.int .i64 v.n) (.string v.t) (.slice A v.s.length c);go_wp2_with fail;refine(yL _ g bs ⟨pz,0⟩ HS.out.rr).mono ?_;rintro e w' ⟨rfl,rfl⟩;go_wp2;rw[SA.out];exact jD rfl rfl hT.1 underlying29 rfl (by kernel_rfl) rfl ⟨A,c,rfl,hT.2.2.2,fun hn ad e hx=>HS.out.av hn ad e (by have:=HS.out.ne;omega),HS.out.cap,hT.2.1,hT.2.2.1⟩
  ·have SA:=G (show TV=(vK,⟨pz,8⟩)by rw[HT.out,Jw,jJ5 (by simp),jJ6 (by simpa using hR)]);have DB:(jS v !=0)=true:=(by simpa using hR);generalize jS v=zz at HR DB;clear hR;go_wp2_with fail;refine(yL _ g bs ⟨pz,0⟩ HS.out.rr).mono ?_;rintro e w' ⟨rfl,rfl⟩;go_wp2_with fail;refine HR.out.mono ?_;rintro e w3 ⟨rfl,Gj⟩;have HS:=G (HS.out.old Gj);clear Gj u0 u1 u2 u3 v0 v1 v2 v3 y0 y1 y2 y3;go_wp2_with fail;refine(za _ g bs (-1) ⟨pz,0⟩ HS.out.rr (by omega)).mono ?_;rintro e w4 ⟨A4,c4,rfl,_,_,_,Mu,Mw⟩;have HS:=G (HS.out.step Mu Mw);rw[show(vE bs (-1) ⟨pz,0⟩).2=⟨pz,8⟩from rfl]at HS;clear Mu Mw;have t0:=HS.out.box.at_ 0 rfl;have t1:=HS.out.box.at_ 1 rfl;have t2:=HS.out.box.at_ 2 rfl;have t3:=HS.out.box.at_ 3 rfl;have r0:=HS.out.box.frozen 0;have r1:=HS.out.box.frozen 1;have r2:=HS.out.box.frozen 2;have r3:=HS.out.box.frozen 3;have hT:=HS.out.told (.int .i64 0) (.int .i64 0) (.string ⟨#[]⟩) (.slice none 0 0);go_wp2_with fail;refine(yL _ g bs ⟨pz,8⟩ HS.out.rr).mono ?_;rintro e w' ⟨rfl,rfl⟩;go_wp2;rw[SA.out];exact jD rfl rfl hT.1 underlying29 rfl (by kernel_rfl) rfl ⟨none,0,rfl,Rd.none_,fun h=>absurd h (by simp[vK]),jL3 _,hT.2.1,hT.2.2.1⟩
def yy(bs:LB)(s:Rs):Int×Bool×Rs:=(i64 (tkN bs 8 s).1,decide ((tkN bs 8 s).1<=1099511627776),(tkN bs 8 s).2)
theorem yn(w:World)(g:Nat)(bs:LB)(s:Rs)(h:Rr w g bs s):
  Calls prog 143 #[.pointer (some ⟨g,0,none⟩)] w fun e w' =>e=.returned (.tuple #[.int .i64 (yy bs s).1,.bool (yy bs s).2.1])/\Rr w' g bs (yy bs s).2.2/\Kp (RX g) w w' :=by
 have HT:=G (show yy bs s=(i64 (tkN bs 8 s).1,decide ((tkN bs 8 s).1<=1099511627776),(tkN bs 8 s).2)from rfl);have HR:=G (yY w g bs s h);generalize yy bs s=T at*;generalize tkN bs 8 s=t at*;obtain⟨n,s1⟩:=t;simp only at HT HR;go_enter func143,ntmps143;go_wp2_with fail;refine HR.out.mono ?_;rintro e w1 ⟨rfl,hr,hk⟩;go_wp2
 go_ret2
 rw[HT.out];refine⟨?_,hr,hk⟩;have e:decide (n<=1099511627776)=decide ((n:Int)<=1099511627776):=decide_eq_decide.2 (by omega);rw[e];rfl
def kH(bs:LB)(most kind:Nat):Option Rs:=
 if most<bs.length then none else if(tkN bs 1 ⟨0,0⟩).1=kind/\(tkN bs 1 ⟨0,0⟩).2.why=0 then some (tkN bs 1 ⟨0,0⟩).2 else none
def jJU(w:World)(bs:LB)(o:Option Rs)(e:Ending)(w' :World):Prop:=
 (∃g s,o=some s/\e=.returned (.tuple #[.pointer (some ⟨g,0,none⟩),.int .i64 0])/\w.heap.size<=g/\Rr w' g bs s/\Old w w')\/
 (∃er:Int,o=none/\er≠0/\e=.returned (.tuple #[.pointer none,.int .i64 er])/\Old w w')
theorem Yc(w:World)(A:OA)(c:Nat)(bs:LB)(most kind:Nat)(Fa:Rd w 1 A bs.length (bs.map bv))(hm:most<=100000000):
  Calls prog 142 #[.slice A bs.length c,.int .i64 most,.int .u8 kind] w (jJU w bs (kH bs most kind)):=by
 have HB:=G (show kH bs most kind=if most<bs.length then none else if(tkN bs 1 ⟨0,0⟩).1=kind/\(tkN bs 1 ⟨0,0⟩).2.why=0 then some (tkN bs 1 ⟨0,0⟩).2 else none from rfl);generalize kH bs most kind=B at*;by_cases hl:most<bs.length
 ·have Dh:(most:Int)<(bs.length:Int):=(by omega);have hY:=G (show B=none by rw[HB.out,jJ6 hl]);clear hl;go_enter func142,ntmps142;go_wp2
  go_ret2
  exact .inr ⟨170,hY.out,by decide,rfl,jQ0 _ _⟩
 ·have Dh:¬(most:Int)<(bs.length:Int):=(by omega);rw[jJ5 hl]at HB;have HR:=G (uZ w A bs.length c bs Fa (by omega));have HT:=G (fun W g (hR:Rr W g bs ⟨0,0⟩)=>vm W g bs ⟨0,0⟩ hR);clear hl;generalize tkN bs 1 ⟨0,0⟩=t at*;obtain⟨n,s1⟩:=t;simp only at HB HT;go_enter func142,ntmps142;go_wp2_with fail;refine HR.out.mono ?_;rintro e w1 ⟨g,rfl,hg,Fd,F0⟩;go_wp2_with fail;refine(HT.out w1 g Fd).mono ?_;rintro e w2 ⟨rfl,Fb,hZ⟩;have HO:=G (show Old w w2 from F0.trans hZ (fun b hb e=>by have:b=g:=e;omega));by_cases hn:n=kind
  ·subst hn;have b1:((n:Int) !=(n:Int))=false:=(by simp);by_cases hy:s1.why=0
   ·have FT:=G (show B=some s1 by rw[HB.out,jJ6 ⟨rfl,hy⟩]);have HW:=G (yL w2 g bs s1 Fb);rw[hy]at HW;clear hy hZ F0;go_wp2_with fail;refine HW.out.mono ?_;rintro e w3 ⟨rfl,rfl⟩;go_wp2
    go_ret2
    exact .inl ⟨g,s1,FT.out,rfl,hg,Fb,HO.out⟩
   ·have hY:=G (show B=none by rw[HB.out,jJ5 (fun h=>hy h.2)]);have HW:=G (yL w2 g bs s1 Fb);have MK:(s1.why !=0)=true:=(by simpa using hy);clear hy hZ F0;go_wp2_with fail;refine HW.out.mono ?_;rintro e w3 ⟨rfl,rfl⟩;go_wp2
    go_ret2
    exact .inr ⟨8,hY.out,by decide,rfl,HO.out⟩
  ·have b1:((n:Int) !=(kind:Int))=true:=by simp;omega
   have hY:=G (show B=none by rw[HB.out,jJ5 (fun h=>hn h.1)]);clear hn hZ F0;go_wp2
   go_ret2
   exact .inr ⟨8,hY.out,by decide,rfl,HO.out⟩
theorem jF{P:Program}{ops:Array Oper}{rest:List Oper}{d:Option Tmp}{ty:TypeId}{pos:String}{after:Array Edge}{gd:Option (Nat×Bool)}{a:Act}{w:World}{Q:Exit->Act->World->Prop}(t:TypeId)(x y:Operand)
  (h:wpList P ops Q (⟨d,.store t x y,ty,pos,after,gd⟩::rest) a w):wpList P ops Q (⟨d,.store t x y,ty,pos,after,gd⟩::rest) a w:=h
structure DecR(T:TypeId)(z:List Value)(w:World)(g:Nat)(bs:LB)(s:Rs)(W:World):Prop where
 box:Blk W w.heap.size T z.toArray
 rr:Rr W g bs s
 old:Old w W
 lt:w.heap.size<g
section
variable{T:TypeId}{z:List Value}{w:World}{g:Nat}{bs:LB}{s s' :Rs}{W W' :World}
theorem DecR.step(h:DecR T z w g bs s W)(hr:Rr W' g bs s')(hk:Kp (RX g) W W'):DecR T z w g bs s' W' :=
 ⟨h.box.kp hk (fun e=>by have:w.heap.size=g:=e;have:=h.lt;omega),hr,h.old.trans hk (fun b hb e=>by have:b=g:=e;have:=h.lt;omega),h.lt⟩
theorem DecR.still(h:DecR T z w g bs s W)(hk:Old W W'):DecR T z w g bs s W' :=⟨h.box.old hk,h.rr.old hk,h.old.old hk,h.lt⟩
theorem DecR.put(h:DecR T z w g bs s W){X:Nat->Prop}(hk:Kp X W W')(hx:∀b,X b->g<b):DecR T z w g bs s W' :=
 ⟨h.box.kp hk (fun e=>by have:=hx _ e;have:=h.lt;omega),h.rr.kp hk (fun b hb e=>by have:=hx _ e;omega),h.old.trans hk (fun b hb e=>by have:=hx _ e;have:=h.lt;omega),h.lt⟩
theorem DecR.th(h:DecR T z w g bs s W)(vs:List Value)(hl:z.length=vs.length):W.there w.heap.size 0 vs.toArray.size:=h.box.there 0 _ (by rw[jJ8,jJ8];omega)
structure Told(T:TypeId)(vs:List Value)(w W W' :World):Prop where
 box:Blk W' w.heap.size T vs.toArray
 old:Old w W'
 kp:Kp (fun k=>k=w.heap.size) W W'
theorem DecR.told(h:DecR T z w g bs s W)(vs:List Value)(hl:z.length=vs.length):Told T vs w W (W.setCells w.heap.size 0 vs):=
 ⟨h.box.setWhole vs hl,h.old.trans (Kp.setCells _ 0 vs W) (fun b hb e=>by omega),Kp.setCells _ 0 vs W⟩
end
theorem Rd.told{T:TypeId}{vs:List Value}{w W W' :World}{s n:Nat}{A:OA}{xs:List Value}(h:Rd W s A n xs)(t:Told T vs w W W')(ha:Av (fun k=>k<=w.heap.size) n A):Rd W' s A n xs:=
 h.kp t.kp (fun hn ad e hx=>ha hn ad e (by have:ad.block=w.heap.size:=hx;omega))
def jA2(kind:Nat)(o:Option Nat)(a b:Int)(ds:List LB):Option LB:=if o=some ds.length then some (be 1 kind++(be8 a++(be8 b++ds.flatten)))else none
def jAh(a b:Int)(ds:List LB):Option LB:=jA2 48 (yA a b) a b ds
def jAr(a b:Int)(ds:List LB):Option LB:=jA2 49 (JR a b) a b ds
theorem jCE(w:World)(a b:Int)(A:OA)(c:Nat)(ds:List LB)(hd:Dgs ds)(Fa:Rd w 32 A ds.length (ds.flatMap jA))(Fj:ds.length<=2147483647):
  Calls prog 58 #[.agg #[.int .i64 a,.int .i64 b,.slice A ds.length c]] w (XU w (jAh a b ds) 70000000000):=by
 have Hb:=G (jQ2 w 51 #[.int .i64 a,.int .i64 b,.slice A ds.length c]);have Ho:=G ((jQ0 NoX w).alloc (.cells #[.int .i64 a,.int .i64 b,.slice A ds.length c] 51));have Fy:=G Fa;have Hd:=G hd;have HI:=G (show jAh a b ds=if yA a b=some ds.length then some (be 1 48++(be8 a++(be8 b++ds.flatten)))else none from rfl);generalize jAh a b ds=IB at*;clear Fa hd;have HB:=G (fun W=>Ku W a b);go_enter func58,ntmps58;go_wp2_with fail;generalize w.alloc _=W at*;refine(HB.out W).mono ?_;rintro e w1 ⟨he,rfl⟩;generalize yA a b=o at*;have c2:=Hb.out.at_ 2 (v:=.slice A ds.length c) rfl;rcases o with _ |n
 ·simp only at he;subst he;have HZ:=G (show IB=none by rw[HI.out,jJ5 (by simp)]);go_wp2
  go_ret2
  exact .inr ⟨170,HZ.out,by decide,rfl,Ho.out⟩
 ·simp only at he;subst he;by_cases hn:n=ds.length
  ·subst hn;have hb:((ds.length:Int) !=(ds.length:Int))=false:=(by simp);have Fm:=G (show IB=some (be 1 48++(be8 a++(be8 b++ds.flatten)))by rw[HI.out,jJ6 rfl]);clear HI;go_wp2_with fail;refine(Yu _).mono ?_;rintro e w3 ⟨rfl,G8,Gj⟩;have GT:=G (Hb.out.old Gj);have Ny:=G ((Fy.out.old Ho.out).old Gj);have FW:=G (Av.own (Fy.out.old Ho.out) (by decide) (jL3 W.heap.size));have hM:=Hb.out.lt;have Hx:=G (show¬WX W.heap.size none w.heap.size from by
    rintro (e|e)
    ·omega
    ·cases e)
   have Gq:=G (Ho.out.old Gj);have Mf:=G G8;have V4:=G (show w.heap.size<=W.heap.size from Ho.out.size);clear G8 Gj c2 Hb;generalize W.heap.size=g at*;go_wp2_with fail;refine(kY _ g none [] 48 (by decide) (by decide) Mf.out (by simp)).mono ?_;rintro e w4 ⟨rfl,HU⟩;obtain⟨r4,M2,f4⟩:=HU.kf;have F4:=G f4;have Lg:=G M2;have c0:=(f4.blk GT.out Hx.out).at_ 0 (v:=.int .i64 a) rfl;clear HU M2 f4;go_wp2_with fail;refine(vQ _ g r4 _ a none 0 0 [] rfl (fun d hd=>by cases hd) Lg.out (by simp[jC]) (by omega) Rd.none_ (fun h=>absurd h (by simp))).mono ?_;rintro e w5 ⟨rfl,HU⟩;obtain⟨r5,NI,f5⟩:=HU.kf;have F5:=G (F4.out.trans f5);have Nr:=F5.out.blk GT.out Hx.out;have c1:=Nr.at_ 1 (v:=.int .i64 b) rfl;have c2:=Nr.at_ 2 (v:=.slice A ds.length c) rfl;have HP:=G (vQ w5 g r5 _ b A ds.length c ds rfl Hd.out NI (by simp[jC,jG]) Fj (F5.out.rd Ny.out FW.out) (F5.out.av Ny.out (by decide) FW.out));clear HU NI f5 F4 Lg c0 Nr;go_wp2_with fail;refine HP.out.mono ?_;rintro e w6 ⟨rfl,HU⟩;obtain⟨r6,MB,f6⟩:=HU.kf;have hq:[]++be 1 ((48:Int)).toNat++(be8 a++([]:List LB).flatten)++(be8 b++ds.flatten)=be 1 48++(be8 a++(be8 b++ds.flatten)):=by
    simp
   rw[hq]at MB;have S8:(be 1 48++(be8 a++(be8 b++ds.flatten))).length<=70000000000:=by
    simp only[jJ4,jC,jG,Hd.out.flat];omega
   generalize be 1 48++(be8 a++(be8 b++ds.flatten))=q at*;have HO:=G (show Old w w6 from Gq.out.trans (F5.out.trans f6).kp (fun b hb hx=>by
    rcases hx with hx|hx
    ·have:=V4.out;omega
    ·cases hx))
   clear HU f6 c1 c2 HP hq;go_wp2_with fail;refine(JE _ g r6 q MB (by omega)).mono ?_;rintro e w8 ⟨A8,c8,rfl,Hi,NF⟩;have HZ:=G (show XU w IB 70000000000 (.returned (.tuple #[.slice A8 q.length c8,.int .i64 0])) w8 from
    .inl ⟨q,A8,c8,Fm.out,S8,rfl,Rd.of_own Hi,fun hn ad e hx=>vd Hi hn ad e (jL8 hx HO.out.size),HO.out.old NF⟩)
   clear Hi NF S8;go_wp2
   go_ret2
   exact HZ.out
  ·have hb:((n:Int) !=(ds.length:Int))=true:=by simp;omega
   have HZ:=G (show IB=none by rw[HI.out,jJ5 (by simpa using hn)]);go_wp2
   go_ret2
   exact .inr ⟨170,HZ.out,by decide,rfl,Ho.out⟩
theorem jCG(w:World)(a b:Int)(A:OA)(c:Nat)(ds:List LB)(hd:Dgs ds)(Fa:Rd w 32 A ds.length (ds.flatMap jA))(Fj:ds.length<=2147483647):
  Calls prog 59 #[.agg #[.int .i64 a,.int .i64 b,.slice A ds.length c]] w (XU w (jAr a b ds) 70000000000):=by
 have Hb:=G (jQ2 w 53 #[.int .i64 a,.int .i64 b,.slice A ds.length c]);have Ho:=G ((jQ0 NoX w).alloc (.cells #[.int .i64 a,.int .i64 b,.slice A ds.length c] 53));have Fy:=G Fa;have Hd:=G hd;have HI:=G (show jAr a b ds=if JR a b=some ds.length then some (be 1 49++(be8 a++(be8 b++ds.flatten)))else none from rfl);generalize jAr a b ds=IB at*;clear Fa hd;have HB:=G (fun W=>qw W a b);go_enter func59,ntmps59;go_wp2_with fail;generalize w.alloc _=W at*;refine(HB.out W).mono ?_;rintro e w1 ⟨he,rfl⟩;generalize JR a b=o at*;have c2:=Hb.out.at_ 2 (v:=.slice A ds.length c) rfl;rcases o with _ |n
 ·simp only at he;subst he;have HZ:=G (show IB=none by rw[HI.out,jJ5 (by simp)]);go_wp2
  go_ret2
  exact .inr ⟨170,HZ.out,by decide,rfl,Ho.out⟩
 ·simp only at he;subst he;by_cases hn:n=ds.length
  ·subst hn;have hb:((ds.length:Int) !=(ds.length:Int))=false:=(by simp);have Fm:=G (show IB=some (be 1 49++(be8 a++(be8 b++ds.flatten)))by rw[HI.out,jJ6 rfl]);clear HI;go_wp2_with fail;refine(Yu _).mono ?_;rintro e w3 ⟨rfl,G8,Gj⟩;have GT:=G (Hb.out.old Gj);have Ny:=G ((Fy.out.old Ho.out).old Gj);have FW:=G (Av.own (Fy.out.old Ho.out) (by decide) (jL3 W.heap.size));have hM:=Hb.out.lt;have Hx:=G (show¬WX W.heap.size none w.heap.size from by
    rintro (e|e)
    ·omega
    ·cases e)
   have Gq:=G (Ho.out.old Gj);have Mf:=G G8;have V4:=G (show w.heap.size<=W.heap.size from Ho.out.size);clear G8 Gj c2 Hb;generalize W.heap.size=g at*;go_wp2_with fail;refine(kY _ g none [] 49 (by decide) (by decide) Mf.out (by simp)).mono ?_;rintro e w4 ⟨rfl,HU⟩;obtain⟨r4,M2,f4⟩:=HU.kf;have F4:=G f4;have Lg:=G M2;have c0:=(f4.blk GT.out Hx.out).at_ 0 (v:=.int .i64 a) rfl;clear HU M2 f4;go_wp2_with fail;refine(vQ _ g r4 _ a none 0 0 [] rfl (fun d hd=>by cases hd) Lg.out (by simp[jC]) (by omega) Rd.none_ (fun h=>absurd h (by simp))).mono ?_;rintro e w5 ⟨rfl,HU⟩;obtain⟨r5,NI,f5⟩:=HU.kf;have F5:=G (F4.out.trans f5);have Nr:=F5.out.blk GT.out Hx.out;have c1:=Nr.at_ 1 (v:=.int .i64 b) rfl;have c2:=Nr.at_ 2 (v:=.slice A ds.length c) rfl;have HP:=G (vQ w5 g r5 _ b A ds.length c ds rfl Hd.out NI (by simp[jC,jG]) Fj (F5.out.rd Ny.out FW.out) (F5.out.av Ny.out (by decide) FW.out));clear HU NI f5 F4 Lg c0 Nr;go_wp2_with fail;refine HP.out.mono ?_;rintro e w6 ⟨rfl,HU⟩;obtain⟨r6,MB,f6⟩:=HU.kf;have hq:[]++be 1 ((49:Int)).toNat++(be8 a++([]:List LB).flatten)++(be8 b++ds.flatten)=be 1 49++(be8 a++(be8 b++ds.flatten)):=by
    simp
   rw[hq]at MB;have S8:(be 1 49++(be8 a++(be8 b++ds.flatten))).length<=70000000000:=by
    simp only[jJ4,jC,jG,Hd.out.flat];omega
   generalize be 1 49++(be8 a++(be8 b++ds.flatten))=q at*;have HO:=G (show Old w w6 from Gq.out.trans (F5.out.trans f6).kp (fun b hb hx=>by
    rcases hx with hx|hx
    ·have:=V4.out;omega
    ·cases hx))
   clear HU f6 c1 c2 HP hq;go_wp2_with fail;refine(JE _ g r6 q MB (by omega)).mono ?_;rintro e w8 ⟨A8,c8,rfl,Hi,NF⟩;have HZ:=G (show XU w IB 70000000000 (.returned (.tuple #[.slice A8 q.length c8,.int .i64 0])) w8 from
    .inl ⟨q,A8,c8,Fm.out,S8,rfl,Rd.of_own Hi,fun hn ad e hx=>vd Hi hn ad e (jL8 hx HO.out.size),HO.out.old NF⟩)
   clear Hi NF S8;go_wp2
   go_ret2
   exact HZ.out
  ·have hb:((n:Int) !=(ds.length:Int))=true:=by simp;omega
   have HZ:=G (show IB=none by rw[HI.out,jJ5 (by simpa using hn)]);go_wp2
   go_ret2
   exact .inr ⟨170,HZ.out,by decide,rfl,Ho.out⟩
structure MWay where
 a:Int
 b:Int
 ds:List LB
 A:OA
 c:Nat
def MWay.cells(m:MWay):List Value:=[.int .i64 m.a,.int .i64 m.b,.slice m.A m.ds.length m.c]
structure MWay.Ok(w:World)(X:Nat->Prop)(m:MWay):Prop where
 dgs:Dgs m.ds
 rd:Rd w 32 m.A m.ds.length (m.ds.flatMap jA)
 av:Av X m.ds.length m.A
 big:m.ds.length<=2147483647
structure Way where
 a:Int
 b:Int
 ds:List LB
def MWay.data(m:MWay):Way:=⟨m.a,m.b,m.ds⟩
def zeroWay:List Value:=[.int .i64 0,.int .i64 0,.slice none 0 0]
def xM(bs:LB)(a b:Int)(n:Nat)(s:Rs):Option Way:=
 if s.why≠0 then none else if vi bs (yC bs n s).2=0 then some ⟨a,b,(yC bs n s).1⟩else none
def XP(bs:LB)(f:Int->Int->Option Nat)(s:Rs):Option Way:=
 if(yy bs s).2.1=true/\(yy bs (yy bs s).2.2).2.1=true then
  match f (yy bs s).1 (yy bs (yy bs s).2.2).1 with
  |none=>none
  |some n=>xM bs (yy bs s).1 (yy bs (yy bs s).2.2).1 n (yy bs (yy bs s).2.2).2.2
 else none
def ve(bs:LB):Option Way:=(kH bs 9000 48).bind (XP bs yA)
def vf(bs:LB):Option Way:=(kH bs 9000 49).bind (XP bs JR)
def jKB(w:World)(d:Option Way)(e:Ending)(w' :World):Prop:=
 (∃m:MWay,d=some m.data/\e=.returned (.tuple #[.agg m.cells.toArray,.int .i64 0])/\m.Ok w' (fun k=>k<w.heap.size)/\Old w w')\/
 (∃er:Int,d=none/\er≠0/\e=.returned (.tuple #[.agg zeroWay.toArray,.int .i64 er])/\Old w w')
theorem jEs{a b:Int}{n:Nat}(h:yA a b=some n):n<=2199023255552:=by
 unfold yA at h;split at h
 ·injection h with h;have:=Zs a.toNat b.toNat 41 0 0;omega
 ·cases h
theorem ux(F:Nat):∀(f T L n:Nat),(Jo F f T L n).1<=n+f
 |0,_,_,n=>jL3 n
 |f+1,T,L,n=>by
  rw[Jo];split
  ·simp only;omega
  ·split
   ·have:=ux F f (L+2^(Lib.bitLen (T-L-1)-1)) L (n+1);omega
   ·have:=ux F f T (L+2^(Lib.bitLen (T-L-1)-1)) (n+1);omega
theorem jIS{a b:Int}{n:Nat}(h:JR a b=some n):n<=2199023255552:=by
 unfold JR at h;split at h
 ·split at h
  ·injection h with h;omega
  ·injection h with h;have:=ux a.toNat b.toNat b.toNat 0 0;unfold Ya at h;split at h<;>omega
 ·cases h
theorem KS(bs:LB)(n:Int)(s:Rs)(hs:s.at_ <=bs.length):Dgs (yC bs n s).1:=by
 unfold yC;split
 ·intro d hd;cases hd
 ·split
  ·intro d hd;cases hd
  ·exact YV (by omega)
theorem KR(bs:LB)(n:Int)(s:Rs):(yC bs n s).1.length<=bs.length:=by
 unfold yC;split
 ·simp
 ·split
  ·simp
  ·simp only[zf];omega
theorem jN:(prog.info? 51).map (·.size)=some 3:=by kernel_rfl
theorem jL:(prog.info? 53).map (·.size)=some 3:=by kernel_rfl
theorem jCL(w:World)(A:OA)(c:Nat)(bs:LB)(Fa:Rd w 1 A bs.length (bs.map bv)):
  Calls prog 93 #[.slice A bs.length c] w (jKB w (ve bs)):=by
 have HD:=G (show ve bs=(kH bs 9000 48).bind (XP bs yA)from rfl);have Hb:=G (jQ2 w 51 zeroWay.toArray);have HO:=G ((jQ0 NoX w).alloc (.cells zeroWay.toArray 51));have LL:=G (fun W (h:Old w W)=>Yc W A c bs 9000 48 (Fa.old h) (by omega));generalize ve bs=D at*;clear Fa;unfold zeroWay at Hb HO;go_enter func93,ntmps93;go_wp2_with fail;generalize w.alloc _=W at*;refine(LL.out W HO.out).mono ?_;generalize kH bs 9000 48=B at*;rintro e w1 (⟨g,s,rfl,rfl,hg,Fd,F0⟩|⟨er,rfl,FZ,rfl,F0⟩)
 ·have HS:=G (show DecR 51 zeroWay w g bs s w1 from⟨Hb.out.old F0,Fd,HO.out.old F0,by have:=Hb.out.lt;omega⟩);clear Fd F0 hg Hb HO LL;have FB:=G (show D=XP bs yA s by rw[HD.out];rfl);have GK:=G (fun W (hR:Rr W g bs s)=>yn W g bs s hR);unfold XP at FB;clear HD;go_wp2_with fail;refine(GK.out _ HS.out.rr).mono ?_;clear GK;generalize yy bs s=t1 at*;obtain⟨a,f1,s1⟩:=t1;simp only at FB⊢;rintro e w2 ⟨rfl,Fb,hZ⟩;replace HS:=G (HS.out.step Fb hZ);clear Fb hZ;have GK:=G (fun W (hR:Rr W g bs s1)=>yn W g bs s1 hR);go_wp2_with fail;refine(GK.out _ HS.out.rr).mono ?_;clear GK;generalize yy bs s1=t2 at*;obtain⟨b,f2,s2⟩:=t2;simp only at FB⊢;rintro e w3 ⟨rfl,Fb,hZ⟩;replace HS:=G (HS.out.step Fb hZ);clear Fb hZ;have HB:=G (fun W=>Ku W a b);have Nz:=G (fun n (h:yA a b=some n)=>jEs h);go_wp2_with fail;refine(HB.out _).mono ?_;clear HB;generalize yA a b=o at*;rintro e w4 ⟨he,rfl⟩;cases f1 with
  |false=>
   have hY:=G (show D=none by rw[FB.out,jJ5 (by simp)]);rcases o with _ |n
   all_goals
    simp only at he;subst he;have hU:=G (HS.out.th zeroWay rfl);have Ht:=G (HS.out.told zeroWay rfl);go_wp2_with (first|((with_reducible refine jF 51 (.tmp 2) (.tmp 53) ?_);refine jQ1 rfl 51 (.tmp 2) (.tmp 53) rfl w.heap.size 0 zeroWay.toArray rfl rfl hU.out jN (jR rfl) ?_)|fail);refine jD (g:=w.heap.size) (cs:=zeroWay.toArray) rfl rfl Ht.out.box underlying51 rfl jN rfl ?_;exact .inr ⟨8,hY.out,by decide,rfl,Ht.out.old⟩
  |true=>
  cases f2 with
  |false=>
   have hY:=G (show D=none by rw[FB.out,jJ5 (by simp)]);rcases o with _ |n
   all_goals
    simp only at he;subst he;have hU:=G (HS.out.th zeroWay rfl);have Ht:=G (HS.out.told zeroWay rfl);go_wp2_with (first|((with_reducible refine jF 51 (.tmp 2) (.tmp 53) ?_);refine jQ1 rfl 51 (.tmp 2) (.tmp 53) rfl w.heap.size 0 zeroWay.toArray rfl rfl hU.out jN (jR rfl) ?_)|fail);refine jD (g:=w.heap.size) (cs:=zeroWay.toArray) rfl rfl Ht.out.box underlying51 rfl jN rfl ?_;exact .inr ⟨8,hY.out,by decide,rfl,Ht.out.old⟩
  |true=>
  rw[jJ6 ⟨rfl,rfl⟩]at FB;rcases o with _ |n
  ·simp only at he FB;subst he;have hY:=G FB.out;have hU:=G (HS.out.th zeroWay rfl);have Ht:=G (HS.out.told zeroWay rfl);go_wp2_with (first|((with_reducible refine jF 51 (.tmp 2) (.tmp 53) ?_);refine jQ1 rfl 51 (.tmp 2) (.tmp 53) rfl w.heap.size 0 zeroWay.toArray rfl rfl hU.out jN (jR rfl) ?_)|fail);refine jD (g:=w.heap.size) (cs:=zeroWay.toArray) rfl rfl Ht.out.box underlying51 rfl jN rfl ?_;exact .inr ⟨8,hY.out,by decide,rfl,Ht.out.old⟩
  ·simp only at he FB;subst he;have hn:=Nz.out n rfl;clear Nz;unfold xM at FB;have HW:=G (fun W (hR:Rr W g bs s2)=>yL W g bs s2 hR);go_wp2_with fail;refine(HW.out _ HS.out.rr).mono ?_;rintro e w5 ⟨rfl,rfl⟩;clear HW;by_cases hy:s2.why=0
   case neg=>
    have hY:=G (show D=none by rw[FB.out,jJ6 hy]);have MK:(s2.why !=0)=true:=(by simpa using hy);clear hy;have hU:=G (HS.out.th zeroWay rfl);have Ht:=G (HS.out.told zeroWay rfl);go_wp2_with (first|((with_reducible refine jF 51 (.tmp 2) (.tmp 53) ?_);refine jQ1 rfl 51 (.tmp 2) (.tmp 53) rfl w.heap.size 0 zeroWay.toArray rfl rfl hU.out jN (jR rfl) ?_)|fail);refine jD (g:=w.heap.size) (cs:=zeroWay.toArray) rfl rfl Ht.out.box underlying51 rfl jN rfl ?_;exact .inr ⟨8,hY.out,by decide,rfl,Ht.out.old⟩
   rw[jJ5 (by simpa using hy)]at FB;rw[hy];have HG:=G (fun W (hR:Rr W g bs s2)=>KH W g bs (n:Int) s2 hR (by omega));have Mq:=G (KS bs (n:Int) s2 HS.out.rr.fits.1);have Nl:=G (KR bs (n:Int) s2);have GP:=HS.out.rr.fits.2;clear hy;go_wp2_with fail;refine(HG.out _ HS.out.rr).mono ?_;clear HG;generalize yC bs (n:Int) s2=t3 at*;obtain⟨ds,s3⟩:=t3;simp only at FB Mq Nl⊢;rintro e w5 ⟨A5,c5,rfl,Ni,N4,MR,WM,Nu⟩;have GR:=G HS.out.old;have C5:=G HS.out.box.lt;replace HS:=G ((HS.out.step WM Nu).still ((jQ0 NoX w5).alloc (.cells #[.int .i64 a,.int .i64 b,.slice A5 ds.length c5] 51)));have Md:=G (jQ2 w5 51 #[.int .i64 a,.int .i64 b,.slice A5 ds.length c5]);have Fy:=G (Ni.alloc (.cells #[.int .i64 a,.int .i64 b,.slice A5 ds.length c5] 51));have FW:=G (show Av (fun k=>k<=w.heap.size) ds.length A5 from fun hn ad e hx=>N4 hn ad e (by have:=C5.out;omega));have Mh:=G (fun W (hR:Rr W g bs s3)=>Jj W g bs s3 hR);clear Ni N4 MR WM Nu;go_wp2_with fail;generalize w5.alloc _=W5 at*;generalize w5.heap.size=q at*;refine(Mh.out _ HS.out.rr).mono ?_;clear Mh;generalize vi bs s3=dn at*;rintro e w6 ⟨rfl,FN⟩;replace HS:=G (HS.out.still FN);have Tj:=G (Md.out.old FN);have P8:=G (Fy.out.old FN);clear FN Md Fy;by_cases hd:dn=0
   case neg=>
    have hY:=G (show D=none by rw[FB.out,jJ5 hd]);have Po:(dn !=0)=true:=(by simpa using hd);clear hd;have hU:=G (HS.out.th zeroWay rfl);have Ht:=G (HS.out.told zeroWay rfl);go_wp2_with (first|((with_reducible refine jF 51 (.tmp 2) (.tmp 63) ?_);refine jQ1 rfl 51 (.tmp 2) (.tmp 63) rfl w.heap.size 0 zeroWay.toArray rfl rfl hU.out jN (jR rfl) ?_)|fail);refine jD (g:=w.heap.size) (cs:=zeroWay.toArray) rfl rfl Ht.out.box underlying51 rfl jN rfl ?_;exact .inr ⟨8,hY.out,by decide,rfl,Ht.out.old⟩
   subst hd;have FT:=G (show D=some (MWay.data ⟨a,b,ds,A5,c5⟩)by rw[FB.out,jJ6 rfl];rfl);have hU:=G (HS.out.th (MWay.cells ⟨a,b,ds,A5,c5⟩) rfl);have Ht:=G (HS.out.told (MWay.cells ⟨a,b,ds,A5,c5⟩) rfl);have Fn:=G (Blk.range (cs:=MWay.cells ⟨a,b,ds,A5,c5⟩) Tj.out);go_wp2_with (first|((with_reducible refine jT 51 (.tmp 12) ?_);refine jK rfl 51 (.tmp 12) rfl q 0 rfl (MWay.cells ⟨a,b,ds,A5,c5⟩) _ Fn.out underlying51 rfl jN ?_)|((with_reducible refine jF 51 (.tmp 2) (.tmp 64) ?_);refine jQ1 rfl 51 (.tmp 2) (.tmp 64) rfl w.heap.size 0 (MWay.cells ⟨a,b,ds,A5,c5⟩).toArray rfl rfl hU.out jN (jR rfl) ?_)|fail);refine jD (g:=w.heap.size) (cs:=(MWay.cells ⟨a,b,ds,A5,c5⟩).toArray) rfl rfl Ht.out.box underlying51 rfl jN rfl ?_;exact .inl ⟨⟨a,b,ds,A5,c5⟩,FT.out,rfl,⟨Mq.out,P8.out.told Ht.out FW.out,fun hn ad e hx=>FW.out hn ad e (by omega),by have:=Nl.out;simp only;omega⟩,Ht.out.old⟩
 ·have hY:=G (show D=none by rw[HD.out];rfl);have HS:=G (Hb.out.old F0);have NP:=G (HO.out.old F0);have P4:(er !=0)=true:=(by simpa using FZ);have hU:=G (HS.out.there 0 3 (by simp));have Ht:=G (Blk.setWhole (cs:=zeroWay) HS.out zeroWay rfl);have FR:=G (show Old w (w1.setCells w.heap.size 0 zeroWay)from NP.out.trans (Kp.setCells _ 0 _ _) (fun b hb e=>by omega));clear F0 LL Hb HO;go_wp2_with (first|((with_reducible refine jF 51 (.tmp 2) (.tmp 20) ?_);refine jQ1 rfl 51 (.tmp 2) (.tmp 20) rfl w.heap.size 0 zeroWay.toArray rfl rfl hU.out jN (jR rfl) ?_)|fail);refine jD (g:=w.heap.size) (cs:=zeroWay.toArray) rfl rfl Ht.out underlying51 rfl jN rfl ?_;exact .inr ⟨er,hY.out,FZ,rfl,FR.out⟩
theorem jCN(w:World)(A:OA)(c:Nat)(bs:LB)(Fa:Rd w 1 A bs.length (bs.map bv)):
  Calls prog 94 #[.slice A bs.length c] w (jKB w (vf bs)):=by
 have HD:=G (show vf bs=(kH bs 9000 49).bind (XP bs JR)from rfl);have Hb:=G (jQ2 w 53 zeroWay.toArray);have HO:=G ((jQ0 NoX w).alloc (.cells zeroWay.toArray 53));have LL:=G (fun W (h:Old w W)=>Yc W A c bs 9000 49 (Fa.old h) (by omega));generalize vf bs=D at*;clear Fa;unfold zeroWay at Hb HO;go_enter func94,ntmps94;go_wp2_with fail;generalize w.alloc _=W at*;refine(LL.out W HO.out).mono ?_;generalize kH bs 9000 49=B at*;rintro e w1 (⟨g,s,rfl,rfl,hg,Fd,F0⟩|⟨er,rfl,FZ,rfl,F0⟩)
 ·have HS:=G (show DecR 53 zeroWay w g bs s w1 from⟨Hb.out.old F0,Fd,HO.out.old F0,by have:=Hb.out.lt;omega⟩);clear Fd F0 hg Hb HO LL;have FB:=G (show D=XP bs JR s by rw[HD.out];rfl);have GK:=G (fun W (hR:Rr W g bs s)=>yn W g bs s hR);unfold XP at FB;clear HD;go_wp2_with fail;refine(GK.out _ HS.out.rr).mono ?_;clear GK;generalize yy bs s=t1 at*;obtain⟨a,f1,s1⟩:=t1;simp only at FB⊢;rintro e w2 ⟨rfl,Fb,hZ⟩;replace HS:=G (HS.out.step Fb hZ);clear Fb hZ;have GK:=G (fun W (hR:Rr W g bs s1)=>yn W g bs s1 hR);go_wp2_with fail;refine(GK.out _ HS.out.rr).mono ?_;clear GK;generalize yy bs s1=t2 at*;obtain⟨b,f2,s2⟩:=t2;simp only at FB⊢;rintro e w3 ⟨rfl,Fb,hZ⟩;replace HS:=G (HS.out.step Fb hZ);clear Fb hZ;have HB:=G (fun W=>qw W a b);have Nz:=G (fun n (h:JR a b=some n)=>jIS h);go_wp2_with fail;refine(HB.out _).mono ?_;clear HB;generalize JR a b=o at*;rintro e w4 ⟨he,rfl⟩;cases f1 with
  |false=>
   have hY:=G (show D=none by rw[FB.out,jJ5 (by simp)]);rcases o with _ |n
   all_goals
    simp only at he;subst he;have hU:=G (HS.out.th zeroWay rfl);have Ht:=G (HS.out.told zeroWay rfl);go_wp2_with (first|((with_reducible refine jF 53 (.tmp 2) (.tmp 53) ?_);refine jQ1 rfl 53 (.tmp 2) (.tmp 53) rfl w.heap.size 0 zeroWay.toArray rfl rfl hU.out jL (jR rfl) ?_)|fail);refine jD (g:=w.heap.size) (cs:=zeroWay.toArray) rfl rfl Ht.out.box underlying53 rfl jL rfl ?_;exact .inr ⟨8,hY.out,by decide,rfl,Ht.out.old⟩
  |true=>
  cases f2 with
  |false=>
   have hY:=G (show D=none by rw[FB.out,jJ5 (by simp)]);rcases o with _ |n
   all_goals
    simp only at he;subst he;have hU:=G (HS.out.th zeroWay rfl);have Ht:=G (HS.out.told zeroWay rfl);go_wp2_with (first|((with_reducible refine jF 53 (.tmp 2) (.tmp 53) ?_);refine jQ1 rfl 53 (.tmp 2) (.tmp 53) rfl w.heap.size 0 zeroWay.toArray rfl rfl hU.out jL (jR rfl) ?_)|fail);refine jD (g:=w.heap.size) (cs:=zeroWay.toArray) rfl rfl Ht.out.box underlying53 rfl jL rfl ?_;exact .inr ⟨8,hY.out,by decide,rfl,Ht.out.old⟩
  |true=>
  rw[jJ6 ⟨rfl,rfl⟩]at FB;rcases o with _ |n
  ·simp only at he FB;subst he;have hY:=G FB.out;have hU:=G (HS.out.th zeroWay rfl);have Ht:=G (HS.out.told zeroWay rfl);go_wp2_with (first|((with_reducible refine jF 53 (.tmp 2) (.tmp 53) ?_);refine jQ1 rfl 53 (.tmp 2) (.tmp 53) rfl w.heap.size 0 zeroWay.toArray rfl rfl hU.out jL (jR rfl) ?_)|fail);refine jD (g:=w.heap.size) (cs:=zeroWay.toArray) rfl rfl Ht.out.box underlying53 rfl jL rfl ?_;exact .inr ⟨8,hY.out,by decide,rfl,Ht.out.old⟩
  ·simp only at he FB;subst he;have hn:=Nz.out n rfl;clear Nz;unfold xM at FB;have HW:=G (fun W (hR:Rr W g bs s2)=>yL W g bs s2 hR);go_wp2_with fail;refine(HW.out _ HS.out.rr).mono ?_;rintro e w5 ⟨rfl,rfl⟩;clear HW;by_cases hy:s2.why=0
   case neg=>
    have hY:=G (show D=none by rw[FB.out,jJ6 hy]);have MK:(s2.why !=0)=true:=(by simpa using hy);clear hy;have hU:=G (HS.out.th zeroWay rfl);have Ht:=G (HS.out.told zeroWay rfl);go_wp2_with (first|((with_reducible refine jF 53 (.tmp 2) (.tmp 53) ?_);refine jQ1 rfl 53 (.tmp 2) (.tmp 53) rfl w.heap.size 0 zeroWay.toArray rfl rfl hU.out jL (jR rfl) ?_)|fail);refine jD (g:=w.heap.size) (cs:=zeroWay.toArray) rfl rfl Ht.out.box underlying53 rfl jL rfl ?_;exact .inr ⟨8,hY.out,by decide,rfl,Ht.out.old⟩
   rw[jJ5 (by simpa using hy)]at FB;rw[hy];have HG:=G (fun W (hR:Rr W g bs s2)=>KH W g bs (n:Int) s2 hR (by omega));have Mq:=G (KS bs (n:Int) s2 HS.out.rr.fits.1);have Nl:=G (KR bs (n:Int) s2);have GP:=HS.out.rr.fits.2;clear hy;go_wp2_with fail;refine(HG.out _ HS.out.rr).mono ?_;clear HG;generalize yC bs (n:Int) s2=t3 at*;obtain⟨ds,s3⟩:=t3;simp only at FB Mq Nl⊢;rintro e w5 ⟨A5,c5,rfl,Ni,N4,MR,WM,Nu⟩;have GR:=G HS.out.old;have C5:=G HS.out.box.lt;replace HS:=G ((HS.out.step WM Nu).still ((jQ0 NoX w5).alloc (.cells #[.int .i64 a,.int .i64 b,.slice A5 ds.length c5] 53)));have Md:=G (jQ2 w5 53 #[.int .i64 a,.int .i64 b,.slice A5 ds.length c5]);have Fy:=G (Ni.alloc (.cells #[.int .i64 a,.int .i64 b,.slice A5 ds.length c5] 53));have FW:=G (show Av (fun k=>k<=w.heap.size) ds.length A5 from fun hn ad e hx=>N4 hn ad e (by have:=C5.out;omega));have Mh:=G (fun W (hR:Rr W g bs s3)=>Jj W g bs s3 hR);clear Ni N4 MR WM Nu;go_wp2_with fail;generalize w5.alloc _=W5 at*;generalize w5.heap.size=q at*;refine(Mh.out _ HS.out.rr).mono ?_;clear Mh;generalize vi bs s3=dn at*;rintro e w6 ⟨rfl,FN⟩;replace HS:=G (HS.out.still FN);have Tj:=G (Md.out.old FN);have P8:=G (Fy.out.old FN);clear FN Md Fy;by_cases hd:dn=0
   case neg=>
    have hY:=G (show D=none by rw[FB.out,jJ5 hd]);have Po:(dn !=0)=true:=(by simpa using hd);clear hd;have hU:=G (HS.out.th zeroWay rfl);have Ht:=G (HS.out.told zeroWay rfl);go_wp2_with (first|((with_reducible refine jF 53 (.tmp 2) (.tmp 63) ?_);refine jQ1 rfl 53 (.tmp 2) (.tmp 63) rfl w.heap.size 0 zeroWay.toArray rfl rfl hU.out jL (jR rfl) ?_)|fail);refine jD (g:=w.heap.size) (cs:=zeroWay.toArray) rfl rfl Ht.out.box underlying53 rfl jL rfl ?_;exact .inr ⟨8,hY.out,by decide,rfl,Ht.out.old⟩
   subst hd;have FT:=G (show D=some (MWay.data ⟨a,b,ds,A5,c5⟩)by rw[FB.out,jJ6 rfl];rfl);have hU:=G (HS.out.th (MWay.cells ⟨a,b,ds,A5,c5⟩) rfl);have Ht:=G (HS.out.told (MWay.cells ⟨a,b,ds,A5,c5⟩) rfl);have Fn:=G (Blk.range (cs:=MWay.cells ⟨a,b,ds,A5,c5⟩) Tj.out);go_wp2_with (first|((with_reducible refine jT 53 (.tmp 12) ?_);refine jK rfl 53 (.tmp 12) rfl q 0 rfl (MWay.cells ⟨a,b,ds,A5,c5⟩) _ Fn.out underlying53 rfl jL ?_)|((with_reducible refine jF 53 (.tmp 2) (.tmp 64) ?_);refine jQ1 rfl 53 (.tmp 2) (.tmp 64) rfl w.heap.size 0 (MWay.cells ⟨a,b,ds,A5,c5⟩).toArray rfl rfl hU.out jL (jR rfl) ?_)|fail);refine jD (g:=w.heap.size) (cs:=(MWay.cells ⟨a,b,ds,A5,c5⟩).toArray) rfl rfl Ht.out.box underlying53 rfl jL rfl ?_;exact .inl ⟨⟨a,b,ds,A5,c5⟩,FT.out,rfl,⟨Mq.out,P8.out.told Ht.out FW.out,fun hn ad e hx=>FW.out hn ad e (by omega),by have:=Nl.out;simp only;omega⟩,Ht.out.old⟩
 ·have hY:=G (show D=none by rw[HD.out];rfl);have HS:=G (Hb.out.old F0);have NP:=G (HO.out.old F0);have P4:(er !=0)=true:=(by simpa using FZ);have hU:=G (HS.out.there 0 3 (by simp));have Ht:=G (Blk.setWhole (cs:=zeroWay) HS.out zeroWay rfl);have FR:=G (show Old w (w1.setCells w.heap.size 0 zeroWay)from NP.out.trans (Kp.setCells _ 0 _ _) (fun b hb e=>by omega));clear F0 LL Hb HO;go_wp2_with (first|((with_reducible refine jF 53 (.tmp 2) (.tmp 20) ?_);refine jQ1 rfl 53 (.tmp 2) (.tmp 20) rfl w.heap.size 0 zeroWay.toArray rfl rfl hU.out jL (jR rfl) ?_)|fail);refine jD (g:=w.heap.size) (cs:=zeroWay.toArray) rfl rfl Ht.out underlying53 rfl jL rfl ?_;exact .inr ⟨er,hY.out,FZ,rfl,FR.out⟩
end Go.Proofs.YtnaolhjbapgjgaaGreat

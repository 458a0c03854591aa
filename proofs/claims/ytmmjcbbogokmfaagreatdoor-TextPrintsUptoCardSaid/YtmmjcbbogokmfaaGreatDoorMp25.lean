import Derived.Test.YtmmjcbbogokmfaaGreatDoorMp12
import Derived.Test.YtmmjcbbogokmfaaGreatDoorMp15
set_option maxRecDepth 100000
set_option maxHeartbeats 25600000
namespace Go.Proofs.YtmmjcbbogokmfaaGreatDoor
open Go.Proofs.Tryz
open Go.RowKit
theorem Ka{α:Type}(C:α->List Value)(z:Nat)(hz:∀x,(C x).length=z):∀(xs:List α) (k:Nat) (x:α),xs[k]? =some x->∀i,i<z->(xs.flatMap C)[k*z+i]? =(C x)[i]?
 |[],_,_,h=>by cases h
 |y::l,0,x,h=>by
  intro i hi;injection h with h;subst h;rw[jL9,Nat.zero_mul,Nat.zero_add,List.getElem?_append_left (by rw[hz];exact hi)]
 |y::l,k+1,x,h=>by
  intro i hi;rw[jL9,List.getElem?_append_right (by rw[hz,Nat.succ_mul];omega)];rw[<-Ka C z hz l k x h i hi]
  congr 1
  rw[hz,Nat.succ_mul];omega
theorem jP{α:Type}{w:World}{C:α->List Value}{z:Nat}(hz:∀x,(C x).length=z){A:OA}{n:Nat}{xs:List α}(hr:Rd w z A n (xs.flatMap C)){k:Nat}{x:α}(hk:xs[k]? =some x)(hn:k<n):∃b o,A=some ⟨b,o,none⟩/\∀i u,(C x)[i]? =some u->w.cell? ⟨b,o+(k*z+i),none⟩=some u:=by
 obtain⟨b,o,hA,hc⟩:=hr.2 (by omega);refine⟨b,o,hA,fun i u hu=>hc _ u ?_⟩;have hi:i<z:=by rw[<-hz x];exact(jM5 hu).1
 rw[Ka C z hz xs k x hk i hi];exact hu
structure TrD(w:World)(t:Tre)(s:Sl)(ns:List MNd)(ps:List MSt):Prop where
 nd:TrN w t s ns
 rA:Rd w 7 s.aA t.attrs.length (t.attrs.flatMap atC)
 rG:Rd w 7 s.gA t.stages.length (t.stages.flatMap sgC)
 rM:Rd w 6 s.mA t.miles.length (t.miles.flatMap miC)
 rP:Rd w 8 s.pA t.steps.length (ps.flatMap stC)
 pe:ps.map (·.s)=t.steps
 po:∀x∈ps,(Rd w 3 x.pA x.s.params.length (x.s.params.flatMap prC)/\x.s.params.length<=1000000)/\Rd w 3 x.eA x.s.effects.length (x.s.effects.flatMap efC)/\x.s.effects.length<=1000000
 nA:t.attrs.length<=1000000
 nG:t.stages.length<=1000000
 nM:t.miles.length<=1000000
 nP:t.steps.length<=1000000
section
variable{w W W1 W2:World}{t:Tre}{s:Sl}{next:Nat}{l:LB}{B:OA}{bc:Nat}
theorem Pr.c2(h:Pr w t s next l B bc W):W.cell? ⟨w.heap.size,2,none⟩=some (.slice s.aA t.attrs.length s.ac):=h.box.at_ 2 rfl
theorem Pr.c3(h:Pr w t s next l B bc W):W.cell? ⟨w.heap.size,3,none⟩=some (.slice s.gA t.stages.length s.gc):=h.box.at_ 3 rfl
theorem Pr.c4(h:Pr w t s next l B bc W):W.cell? ⟨w.heap.size,4,none⟩=some (.slice s.mA t.miles.length s.mc):=h.box.at_ 4 rfl
theorem Pr.c5(h:Pr w t s next l B bc W):W.cell? ⟨w.heap.size,5,none⟩=some (.slice s.pA t.steps.length s.pc):=h.box.at_ 5 rfl
theorem Pr.cellw(h:Pr w t s next l B bc W){p:Addr}{u:Value}(hc:w.cell? p=some u):W.cell? p=some u:=by
 have hb:=je hc;rw[World.cell?_of_block (h.kp.block p.block hb (fun e:w.heap.size<=p.block=>by omega))];exact hc
theorem Pr.rdw(h:Pr w t s next l B bc W){z n:Nat}{A:OA}{xs:List Value}(hz:0<z)(hr:Rd w z A n xs):Rd W z A n xs:=hr.kp h.kp (fun hn ad ea hx=>by have:=hr.lt hz hn ea;have hx:w.heap.size<=ad.block:=hx;omega)
theorem Pr.setNext(h:Pr w t s next l B bc W)(n:Nat):Pr w t s n l B bc (W.setCell ⟨w.heap.size,8,none⟩ (.int .i64 (n:Int)))/\FrP W (W.setCell ⟨w.heap.size,8,none⟩ (.int .i64 (n:Int))):=by
 have GO:Kp (fun k=>k=w.heap.size) W (W.setCell ⟨w.heap.size,8,none⟩ (.int .i64 (n:Int))):=(jQ0 (fun k=>k=w.heap.size) W).setCell (p:=⟨w.heap.size,8,none⟩) (fun _=>rfl) _;have Nm:=Blk.set_ h.box 8 (.int .i64 (n:Int));rw[jJ1]at Nm;refine⟨⟨Nm,jV h.own GO (fun k e e2=>jY h.own h.box (by decide) (by rw[e];exact congrArg some e2)),h.kp.trans GO (fun b hb e=> ?_)⟩,⟨GO.size,fun q T cs h1 h2 hq=>hq.kp GO (fun e=>Blk.ne_ hq h.box h1 e)⟩⟩;show w.heap.size<=b;have:b=w.heap.size:=e;omega
end
def TrR(w:World)(t:Tre)(s:Sl)(l:LB)(B:OA)(bc:Nat)(o:Option Nat)(W:World)(e:Ending)(W' :World):Prop:=e=.returned (.bool o.isSome)/\∃nx,(∀n,o=some n->nx=n)/\Pr w t s nx l B bc W' /\FrP W W'
theorem TrR.of{w W W1 W' :World}{t:Tre}{s:Sl}{l:LB}{B:OA}{bc:Nat}{o:Option Nat}{e:Ending}(f:FrP W W1)(h:TrR w t s l B bc o W1 e W'):TrR w t s l B bc o W e W' :=⟨h.1,h.2.elim fun nx h2=>⟨nx,h2.1,h2.2.1,f.trans h2.2.2⟩⟩
theorem ZV{ns:List Nd}{f:Nat}{root:Int}{next nx:Nat}(h:kQ ns f root next=some nx):0<=root/\root.toNat<ns.length/\nx=root.toNat+1:=by
 cases f with
 |zero=>rw[kQ]at h;cases h
 |succ f=>
  rw[kQ]at h;by_cases h1:root<0\/(ns.length:Int)<=root
  ·rw[jJ6 h1]at h;cases h
  rw[jJ5 h1]at h;cases hn:ns[root.toNat]? with
  |none=>rw[hn]at h;cases h
  |some n=>
   rw[hn]at h;simp only at h;by_cases hr:jK n=false
   ·rw[jJ6 hr]at h;cases h
   rw[jJ5 hr]at h;obtain⟨k,hk,h⟩:=jM2 h;by_cases e:root=(k:Int)
   ·rw[jJ6 e]at h;injection h with h;omega
   ·rw[jJ5 e]at h;cases h
def uX(ns:List Nd)(f:Nat)(root:Int)(kids:List Int)(o:Option Nat):Option Nat:=kids.foldl (fun(s:Option Nat) k=>s.bind fun nx=>if root<=k then none else kQ ns f k nx) o
theorem VB(ns:List Nd)(f:Nat)(root:Int):∀kids,uX ns f root kids none=none
 |[]=>rfl
 |_::l=>VB ns f root l
theorem Xp(ns:List Nd)(f:Nat)(root k:Int)(l:List Int)(nx:Nat):uX ns f root (k::l) (some nx)=if root<=k then none else uX ns f root l (kQ ns f k nx):=by
 show uX ns f root l (if root<=k then none else kQ ns f k nx)=_;split
 ·exact VB _ _ _ _
 ·rfl
theorem VE(s:BA)(b:LB):b.length<=(inP s b).length:=by
 unfold inP;split
 ·exact jL3 _
 ·exact vF _ _
theorem kY(ns:List Nd)(root:Int)(ws:List LB)(b b' :LB)(h:vY ns root ws b=some b'):b.length<=b'.length:=by
 unfold vY at h;split at h
 ·exact jL4 (vF _ _) (jm _ _ _ _ _ _ h)
 ·injection h with h;rw[h];exact jL3 _
theorem vJ{l:LB}(h:(l++[10]).length<=jN):l.length<=jN/\l.length+1<=maxLen/\(l.length+1)*1<=140737488355328/\l.length+1=(l++[10]).length:=by
 unfold jN at*;have e:(l++[10]).length=l.length+1:=by rw[jJ4];rfl
 rw[e]at h⊢;exact⟨by omega,by unfold maxLen;omega,by omega,rfl⟩
theorem jEI(w W:World)(t:Tre)(s:Sl)(ns:List MNd)(ps:List MSt)(TD:TrD w t s ns ps)(PX:PxAll w t s (t.nodes.length+1))(i:Nat)(a:Mil)(ha:t.miles[i]? =some a)(h0:0<=a.when_)(next:Nat)(l l4:LB)(B:OA)(bc:Nat)(h:Pr w t s next l B bc W)(hk:Yt t.nodes a l=some l4)(hl:(l4++[10]).length<=jN):
  Calls prog 54 #[.pointer (some ⟨w.heap.size,0,none⟩),.int .i64 3,iv (i:Int)] W (PrR w t s next (l4++[10]) W):=by
 obtain⟨i0,hi,Fm,Fi,Fl⟩:=info_parts VN;obtain⟨b,o,hA,hc⟩:=jP (C:=miC) (fun x=>rfl) TD.rM ha (jM5 ha).1;have hlt:=(jM5 ha).1;have FK:=TD.nM;have Wc:=h.c4;rw[hA]at Wc;have hw:=fun j u hu=>h.cellw (hc j u hu);obtain⟨name,at_,order,in_,inAt,when_⟩:=a;simp only at h0;unfold Yt at hk;obtain⟨l3,h3,e4⟩:=jM4 hk;simp only at h3;subst e4;have c0:W.cell? ⟨b,o+i*6,none⟩=some (.string name):=hw 0 _ rfl;have c1:W.cell? ⟨b,o+i*6+1,none⟩=some (.int .i64 at_):=hw 1 _ rfl;have c2:W.cell? ⟨b,o+i*6+2,none⟩=some (.int .i64 order):=hw 2 _ rfl;have c3:W.cell? ⟨b,o+i*6+3,none⟩=some (.string in_):=hw 3 _ rfl;have c4:W.cell? ⟨b,o+i*6+4,none⟩=some (.int .i64 inAt):=hw 4 _ rfl;have c5:W.cell? ⟨b,o+i*6+5,none⟩=some (.int .i64 when_):=hw 5 _ rfl;have f1:(0:Int)<=(i:Int):=(by omega);have f2:(i:Int).toNat=i:=(by omega);have f3:(i:Int)<(t.miles.length:Int):=(by omega);have ho:Old W (W.alloc (.cells #[.string name,.int .i64 at_,.int .i64 order,.string in_,.int .i64 inAt,.int .i64 when_] 64)):=(jQ0 NoX W).alloc _;have BN:=G (jQ2 W 64 #[.string name,.int .i64 at_,.int .i64 order,.string in_,.int .i64 inAt,.int .i64 when_]);have HW:=G (FrP.of_old ho);have g4:=(vJ hl).1;have g3:l3.length<=jN:=jL4 (jG l3 [59]).1 g4;have We:=G (vJ hl);unfold vY at h3;rw[jJ6 h0]at h3;unfold exP at h3;have g2' :=jm _ _ _ _ _ _ h3;have g2:(inP in_ (jT l [[109,105,108,101,115,116,111,110,101],tb name])).length<=jN:=jL4 (vF _ _) (jL4 g2' g3);have g1:(jT l [[109,105,108,101,115,116,111,110,101],tb name]).length<=jN:=jL4 (VE _ _) g2;generalize FM:inP in_ (jT l [[109,105,108,101,115,116,111,110,101],tb name])=l2 at*;have P1:=G (jQ w _ t s next l B bc (h.old ho) (W.heap.size+1) (by simp) [⟨#[109,105,108,101,115,116,111,110,101]⟩,name] g1 (show 2<=1000 by decide));have IN:=G (fun W1 B1 c1 (hp:Pr w t s next (jT l [[109,105,108,101,115,116,111,110,101],tb name]) B1 c1 W1)=>Zt w W1 t s next _ B1 c1 hp in_ (FM▸g2));rw[FM]at IN;have RU:=G (fun W1 B1 c1 Q (hp:Pr w t s next l2 B1 c1 W1) (hQ:Q=W1.heap.size)=>yO w W1 t s _ PX next l2 l3 B1 c1 hp Q hQ [⟨#[114,101,97,99,104,101,100]⟩,⟨#[119,104,101,110]⟩] when_ h0 h3 (jL4 g2' g3) g3 (show 2<=1000 by decide));have P2:=G (fun W1 B1 c1 Q (hp:Pr w t s next l3 B1 c1 W1) (hQ:Q=W1.heap.size)=>jQ w W1 t s next l3 B1 c1 hp Q hQ [⟨#[59]⟩] g4 (show 1<=1000 by decide));clear h hA hc hw ha hlt TD ho hk h3 g1 g2 g2' g3 g4 hl FM PX h0;have NF:=G (show(jI l3 [59]).map bv++[bv 10]=(jI l3 [59]++[10]).map bv by rw[jN3 (l₂:=[10])];rfl);unfold iv at*;go_enter func54,ntmps54;go_wp2_with (first|(at_builtin;refine jE _ rfl (.tmp 143) (.tmp 144) 33 rfl w.heap.size 5 i0 (.int .u8 0) 1 1 underlying33 hi Fm Fi Fl rfl (by decide) (.slice B5 (jI l3 [59]).length c5') (jI l3 [59]).length ((jI l3 [59]).map bv) rfl (jV H5.out.own ((jQ0 NoX _).alloc _) (fun _ _ e=>e)) _ 1 1 [bv 10] rfl (Rd.one_new _ _ _) (ji _ rfl) We.out.2.1 We.out.2.2.1 (jL4 H5.out.kp.size ((jQ0 NoX _).alloc _).size) ?_;intro B6 c6' w6 Hi hgrow Fc;rw[jC]at hgrow;rw[NF.out,We.out.2.2.2]at Hi;have HG:=H5.out.grow ((jQ0 NoX _).alloc _) hgrow Hi;have Mx:=HG.1.at_ 9 rfl;have MZ:=HG.1.frozen 9;have HN:=G HG.2;clear Hi hgrow Fc HG)|(go_at_call 53;refine(P2.out _ _ _ _ H4.out (by simp)).mono ?_;rintro e w5 ⟨rfl,B5,c5',hX,hf⟩;have H5:=G hX;have F5:=G hf;have k9:=hX.c9;clear hX hf)|(go_at_call 118;refine(RU.out _ _ _ _ H3.out (by simp)).mono ?_;rintro e w4 ⟨rfl,B4,c4',hX,hf⟩;have H4:=G hX;have F4:=G hf;clear hX hf)|(go_at_call 119;refine(IN.out _ _ _ H2.out).mono ?_;rintro e w3 ⟨rfl,B3,c3',hX,hf⟩;have H3:=G hX;have F3:=G hf;have BN3:=G (hf.blk _ _ _ (by decide) (by decide) BN2.out);have n5:=BN3.out.at_ 5 (v:=.int .i64 when_) rfl;clear hX hf)|(go_at_call 53;refine P1.out.mono ?_;rintro e w2 ⟨rfl,B2,c2',hX,hf⟩;have H2:=G hX;have F2:=G hf;have BN2:=G (hf.blk _ _ _ (by decide) (by decide) BN.out);have n3:=BN2.out.at_ 3 (v:=.string in_) rfl;clear hX hf)|fail);go_end0;rw[<-We.out.2.2.2]at HN;exact⟨rfl,B6,c6',HN.out.1,((((HW.out.trans F2.out).trans F3.out).trans F4.out).trans F5.out).trans HN.out.2⟩
theorem uv(w:World)(t:Tre)(s:Sl)(l:LB)(B:OA)(bc:Nat)(root:Int)(W:World)(next:Nat)(r0:root<0)(h:Pr w t s next l B bc W):
  Calls prog 117 #[.pointer (some ⟨w.heap.size,0,none⟩),iv root] W (TrR w t s l B bc none W):=by
 have H:=G h;clear h;unfold iv;go_enter func117,ntmps117;go_wp2;go_ret;exact⟨rfl,next,fun n e=>(by cases e),H.out,FrP.refl _⟩
theorem uw(w:World)(t:Tre)(s:Sl)(l:LB)(B:OA)(bc:Nat)(root:Int)(W:World)(next:Nat)(r0:¬root<0)(r1:(t.nodes.length:Int)<=root)(h:Pr w t s next l B bc W):
  Calls prog 117 #[.pointer (some ⟨w.heap.size,0,none⟩),iv root] W (TrR w t s l B bc none W):=by
 have H:=G h;have Nt:=h.c6;clear h;unfold iv;go_enter func117,ntmps117;go_wp2;go_ret;exact⟨rfl,next,fun n e=>(by cases e),H.out,FrP.refl _⟩
theorem jCQ(w:World)(hg:Sg w)(Fg:8<=w.heap.size)(t:Tre)(s:Sl)(ns:List MNd)(TN:TrN w t s ns)(l:LB)(B:OA)(bc:Nat):∀(f:Nat) (root:Int) (W:World) (next:Nat),root<(f:Int)->next<=1000000->Pr w t s next l B bc W->
  Calls prog 117 #[.pointer (some ⟨w.heap.size,0,none⟩),iv root] W (TrR w t s l B bc (kQ t.nodes f root next) W):=by
 intro f
 induction f with
 |zero=>exact fun root W next hf hn h=>(by rw[kQ];exact uv w t s l B bc root W next (by omega) h)
 |succ f ih=>
  intro root W next hf hn h;rcases Int.lt_or_le root 0 with r0|r0
  ·rw[kQ,jJ6 (.inl r0)];exact uv w t s l B bc root W next r0 h
  rcases Int.lt_or_le root (t.nodes.length:Int)with r1|r1;rotate_left
  ·rw[kQ,jJ6 (.inr r1)];exact uw w t s l B bc root W next (by omega) r1 h
  obtain⟨r,rfl⟩:∃r:Nat,root=(r:Int):=⟨root.toNat,by omega⟩;have hlt:r<t.nodes.length:=(by omega);have Cp:t.nodes[r]? =some t.nodes[r]:=jJ9 hlt;obtain⟨x,b,o,hx,e,hA,hc,Ff,Gj⟩:=TN.at_ Cp;have hT:kQ t.nodes (f+1) (r:Int) next=if jK x.n=false then none else(uX t.nodes f (r:Int) x.n.kids (some next)).bind fun nx=>if(r:Int)=(nx:Int)then some (nx+1)else none:=by
   rw[kQ,jJ5 (by omega),show((r:Int).toNat)=r by omega,Cp,<-e];rfl
  rw[hT];have HR:=G (fun W1 (hp:Pr w t s next l B bc W1)=>YJ W1 (hp.sg hg Fg) x);have H:=G h;have Nt:=h.c6;rw[hA]at Nt;have FK:=TN.cnt;clear Cp hT e hx;obtain⟨⟨op,name,vk,vn,vt,vs,kids⟩,A,c,vA,vc⟩:=x;simp only at Ff Gj HR⊢;have hw:=fun i u hu=>h.cellw (hc i u hu);have c0:W.cell? ⟨b,o+r*7,none⟩=some (.int .i64 op):=hw 0 _ rfl;have c1:W.cell? ⟨b,o+r*7+1,none⟩=some (.string name):=hw 1 _ rfl;have c2:W.cell? ⟨b,o+r*7+2,none⟩=some (.int .i64 vk):=hw 2 _ rfl;have c3:W.cell? ⟨b,o+r*7+3,none⟩=some (.int .i64 vn):=hw 3 _ rfl;have c4:W.cell? ⟨b,o+r*7+4,none⟩=some (.string vt):=hw 4 _ rfl;have c5:W.cell? ⟨b,o+r*7+5,none⟩=some (.slice vA vs.length vc):=hw 5 _ rfl;have c6:W.cell? ⟨b,o+r*7+6,none⟩=some (.slice A kids.length c):=hw 6 _ rfl;have HK:=G (fun W1 (hp:Pr w t s next l B bc W1)=>(show W1.cell? ⟨b,o+r*7+6,none⟩=some (.slice A kids.length c)from hp.cellw (hc 6 _ rfl)));have f2:(r:Int).toNat=r:=(by omega);have f4:¬(r:Int)<0:=(by omega);have f5:¬(t.nodes.length:Int)<=(r:Int):=(by omega);have HX:=G ih;have HD:=G Ff;have Bv:=G hA;have Bz:=G hf;clear hc hA Ff TN hg ih hf h hw;unfold ndC iv at*;cases hr:jK ⟨op,name,vk,vn,vt,vs,kids⟩with
  |false=>
   rw[jJ6 rfl];rw[hr]at HR;clear hr HX HD;go_enter func117,ntmps117;go_wp2_with (first|(go_at_call 22;refine(HR.out _ H.out).mono ?_;rintro e w1 ⟨rfl,ho⟩;have HO:=G ho;clear ho)|fail);go_ret;exact⟨rfl,next,fun n e=>(by cases e),H.out.old HO.out,FrP.of_old HO.out⟩
  |true=>
   rw[jJ5 (by decide)];rw[hr]at HR;clear hr;obtain⟨O,hO⟩:∃O,uX t.nodes f (r:Int) kids (some next)=O:=⟨_,rfl⟩;rw[hO];obtain⟨OB,CI⟩:∃OB,(O.bind fun nx=>if(r:Int)=(nx:Int)then some (nx+1)else none)=OB:=⟨_,rfl⟩;rw[CI];have HO:=G hO;have Dt:=G CI;clear hO CI;go_enter func117,ntmps117;go_wp2_with (first|(go_at_call 22;refine(HR.out _ H.out).mono ?_;rintro e w1 ⟨rfl,ho⟩;have HP:=G (H.out.old ho);have HF:=G (FrP.of_old ho);clear ho;have k6:=HP.out.c6;rw[Bv.out]at k6;have kk:=HK.out _ HP.out)|fail);go_loopw [41] (fun i wr=>∃(j nx:Nat),j<=kids.length/\i=.int .i64 (j:Int)/\uX t.nodes f (r:Int) (kids.drop j) (some nx)=O/\nx<=1000000/\Pr w t s nx l B bc wr/\FrP W wr) (fun i _=>kids.length-(intOf i).toNat)
   case atStart=>exact⟨0,next,Nat.zero_le _,rfl,HO.out,hn,HP.out,HF.out⟩
   case round=>
    clear k6 kk c0 c1 c2 c3 c4 c5 c6 Nt;obtain⟨j,nx,hj,rfl,Ht,FB,hp,hf⟩:=hrel;have Hp:=G hp;have Hf:=G hf;by_cases Gm:j<kids.length
    ·have hd:kids.drop j=kids[j]::kids.drop (j+1):=jM9 Gm;obtain⟨b3,o3,u,Sn,hu,Fo⟩:=HD.out.at_ Gm;have G9:iv kids[j]=u:=by rw[jM1,jJ9 Gm]at hu;injection hu
     subst G9;subst Sn;have P6:wr.cell? ⟨b3,o3+j,none⟩=some (.int .i64 kids[j]):=hp.cellw Fo;rw[hd,Xp]at Ht;generalize kids[j]=k at*;have b1:(0:Int)<=(j:Int):=(by omega);have b2:(j:Int).toNat=j:=(by omega);have b3' :(j:Int)<(kids.length:Int):=(by omega);have b4:IntKind.i64.wrap ((j:Int)+1)=(j:Int)+1:=jQ3 _ (by omega);clear hd hu Fo hf;by_cases hk:(r:Int)<=k
     ·rw[jJ6 hk]at Ht;subst Ht;obtain rfl:none=OB:=Dt.out;clear hp;go_wp2;go_ret;exact⟨rfl,nx,fun n e=>(by cases e),Hp.out,Hf.out⟩
     ·rw[jJ5 hk]at Ht;have HC:=G (HX.out k wr nx (by have:=Bz.out;omega) FB hp);clear hp;cases hT:kQ t.nodes f k nx with
      |none=>
       rw[hT,VB]at Ht;rw[hT]at HC;subst Ht;obtain rfl:none=OB:=Dt.out;go_wp2_with (first|(go_at_call 117;refine HC.out.mono ?_;rintro e w2 ⟨rfl,n2,Fu,hX,GJ⟩;have WX:=G hX;have RW:=G GJ;clear hX GJ Fu)|fail);go_ret;exact⟨rfl,n2,fun n e=>(by cases e),WX.out,Hf.out.trans RW.out⟩
      |some m=>
       rw[hT]at Ht HC;have hm:=ZV hT;have HE:=G Ht;clear Ht hT;go_wp2_with (first|(go_at_call 117;refine HC.out.mono ?_;rintro e w2 ⟨rfl,n2,Fu,hX,GJ⟩;obtain rfl:=Fu m rfl;have WX:=G hX;have RW:=G GJ;clear hX GJ Fu)|fail);exact⟨⟨j+1,n2,by omega,by rw[show((j+1:Nat):Int)=(j:Int)+1 by omega],HE.out,by omega,WX.out,Hf.out.trans RW.out⟩,by simp only[intOf];omega⟩
    ·obtain rfl:j=kids.length:=(by omega);rw[List.drop_length]at Ht;have HE:=G (show some nx=O from Ht);have q8:=hp.c8;have y8:=hp.z 8;have HN:=G (hp.setNext (nx+1));have b5:(nx:Int)<=1000000:=(by omega);have b6:(0:Int)<=(nx:Int):=(by omega);rw[show((nx+1:Nat):Int)=(nx:Int)+1 by omega]at HN;clear Ht hp hf FB;have MK:=G (show(if(r:Int)=(nx:Int)then some (nx+1)else none)=OB by rw[<-Dt.out,<-HE.out];rfl);by_cases he:(r:Int)=(nx:Int)
     ·obtain rfl:some (nx+1)=OB:=(jJ6 he).symm.trans MK.out;have Y2:((r:Int)==(nx:Int))=true:=beq_iff_eq.2 he;clear he;go_wp2;go_ret;exact⟨rfl,nx+1,fun n e=>(by injection e),HN.out.1,Hf.out.trans HN.out.2⟩
     ·obtain rfl:none=OB:=(jJ5 he).symm.trans MK.out;have Y2:((r:Int)==(nx:Int))=false:=jM3 he;clear he;go_wp2;go_ret;exact⟨rfl,nx+1,fun n e=>(by cases e),HN.out.1,Hf.out.trans HN.out.2⟩
theorem ux(w:World)(hg:Sg w)(Fg:8<=w.heap.size)(t:Tre)(s:Sl)(ns:List MNd)(TN:TrN w t s ns)(l:LB)(B:OA)(bc:Nat)(root:Int)(W:World)(next:Nat)(hn:next<=1000000)(h:Pr w t s next l B bc W):
  Calls prog 117 #[.pointer (some ⟨w.heap.size,0,none⟩),iv root] W (TrR w t s l B bc (kQ t.nodes (t.nodes.length+1) root next) W):=by
 rcases Int.lt_or_le root (t.nodes.length:Int)with r1|r1
 ·exact jCQ w hg Fg t s ns TN l B bc _ root W next (by omega) hn h
 ·rw[kQ,jJ6 (.inr r1)];exact uw w t s l B bc root W next (by omega) r1 h
theorem kU{ns:List Nd}{root:Int}{next nx:Nat}(h:jX ns root next=some nx)(hn:next<=1000000)(hl:ns.length<=1000000):nx<=1000000:=by
 unfold jX at h;split at h
 ·injection h with h;omega
 ·have:=ZV h;omega
theorem vH(w:World)(hg:Sg w)(Fg:8<=w.heap.size)(t:Tre)(s:Sl)(ns:List MNd)(TN:TrN w t s ns)(l:LB)(B:OA)(bc:Nat)(root:Int)(W:World)(next:Nat)(hn:next<=1000000)(h:Pr w t s next l B bc W):
  Calls prog 115 #[.pointer (some ⟨w.heap.size,0,none⟩),iv root] W (TrR w t s l B bc (jX t.nodes root next) W):=by
 have HT:=G (ux w hg Fg t s ns TN l B bc root W next hn h);have H:=G h;unfold jX;clear h TN hg hn;by_cases hr:root= -1
 ·rw[jJ6 hr];have FH:(root== -1)=true:=beq_iff_eq.2 hr;clear hr;unfold iv at*;go_enter func115,ntmps115;go_wp2;go_ret;exact⟨rfl,next,fun n e=>(by injection e),H.out,FrP.refl _⟩
 ·rw[jJ5 hr];have FH:(root== -1)=false:=jM3 hr;clear hr;unfold iv at*;generalize kQ t.nodes (t.nodes.length+1) root next=q at*;go_enter func115,ntmps115;go_wp2_with (first|(go_at_call 117;refine HT.out.mono ?_;rintro e w2 ⟨rfl,n2,Fu,hX,GJ⟩;have WX:=G hX;have RW:=G GJ;have GL:=G Fu;clear hX GJ Fu)|fail);go_ret;exact⟨rfl,n2,GL.out,WX.out,RW.out⟩
theorem KV(w:World)(hg:Sg w)(s:BA):Calls prog 116 #[.string s] w fun e w' =>e=.returned (.bool (vL s))/\w=w' :=by
 have HL:=G (jg w hg s);have P5:=ke s;unfold vL;clear hg;by_cases h0:s.size=0
 ·have h1:s.toList.isEmpty=true:=(by rw[P5,jK5 h0]);rw[jK5 h0];clear P5 h0;go_enter func116,ntmps116;go_wp2;go_ret;exact⟨rfl,rfl⟩
 ·have h1:s.toList.isEmpty=false:=(by rw[P5,jK3 h0]);rw[jK3 h0];clear P5 h0;have HQ:=G (show(false||jb s)=js (sb s)from Bool.false_or _);generalize js (sb s)=q at*;go_enter func116,ntmps116;go_wp2_with (first|(go_at_call 20;refine HL.out.mono ?_;rintro e w1 ⟨rfl,rfl⟩)|fail);go_ret;exact⟨congrArg (fun b=>Ending.returned (.bool b)) HQ.out.symm,rfl⟩
theorem xi(w:World)(k:Int):Calls prog 114 #[.int .i64 k] w fun e w' =>e=.returned (.bool (kq k))/\w=w' :=by
 unfold kq;by_cases h1:1<=k
 ·by_cases h5:k<=5
  ·rw[jK5 ⟨h1,h5⟩];go_enter func114,ntmps114;go_wp2;go_ret;exact⟨rfl,rfl⟩
  ·rw[jK3 (fun e=>h5 e.2)];go_enter func114,ntmps114;go_wp2;go_ret;exact⟨rfl,rfl⟩
 ·rw[jK3 (fun e=>h1 e.1)];go_enter func114,ntmps114;go_wp2;go_ret;exact⟨rfl,rfl⟩
theorem jCm(w W:World)(hg:Sg w)(Fg:8<=w.heap.size)(t:Tre)(s:Sl)(ns:List MNd)(ps:List MSt)(TD:TrD w t s ns ps)(i:Nat)(a:Mil)(ha:t.miles[i]? =some a)(next:Nat)(l:LB)(B:OA)(bc:Nat)(h:Pr w t s next l B bc W)(h1:jb a.name=false):
  Calls prog 52 #[.pointer (some ⟨w.heap.size,0,none⟩),.int .i64 3,iv (i:Int)] W (TrR w t s l B bc none W):=by
 obtain⟨b,o,hA,hc⟩:=jP (C:=miC) (fun x=>rfl) TD.rM ha (jM5 ha).1;have hlt:=(jM5 ha).1;have FK:=TD.nM;have Wc:=h.c4;rw[hA]at Wc;have hw:=fun j u hu=>h.cellw (hc j u hu);obtain⟨name,at_,order,in_,inAt,when_⟩:=a;simp only at h1;have c0:W.cell? ⟨b,o+i*6,none⟩=some (.string name):=hw 0 _ rfl;have c1:W.cell? ⟨b,o+i*6+1,none⟩=some (.int .i64 at_):=hw 1 _ rfl;have c2:W.cell? ⟨b,o+i*6+2,none⟩=some (.int .i64 order):=hw 2 _ rfl;have c3:W.cell? ⟨b,o+i*6+3,none⟩=some (.string in_):=hw 3 _ rfl;have c4:W.cell? ⟨b,o+i*6+4,none⟩=some (.int .i64 inAt):=hw 4 _ rfl;have c5:W.cell? ⟨b,o+i*6+5,none⟩=some (.int .i64 when_):=hw 5 _ rfl;have f1:(0:Int)<=(i:Int):=(by omega);have f2:(i:Int).toNat=i:=(by omega);have f3:(i:Int)<(t.miles.length:Int):=(by omega);have ho:Old W (W.alloc (.cells #[.string name,.int .i64 at_,.int .i64 order,.string in_,.int .i64 inAt,.int .i64 when_] 64)):=(jQ0 NoX W).alloc _;have HP:=G (h.old ho);have HW:=G (FrP.of_old ho);have HL:=G (fun W1 (hp:Pr w t s next l B bc W1)=>jg W1 (hp.sg hg Fg) name);rw[show js (sb name)=false from h1]at HL;clear h hA hc hw ha hlt TD hg ho h1;unfold iv at*;go_enter func52,ntmps52;go_wp2_with (first|(go_at_call 20;refine(HL.out _ HP.out).mono ?_;rintro e w1 ⟨rfl,rfl⟩)|fail);go_ret;exact⟨rfl,next,fun n e=>(by cases e),HP.out,HW.out⟩
theorem jCl(w W:World)(hg:Sg w)(Fg:8<=w.heap.size)(t:Tre)(s:Sl)(ns:List MNd)(ps:List MSt)(TD:TrD w t s ns ps)(i:Nat)(a:Mil)(ha:t.miles[i]? =some a)(next:Nat)(l:LB)(B:OA)(bc:Nat)(h:Pr w t s next l B bc W)(h1:jb a.name=true)(h2:vL a.in_=false):
  Calls prog 52 #[.pointer (some ⟨w.heap.size,0,none⟩),.int .i64 3,iv (i:Int)] W (TrR w t s l B bc none W):=by
 obtain⟨b,o,hA,hc⟩:=jP (C:=miC) (fun x=>rfl) TD.rM ha (jM5 ha).1;have hlt:=(jM5 ha).1;have FK:=TD.nM;have Wc:=h.c4;rw[hA]at Wc;have hw:=fun j u hu=>h.cellw (hc j u hu);obtain⟨name,at_,order,in_,inAt,when_⟩:=a;simp only at h1 h2;have c0:W.cell? ⟨b,o+i*6,none⟩=some (.string name):=hw 0 _ rfl;have c1:W.cell? ⟨b,o+i*6+1,none⟩=some (.int .i64 at_):=hw 1 _ rfl;have c2:W.cell? ⟨b,o+i*6+2,none⟩=some (.int .i64 order):=hw 2 _ rfl;have c3:W.cell? ⟨b,o+i*6+3,none⟩=some (.string in_):=hw 3 _ rfl;have c4:W.cell? ⟨b,o+i*6+4,none⟩=some (.int .i64 inAt):=hw 4 _ rfl;have c5:W.cell? ⟨b,o+i*6+5,none⟩=some (.int .i64 when_):=hw 5 _ rfl;have f1:(0:Int)<=(i:Int):=(by omega);have f2:(i:Int).toNat=i:=(by omega);have f3:(i:Int)<(t.miles.length:Int):=(by omega);have ho:Old W (W.alloc (.cells #[.string name,.int .i64 at_,.int .i64 order,.string in_,.int .i64 inAt,.int .i64 when_] 64)):=(jQ0 NoX W).alloc _;have HP:=G (h.old ho);have HW:=G (FrP.of_old ho);have HL:=G (fun W1 (hp:Pr w t s next l B bc W1)=>jg W1 (hp.sg hg Fg) name);rw[show js (sb name)=true from h1]at HL;have HS:=G (fun W1 (hp:Pr w t s next l B bc W1)=>KV W1 (hp.sg hg Fg) in_);rw[h2]at HS;clear h hA hc hw ha hlt TD hg ho h1 h2;unfold iv at*;go_enter func52,ntmps52;go_wp2_with (first|(go_at_call 116;refine(HS.out _ HP.out).mono ?_;rintro e w1 ⟨rfl,rfl⟩)|(go_at_call 20;refine(HL.out _ HP.out).mono ?_;rintro e w1 ⟨rfl,rfl⟩)|fail);go_ret;exact⟨rfl,next,fun n e=>(by cases e),HP.out,HW.out⟩
theorem jCk(w W:World)(hg:Sg w)(Fg:8<=w.heap.size)(t:Tre)(s:Sl)(ns:List MNd)(ps:List MSt)(TD:TrD w t s ns ps)(i:Nat)(a:Mil)(ha:t.miles[i]? =some a)(next:Nat)(l:LB)(B:OA)(bc:Nat)(h:Pr w t s next l B bc W)(hn:next<=1000000)(h1:jb a.name=true)(h2:vL a.in_=true):
  Calls prog 52 #[.pointer (some ⟨w.heap.size,0,none⟩),.int .i64 3,iv (i:Int)] W (TrR w t s l B bc (kQ t.nodes (t.nodes.length+1) a.when_ next) W):=by
 obtain⟨b,o,hA,hc⟩:=jP (C:=miC) (fun x=>rfl) TD.rM ha (jM5 ha).1;have hlt:=(jM5 ha).1;have FK:=TD.nM;have Wc:=h.c4;rw[hA]at Wc;have hw:=fun j u hu=>h.cellw (hc j u hu);obtain⟨name,at_,order,in_,inAt,when_⟩:=a;simp only at h1 h2⊢;have c0:W.cell? ⟨b,o+i*6,none⟩=some (.string name):=hw 0 _ rfl;have c1:W.cell? ⟨b,o+i*6+1,none⟩=some (.int .i64 at_):=hw 1 _ rfl;have c2:W.cell? ⟨b,o+i*6+2,none⟩=some (.int .i64 order):=hw 2 _ rfl;have c3:W.cell? ⟨b,o+i*6+3,none⟩=some (.string in_):=hw 3 _ rfl;have c4:W.cell? ⟨b,o+i*6+4,none⟩=some (.int .i64 inAt):=hw 4 _ rfl;have c5:W.cell? ⟨b,o+i*6+5,none⟩=some (.int .i64 when_):=hw 5 _ rfl;have f1:(0:Int)<=(i:Int):=(by omega);have f2:(i:Int).toNat=i:=(by omega);have f3:(i:Int)<(t.miles.length:Int):=(by omega);have ho:Old W (W.alloc (.cells #[.string name,.int .i64 at_,.int .i64 order,.string in_,.int .i64 inAt,.int .i64 when_] 64)):=(jQ0 NoX W).alloc _;have HP:=G (h.old ho);have HW:=G (FrP.of_old ho);have HL:=G (fun W1 (hp:Pr w t s next l B bc W1)=>jg W1 (hp.sg hg Fg) name);rw[show js (sb name)=true from h1]at HL;have HS:=G (fun W1 (hp:Pr w t s next l B bc W1)=>KV W1 (hp.sg hg Fg) in_);rw[h2]at HS;have HT:=G (fun W1 (hp:Pr w t s next l B bc W1)=>ux w hg Fg t s ns TD.nd l B bc when_ W1 next hn hp);clear h hA hc hw ha hlt TD hg ho h1 h2 hn;unfold iv at*;generalize kQ t.nodes (t.nodes.length+1) when_ next=q at*;go_enter func52,ntmps52;go_wp2_with (first|(go_at_call 117;refine(HT.out _ HP.out).mono ?_;rintro e w2 ⟨rfl,n2,Fu,hX,GJ⟩;have GL:=G Fu;have HX:=G hX;have HF:=G GJ;clear hX GJ Fu)|(go_at_call 116;refine(HS.out _ HP.out).mono ?_;rintro e w1 ⟨rfl,rfl⟩)|(go_at_call 20;refine(HL.out _ HP.out).mono ?_;rintro e w1 ⟨rfl,rfl⟩)|fail);go_ret;exact⟨rfl,n2,GL.out,HX.out,HW.out.trans HF.out⟩
theorem jAM(w W:World)(hg:Sg w)(Fg:8<=w.heap.size)(t:Tre)(s:Sl)(ns:List MNd)(ps:List MSt)(TD:TrD w t s ns ps)(i:Nat)(a:Mil)(ha:t.miles[i]? =some a)(next:Nat)(l:LB)(B:OA)(bc:Nat)(h:Pr w t s next l B bc W)(hn:next<=1000000):
  Calls prog 52 #[.pointer (some ⟨w.heap.size,0,none⟩),.int .i64 3,iv (i:Int)] W (TrR w t s l B bc (Jd t.nodes a next) W):=by
 unfold Jd;cases h1:jb a.name with
 |false=>rw[jJ5 (fun e=>absurd e.1 (by decide))];exact jCm w W hg Fg t s ns ps TD i a ha next l B bc h h1
 |true=>
  cases h2:vL a.in_ with
  |false=>rw[jJ5 (fun e=>absurd e.2 (by decide))];exact jCl w W hg Fg t s ns ps TD i a ha next l B bc h h1 h2
  |true=>rw[jJ6 ⟨rfl,rfl⟩];exact jCk w W hg Fg t s ns ps TD i a ha next l B bc h hn h1 h2
section
variable{ns:List Nd}{nx n2:Nat}
theorem YM{a b:Int}(h:(jX ns a nx).bind (jX ns b)=some n2)(hn:nx<=1000000)(hl:ns.length<=1000000):n2<=1000000:=by
 obtain⟨m,h1,h2⟩:=jM2 h;exact kU h2 (kU h1 hn hl) hl
theorem qd:∀(l:List Eff) {nx:Nat},vE ns l nx=some n2->nx<=1000000->ns.length<=1000000->n2<=1000000
 |[],nx,h,hn,_=>by
  rw[vE]at h;injection h with h;omega
 |e::l,nx,h,hn,hl=>by
  rw[vE]at h;split at h
  ·obtain⟨m,h1,h2⟩:=jM2 h;exact qd l h2 (kU h1 hn hl) hl
  ·cases h
end
theorem qe{t:Tre}{d:Int×Int}{nx n2:Nat}(h:kZ t d nx=some n2)(hn:nx<=1000000)(hl:t.nodes.length<=1000000):n2<=1000000:=by
 unfold kZ at h;split at h
 ·obtain⟨a,_,h⟩:=jM2 h;unfold KI at h;split at h
  ·exact YM h hn hl
  ·cases h
 split at h
 ·obtain⟨a,_,h⟩:=jM2 h;unfold VM at h;split at h
  ·exact YM h hn hl
  ·cases h
 split at h
 ·obtain⟨a,_,h⟩:=jM2 h;unfold Jd at h;split at h
  ·have:=ZV h;omega
  ·cases h
 ·obtain⟨a,_,h⟩:=jM2 h;unfold Jc at h;split at h
  ·obtain⟨m,h1,h2⟩:=jM2 h;exact qd _ h2 (kU h1 hn hl) hl
  ·cases h
theorem yX(b x:LB):b.length<=(jI b x).length:=(jG b x).1
theorem jBo{ns:List Nd}{a:Atr}{b b' :LB}(h:xd ns a b=some b'):b.length<=b'.length:=by
 unfold xd at h;obtain⟨b3,h1,h⟩:=jM2 h;obtain⟨b4,h2,h⟩:=jM4 h;have e1:=kY _ _ _ _ _ h1;have e2:=kY _ _ _ _ _ h2;have e3:=yX b4 [59];rw[h]at e3;have e4:=vF [[97,116,116,114,105,98,117,116,101],tb a.name,[58]] b;have e5:=yX (if a.opt=true then jI (jT b [[97,116,116,114,105,98,117,116,101],tb a.name,[58]]) [111,112,116,105,111,110,97,108]else jT b [[97,116,116,114,105,98,117,116,101],tb a.name,[58]]) (YX a.kind);have e6:(jT b [[97,116,116,114,105,98,117,116,101],tb a.name,[58]]).length<=(if a.opt=true then jI (jT b [[97,116,116,114,105,98,117,116,101],tb a.name,[58]]) [111,112,116,105,111,110,97,108]else jT b [[97,116,116,114,105,98,117,116,101],tb a.name,[58]]).length:=by
  split
  ·exact yX _ _
  ·exact jL3 _
 omega
theorem qW{ns:List Nd}{r:Int}{w b b' :LB}(h:Ym ns r w b=some b'):b.length<=b'.length:=by
 unfold Ym at h;split at h
 ·obtain⟨b1,h1,h⟩:=jM4 h;have e1:=kY _ _ _ _ _ h1;have e2:=yX b1 [59];rw[h]at e2;omega
 ·injection h with h;rw[h];exact jL3 _
theorem jBn{ns:List Nd}{a:Stg}{b b' :LB}(h:xb ns a b=some b'):b.length<=b'.length:=by
 unfold xb at h;obtain⟨b3,h1,h⟩:=jM2 h;obtain⟨b4,h2,h⟩:=jM4 h;have e1:=qW h1;have e2:=qW h2;have e3:=yX b4 [125];rw[h]at e3;have e4:=vF [[115,116,97,103,101],tb a.name] b;have e5:=VE a.in_ (jT b [[115,116,97,103,101],tb a.name]);have e6:=yX (inP a.in_ (jT b [[115,116,97,103,101],tb a.name])) [123];omega
theorem jBm{ns:List Nd}{a:Mil}{b b' :LB}(h:Yt ns a b=some b'):b.length<=b'.length:=by
 unfold Yt at h;obtain⟨b4,h2,h⟩:=jM4 h;have e2:=kY _ _ _ _ _ h2;have e3:=yX b4 [59];rw[h]at e3;have e4:=vF [[109,105,108,101,115,116,111,110,101],tb a.name] b;have e5:=VE a.in_ (jT b [[109,105,108,101,115,116,111,110,101],tb a.name]);omega
theorem zi:∀(l:List Prm) (i:Nat) (b:LB),b.length<=(vW l i b).length
 |[],_,b=>jL3 _
 |p::l,i,b=>by
  rw[vW];refine jL4 ?_ (zi l (i+1) _);refine jL4 ?_ (vF _ _);split
  ·exact yX _ _
  ·exact jL3 _
theorem zJ{ns:List Nd}:∀(l:List Eff) {b b' :LB},vQ ns l b=some b' ->b.length<=b'.length
 |[],b,b',h=>by
  rw[vQ]at h;injection h with h;rw[h];exact jL3 _
 |e::l,b,b',h=>by
  rw[vQ]at h;obtain⟨b1,h1,h2⟩:=jM2 h;have e2:=zJ l h2;have e3:=yX b1 [59];split at h1
  ·injection h1 with h1;have:=vF [[114,101,111,112,101,110],tb e.name] b;rw[h1]at this;omega
  ·have:=kY _ _ _ _ _ h1;omega
theorem jBk{ns:List Nd}{a:Stp}{b b' :LB}(h:Zy ns a b=some b'):b.length<=b'.length:=by
 unfold Zy at h;obtain⟨b3,h1,h⟩:=jM2 h;obtain⟨b4,h2,h⟩:=jM4 h;have e1:=kY _ _ _ _ _ h1;have e2:=zJ _ h2;have e3:=yX b4 [125];have e3' :=yX b3 [123];rw[h]at e3;have e4:=vF [[115,116,101,112],tb a.name,[40]] b;have e5:=zi a.params 0 (jT b [[115,116,101,112],tb a.name,[40]]);have e6:=yX (vW a.params 0 (jT b [[115,116,101,112],tb a.name,[40]])) [41];have e7:=VE a.in_ (jI (vW a.params 0 (jT b [[115,116,101,112],tb a.name,[40]])) [41]);omega
theorem jBl{t:Tre}{d:Int×Int}{b b' :LB}(h:Kg t d b=some b'):b.length+1<=b'.length:=by
 unfold Kg at h;obtain⟨b1,h,e⟩:=jM4 h;have hl:b1.length+1=b'.length:=by rw[<-e,jJ4];rfl
 rw[<-hl];refine Nat.succ_le_succ ?_;split at h
 ·obtain⟨a,_,h⟩:=jM2 h;exact jBo h
 split at h
 ·obtain⟨a,_,h⟩:=jM2 h;exact jBn h
 split at h
 ·obtain⟨a,_,h⟩:=jM2 h;exact jBm h
 ·obtain⟨a,_,h⟩:=jM2 h;exact jBk h
theorem VG{t:Tre}:∀(l:List (Int×Int)) {b b' :LB},yu t l b=some b' ->b.length<=b'.length
 |[],b,b',h=>by
  rw[yu]at h;injection h with h;rw[h];exact jL3 _
 |d::l,b,b',h=>by
  rw[yu]at h;obtain⟨b1,h1,h2⟩:=jM2 h;have:=jBl h1;have:=VG l h2;omega
theorem xN{a b:Bool}(q:Option Nat):a=false\/a=true/\b=false\/a=true/\b=true/\(q=none\/∃n,q=some n):=by
 cases a<;>cases b<;>cases q<;>simp
theorem jEn(w W:World)(hg:Sg w)(Fg:8<=w.heap.size)(t:Tre)(s:Sl)(ns:List MNd)(ps:List MSt)(TD:TrD w t s ns ps)(i:Nat)(a:Atr)(ha:t.attrs[i]? =some a)(next:Nat)(l:LB)(B:OA)(bc:Nat)(h:Pr w t s next l B bc W)(hn:next<=1000000):
  Calls prog 52 #[.pointer (some ⟨w.heap.size,0,none⟩),.int .i64 1,iv (i:Int)] W (TrR w t s l B bc (KI t.nodes a next) W):=by
 obtain⟨b,o,hA,hc⟩:=jP (C:=atC) (fun x=>rfl) TD.rA ha (jM5 ha).1;have hlt:=(jM5 ha).1;have FK:=TD.nA;have Wc:=h.c2;rw[hA]at Wc;have hw:=fun j u hu=>h.cellw (hc j u hu);obtain⟨name,at_,order,opt,kind,dflt,when_⟩:=a;unfold KI;simp only;have c0:W.cell? ⟨b,o+i*7,none⟩=some (.string name):=hw 0 _ rfl;have c1:W.cell? ⟨b,o+i*7+1,none⟩=some (.int .i64 at_):=hw 1 _ rfl;have c2:W.cell? ⟨b,o+i*7+2,none⟩=some (.int .i64 order):=hw 2 _ rfl;have c3:W.cell? ⟨b,o+i*7+3,none⟩=some (.int .i64 kind):=hw 3 _ rfl;have c4:W.cell? ⟨b,o+i*7+4,none⟩=some (.bool opt):=hw 4 _ rfl;have c5:W.cell? ⟨b,o+i*7+5,none⟩=some (.int .i64 dflt):=hw 5 _ rfl;have c6:W.cell? ⟨b,o+i*7+6,none⟩=some (.int .i64 when_):=hw 6 _ rfl;have f1:(0:Int)<=(i:Int):=(by omega);have f2:(i:Int).toNat=i:=(by omega);have f3:(i:Int)<(t.attrs.length:Int):=(by omega);have ho:Old W (W.alloc (.cells #[.string name,.int .i64 at_,.int .i64 order,.int .i64 kind,.bool opt,.int .i64 dflt,.int .i64 when_] 114)):=(jQ0 NoX W).alloc _;have HP:=G (h.old ho);have F:=G (FrP.of_old ho);have BN:=G (jQ2 W 114 #[.string name,.int .i64 at_,.int .i64 order,.int .i64 kind,.bool opt,.int .i64 dflt,.int .i64 when_]);have HL:=G (fun W1 (hp:Pr w t s next l B bc W1)=>jg W1 (hp.sg hg Fg) name);rw[show js (sb name)=jb name from rfl]at HL;have HS:=G (fun W1 (hp:Pr w t s next l B bc W1)=>xi W1 kind);have HT:=G (fun W1 (hp:Pr w t s next l B bc W1)=>vH w hg Fg t s ns TD.nd l B bc dflt W1 next hn hp);have HU:=G (fun n3 (h3:jX t.nodes dflt next=some n3) W1 (hp:Pr w t s n3 l B bc W1)=>vH w hg Fg t s ns TD.nd l B bc when_ W1 n3 (kU h3 hn TD.nd.cnt) hp);clear h hA hc hw ha hlt TD hg ho hn;unfold iv at*;rcases xN (a:=jb name) (b:=kq kind) (jX t.nodes dflt next)with h1|⟨h1,h2⟩|⟨h1,h2,h3|⟨n3,h3⟩⟩
 all_goals
  try have HU:=G (HU.out _ h3)
  rw[h1]at HL
  try rw[h2]at HS
  try rw[h3]at HT
  try rw[jJ5 (fun e=>absurd (h1.symm.trans e.1) (by decide))]
  try rw[jJ5 (fun e=>absurd (h2.symm.trans e.2) (by decide))]
  try rw[jJ6 ⟨h1,h2⟩]
  try rw[h3]
  try rw[jL2]
  try rw[Option.bind_none]
  try generalize jX t.nodes when_ n3=q at*
  go_enter func52,ntmps52;go_wp2_with (first|(go_at_call 115;(first|(refine(HU.out _ HP.out).mono ?_;rintro e w2 ⟨rfl,n4,WR,hX,GJ⟩;have Dv:=G WR;clear WR)|(refine(HT.out _ HP.out).mono ?_;rintro e w2 ⟨rfl,n2,Fu,hX,GJ⟩;(first|(obtain rfl:=Fu _ rfl)|skip);have k4:=(GJ.blk _ _ _ (by decide) (by decide) BN.out).at_ 6 (v:=.int .i64 when_) rfl;have GL:=G Fu;clear Fu));have HP:=G hX;have F:=G (F.out.trans GJ);clear hX GJ)|(go_at_call 114;refine(HS.out _ HP.out).mono ?_;rintro e w1 ⟨rfl,rfl⟩)|(go_at_call 20;refine(HL.out _ HP.out).mono ?_;rintro e w1 ⟨rfl,rfl⟩)|fail);go_ret
  first|exact⟨rfl,n4,Dv.out,HP.out,F.out⟩|exact⟨rfl,n2,GL.out,HP.out,F.out⟩|exact⟨rfl,next,fun n e=>(by cases e),HP.out,F.out⟩
theorem jEm(w W:World)(hg:Sg w)(Fg:8<=w.heap.size)(t:Tre)(s:Sl)(ns:List MNd)(ps:List MSt)(TD:TrD w t s ns ps)(i:Nat)(a:Stg)(ha:t.stages[i]? =some a)(next:Nat)(l:LB)(B:OA)(bc:Nat)(h:Pr w t s next l B bc W)(hn:next<=1000000):
  Calls prog 52 #[.pointer (some ⟨w.heap.size,0,none⟩),.int .i64 2,iv (i:Int)] W (TrR w t s l B bc (VM t.nodes a next) W):=by
 obtain⟨b,o,hA,hc⟩:=jP (C:=sgC) (fun x=>rfl) TD.rG ha (jM5 ha).1;have hlt:=(jM5 ha).1;have FK:=TD.nG;have Wc:=h.c3;rw[hA]at Wc;have hw:=fun j u hu=>h.cellw (hc j u hu);obtain⟨name,at_,order,in_,inAt,opens,closes⟩:=a;unfold VM;simp only;have c0:W.cell? ⟨b,o+i*7,none⟩=some (.string name):=hw 0 _ rfl;have c1:W.cell? ⟨b,o+i*7+1,none⟩=some (.int .i64 at_):=hw 1 _ rfl;have c2:W.cell? ⟨b,o+i*7+2,none⟩=some (.int .i64 order):=hw 2 _ rfl;have c3:W.cell? ⟨b,o+i*7+3,none⟩=some (.string in_):=hw 3 _ rfl;have c4:W.cell? ⟨b,o+i*7+4,none⟩=some (.int .i64 inAt):=hw 4 _ rfl;have c5:W.cell? ⟨b,o+i*7+5,none⟩=some (.int .i64 opens):=hw 5 _ rfl;have c6:W.cell? ⟨b,o+i*7+6,none⟩=some (.int .i64 closes):=hw 6 _ rfl;have f1:(0:Int)<=(i:Int):=(by omega);have f2:(i:Int).toNat=i:=(by omega);have f3:(i:Int)<(t.stages.length:Int):=(by omega);have ho:Old W (W.alloc (.cells #[.string name,.int .i64 at_,.int .i64 order,.string in_,.int .i64 inAt,.int .i64 opens,.int .i64 closes] 117)):=(jQ0 NoX W).alloc _;have HP:=G (h.old ho);have F:=G (FrP.of_old ho);have BN:=G (jQ2 W 117 #[.string name,.int .i64 at_,.int .i64 order,.string in_,.int .i64 inAt,.int .i64 opens,.int .i64 closes]);have HL:=G (fun W1 (hp:Pr w t s next l B bc W1)=>jg W1 (hp.sg hg Fg) name);rw[show js (sb name)=jb name from rfl]at HL;have HS:=G (fun W1 (hp:Pr w t s next l B bc W1)=>KV W1 (hp.sg hg Fg) in_);have HT:=G (fun W1 (hp:Pr w t s next l B bc W1)=>vH w hg Fg t s ns TD.nd l B bc opens W1 next hn hp);have HU:=G (fun n3 (h3:jX t.nodes opens next=some n3) W1 (hp:Pr w t s n3 l B bc W1)=>vH w hg Fg t s ns TD.nd l B bc closes W1 n3 (kU h3 hn TD.nd.cnt) hp);clear h hA hc hw ha hlt TD hg ho hn;unfold iv at*;rcases xN (a:=jb name) (b:=vL in_) (jX t.nodes opens next)with h1|⟨h1,h2⟩|⟨h1,h2,h3|⟨n3,h3⟩⟩
 all_goals
  try have HU:=G (HU.out _ h3)
  rw[h1]at HL
  try rw[h2]at HS
  try rw[h3]at HT
  try rw[jJ5 (fun e=>absurd (h1.symm.trans e.1) (by decide))]
  try rw[jJ5 (fun e=>absurd (h2.symm.trans e.2) (by decide))]
  try rw[jJ6 ⟨h1,h2⟩]
  try rw[h3]
  try rw[jL2]
  try rw[Option.bind_none]
  try generalize jX t.nodes closes n3=q at*
  go_enter func52,ntmps52;go_wp2_with (first|(go_at_call 115;(first|(refine(HU.out _ HP.out).mono ?_;rintro e w2 ⟨rfl,n4,WR,hX,GJ⟩;have Dv:=G WR;clear WR)|(refine(HT.out _ HP.out).mono ?_;rintro e w2 ⟨rfl,n2,Fu,hX,GJ⟩;(first|(obtain rfl:=Fu _ rfl)|skip);have k4:=(GJ.blk _ _ _ (by decide) (by decide) BN.out).at_ 6 (v:=.int .i64 closes) rfl;have GL:=G Fu;clear Fu));have HP:=G hX;have F:=G (F.out.trans GJ);clear hX GJ)|(go_at_call 116;refine(HS.out _ HP.out).mono ?_;rintro e w1 ⟨rfl,rfl⟩)|(go_at_call 20;refine(HL.out _ HP.out).mono ?_;rintro e w1 ⟨rfl,rfl⟩)|fail);go_ret
  first|exact⟨rfl,n4,Dv.out,HP.out,F.out⟩|exact⟨rfl,n2,GL.out,HP.out,F.out⟩|exact⟨rfl,next,fun n e=>(by cases e),HP.out,F.out⟩
end Go.Proofs.YtmmjcbbogokmfaaGreatDoor

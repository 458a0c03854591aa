import Derived.Test.YtmmjcbbogokmfaaGreatDoorMb24
import Derived.Deep.MidRow
set_option maxRecDepth 100000
set_option maxHeartbeats 25600000
namespace Go.Proofs.YtmmjcbbogokmfaaGreatDoor
open Go.Proofs.Tryz
open Go.RowKit
theorem jHH(w W:World)(hg:Sg w)(Fb:8<=w.heap.size)(t:Tre)(s:Sl)(ns:List MNd)(TN:TrN w t s ns)(f:Nat)(PX:PxAll w t s f)(next:Nat)(l:LB)(B:OA)(bc:Nat)(h:Pr w t s next l B bc W)(root least:Nat)(own own1:Nat)(n:Nd)(hn:t.nodes[root]? =some n)(Hh:jD n.op=own)(hw:own=1/\own1=2\/own=2/\own1=3\/own=5/\own1=6\/own=6/\own1=7)(Fc:own<least)(LX:least<=8)(hU:7<=n.op/\n.op<=33/\n.op≠23)
  (k q:Int) (tl:List Int) (Fp:n.kids=k::q::tl) (lm l' :LB) (hk:exprP t.nodes f k own (jI l [40])=some lm) (hq:exprP t.nodes f q own1 (jI lm (jA n.op))=some l') (hl:(jI l' [41]).length<=jv):
  Calls prog 156 #[.pointer (some ⟨w.heap.size,0,none⟩),iv (root:Int),iv (least:Int)] W (PrR w t s next (jI l' [41]) W):=by
 obtain⟨x,b,o,hx,e,hA,hc,Fx,Ni⟩:=TN.at_ hn;have hlt:=(jM5 hn).1;have FA:=TN.cnt;have Ns:=h.c6;rw[hA]at Ns;obtain⟨⟨op,name,vk,vn,vt,vs,kids⟩,A,c,vA,vc⟩:=x;subst e;simp only at Fp Hh hU Fx hk hq;subst Fp;have FD:∀i u,(ndC ⟨⟨op,name,vk,vn,vt,vs,k::q::tl⟩,A,c,vA,vc⟩)[i]? =some u->W.cell? ⟨b,o+(root*7+i),none⟩=some u:=fun i u hu=>by
  have h1:=hc i u hu;have hb:=jg h1;rw[World.cell?_of_block (h.kp.block b hb (fun e:w.heap.size<=b=>by have:b<w.heap.size:=hb;omega))];exact h1
 have c0:W.cell? ⟨b,o+root*7,none⟩=some (.int .i64 op):=FD 0 _ rfl;have c1:W.cell? ⟨b,o+root*7+1,none⟩=some (.string name):=FD 1 _ rfl;have c2:W.cell? ⟨b,o+root*7+2,none⟩=some (.int .i64 vk):=FD 2 _ rfl;have c3:W.cell? ⟨b,o+root*7+3,none⟩=some (.int .i64 vn):=FD 3 _ rfl;have c4:W.cell? ⟨b,o+root*7+4,none⟩=some (.string vt):=FD 4 _ rfl;have c5:W.cell? ⟨b,o+root*7+5,none⟩=some (.slice vA vs.length vc):=FD 5 _ rfl;have c6:W.cell? ⟨b,o+root*7+6,none⟩=some (.slice A (tl.length+1+1) c):=FD 6 _ rfl;have ho:=(jQ0 NoX W).alloc (.cells (ndC ⟨⟨op,name,vk,vn,vt,vs,k::q::tl⟩,A,c,vA,vc⟩).toArray 46);have BN:=G (jQ2 W 46 (ndC ⟨⟨op,name,vk,vn,vt,vs,k::q::tl⟩,A,c,vA,vc⟩).toArray);have HF:=G (FrP.of_old ho);have H0:=G (h.old ho);have N0:=G (fun W1=>yC W1 op);rw[Hh]at N0;have gf:l'.length<=jv:=jL4 (jH l' [41]).1 hl;have g2:(jI lm (jA op)).length<=jv:=jL4 (jp _ f _ _ _ _ hq) gf;have gm:lm.length<=jv:=jL4 (jH lm (jA op)).1 g2;have g0:(jI l [40]).length<=jv:=jL4 (jp _ f _ _ _ _ hk) gm;have P0:=G (jT w _ t s next l B bc (h.old ho) (W.heap.size+1) (by simp) [⟨#[40]⟩] g0 (show 1<=1000 by decide));have PZ:=G (fun W1 B1 c1 Q (hp:Pr w t s next l' B1 c1 W1) (hb:Blk W1 Q 9 #[.string ⟨#[41]⟩])=>jDr w W1 t s next l' B1 c1 hp Q [⟨#[41]⟩] hb hl (show 1<=1000 by decide) .returning);have SP:=G (fun W1 l1 B1 c1 (hp:Pr w t s next l1 B1 c1 W1)=>vi W1 (hp.sg hg Fb) op (by omega));have P1:=G (fun W1 B1 c1 Q (hp:Pr w t s next lm B1 c1 W1) (hQ:Q=W1.heap.size)=>jT w W1 t s next lm B1 c1 hp Q hQ [⟨(jA op).toArray⟩] g2 (show 1<=1000 by decide));have EX1:=G (fun W1 B1 c1 (hp:Pr w t s next (jI l [40]) B1 c1 W1)=>PX.ex W1 next _ lm B1 c1 k own hp (by omega) hk gm);have EX2:=G (fun W1 B1 c1 (hp:Pr w t s next (jI lm (jA op)) B1 c1 W1)=>PX.ex W1 next _ l' B1 c1 q own1 hp (by omega) hq gf);obtain⟨kb,ko,u0,Wr,NA,FK⟩:=Fx.at_ (k:=0) (Nat.succ_pos _);have e0:iv k=u0:=(by injection NA);subst e0;subst Wr;have KC0:=G (fun W1 l1 B1 c1 (hp:Pr w t s next l1 B1 c1 W1)=>(show W1.cell? ⟨kb,ko,none⟩=some (.int .i64 k)from by
  have hb:=jg FK;rw[World.cell?_of_block (hp.kp.block kb hb (fun e:w.heap.size<=kb=>by have:kb<w.heap.size:=hb;omega))];exact FK))
 have FW:w.cell? ⟨kb,ko+1,none⟩=some (iv q):=by
  obtain⟨b2,o2,Fk,Fq⟩:=Fx.2 (Nat.succ_pos _);have eb:=jL5 Fk;have e1:kb=b2:=congrArg Addr.block eb;have e2:ko=o2:=congrArg Addr.off eb;rw[e1,e2];exact Fq 1 _ rfl
 have KC1:=G (fun W1 l1 B1 c1 (hp:Pr w t s next l1 B1 c1 W1)=>(show W1.cell? ⟨kb,ko+1,none⟩=some (.int .i64 q)from by
  have hb:=jg FW;rw[World.cell?_of_block (hp.kp.block kb hb (fun e:w.heap.size<=kb=>by have:kb<w.heap.size:=hb;omega))];exact FW))
 have f1:(0:Int)<=(root:Int):=(by omega);have f2:(root:Int).toNat=root:=(by omega);have f3:(root:Int)<(t.nodes.length:Int):=(by omega);have f4:((own:Int):Int)<(least:Int):=(by omega);clear h hx hc FD Fx Ni TN PX ho hn FA hl hk NA Hh gf hg Fb hU hq g2 gm FK FW Fc LX g0;unfold ndC iv at*;rcases hw with⟨rfl,rfl⟩|⟨rfl,rfl⟩|⟨rfl,rfl⟩|⟨rfl,rfl⟩
 all_goals
  go_enter_defers func156,ntmps156
  go_wp2_with (first|(go_at_call 156;refine(EX2.out _ _ _ H3.out).mono ?_;rintro e w5 ⟨rfl,B4,c4',hX,hf⟩;have H4:=G hX;have F4:=G (F3.out.trans hf);have G4:=G (G3.out.trans hf);clear hX hf)|(go_at_call 53;refine(P1.out _ _ _ _ H2.out (by simp)).mono ?_;rintro e w4 ⟨rfl,B3,c3',hX,hf⟩;have H3:=G hX;have F3:=G (F2.out.trans hf);have n6:=(F3.out.blk _ _ _ (by decide) (by decide) BN.out).at_ 6 (v:=(.slice (some ⟨kb,ko,none⟩) (tl.length+1+1) c)) rfl;have k1:=KC1.out _ _ _ _ hX;have G3:=G (G2.out.trans hf);clear hX hf)|(go_at_call 156;refine(EX1.out _ _ _ MI.out).mono ?_;rintro e w3 ⟨rfl,B2,c2',hX,hf⟩;have H2:=G hX;have F2:=G (F1'.out.trans hf);have n0:=(F2.out.blk _ _ _ (by decide) (by decide) BN.out).at_ 0 (v:=(.int .i64 op)) rfl;have G2:=G (hf);clear hX hf)|(go_at_call 53;refine P0.out.mono ?_;rintro e w2 ⟨rfl,B1,c1',hX,hf⟩;have H1:=G hX;have F1:=G (hf);have n6:=(F1.out.blk _ _ _ (by decide) (by decide) BN.out).at_ 6 (v:=(.slice (some ⟨kb,ko,none⟩) (tl.length+1+1) c)) rfl;have k0:=KC0.out _ _ _ _ hX;have BZ:=G (jQ2 w2 9 #[.string ⟨#[41]⟩]);have FL:=(jQ0 NoX w2).alloc (.cells #[.string ⟨#[41]⟩] 9);have MI:=G (H1.out.old FL);have F1' :=G (F1.out.trans (FrP.of_old FL));clear FL;have n6:=(F1'.out.blk _ _ _ (by decide) (by decide) BN.out).at_ 6 (v:=(.slice (some ⟨kb,ko,none⟩) (tl.length+1+1) c)) rfl;have k0:=KC0.out _ _ _ _ MI.out;clear hX hf)|(go_at_call 191;refine(N0.out _).mono ?_;rintro e w1 ⟨rfl,rfl⟩)|(go_at_call 192;refine(SP.out _ _ _ _ H2.out).mono ?_;rintro e ws ⟨rfl,rfl⟩)|fail);have BZ2:=G (G4.out.blk _ _ _ (by decide) (by decide) BZ.out);have Gt:=G (HF.out.trans F4.out);refine leaves_cons (f:=53) (args:= #[.pointer (some ⟨w.heap.size,0,none⟩),.slice (some ⟨w2.heap.size,0,none⟩) 1 1]) (by simp) (by simp[go_sem]) ?_;refine(PZ.out _ _ _ _ H4.out BZ2.out).mono ?_;rintro e u' w'' ⟨rfl,rfl,B9,c9,hX,hf⟩;have Lo:=G (show PrR w t s next (jI l' [41]) W (.returned (.tuple #[])) w'' from⟨rfl,B9,c9,hX,Gt.out.trans hf⟩);clear hX hf;simp[Leaves,settle,results,results156,go_sem];exact Lo.out
theorem Qc(op:Int):(jD op=0/\op=23)\/(jD op=1/\op=10)\/(jD op=2/\op=9)\/(jD op=3/\op=8)\/(jD op=4/\11<=op/\op<=17)\/(jD op=5/\18<=op/\op<=19)\/(jD op=6/\20<=op/\op<=22)\/(jD op=7/\op=7)\/(jD op=8/\(op<7\/23<op)):=by
 unfold jD;by_cases h1:op=23
 ·rw[jJ6 h1];exact .inl ⟨rfl,h1⟩
 rw[jJ5 h1];by_cases h2:op=10
 ·rw[jJ6 h2];exact .inr (.inl ⟨rfl,h2⟩)
 rw[jJ5 h2];by_cases h3:op=9
 ·rw[jJ6 h3];exact .inr (.inr (.inl ⟨rfl,h3⟩))
 rw[jJ5 h3];by_cases h4:op=8
 ·rw[jJ6 h4];exact .inr (.inr (.inr (.inl ⟨rfl,h4⟩)))
 rw[jJ5 h4];by_cases h5:11<=op/\op<=17
 ·rw[jJ6 h5];exact .inr (.inr (.inr (.inr (.inl ⟨rfl,h5⟩))))
 rw[jJ5 h5];by_cases h6:op=18\/op=19
 ·rw[jJ6 h6];exact .inr (.inr (.inr (.inr (.inr (.inl ⟨rfl,by omega,by omega⟩)))))
 rw[jJ5 h6];by_cases h7:20<=op/\op<=22
 ·rw[jJ6 h7];exact .inr (.inr (.inr (.inr (.inr (.inr (.inl ⟨rfl,h7⟩))))))
 rw[jJ5 h7];by_cases h8:op=7
 ·rw[jJ6 h8];exact .inr (.inr (.inr (.inr (.inr (.inr (.inr (.inl ⟨rfl,h8⟩)))))))
 rw[jJ5 h8];exact .inr (.inr (.inr (.inr (.inr (.inr (.inr (.inr ⟨rfl,by omega⟩)))))))
def Vm(nodes:List Nd)(f:Nat)(n:Nd)(b0:LB):Option LB:=
 let own:=jD n.op
 let two (l r:Nat) (w:LB):Option LB:=match n.kids with
  |k::q::_=>(exprP nodes f k l b0).bind fun b1=>exprP nodes f q r (jI b1 w)
  |_=>none
 let one:Option LB:=match n.kids with
  |k::_=>exprP nodes f k own (jI b0 (jA n.op))
  |_=>none
 if own=0 then(match n.kids with
   |a::c::d::_=>(exprP nodes f a 0 (jI b0 [105,102])).bind fun b1=>(exprP nodes f c 0 (jI b1 [116,104,101,110])).bind fun b2=>exprP nodes f d 0 (jI b2 [101,108,115,101])
   |_=>none)
  else if own=1\/own=2\/own=5\/own=6 then two own (own+1) (jA n.op)
  else if own=3\/own=7 then one
  else if own=4 then two 5 5 (jA n.op)
  else zD nodes f n b0
theorem ub{ns:List Nd}{f:Nat}{root:Int}{least:Nat}{b l' :LB}(h:exprP ns (f+1) root least b=some l'):∃r:Nat,root=(r:Int)/\∃n,ns[r]? =some n/\∃b1,Vm ns f n (opens (jD n.op) least b)=some b1/\JL (jD n.op) least b1=l' :=by
 rw[exprP]at h;by_cases hr:root<0
 ·rw[jJ6 hr]at h;cases h
 rw[jJ5 hr]at h;cases hn:ns[root.toNat]? with
 |none=>rw[hn]at h;cases h
 |some n=>
  rw[hn]at h;obtain⟨b1,h1,e⟩:=jM4 h;exact⟨root.toNat,by omega,n,hn,b1,h1,e⟩
theorem zg{ns:List Nd}{f:Nat}{root:Int}{least:Nat}{b l' :LB}(h:exprP ns f root least b=some l'):0<=root:=by
 cases f with
 |zero=>rw[exprP]at h;cases h
 |succ f=>
  obtain⟨r,e,-⟩:=ub h;omega
theorem jDk{n:Nd}(h:jR n=true):1<=n.op/\n.op<=33:=by
 rcases Int.lt_or_le n.op 1 with h1|h1
 ·exfalso;unfold jR at h;rw[jJ5 (by omega),jJ5 (by omega),jJ5 (by omega),jJ5 (by omega),jJ5 (by omega),jJ5 (by omega),jJ5 (by omega),jJ5 (by omega),jK3 (p:=1<=n.op/\n.op<34) (by omega)]at h;simp at h
 ·rcases Int.lt_or_le n.op 34 with h2|h2
  ·exact⟨h1,by omega⟩
  ·exfalso;unfold jR at h;rw[jJ5 (by omega),jJ5 (by omega),jJ5 (by omega),jJ5 (by omega),jJ5 (by omega),jJ5 (by omega),jJ5 (by omega),jJ5 (by omega),jK3 (p:=1<=n.op/\n.op<34) (by omega)]at h;simp at h
theorem Ug{n:Nd}(h:jR n=true)(h2:n.op=2):n.vn=0\/n.vn=1:=by
 unfold jR at h;rw[jJ5 (by omega),jJ6 h2]at h;simp only[Bool.and_eq_true,decide_eq_true_eq]at h;exact h.1.1.1.1.2
def xS(w:World)(t:Tre)(s:Sl):Prop:=∀(W:World) (next:Nat) (l:LB) (B:OA) (bc:Nat) (x:MNd),x.n∈t.nodes->x.n.op=1\/x.n.op=3->Pr w t s next l B bc W->∀(f:Nat) (l' :LB),zD t.nodes f x.n l=some l' ->l'.length<=jv->
 Calls prog 193 #[.pointer (some ⟨w.heap.size,0,none⟩),.agg (ndC x).toArray] W (PrR w t s next l' W)
theorem jE6(w W:World)(hg:Sg w)(Fb:8<=w.heap.size)(t:Tre)(s:Sl)(AT:xS w t s)(f:Nat)(PX:PxAll w t s f)(next:Nat)(l l' :LB)(B:OA)(bc:Nat)(h:Pr w t s next l B bc W)(x:MNd)(hm:x.n∈t.nodes)(hr:jR x.n=true)(h8:x.n.op<7\/23<x.n.op)(Fx:Rd w 1 x.A x.n.kids.length (x.n.kids.map iv))(hn:x.n.kids.length<=1000000000)(hk:zD t.nodes f x.n l=some l')(hl:l'.length<=jv):
  Calls prog 193 #[.pointer (some ⟨w.heap.size,0,none⟩),.agg (ndC x).toArray] W (PrR w t s next l' W):=by
 have h1:=jDk hr;rcases Int.lt_or_le 23 x.n.op with hb|hb
 ·exact jC1 w W hg Fb t s f PX next l l' B bc h x (by omega) Fx hn hk hl
 ·have:x.n.op=1\/x.n.op=2\/x.n.op=3\/x.n.op=4\/x.n.op=5\/x.n.op=6:=(by omega);rcases this with e|e|e|e|e|e
  ·exact AT W next l B bc x hm (.inl e) h f l' hk hl
  ·rcases Ug hr e with e2|e2
   ·exact jHX w W (h.sg hg Fb) t s f next l l' B bc h x e e2 hk hl
   ·exact jHY w W (h.sg hg Fb) t s f next l l' B bc h x e e2 hk hl
  ·exact AT W next l B bc x hm (.inr e) h f l' hk hl
  ·exact jI2 w W t s f next l l' B bc h x e hk hl
  ·exact jI1 w W t s f next l l' B bc h x e hk hl
  ·exact jE4 w W t s f PX next l l' B bc h x e Fx hn hk hl
theorem yO{a c:Nat}(h:c<=a)(b:LB):opens a c b=b/\JL a c b=b:=by
 unfold opens JL;rw[jJ5 (by omega),jJ5 (by omega)];exact⟨rfl,rfl⟩
theorem zH{a c:Nat}(h:a<c)(b:LB):opens a c b=jI b [40]/\JL a c b=jI b [41]:=by
 unfold opens JL;rw[jJ6 h,jJ6 h];exact⟨rfl,rfl⟩
theorem jEy{ns:List Nd}{f:Nat}{n:Nd}{b0 b1:LB}(hl:jD n.op=0)(h:Vm ns f n b0=some b1):∃k q z tl la lb,n.kids=k::q::z::tl/\exprP ns f k 0 (jI b0 [105,102])=some la/\exprP ns f q 0 (jI la [116,104,101,110])=some lb/\exprP ns f z 0 (jI lb [101,108,115,101])=some b1:=by
 unfold Vm at h;simp only[hl,if_true]at h;rcases hk:n.kids with _ |⟨k,_ |⟨q,_ |⟨z,tl⟩⟩⟩
 ·rw[hk]at h;cases h
 ·rw[hk]at h;cases h
 ·rw[hk]at h;cases h
 ·rw[hk]at h;obtain⟨la,h1,h⟩:=jM2 h;obtain⟨lb,h2,h⟩:=jM2 h;exact⟨k,q,z,tl,la,lb,rfl,h1,h2,h⟩
theorem jCq{ns:List Nd}{f:Nat}{n:Nd}{b0 b1:LB}{own:Nat}(hl:jD n.op=own)(ho:own=1\/own=2\/own=5\/own=6)(h:Vm ns f n b0=some b1):∃k q tl lm,n.kids=k::q::tl/\exprP ns f k own b0=some lm/\exprP ns f q (own+1) (jI lm (jA n.op))=some b1:=by
 unfold Vm at h;simp only[hl]at h;rw[jJ5 (by omega),jJ6 ho]at h;rcases hk:n.kids with _ |⟨k,_ |⟨q,tl⟩⟩
 ·rw[hk]at h;cases h
 ·rw[hk]at h;cases h
 ·rw[hk]at h;obtain⟨lm,h1,h⟩:=jM2 h;exact⟨k,q,tl,lm,rfl,h1,h⟩
theorem jCr{ns:List Nd}{f:Nat}{n:Nd}{b0 b1:LB}{own:Nat}(hl:jD n.op=own)(ho:own=3\/own=7)(h:Vm ns f n b0=some b1):∃k tl,n.kids=k::tl/\exprP ns f k own (jI b0 (jA n.op))=some b1:=by
 unfold Vm at h;simp only[hl]at h;rw[jJ5 (by omega),jJ5 (by omega),jJ6 ho]at h;rcases hk:n.kids with _ |⟨k,tl⟩
 ·rw[hk]at h;cases h
 ·rw[hk]at h;exact⟨k,tl,rfl,h⟩
theorem jAH{ns:List Nd}{f:Nat}{n:Nd}{b0 b1:LB}(hl:jD n.op=4)(h:Vm ns f n b0=some b1):∃k q tl lm,n.kids=k::q::tl/\exprP ns f k 5 b0=some lm/\exprP ns f q 5 (jI lm (jA n.op))=some b1:=by
 unfold Vm at h;simp only[hl]at h;rw[jJ5 (by omega),jJ5 (by omega),jJ5 (by omega),jJ6 trivial]at h;rcases hk:n.kids with _ |⟨k,_ |⟨q,tl⟩⟩
 ·rw[hk]at h;cases h
 ·rw[hk]at h;cases h
 ·rw[hk]at h;obtain⟨lm,h1,h⟩:=jM2 h;exact⟨k,q,tl,lm,rfl,h1,h⟩
theorem jAI{ns:List Nd}{f:Nat}{n:Nd}{b0 b1:LB}(hl:jD n.op=8)(h:Vm ns f n b0=some b1):zD ns f n b0=some b1:=by
 unfold Vm at h;simp only[hl]at h;rw[jJ5 (by omega),jJ5 (by omega),jJ5 (by omega),jJ5 (by omega)]at h;exact h
theorem YN(w W:World)(hg:Sg w)(Fb:8<=w.heap.size)(t:Tre)(s:Sl)(ns:List MNd)(TN:TrN w t s ns)(f:Nat)(PX:PxAll w t s f)(next:Nat)(l l' :LB)(B:OA)(bc:Nat)(h:Pr w t s next l B bc W)(root least:Nat)(Fc:least<=8)(n:Nd)(hn:t.nodes[root]? =some n)(own own1:Nat)(hv:jD n.op=own)(hw:own=1/\own1=2\/own=2/\own1=3\/own=5/\own1=6\/own=6/\own1=7)(hU:7<=n.op/\n.op<=33/\n.op≠23)
  (b1:LB) (hb:Vm t.nodes f n (opens (jD n.op) least l)=some b1) (hs:JL (jD n.op) least b1=l') (hl:l'.length<=jv):
  Calls prog 156 #[.pointer (some ⟨w.heap.size,0,none⟩),iv (root:Int),iv (least:Int)] W (PrR w t s next l' W):=by
 rw[hv]at hb hs;obtain⟨k,q,tl,lm,Mq,h1,h2⟩:=jCq hv (by omega) hb;rw[show own+1=own1 by omega]at h2;rcases Nat.lt_or_ge own least with e|e
 ·rw[(zH e _).1]at h1;rw[(zH e _).2]at hs;subst hs;exact jHH w W hg Fb t s ns TN f PX next l B bc h root least own own1 n hn hv hw e Fc hU k q tl Mq lm _ h1 h2 hl
 ·rw[(yO e _).1]at h1;rw[(yO e _).2]at hs;subst hs;exact jHI w W hg Fb t s ns TN f PX next l B bc h root least own own1 n hn hv hw e hU k q tl Mq lm _ h1 h2 hl
theorem UG(w W:World)(hg:Sg w)(Fb:8<=w.heap.size)(t:Tre)(s:Sl)(ns:List MNd)(TN:TrN w t s ns)(f:Nat)(PX:PxAll w t s f)(next:Nat)(l l' :LB)(B:OA)(bc:Nat)(h:Pr w t s next l B bc W)(root least:Nat)(Fc:least<=8)(n:Nd)(hn:t.nodes[root]? =some n)(own:Nat)(hv:jD n.op=own)(hw:own=3\/own=7)(hU:n.op=8\/n.op=7)
  (b1:LB) (hb:Vm t.nodes f n (opens (jD n.op) least l)=some b1) (hs:JL (jD n.op) least b1=l') (hl:l'.length<=jv):
  Calls prog 156 #[.pointer (some ⟨w.heap.size,0,none⟩),iv (root:Int),iv (least:Int)] W (PrR w t s next l' W):=by
 rw[hv]at hb hs;obtain⟨k,tl,Mq,h1⟩:=jCr hv hw hb;rcases Nat.lt_or_ge own least with e|e
 ·rw[(zH e _).1]at h1;rw[(zH e _).2]at hs;subst hs;exact jHK w W hg Fb t s ns TN f PX next l B bc h root least own n hn hv hw e Fc hU k tl Mq _ h1 hl
 ·rw[(yO e _).1]at h1;rw[(yO e _).2]at hs;subst hs;exact jIo w W hg Fb t s ns TN f PX next l B bc h root least own n hn hv hw e hU k tl Mq _ h1 hl
theorem jFI(w:World)(hg:Sg w)(Fb:8<=w.heap.size)(t:Tre)(s:Sl)(ns:List MNd)(TN:TrN w t s ns)(OK:∀n∈t.nodes,jR n=true)(AT:xS w t s):∀f,PxAll w t s f:=by
 intro f
 induction f with
 |zero=>exact⟨fun W next l l' B bc root least h Fc hk hl=>by rw[exprP]at hk;cases hk⟩
 |succ f PX=>
  refine⟨fun W next l l' B bc root least h Fc hk hl=> ?_⟩;obtain⟨r,rfl,n,hn,b1,hb,hs⟩:=ub hk;have hm:=List.mem_of_getElem? hn;have hr:=OK n hm;rcases Qc n.op with⟨hv,ho⟩|⟨hv,ho⟩|⟨hv,ho⟩|⟨hv,ho⟩|⟨hv,ho⟩|⟨hv,ho⟩|⟨hv,ho⟩|⟨hv,ho⟩|⟨hv,ho⟩
  ·rw[hv]at hb hs;obtain⟨k,q,z,tl,la,lb,Mq,h1,h2,h3⟩:=jEy hv hb;rcases Nat.eq_zero_or_pos least with e|e
   ·rw[(yO (Nat.le_of_eq e) _).1]at h1;rw[(yO (Nat.le_of_eq e) _).2]at hs;subst hs;exact jIq w W t s ns TN f PX next l B bc h r least n hn hv e k q z tl Mq (zg h1) (zg h2) (zg h3) la lb _ h1 h2 h3 hl
   ·rw[(zH e _).1]at h1;rw[(zH e _).2]at hs;subst hs;exact jIp w W t s ns TN f PX next l B bc h r least n hn hv e Fc k q z tl Mq (zg h1) (zg h2) (zg h3) la lb _ h1 h2 h3 hl
  ·exact YN w W hg Fb t s ns TN f PX next l l' B bc h r least Fc n hn 1 2 hv (by decide) (by omega) b1 hb hs hl
  ·exact YN w W hg Fb t s ns TN f PX next l l' B bc h r least Fc n hn 2 3 hv (by decide) (by omega) b1 hb hs hl
  ·exact UG w W hg Fb t s ns TN f PX next l l' B bc h r least Fc n hn 3 hv (by decide) (by omega) b1 hb hs hl
  ·rw[hv]at hb hs;obtain⟨k,q,tl,lm,Mq,h1,h2⟩:=jAH hv hb;rcases Nat.lt_or_ge 4 least with e|e
   ·rw[(zH e _).1]at h1;rw[(zH e _).2]at hs;subst hs;exact jEg w W hg Fb t s ns TN f PX next l B bc h r least n hn hv e Fc (by omega) k q tl Mq lm _ h1 h2 hl
   ·rw[(yO e _).1]at h1;rw[(yO e _).2]at hs;subst hs;exact jEh w W hg Fb t s ns TN f PX next l B bc h r least n hn hv e (by omega) k q tl Mq lm _ h1 h2 hl
  ·exact YN w W hg Fb t s ns TN f PX next l l' B bc h r least Fc n hn 5 6 hv (by decide) (by omega) b1 hb hs hl
  ·exact YN w W hg Fb t s ns TN f PX next l l' B bc h r least Fc n hn 6 7 hv (by decide) (by omega) b1 hb hs hl
  ·exact UG w W hg Fb t s ns TN f PX next l l' B bc h r least Fc n hn 7 hv (by decide) (by omega) b1 hb hs hl
  ·rw[hv]at hb hs;rw[(yO Fc _).1]at hb;rw[(yO Fc _).2]at hs;subst hs;have ha:=jAI hv hb;refine jHL w W t s ns TN next l B bc h r least Fc n hn hv b1 (fun W1 x e Fx Ni hp=> ?_);subst e;exact jE6 w W1 hg Fb t s AT f PX next l b1 B bc hp x hm hr ho Fx Ni ha hl
theorem Yl(w:World)(hg:Sg w)(x:MNd):Calls prog 22 #[.agg (ndC x).toArray] w fun e w' =>e=.returned (.bool (jR x.n))/\Old w w' :=by
 obtain⟨⟨op,name,vk,vn,vt,vs,kids⟩,A,c,vA,vc⟩:=x;have L7:=Jf name;have HL:=G (fun W (hO:Old w W)=>jf W (hg.old hO) name);clear hg;obtain⟨K,k,kN,Q,vt',hC⟩:=jKP op vn vt kids.length;by_cases FB:1<=op/\op<34
 ·rcases stages (vk=K) Q vt' vs kids k with a|⟨a,b⟩|⟨a,b,d⟩|⟨a,b,d,e⟩|⟨a,b,d,e,f⟩|⟨a,b,d,e,f⟩
  all_goals
   rcases hC with⟨rfl,rfl,rfl,⟨h0|h0|h0|h0|h0|h0|h0,rfl,rfl⟩|⟨h0|h0|h0,rfl,rfl⟩|⟨h0,rfl,rfl⟩|⟨h0,rfl,rfl⟩|⟨⟨q1,q2,q3,q4,q29,q30,q5,q24,q25,q26,q6,q7,q8,q27,q23⟩,rfl,rfl⟩⟩|⟨h0,rfl,rfl,rfl,rfl,rfl⟩|⟨h0,rfl,rfl,rfl,rfl,rfl⟩|⟨h0,rfl,rfl,rfl,rfl,rfl⟩
  all_goals
   try first|exact absurd (tl_size.2 rfl) d|(simp at f;done)
   all_goals
    first|have a2:=bnt a|have a2:=bnf a
    try first|have b2:=bnt b|have b2:=bnf b|have b2:vn<0:=by omega|have b2:¬vn<0:=by omega
    try have b6:=bnf b.symm
    try have b6:=bnt (Ne.symm b)
    try have b3:¬vn=0:=by omega
    try have b4:¬vn=1:=by omega
    try have b5:vn=0\/vn=1:=by omega
    try first|have f2:=bne_iff_ne.1 f|have f2:=bne_eq_false_iff_eq.1 f
    try have f3:¬kids.length=_:=fun e=>f2 (by rw[e];rfl)
    try have f3:kids.length=_:=Int.ofNat.inj f2
    first
     |have hy:jR ⟨op,name,vk,vn,vt,vs,kids⟩=false:=by first|(have _g:¬_:=a;simp_all [jR];done)|(have _g:¬_:=b;simp_all [jR];done)|(have _g:¬_:=b;simp_all [jR];omega)|(have _g:0<_:=e;first|(simp_all [jR,tl_size];done)|(simp_all [jR,tl_size,List.length_pos_iff];done)|simp_all [jR,List.length_pos_iff])|(have _g:¬_:=d;simp_all [jR,tl_size];done)|(have _g:(_ !=_)=true:=f;first|(simp_all [jR,tl_size];done)|simp_all [jR])
      simp only[hy]
     |have hy:jR ⟨op,name,vk,vn,vt,vs,kids⟩=name.toList.isEmpty:=by first|(simp_all [jR];done)|simp_all [jR,tl_size]
      simp only[hy]
     |have hy:jR ⟨op,name,vk,vn,vt,vs,kids⟩=jQ (sb name):=by simp_all [jR,tl_size,jb,tb,sb]
      simp only[hy];cases hlg:jQ (sb name)
    all_goals
     clear hy L7
     try rw[hlg]at HL
     try subst e
     try subst h0
     have DV:=Qz vn;have g1:¬34<=(_:Int):=Int.not_le.2 FB.2;have g2:¬(_:Int)<1:=Int.not_lt.2 FB.1;unfold ndC iv;simp only;go_enter func22,ntmps22;go_wp2_with (first|(go_at_call 20;refine(HL.out _ (by first|exact jQ0 _ _ |(first|exact((jQ0 _ _).alloc _)|exact((jQ0 _ _).alloc _).alloc _ |exact(((jQ0 _ _).alloc _).alloc _).alloc _))).mono ?_;rintro e w1 ⟨rfl,rfl⟩)|fail)
     all_goals
      go_ret;exact⟨rfl,by first|exact((jQ0 _ _).alloc _)|exact((jQ0 _ _).alloc _).alloc _ |exact(((jQ0 _ _).alloc _).alloc _).alloc _⟩
 ·have hy:jR ⟨op,name,vk,vn,vt,vs,kids⟩=false:=by
   have q:∀c:Int,1<=c/\c<34->¬op=c:=fun c hc e=>FB (e▸hc);simp[jR,q 1 (by decide),q 2 (by decide),q 3 (by decide),q 4 (by decide),q 29 (by decide),q 30 (by decide),q 5 (by decide),q 24 (by decide),q 25 (by decide),q 26 (by decide),q 6 (by decide),q 7 (by decide),q 8 (by decide),q 27 (by decide),q 23 (by decide),decide_eq_false FB]
  simp only[hy];have q:∀c:Int,1<=c/\c<34->(op==c)=false:=fun c hc=>jM3 (fun e=>FB (e▸hc));have q1:=q 1 (by decide);have q2:=q 2 (by decide);have q3:=q 3 (by decide);have q4:=q 4 (by decide);have q29:=q 29 (by decide);have q30:=q 30 (by decide);have q5:=q 5 (by decide);have q24:=q 24 (by decide);have q25:=q 25 (by decide);have q26:=q 26 (by decide);have q6:=q 6 (by decide);have q7:=q 7 (by decide);have q8:=q 8 (by decide);have q27:=q 27 (by decide);have q23:=q 23 (by decide);have g:op<1\/34<=op/\¬op<1:=(by omega);clear hy L7 hC FB q;unfold ndC iv;simp only;rcases g with g1|⟨g1,g2⟩
  all_goals
   go_enter func22,ntmps22;go_wp2;go_ret;exact⟨rfl,by first|exact((jQ0 _ _).alloc _)|exact((jQ0 _ _).alloc _).alloc _ |exact(((jQ0 _ _).alloc _).alloc _).alloc _⟩
theorem UD{α:Type}(C:α->List Value)(z:Nat)(hz:∀x,(C x).length=z):∀(xs:List α) (k:Nat) (x:α),xs[k]? =some x->∀i,i<z->(xs.flatMap C)[k*z+i]? =(C x)[i]?
 |[],_,_,h=>by cases h
 |y::l,0,x,h=>by
  intro i hi;injection h with h;subst h;rw[jL9,Nat.zero_mul,Nat.zero_add,List.getElem?_append_left (by rw[hz];exact hi)]
 |y::l,k+1,x,h=>by
  intro i hi;rw[jL9,List.getElem?_append_right (by rw[hz,Nat.succ_mul];omega)];rw[<-UD C z hz l k x h i hi]
  congr 1
  rw[hz,Nat.succ_mul];omega
theorem kH{α:Type}{w:World}{C:α->List Value}{z:Nat}(hz:∀x,(C x).length=z){A:OA}{n:Nat}{xs:List α}(hr:Rd w z A n (xs.flatMap C)){k:Nat}{x:α}(hk:xs[k]? =some x)(hn:k<n):∃b o,A=some ⟨b,o,none⟩/\∀i u,(C x)[i]? =some u->w.cell? ⟨b,o+(k*z+i),none⟩=some u:=by
 obtain⟨b,o,hA,hc⟩:=hr.2 (by omega);refine⟨b,o,hA,fun i u hu=>hc _ u ?_⟩;have hi:i<z:=by rw[<-hz x];exact(jM5 hu).1
 rw[UD C z hz xs k x hk i hi];exact hu
structure TrD(w:World)(t:Tre)(s:Sl)(ns:List MNd)(ps:List MSt):Prop where
 nd:TrN w t s ns
 rA:Rd w 7 s.aA t.attrs.length (t.attrs.flatMap atC)
 rG:Rd w 7 s.gA t.stages.length (t.stages.flatMap sgC)
 rM:Rd w 6 s.mA t.miles.length (t.miles.flatMap miC)
 rP:Rd w 8 s.pA t.steps.length (ps.flatMap stC)
 pe:ps.map (·.s)=t.steps
 po:∀x∈ps,(Rd w 3 x.pA x.s.params.length (x.s.params.flatMap prC)/\x.s.params.length<=1000000)/\Rd w 3 x.eA x.s.effects.length (x.s.effects.flatMap efC)/\x.s.effects.length<=1000000
 nA:t.attrs.length<=1000000
 nG:t.stages.length<=1000000
 nM:t.miles.length<=1000000
 nP:t.steps.length<=1000000
section
variable{w W W1 W2:World}{t:Tre}{s:Sl}{next:Nat}{l:LB}{B:OA}{bc:Nat}
theorem Pr.c2(h:Pr w t s next l B bc W):W.cell? ⟨w.heap.size,2,none⟩=some (.slice s.aA t.attrs.length s.ac):=h.box.at_ 2 rfl
theorem Pr.c3(h:Pr w t s next l B bc W):W.cell? ⟨w.heap.size,3,none⟩=some (.slice s.gA t.stages.length s.gc):=h.box.at_ 3 rfl
theorem Pr.c4(h:Pr w t s next l B bc W):W.cell? ⟨w.heap.size,4,none⟩=some (.slice s.mA t.miles.length s.mc):=h.box.at_ 4 rfl
theorem Pr.c5(h:Pr w t s next l B bc W):W.cell? ⟨w.heap.size,5,none⟩=some (.slice s.pA t.steps.length s.pc):=h.box.at_ 5 rfl
theorem Pr.cellw(h:Pr w t s next l B bc W){p:Addr}{u:Value}(hc:w.cell? p=some u):W.cell? p=some u:=by
 have hb:=jg hc;rw[World.cell?_of_block (h.kp.block p.block hb (fun e:w.heap.size<=p.block=>by omega))];exact hc
theorem Pr.rdw(h:Pr w t s next l B bc W){z n:Nat}{A:OA}{xs:List Value}(hz:0<z)(hr:Rd w z A n xs):Rd W z A n xs:=hr.kp h.kp (fun hn ad ea hx=>by have:=hr.lt hz hn ea;have hx:w.heap.size<=ad.block:=hx;omega)
theorem Pr.setNext(h:Pr w t s next l B bc W)(n:Nat):Pr w t s n l B bc (W.setCell ⟨w.heap.size,8,none⟩ (.int .i64 (n:Int)))/\FrP W (W.setCell ⟨w.heap.size,8,none⟩ (.int .i64 (n:Int))):=by
 have Gu:Kp (fun k=>k=w.heap.size) W (W.setCell ⟨w.heap.size,8,none⟩ (.int .i64 (n:Int))):=(jQ0 (fun k=>k=w.heap.size) W).setCell (p:=⟨w.heap.size,8,none⟩) (fun _=>rfl) _;have Na:=Blk.set_ h.box 8 (.int .i64 (n:Int));rw[jJ1]at Na;refine⟨⟨Na,jW h.own Gu (fun k e e2=>ja h.own h.box (by decide) (by rw[e];exact congrArg some e2)),h.kp.trans Gu (fun b hb e=> ?_)⟩,⟨Gu.size,fun q T cs h1 h2 hq=>hq.kp Gu (fun e=>Blk.ne_ hq h.box h1 e)⟩⟩;show w.heap.size<=b;have:b=w.heap.size:=e;omega
end
def TrR(w:World)(t:Tre)(s:Sl)(l:LB)(B:OA)(bc:Nat)(o:Option Nat)(W:World)(e:Ending)(W' :World):Prop:=e=.returned (.bool o.isSome)/\∃nx,(∀n,o=some n->nx=n)/\Pr w t s nx l B bc W' /\FrP W W'
theorem TrR.of{w W W1 W' :World}{t:Tre}{s:Sl}{l:LB}{B:OA}{bc:Nat}{o:Option Nat}{e:Ending}(f:FrP W W1)(h:TrR w t s l B bc o W1 e W'):TrR w t s l B bc o W e W' :=⟨h.1,h.2.elim fun nx h2=>⟨nx,h2.1,h2.2.1,f.trans h2.2.2⟩⟩
theorem qO{ns:List Nd}{f:Nat}{root:Int}{next nx:Nat}(h:kW ns f root next=some nx):0<=root/\root.toNat<ns.length/\nx=root.toNat+1:=by
 cases f with
 |zero=>rw[kW]at h;cases h
 |succ f=>
  rw[kW]at h;by_cases h1:root<0\/(ns.length:Int)<=root
  ·rw[jJ6 h1]at h;cases h
  rw[jJ5 h1]at h;cases hn:ns[root.toNat]? with
  |none=>rw[hn]at h;cases h
  |some n=>
   rw[hn]at h;simp only at h;by_cases hr:jR n=false
   ·rw[jJ6 hr]at h;cases h
   rw[jJ5 hr]at h;obtain⟨k,hk,h⟩:=jM2 h;by_cases e:root=(k:Int)
   ·rw[jJ6 e]at h;injection h with h;omega
   ·rw[jJ5 e]at h;cases h
def Qg(ns:List Nd)(f:Nat)(root:Int)(kids:List Int)(o:Option Nat):Option Nat:=kids.foldl (fun(s:Option Nat) k=>s.bind fun nx=>if root<=k then none else kW ns f k nx) o
theorem Vg(ns:List Nd)(f:Nat)(root:Int):∀kids,Qg ns f root kids none=none
 |[]=>rfl
 |_::l=>Vg ns f root l
theorem Ux(ns:List Nd)(f:Nat)(root k:Int)(l:List Int)(nx:Nat):Qg ns f root (k::l) (some nx)=if root<=k then none else Qg ns f root l (kW ns f k nx):=by
 show Qg ns f root l (if root<=k then none else kW ns f k nx)=_;split
 ·exact Vg _ _ _ _
 ·rfl
def jA8(w:World)(g:Nat):Nat->List Value->World
 |_,[]=>w
 |i,v::vs=>jA8 (w.setCell ⟨g,i,none⟩ v) g (i+1) vs
theorem Kp.setL(g:Nat):∀(vs:List Value) (w:World) (i:Nat),Kp (fun k=>k=g) w (jA8 w g i vs)
 |[],w,_=>jQ0 _ w
 |v::vs,w,i=>((jQ0 (fun k=>k=g) w).setCell (p:=⟨g,i,none⟩) (fun _=>rfl) v).trans (Kp.setL g vs _ (i+1)) (fun _ _ h=>h)
theorem QG(g:Nat):∀(vs:List Value) (w:World) (i:Nat),jA8 w g i vs=w.setCells g i vs
 |[],_,_=>rfl
 |v::vs,w,i=>QG g vs (w.setCell ⟨g,i,none⟩ v) (i+1)
theorem Kp.setCells(g o:Nat)(vs:List Value)(w:World):Kp (fun k=>k=g) w (w.setCells g o vs):=by
 rw[<-QG];exact Kp.setL g vs w o
theorem Blk.setCells{w:World}{g:Nat}{t:TypeId}{pre mid post:List Value}(h:Blk w g t (pre++(mid++post)).toArray)(vs:List Value)(hl:mid.length=vs.length):
  Blk (w.setCells g pre.length vs) g t (pre++(vs++post)).toArray:=by
 rw[<-QG]
 induction vs generalizing w pre mid with
 |nil=>
  have:mid=[]:=List.eq_nil_of_length_eq_zero (by simpa using hl);subst this;simpa [jA8]using h
 |cons v vs ih=>
  cases mid with
  |nil=>simp at hl
  |cons r rest=>
   have h1:=h.set_ pre.length v;have e:(pre++(r::rest++post)).toArray.setIfInBounds pre.length v=((pre++[v])++(rest++post)).toArray:=by
    rw[jJ1,List.set_append_right _ _ (jL3 _)];simp
   rw[e]at h1;have h2:=ih h1 (by simpa using hl);simp only[jJ4,List.length_singleton]at h2;simpa [jA8]using h2
theorem Blk.setWhole{w:World}{g:Nat}{t:TypeId}{cs:List Value}(h:Blk w g t cs.toArray)(vs:List Value)(hl:cs.length=vs.length):Blk (w.setCells g 0 vs) g t vs.toArray:=by
 have:=Blk.setCells (pre:=[]) (mid:=cs) (post:=[]) (by simpa using h) vs hl;simpa using this
theorem Blk.range{w:World}{g:Nat}{t:TypeId}{cs:List Value}(h:Blk w g t cs.toArray):w.rangeAt g 0 cs:=by
 intro j v hv;rw[Nat.zero_add,h.cell,jJ7,hv]
theorem Blk.there{w:World}{g:Nat}{t:TypeId}{cs:Array Value}(h:Blk w g t cs)(o n:Nat)(hn:o+n<=cs.size):w.there g o n:=by
 intro j hj;refine⟨?_,h.frozen _⟩;rw[h.cell,Array.getElem?_eq_getElem (by omega)];rfl
abbrev jQ1:= @wpList_store_mid
end Go.Proofs.YtmmjcbbogokmfaaGreatDoor

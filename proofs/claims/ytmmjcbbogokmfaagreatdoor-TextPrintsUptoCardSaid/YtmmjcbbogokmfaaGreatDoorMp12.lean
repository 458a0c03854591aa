import Derived.Test.YtmmjcbbogokmfaaGreatDoorMp11
set_option maxRecDepth 100000
set_option maxHeartbeats 25600000
namespace Go.Proofs.YtmmjcbbogokmfaaGreatDoor
open Go.Proofs.Tryz
open Go.RowKit
theorem jDa(w W:World)(hg:Sg w)(Fg:8<=w.heap.size)(t:Tre)(s:Sl)(ns:List MNd)(TN:TrN w t s ns)(f:Nat)(PX:PxAll w t s f)(next:Nat)(l:LB)(B:OA)(bc:Nat)(h:Pr w t s next l B bc W)(root least:Nat)(n:Nd)(hn:t.nodes[root]? =some n)(Hi:jD n.op=4)(Fa:4<least)(LW:least<=8)(Hm:7<=n.op/\n.op<=33/\n.op≠23)
  (k q:Int) (tl:List Int) (Fw:n.kids=k::q::tl) (lm l' :LB) (hk:exprP t.nodes f k 5 (jI l [40])=some lm) (hq:exprP t.nodes f q 5 (jI lm (jA n.op))=some l') (hl:(jI l' [41]).length<=jN):
  Calls prog 156 #[.pointer (some ⟨w.heap.size,0,none⟩),iv (root:Int),iv (least:Int)] W (PrR w t s next (jI l' [41]) W):=by
 obtain⟨x,b,o,hx,e,hA,hc,Ff,Gj⟩:=TN.at_ hn;have hlt:=(jM5 hn).1;have FK:=TN.cnt;have Nt:=h.c6;rw[hA]at Nt;obtain⟨⟨op,name,vk,vn,vt,vs,kids⟩,A,c,vA,vc⟩:=x;subst e;simp only at Fw Hi Hm Ff hk hq;subst Fw;have FG:∀i u,(ndC ⟨⟨op,name,vk,vn,vt,vs,k::q::tl⟩,A,c,vA,vc⟩)[i]? =some u->W.cell? ⟨b,o+(root*7+i),none⟩=some u:=fun i u hu=>by
  have h1:=hc i u hu;have hb:=je h1;rw[World.cell?_of_block (h.kp.block b hb (fun e:w.heap.size<=b=>by have:b<w.heap.size:=hb;omega))];exact h1
 have c0:W.cell? ⟨b,o+root*7,none⟩=some (.int .i64 op):=FG 0 _ rfl;have c1:W.cell? ⟨b,o+root*7+1,none⟩=some (.string name):=FG 1 _ rfl;have c2:W.cell? ⟨b,o+root*7+2,none⟩=some (.int .i64 vk):=FG 2 _ rfl;have c3:W.cell? ⟨b,o+root*7+3,none⟩=some (.int .i64 vn):=FG 3 _ rfl;have c4:W.cell? ⟨b,o+root*7+4,none⟩=some (.string vt):=FG 4 _ rfl;have c5:W.cell? ⟨b,o+root*7+5,none⟩=some (.slice vA vs.length vc):=FG 5 _ rfl;have c6:W.cell? ⟨b,o+root*7+6,none⟩=some (.slice A (tl.length+1+1) c):=FG 6 _ rfl;have ho:=(jQ0 NoX W).alloc (.cells (ndC ⟨⟨op,name,vk,vn,vt,vs,k::q::tl⟩,A,c,vA,vc⟩).toArray 46);have BN:=G (jQ2 W 46 (ndC ⟨⟨op,name,vk,vn,vt,vs,k::q::tl⟩,A,c,vA,vc⟩).toArray);have HF:=G (FrP.of_old ho);have H0:=G (h.old ho);have Na:=G (fun W1=>vp W1 op);rw[Hi]at Na;have gf:l'.length<=jN:=jL4 (jG l' [41]).1 hl;have g2:(jI lm (jA op)).length<=jN:=jL4 (jm _ f _ _ _ _ hq) gf;have gm:lm.length<=jN:=jL4 (jG lm (jA op)).1 g2;have g0:(jI l [40]).length<=jN:=jL4 (jm _ f _ _ _ _ hk) gm;have P0:=G (jQ w _ t s next l B bc (h.old ho) (W.heap.size+1) (by simp) [⟨#[40]⟩] g0 (show 1<=1000 by decide));have PZ:=G (fun W1 B1 c1 Q (hp:Pr w t s next l' B1 c1 W1) (hb:Blk W1 Q 9 #[.string ⟨#[41]⟩])=>jCq w W1 t s next l' B1 c1 hp Q [⟨#[41]⟩] hb hl (show 1<=1000 by decide) .returning);have SP:=G (fun W1 l1 B1 c1 (hp:Pr w t s next l1 B1 c1 W1)=>vR W1 (hp.sg hg Fg) op (by omega));have P1:=G (fun W1 B1 c1 Q (hp:Pr w t s next lm B1 c1 W1) (hQ:Q=W1.heap.size)=>jQ w W1 t s next lm B1 c1 hp Q hQ [⟨(jA op).toArray⟩] g2 (show 1<=1000 by decide));have EX1:=G (fun W1 B1 c1 (hp:Pr w t s next (jI l [40]) B1 c1 W1)=>PX.ex W1 next _ lm B1 c1 k 5 hp (by omega) hk gm);have EX2:=G (fun W1 B1 c1 (hp:Pr w t s next (jI lm (jA op)) B1 c1 W1)=>PX.ex W1 next _ l' B1 c1 q 5 hp (by omega) hq gf);obtain⟨kb,ko,u0,WW,NT,FS⟩:=Ff.at_ (k:=0) (Nat.succ_pos _);have e0:iv k=u0:=(by injection NT);subst e0;subst WW;have KC0:=G (fun W1 l1 B1 c1 (hp:Pr w t s next l1 B1 c1 W1)=>(show W1.cell? ⟨kb,ko,none⟩=some (.int .i64 k)from by
  have hb:=je FS;rw[World.cell?_of_block (hp.kp.block kb hb (fun e:w.heap.size<=kb=>by have:kb<w.heap.size:=hb;omega))];exact FS))
 have Gb:w.cell? ⟨kb,ko+1,none⟩=some (iv q):=by
  obtain⟨b2,o2,Fj,FE⟩:=Ff.2 (Nat.succ_pos _);have eb:=jL5 Fj;have e1:kb=b2:=congrArg Addr.block eb;have e2:ko=o2:=congrArg Addr.off eb;rw[e1,e2];exact FE 1 _ rfl
 have KC1:=G (fun W1 l1 B1 c1 (hp:Pr w t s next l1 B1 c1 W1)=>(show W1.cell? ⟨kb,ko+1,none⟩=some (.int .i64 q)from by
  have hb:=je Gb;rw[World.cell?_of_block (hp.kp.block kb hb (fun e:w.heap.size<=kb=>by have:kb<w.heap.size:=hb;omega))];exact Gb))
 have f1:(0:Int)<=(root:Int):=(by omega);have f2:(root:Int).toNat=root:=(by omega);have f3:(root:Int)<(t.nodes.length:Int):=(by omega);have f4:(4:Int)<(least:Int):=(by omega);clear h hx hc FG Ff Gj TN PX ho hn FK hl hk NT Hi gf hg Fg Hm hq g2 gm FS Gb Fa LW g0;unfold ndC iv at*
 go_enter_defers func156,ntmps156
 go_wp2_with (first|(go_at_call 156;refine(EX2.out _ _ _ H3.out).mono ?_;rintro e w5 ⟨rfl,B4,c4',hX,hf⟩;have H4:=G hX;have F4:=G (F3.out.trans hf);have G4:=G (G3.out.trans hf);clear hX hf)|(go_at_call 53;refine(P1.out _ _ _ _ H2.out (by simp)).mono ?_;rintro e w4 ⟨rfl,B3,c3',hX,hf⟩;have H3:=G hX;have F3:=G (F2.out.trans hf);have n6:=(F3.out.blk _ _ _ (by decide) (by decide) BN.out).at_ 6 (v:=(.slice (some ⟨kb,ko,none⟩) (tl.length+1+1) c)) rfl;have k1:=KC1.out _ _ _ _ hX;have G3:=G (G2.out.trans hf);clear hX hf)|(go_at_call 156;refine(EX1.out _ _ _ LI.out).mono ?_;rintro e w3 ⟨rfl,B2,c2',hX,hf⟩;have H2:=G hX;have F2:=G (F1'.out.trans hf);have n0:=(F2.out.blk _ _ _ (by decide) (by decide) BN.out).at_ 0 (v:=(.int .i64 op)) rfl;have G2:=G (hf);clear hX hf)|(go_at_call 53;refine P0.out.mono ?_;rintro e w2 ⟨rfl,B1,c1',hX,hf⟩;have H1:=G hX;have F1:=G (hf);have n6:=(F1.out.blk _ _ _ (by decide) (by decide) BN.out).at_ 6 (v:=(.slice (some ⟨kb,ko,none⟩) (tl.length+1+1) c)) rfl;have k0:=KC0.out _ _ _ _ hX;have BZ:=G (jQ2 w2 9 #[.string ⟨#[41]⟩]);have G8:=(jQ0 NoX w2).alloc (.cells #[.string ⟨#[41]⟩] 9);have LI:=G (H1.out.old G8);have F1' :=G (F1.out.trans (FrP.of_old G8));clear G8;have n6:=(F1'.out.blk _ _ _ (by decide) (by decide) BN.out).at_ 6 (v:=(.slice (some ⟨kb,ko,none⟩) (tl.length+1+1) c)) rfl;have k0:=KC0.out _ _ _ _ LI.out;clear hX hf)|(go_at_call 191;refine(Na.out _).mono ?_;rintro e w1 ⟨rfl,rfl⟩)|(go_at_call 192;refine(SP.out _ _ _ _ H2.out).mono ?_;rintro e ws ⟨rfl,rfl⟩)|fail);have BZ2:=G (G4.out.blk _ _ _ (by decide) (by decide) BZ.out);have GE:=G (HF.out.trans F4.out);refine leaves_cons (f:=53) (args:= #[.pointer (some ⟨w.heap.size,0,none⟩),.slice (some ⟨w2.heap.size,0,none⟩) 1 1]) (by simp) (by simp[go_sem]) ?_;refine(PZ.out _ _ _ _ H4.out BZ2.out).mono ?_;rintro e u' w'' ⟨rfl,rfl,B9,c9,hX,hf⟩;have Pz:=G (show PrR w t s next (jI l' [41]) W (.returned (.tuple #[])) w'' from⟨rfl,B9,c9,hX,GE.out.trans hf⟩);clear hX hf;simp[Leaves,settle,results,results156,go_sem];exact Pz.out
theorem jFi(w W:World)(hg:Sg w)(Fg:8<=w.heap.size)(t:Tre)(s:Sl)(ns:List MNd)(TN:TrN w t s ns)(f:Nat)(PX:PxAll w t s f)(next:Nat)(l:LB)(B:OA)(bc:Nat)(h:Pr w t s next l B bc W)(root least:Nat)(own:Nat)(n:Nd)(hn:t.nodes[root]? =some n)(Hi:jD n.op=own)(hw:own=3\/own=7)(Fa:own<least)(LW:least<=8)(Hm:n.op=8\/n.op=7)
  (k:Int) (tl:List Int) (Fw:n.kids=k::tl) (l' :LB) (hk:exprP t.nodes f k own (jI (jI l [40]) (jA n.op))=some l') (hl:(jI l' [41]).length<=jN):
  Calls prog 156 #[.pointer (some ⟨w.heap.size,0,none⟩),iv (root:Int),iv (least:Int)] W (PrR w t s next (jI l' [41]) W):=by
 obtain⟨x,b,o,hx,e,hA,hc,Ff,Gj⟩:=TN.at_ hn;have hlt:=(jM5 hn).1;have FK:=TN.cnt;have Nt:=h.c6;rw[hA]at Nt;obtain⟨⟨op,name,vk,vn,vt,vs,kids⟩,A,c,vA,vc⟩:=x;subst e;simp only at Fw Hi Hm Ff hk;subst Fw;have FG:∀i u,(ndC ⟨⟨op,name,vk,vn,vt,vs,k::tl⟩,A,c,vA,vc⟩)[i]? =some u->W.cell? ⟨b,o+(root*7+i),none⟩=some u:=fun i u hu=>by
  have h1:=hc i u hu;have hb:=je h1;rw[World.cell?_of_block (h.kp.block b hb (fun e:w.heap.size<=b=>by have:b<w.heap.size:=hb;omega))];exact h1
 have c0:W.cell? ⟨b,o+root*7,none⟩=some (.int .i64 op):=FG 0 _ rfl;have c1:W.cell? ⟨b,o+root*7+1,none⟩=some (.string name):=FG 1 _ rfl;have c2:W.cell? ⟨b,o+root*7+2,none⟩=some (.int .i64 vk):=FG 2 _ rfl;have c3:W.cell? ⟨b,o+root*7+3,none⟩=some (.int .i64 vn):=FG 3 _ rfl;have c4:W.cell? ⟨b,o+root*7+4,none⟩=some (.string vt):=FG 4 _ rfl;have c5:W.cell? ⟨b,o+root*7+5,none⟩=some (.slice vA vs.length vc):=FG 5 _ rfl;have c6:W.cell? ⟨b,o+root*7+6,none⟩=some (.slice A (tl.length+1) c):=FG 6 _ rfl;have ho:=(jQ0 NoX W).alloc (.cells (ndC ⟨⟨op,name,vk,vn,vt,vs,k::tl⟩,A,c,vA,vc⟩).toArray 46);have BN:=G (jQ2 W 46 (ndC ⟨⟨op,name,vk,vn,vt,vs,k::tl⟩,A,c,vA,vc⟩).toArray);have HF:=G (FrP.of_old ho);have H0:=G (h.old ho);have Na:=G (fun W1=>vp W1 op);rw[Hi]at Na;have gf:l'.length<=jN:=jL4 (jG l' [41]).1 hl;have g1:(jI (jI l [40]) (jA op)).length<=jN:=jL4 (jm _ f _ _ _ _ hk) gf;have g0:(jI l [40]).length<=jN:=jL4 (jG _ _).1 g1;have P0:=G (jQ w _ t s next l B bc (h.old ho) (W.heap.size+1) (by simp) [⟨#[40]⟩] g0 (show 1<=1000 by decide));have PZ:=G (fun W1 B1 c1 Q (hp:Pr w t s next l' B1 c1 W1) (hb:Blk W1 Q 9 #[.string ⟨#[41]⟩])=>jCq w W1 t s next l' B1 c1 hp Q [⟨#[41]⟩] hb hl (show 1<=1000 by decide) .returning);have SP:=G (fun W1 l1 B1 c1 (hp:Pr w t s next l1 B1 c1 W1)=>vR W1 (hp.sg hg Fg) op (by omega));have P1:=G (fun W1 B1 c1 Q (hp:Pr w t s next (jI l [40]) B1 c1 W1) (hQ:Q=W1.heap.size)=>jQ w W1 t s next (jI l [40]) B1 c1 hp Q hQ [⟨(jA op).toArray⟩] g1 (show 1<=1000 by decide));have EX1:=G (fun W1 B1 c1 (hp:Pr w t s next (jI (jI l [40]) (jA op)) B1 c1 W1)=>PX.ex W1 next _ l' B1 c1 k own hp (by omega) hk gf);obtain⟨kb,ko,u0,WW,NT,FS⟩:=Ff.at_ (k:=0) (Nat.succ_pos _);have e0:iv k=u0:=(by injection NT);subst e0;subst WW;have KC0:=G (fun W1 l1 B1 c1 (hp:Pr w t s next l1 B1 c1 W1)=>(show W1.cell? ⟨kb,ko,none⟩=some (.int .i64 k)from by
  have hb:=je FS;rw[World.cell?_of_block (hp.kp.block kb hb (fun e:w.heap.size<=kb=>by have:kb<w.heap.size:=hb;omega))];exact FS))
 have f1:(0:Int)<=(root:Int):=(by omega);have f2:(root:Int).toNat=root:=(by omega);have f3:(root:Int)<(t.nodes.length:Int):=(by omega);have f4:((own:Int):Int)<(least:Int):=(by omega);clear h hx hc FG Ff Gj TN PX ho hn FK hl hk NT Hi gf hg Fg Hm g1 FS Fa LW g0;unfold ndC iv at*;rcases hw with rfl|rfl
 all_goals
  go_enter_defers func156,ntmps156
  go_wp2_with (first|(go_at_call 156;refine(EX1.out _ _ _ H2.out).mono ?_;rintro e w4 ⟨rfl,B3,c3',hX,hf⟩;have H3:=G hX;have F3:=G (F2.out.trans hf);have G3:=G (G2.out.trans hf);clear hX hf)|(go_at_call 53;refine(P1.out _ _ _ _ LI.out (by simp)).mono ?_;rintro e w3 ⟨rfl,B2,c2',hX,hf⟩;have H2:=G hX;have F2:=G (F1'.out.trans hf);have n6:=(F2.out.blk _ _ _ (by decide) (by decide) BN.out).at_ 6 (v:=(.slice (some ⟨kb,ko,none⟩) (tl.length+1) c)) rfl;have k0:=KC0.out _ _ _ _ hX;have G2:=G (hf);clear hX hf)|(go_at_call 53;refine P0.out.mono ?_;rintro e w2 ⟨rfl,B1,c1',hX,hf⟩;have H1:=G hX;have F1:=G (hf);have n0:=(F1.out.blk _ _ _ (by decide) (by decide) BN.out).at_ 0 (v:=(.int .i64 op)) rfl;have BZ:=G (jQ2 w2 9 #[.string ⟨#[41]⟩]);have G8:=(jQ0 NoX w2).alloc (.cells #[.string ⟨#[41]⟩] 9);have LI:=G (H1.out.old G8);have F1' :=G (F1.out.trans (FrP.of_old G8));clear G8;have n0:=(F1'.out.blk _ _ _ (by decide) (by decide) BN.out).at_ 0 (v:=(.int .i64 op)) rfl;clear hX hf)|(go_at_call 191;refine(Na.out _).mono ?_;rintro e w1 ⟨rfl,rfl⟩)|(go_at_call 192;refine(SP.out _ _ _ _ LI.out).mono ?_;rintro e ws ⟨rfl,rfl⟩)|fail);have BZ2:=G (G3.out.blk _ _ _ (by decide) (by decide) BZ.out);have GE:=G (HF.out.trans F3.out);refine leaves_cons (f:=53) (args:= #[.pointer (some ⟨w.heap.size,0,none⟩),.slice (some ⟨w2.heap.size,0,none⟩) 1 1]) (by simp) (by simp[go_sem]) ?_;refine(PZ.out _ _ _ _ H3.out BZ2.out).mono ?_;rintro e u' w'' ⟨rfl,rfl,B9,c9,hX,hf⟩;have Pz:=G (show PrR w t s next (jI l' [41]) W (.returned (.tuple #[])) w'' from⟨rfl,B9,c9,hX,GE.out.trans hf⟩);clear hX hf;simp[Leaves,settle,results,results156,go_sem];exact Pz.out
theorem jHA(w W:World)(t:Tre)(s:Sl)(ns:List MNd)(TN:TrN w t s ns)(f:Nat)(PX:PxAll w t s f)(next:Nat)(l:LB)(B:OA)(bc:Nat)(h:Pr w t s next l B bc W)(root least:Nat)(n:Nd)(hn:t.nodes[root]? =some n)(Hi:jD n.op=0)(Fa:0<least)(LW:least<=8)
  (k q z:Int) (tl:List Int) (Fw:n.kids=k::q::z::tl) (k0:0<=k) (q0:0<=q) (z0:0<=z) (la lb l' :LB) (hk:exprP t.nodes f k 0 (jI (jI l [40]) [105,102])=some la) (hq:exprP t.nodes f q 0 (jI la [116,104,101,110])=some lb) (hz:exprP t.nodes f z 0 (jI lb [101,108,115,101])=some l') (hl:(jI l' [41]).length<=jN):
  Calls prog 156 #[.pointer (some ⟨w.heap.size,0,none⟩),iv (root:Int),iv (least:Int)] W (PrR w t s next (jI l' [41]) W):=by
 obtain⟨x,b,o,hx,e,hA,hc,Ff,Gj⟩:=TN.at_ hn;have hlt:=(jM5 hn).1;have FK:=TN.cnt;have Nt:=h.c6;rw[hA]at Nt;obtain⟨⟨op,name,vk,vn,vt,vs,kids⟩,A,c,vA,vc⟩:=x;subst e;simp only at Fw Hi Ff hk;subst Fw;have FG:∀i u,(ndC ⟨⟨op,name,vk,vn,vt,vs,k::q::z::tl⟩,A,c,vA,vc⟩)[i]? =some u->W.cell? ⟨b,o+(root*7+i),none⟩=some u:=fun i u hu=>by
  have h1:=hc i u hu;have hb:=je h1;rw[World.cell?_of_block (h.kp.block b hb (fun e:w.heap.size<=b=>by have:b<w.heap.size:=hb;omega))];exact h1
 have c0:W.cell? ⟨b,o+root*7,none⟩=some (.int .i64 op):=FG 0 _ rfl;have c1:W.cell? ⟨b,o+root*7+1,none⟩=some (.string name):=FG 1 _ rfl;have c2:W.cell? ⟨b,o+root*7+2,none⟩=some (.int .i64 vk):=FG 2 _ rfl;have c3:W.cell? ⟨b,o+root*7+3,none⟩=some (.int .i64 vn):=FG 3 _ rfl;have c4:W.cell? ⟨b,o+root*7+4,none⟩=some (.string vt):=FG 4 _ rfl;have c5:W.cell? ⟨b,o+root*7+5,none⟩=some (.slice vA vs.length vc):=FG 5 _ rfl;have c6:W.cell? ⟨b,o+root*7+6,none⟩=some (.slice A (tl.length+1+1+1) c):=FG 6 _ rfl;have ho:=(jQ0 NoX W).alloc (.cells (ndC ⟨⟨op,name,vk,vn,vt,vs,k::q::z::tl⟩,A,c,vA,vc⟩).toArray 46);have BN:=G (jQ2 W 46 (ndC ⟨⟨op,name,vk,vn,vt,vs,k::q::z::tl⟩,A,c,vA,vc⟩).toArray);have HF:=G (FrP.of_old ho);have H0:=G (h.old ho);have Na:=G (fun W1=>vp W1 op);rw[Hi]at Na;have gf:l'.length<=jN:=jL4 (jG l' [41]).1 hl;have g3:(jI lb [101,108,115,101]).length<=jN:=jL4 (jm _ f _ _ _ _ hz) gf;have gb:lb.length<=jN:=jL4 (jG lb [101,108,115,101]).1 g3;have g2:(jI la [116,104,101,110]).length<=jN:=jL4 (jm _ f _ _ _ _ hq) gb;have ga:la.length<=jN:=jL4 (jG la [116,104,101,110]).1 g2;have g1:(jI (jI l [40]) [105,102]).length<=jN:=jL4 (jm _ f _ _ _ _ hk) ga;have g0:(jI l [40]).length<=jN:=jL4 (jG _ _).1 g1;have P0:=G (jQ w _ t s next l B bc (h.old ho) (W.heap.size+1) (by simp) [⟨#[40]⟩] g0 (show 1<=1000 by decide));have PZ:=G (fun W1 B1 c1 Q (hp:Pr w t s next l' B1 c1 W1) (hb:Blk W1 Q 9 #[.string ⟨#[41]⟩])=>jCq w W1 t s next l' B1 c1 hp Q [⟨#[41]⟩] hb hl (show 1<=1000 by decide) .returning);have R1:=G (fun W1 B1 c1 Q (hp:Pr w t s next (jI l [40]) B1 c1 W1) (hQ:Q=W1.heap.size)=>yO w W1 t s f PX next (jI l [40]) la B1 c1 hp Q hQ [⟨#[105,102]⟩] k k0 hk g1 ga (show 1<=1000 by decide));have R2:=G (fun W1 B1 c1 Q (hp:Pr w t s next la B1 c1 W1) (hQ:Q=W1.heap.size)=>yO w W1 t s f PX next la lb B1 c1 hp Q hQ [⟨#[116,104,101,110]⟩] q q0 hq g2 gb (show 1<=1000 by decide));have R3:=G (fun W1 B1 c1 Q (hp:Pr w t s next lb B1 c1 W1) (hQ:Q=W1.heap.size)=>yO w W1 t s f PX next lb l' B1 c1 hp Q hQ [⟨#[101,108,115,101]⟩] z z0 hz g3 gf (show 1<=1000 by decide));obtain⟨kb,ko,u0,WW,NT,FS⟩:=Ff.at_ (k:=0) (Nat.succ_pos _);have e0:iv k=u0:=(by injection NT);subst e0;subst WW;have KC0:=G (fun W1 l1 B1 c1 (hp:Pr w t s next l1 B1 c1 W1)=>(show W1.cell? ⟨kb,ko,none⟩=some (.int .i64 k)from by
  have hb:=je FS;rw[World.cell?_of_block (hp.kp.block kb hb (fun e:w.heap.size<=kb=>by have:kb<w.heap.size:=hb;omega))];exact FS))
 have Gb:w.cell? ⟨kb,ko+1,none⟩=some (iv q):=by
  obtain⟨b2,o2,Fj,FE⟩:=Ff.2 (Nat.succ_pos _);have eb:=jL5 Fj;have e1:kb=b2:=congrArg Addr.block eb;have e2:ko=o2:=congrArg Addr.off eb;rw[e1,e2];exact FE 1 _ rfl
 have KC1:=G (fun W1 l1 B1 c1 (hp:Pr w t s next l1 B1 c1 W1)=>(show W1.cell? ⟨kb,ko+1,none⟩=some (.int .i64 q)from by
  have hb:=je Gb;rw[World.cell?_of_block (hp.kp.block kb hb (fun e:w.heap.size<=kb=>by have:kb<w.heap.size:=hb;omega))];exact Gb))
 have WT:w.cell? ⟨kb,ko+2,none⟩=some (iv z):=by
  obtain⟨b2,o2,Fj,FE⟩:=Ff.2 (Nat.succ_pos _);have eb:=jL5 Fj;have e1:kb=b2:=congrArg Addr.block eb;have e2:ko=o2:=congrArg Addr.off eb;rw[e1,e2];exact FE 2 _ rfl
 have KC2:=G (fun W1 l1 B1 c1 (hp:Pr w t s next l1 B1 c1 W1)=>(show W1.cell? ⟨kb,ko+2,none⟩=some (.int .i64 z)from by
  have hb:=je WT;rw[World.cell?_of_block (hp.kp.block kb hb (fun e:w.heap.size<=kb=>by have:kb<w.heap.size:=hb;omega))];exact WT))
 have f1:(0:Int)<=(root:Int):=(by omega);have f2:(root:Int).toNat=root:=(by omega);have f3:(root:Int)<(t.nodes.length:Int):=(by omega);have f4:(0:Int)<(least:Int):=(by omega);clear h hx hc FG Ff Gj TN PX ho hn FK hl hk NT Hi gf hq hz g1 g2 g3 ga gb k0 q0 z0 FS Gb WT Fa LW g0;unfold ndC iv at*
 go_enter_defers func156,ntmps156
 go_wp2_with (first|(go_at_call 118;refine(R3.out _ _ _ _ H3.out (by simp)).mono ?_;rintro e w5 ⟨rfl,B4,c4',hX,hf⟩;have H4:=G hX;have F4:=G (F3.out.trans hf);have G4:=G (G3.out.trans hf);clear hX hf)|(go_at_call 118;refine(R2.out _ _ _ _ H2.out (by simp)).mono ?_;rintro e w4 ⟨rfl,B3,c3',hX,hf⟩;have H3:=G hX;have F3:=G (F2.out.trans hf);have n6:=(F3.out.blk _ _ _ (by decide) (by decide) BN.out).at_ 6 (v:=(.slice (some ⟨kb,ko,none⟩) (tl.length+1+1+1) c)) rfl;have k2:=KC2.out _ _ _ _ hX;have G3:=G (G2.out.trans hf);clear hX hf)|(go_at_call 118;refine(R1.out _ _ _ _ LI.out (by simp)).mono ?_;rintro e w3 ⟨rfl,B2,c2',hX,hf⟩;have H2:=G hX;have F2:=G (F1'.out.trans hf);have n6:=(F2.out.blk _ _ _ (by decide) (by decide) BN.out).at_ 6 (v:=(.slice (some ⟨kb,ko,none⟩) (tl.length+1+1+1) c)) rfl;have k1:=KC1.out _ _ _ _ hX;have G2:=G (hf);clear hX hf)|(go_at_call 53;refine P0.out.mono ?_;rintro e w2 ⟨rfl,B1,c1',hX,hf⟩;have H1:=G hX;have F1:=G (hf);have n6:=(F1.out.blk _ _ _ (by decide) (by decide) BN.out).at_ 6 (v:=(.slice (some ⟨kb,ko,none⟩) (tl.length+1+1+1) c)) rfl;have k0:=KC0.out _ _ _ _ hX;have BZ:=G (jQ2 w2 9 #[.string ⟨#[41]⟩]);have G8:=(jQ0 NoX w2).alloc (.cells #[.string ⟨#[41]⟩] 9);have LI:=G (H1.out.old G8);have F1' :=G (F1.out.trans (FrP.of_old G8));clear G8;have n6:=(F1'.out.blk _ _ _ (by decide) (by decide) BN.out).at_ 6 (v:=(.slice (some ⟨kb,ko,none⟩) (tl.length+1+1+1) c)) rfl;have k0:=KC0.out _ _ _ _ LI.out;clear hX hf)|(go_at_call 191;refine(Na.out _).mono ?_;rintro e w1 ⟨rfl,rfl⟩)|fail);have BZ2:=G (G4.out.blk _ _ _ (by decide) (by decide) BZ.out);have GE:=G (HF.out.trans F4.out);refine leaves_cons (f:=53) (args:= #[.pointer (some ⟨w.heap.size,0,none⟩),.slice (some ⟨w2.heap.size,0,none⟩) 1 1]) (by simp) (by simp[go_sem]) ?_;refine(PZ.out _ _ _ _ H4.out BZ2.out).mono ?_;rintro e u' w'' ⟨rfl,rfl,B9,c9,hX,hf⟩;have Pz:=G (show PrR w t s next (jI l' [41]) W (.returned (.tuple #[])) w'' from⟨rfl,B9,c9,hX,GE.out.trans hf⟩);clear hX hf;simp[Leaves,settle,results,results156,go_sem];exact Pz.out
theorem jDb(w W:World)(hg:Sg w)(Fg:8<=w.heap.size)(t:Tre)(s:Sl)(ns:List MNd)(TN:TrN w t s ns)(f:Nat)(PX:PxAll w t s f)(next:Nat)(l:LB)(B:OA)(bc:Nat)(h:Pr w t s next l B bc W)(root least:Nat)(n:Nd)(hn:t.nodes[root]? =some n)(Hi:jD n.op=4)(Fa:least<=4)(Hm:7<=n.op/\n.op<=33/\n.op≠23)
  (k q:Int) (tl:List Int) (Fw:n.kids=k::q::tl) (lm l' :LB) (hk:exprP t.nodes f k 5 l=some lm) (hq:exprP t.nodes f q 5 (jI lm (jA n.op))=some l') (hl:l'.length<=jN):
  Calls prog 156 #[.pointer (some ⟨w.heap.size,0,none⟩),iv (root:Int),iv (least:Int)] W (PrR w t s next l' W):=by
 obtain⟨x,b,o,hx,e,hA,hc,Ff,Gj⟩:=TN.at_ hn;have hlt:=(jM5 hn).1;have FK:=TN.cnt;have Nt:=h.c6;rw[hA]at Nt;obtain⟨⟨op,name,vk,vn,vt,vs,kids⟩,A,c,vA,vc⟩:=x;subst e;simp only at Fw Hi Hm Ff hk hq;subst Fw;have FG:∀i u,(ndC ⟨⟨op,name,vk,vn,vt,vs,k::q::tl⟩,A,c,vA,vc⟩)[i]? =some u->W.cell? ⟨b,o+(root*7+i),none⟩=some u:=fun i u hu=>by
  have h1:=hc i u hu;have hb:=je h1;rw[World.cell?_of_block (h.kp.block b hb (fun e:w.heap.size<=b=>by have:b<w.heap.size:=hb;omega))];exact h1
 have c0:W.cell? ⟨b,o+root*7,none⟩=some (.int .i64 op):=FG 0 _ rfl;have c1:W.cell? ⟨b,o+root*7+1,none⟩=some (.string name):=FG 1 _ rfl;have c2:W.cell? ⟨b,o+root*7+2,none⟩=some (.int .i64 vk):=FG 2 _ rfl;have c3:W.cell? ⟨b,o+root*7+3,none⟩=some (.int .i64 vn):=FG 3 _ rfl;have c4:W.cell? ⟨b,o+root*7+4,none⟩=some (.string vt):=FG 4 _ rfl;have c5:W.cell? ⟨b,o+root*7+5,none⟩=some (.slice vA vs.length vc):=FG 5 _ rfl;have c6:W.cell? ⟨b,o+root*7+6,none⟩=some (.slice A (tl.length+1+1) c):=FG 6 _ rfl;have ho:=(jQ0 NoX W).alloc (.cells (ndC ⟨⟨op,name,vk,vn,vt,vs,k::q::tl⟩,A,c,vA,vc⟩).toArray 46);have BN:=G (jQ2 W 46 (ndC ⟨⟨op,name,vk,vn,vt,vs,k::q::tl⟩,A,c,vA,vc⟩).toArray);have HF:=G (FrP.of_old ho);have H0:=G (h.old ho);have Na:=G (fun W1=>vp W1 op);rw[Hi]at Na;have gf:l'.length<=jN:=hl;have g2:(jI lm (jA op)).length<=jN:=jL4 (jm _ f _ _ _ _ hq) gf;have gm:lm.length<=jN:=jL4 (jG lm (jA op)).1 g2;have SP:=G (fun W1 l1 B1 c1 (hp:Pr w t s next l1 B1 c1 W1)=>vR W1 (hp.sg hg Fg) op (by omega));have P1:=G (fun W1 B1 c1 Q (hp:Pr w t s next lm B1 c1 W1) (hQ:Q=W1.heap.size)=>jQ w W1 t s next lm B1 c1 hp Q hQ [⟨(jA op).toArray⟩] g2 (show 1<=1000 by decide));have EX1:=G (fun W1 B1 c1 (hp:Pr w t s next l B1 c1 W1)=>PX.ex W1 next _ lm B1 c1 k 5 hp (by omega) hk gm);have EX2:=G (fun W1 B1 c1 (hp:Pr w t s next (jI lm (jA op)) B1 c1 W1)=>PX.ex W1 next _ l' B1 c1 q 5 hp (by omega) hq gf);obtain⟨kb,ko,u0,WW,NT,FS⟩:=Ff.at_ (k:=0) (Nat.succ_pos _);have e0:iv k=u0:=(by injection NT);subst e0;subst WW;have KC0:=G (fun W1 l1 B1 c1 (hp:Pr w t s next l1 B1 c1 W1)=>(show W1.cell? ⟨kb,ko,none⟩=some (.int .i64 k)from by
  have hb:=je FS;rw[World.cell?_of_block (hp.kp.block kb hb (fun e:w.heap.size<=kb=>by have:kb<w.heap.size:=hb;omega))];exact FS))
 have Gb:w.cell? ⟨kb,ko+1,none⟩=some (iv q):=by
  obtain⟨b2,o2,Fj,FE⟩:=Ff.2 (Nat.succ_pos _);have eb:=jL5 Fj;have e1:kb=b2:=congrArg Addr.block eb;have e2:ko=o2:=congrArg Addr.off eb;rw[e1,e2];exact FE 1 _ rfl
 have KC1:=G (fun W1 l1 B1 c1 (hp:Pr w t s next l1 B1 c1 W1)=>(show W1.cell? ⟨kb,ko+1,none⟩=some (.int .i64 q)from by
  have hb:=je Gb;rw[World.cell?_of_block (hp.kp.block kb hb (fun e:w.heap.size<=kb=>by have:kb<w.heap.size:=hb;omega))];exact Gb))
 have f1:(0:Int)<=(root:Int):=(by omega);have f2:(root:Int).toNat=root:=(by omega);have f3:(root:Int)<(t.nodes.length:Int):=(by omega);have f4:¬(4:Int)<(least:Int):=(by omega);clear h hx hc FG Ff Gj TN PX ho hn FK hl hk NT Hi gf hg Fg Hm hq g2 gm FS Gb Fa;unfold ndC iv at*;have k0:=KC0.out _ _ _ _ H0.out;simp only[jK6]at k0
 go_enter_defers func156,ntmps156
 go_wp2_with (first|(go_at_call 156;refine(EX2.out _ _ _ H2.out).mono ?_;rintro e w4 ⟨rfl,B3,c3',hX,hf⟩;have H3:=G hX;have F3:=G (F2.out.trans hf);clear hX hf)|(go_at_call 53;refine(P1.out _ _ _ _ H1.out (by simp)).mono ?_;rintro e w3 ⟨rfl,B2,c2',hX,hf⟩;have H2:=G hX;have F2:=G (F1.out.trans hf);have n6:=(F2.out.blk _ _ _ (by decide) (by decide) BN.out).at_ 6 (v:=(.slice (some ⟨kb,ko,none⟩) (tl.length+1+1) c)) rfl;have k1:=KC1.out _ _ _ _ hX;clear hX hf)|(go_at_call 156;refine(EX1.out _ _ _ H0.out).mono ?_;rintro e w2 ⟨rfl,B1,c1',hX,hf⟩;have H1:=G hX;have F1:=G (hf);have n0:=(F1.out.blk _ _ _ (by decide) (by decide) BN.out).at_ 0 (v:=(.int .i64 op)) rfl;clear hX hf)|(go_at_call 191;refine(Na.out _).mono ?_;rintro e w1 ⟨rfl,rfl⟩)|(go_at_call 192;refine(SP.out _ _ _ _ H1.out).mono ?_;rintro e ws ⟨rfl,rfl⟩)|fail);have GE:=G (show PrR w t s next l' W (.returned (.tuple #[])) w4 from⟨rfl,B3,c3',H3.out,HF.out.trans F3.out⟩);simp[bodyPostD,Leaves,results,results156,go_sem];exact GE.out
theorem jHB(w W:World)(t:Tre)(s:Sl)(ns:List MNd)(TN:TrN w t s ns)(f:Nat)(PX:PxAll w t s f)(next:Nat)(l:LB)(B:OA)(bc:Nat)(h:Pr w t s next l B bc W)(root least:Nat)(n:Nd)(hn:t.nodes[root]? =some n)(Hi:jD n.op=0)(Fa:least=0)
  (k q z:Int) (tl:List Int) (Fw:n.kids=k::q::z::tl) (k0:0<=k) (q0:0<=q) (z0:0<=z) (la lb l' :LB) (hk:exprP t.nodes f k 0 (jI l [105,102])=some la) (hq:exprP t.nodes f q 0 (jI la [116,104,101,110])=some lb) (hz:exprP t.nodes f z 0 (jI lb [101,108,115,101])=some l') (hl:l'.length<=jN):
  Calls prog 156 #[.pointer (some ⟨w.heap.size,0,none⟩),iv (root:Int),iv (least:Int)] W (PrR w t s next l' W):=by
 obtain⟨x,b,o,hx,e,hA,hc,Ff,Gj⟩:=TN.at_ hn;have hlt:=(jM5 hn).1;have FK:=TN.cnt;have Nt:=h.c6;rw[hA]at Nt;obtain⟨⟨op,name,vk,vn,vt,vs,kids⟩,A,c,vA,vc⟩:=x;subst e;simp only at Fw Hi Ff hk;subst Fw;have FG:∀i u,(ndC ⟨⟨op,name,vk,vn,vt,vs,k::q::z::tl⟩,A,c,vA,vc⟩)[i]? =some u->W.cell? ⟨b,o+(root*7+i),none⟩=some u:=fun i u hu=>by
  have h1:=hc i u hu;have hb:=je h1;rw[World.cell?_of_block (h.kp.block b hb (fun e:w.heap.size<=b=>by have:b<w.heap.size:=hb;omega))];exact h1
 have c0:W.cell? ⟨b,o+root*7,none⟩=some (.int .i64 op):=FG 0 _ rfl;have c1:W.cell? ⟨b,o+root*7+1,none⟩=some (.string name):=FG 1 _ rfl;have c2:W.cell? ⟨b,o+root*7+2,none⟩=some (.int .i64 vk):=FG 2 _ rfl;have c3:W.cell? ⟨b,o+root*7+3,none⟩=some (.int .i64 vn):=FG 3 _ rfl;have c4:W.cell? ⟨b,o+root*7+4,none⟩=some (.string vt):=FG 4 _ rfl;have c5:W.cell? ⟨b,o+root*7+5,none⟩=some (.slice vA vs.length vc):=FG 5 _ rfl;have c6:W.cell? ⟨b,o+root*7+6,none⟩=some (.slice A (tl.length+1+1+1) c):=FG 6 _ rfl;have ho:=(jQ0 NoX W).alloc (.cells (ndC ⟨⟨op,name,vk,vn,vt,vs,k::q::z::tl⟩,A,c,vA,vc⟩).toArray 46);have BN:=G (jQ2 W 46 (ndC ⟨⟨op,name,vk,vn,vt,vs,k::q::z::tl⟩,A,c,vA,vc⟩).toArray);have HF:=G (FrP.of_old ho);have H0:=G (h.old ho);have Na:=G (fun W1=>vp W1 op);rw[Hi]at Na;have gf:l'.length<=jN:=hl;have g3:(jI lb [101,108,115,101]).length<=jN:=jL4 (jm _ f _ _ _ _ hz) gf;have gb:lb.length<=jN:=jL4 (jG lb [101,108,115,101]).1 g3;have g2:(jI la [116,104,101,110]).length<=jN:=jL4 (jm _ f _ _ _ _ hq) gb;have ga:la.length<=jN:=jL4 (jG la [116,104,101,110]).1 g2;have g1:(jI l [105,102]).length<=jN:=jL4 (jm _ f _ _ _ _ hk) ga;have R1:=G (fun W1 B1 c1 Q (hp:Pr w t s next l B1 c1 W1) (hQ:Q=W1.heap.size)=>yO w W1 t s f PX next l la B1 c1 hp Q hQ [⟨#[105,102]⟩] k k0 hk g1 ga (show 1<=1000 by decide));have R2:=G (fun W1 B1 c1 Q (hp:Pr w t s next la B1 c1 W1) (hQ:Q=W1.heap.size)=>yO w W1 t s f PX next la lb B1 c1 hp Q hQ [⟨#[116,104,101,110]⟩] q q0 hq g2 gb (show 1<=1000 by decide));have R3:=G (fun W1 B1 c1 Q (hp:Pr w t s next lb B1 c1 W1) (hQ:Q=W1.heap.size)=>yO w W1 t s f PX next lb l' B1 c1 hp Q hQ [⟨#[101,108,115,101]⟩] z z0 hz g3 gf (show 1<=1000 by decide));obtain⟨kb,ko,u0,WW,NT,FS⟩:=Ff.at_ (k:=0) (Nat.succ_pos _);have e0:iv k=u0:=(by injection NT);subst e0;subst WW;have KC0:=G (fun W1 l1 B1 c1 (hp:Pr w t s next l1 B1 c1 W1)=>(show W1.cell? ⟨kb,ko,none⟩=some (.int .i64 k)from by
  have hb:=je FS;rw[World.cell?_of_block (hp.kp.block kb hb (fun e:w.heap.size<=kb=>by have:kb<w.heap.size:=hb;omega))];exact FS))
 have Gb:w.cell? ⟨kb,ko+1,none⟩=some (iv q):=by
  obtain⟨b2,o2,Fj,FE⟩:=Ff.2 (Nat.succ_pos _);have eb:=jL5 Fj;have e1:kb=b2:=congrArg Addr.block eb;have e2:ko=o2:=congrArg Addr.off eb;rw[e1,e2];exact FE 1 _ rfl
 have KC1:=G (fun W1 l1 B1 c1 (hp:Pr w t s next l1 B1 c1 W1)=>(show W1.cell? ⟨kb,ko+1,none⟩=some (.int .i64 q)from by
  have hb:=je Gb;rw[World.cell?_of_block (hp.kp.block kb hb (fun e:w.heap.size<=kb=>by have:kb<w.heap.size:=hb;omega))];exact Gb))
 have WT:w.cell? ⟨kb,ko+2,none⟩=some (iv z):=by
  obtain⟨b2,o2,Fj,FE⟩:=Ff.2 (Nat.succ_pos _);have eb:=jL5 Fj;have e1:kb=b2:=congrArg Addr.block eb;have e2:ko=o2:=congrArg Addr.off eb;rw[e1,e2];exact FE 2 _ rfl
 have KC2:=G (fun W1 l1 B1 c1 (hp:Pr w t s next l1 B1 c1 W1)=>(show W1.cell? ⟨kb,ko+2,none⟩=some (.int .i64 z)from by
  have hb:=je WT;rw[World.cell?_of_block (hp.kp.block kb hb (fun e:w.heap.size<=kb=>by have:kb<w.heap.size:=hb;omega))];exact WT))
 have f1:(0:Int)<=(root:Int):=(by omega);have f2:(root:Int).toNat=root:=(by omega);have f3:(root:Int)<(t.nodes.length:Int):=(by omega);subst Fa;clear h hx hc FG Ff Gj TN PX ho hn FK hl hk NT Hi gf hq hz g1 g2 g3 ga gb k0 q0 z0 FS Gb WT;unfold ndC iv at*;have k0:=KC0.out _ _ _ _ H0.out;simp only[jK6]at k0
 go_enter_defers func156,ntmps156
 go_wp2_with (first|(go_at_call 118;refine(R3.out _ _ _ _ H2.out (by simp)).mono ?_;rintro e w4 ⟨rfl,B3,c3',hX,hf⟩;have H3:=G hX;have F3:=G (F2.out.trans hf);clear hX hf)|(go_at_call 118;refine(R2.out _ _ _ _ H1.out (by simp)).mono ?_;rintro e w3 ⟨rfl,B2,c2',hX,hf⟩;have H2:=G hX;have F2:=G (F1.out.trans hf);have n6:=(F2.out.blk _ _ _ (by decide) (by decide) BN.out).at_ 6 (v:=(.slice (some ⟨kb,ko,none⟩) (tl.length+1+1+1) c)) rfl;have k2:=KC2.out _ _ _ _ hX;clear hX hf)|(go_at_call 118;refine(R1.out _ _ _ _ H0.out (by simp)).mono ?_;rintro e w2 ⟨rfl,B1,c1',hX,hf⟩;have H1:=G hX;have F1:=G (hf);have n6:=(F1.out.blk _ _ _ (by decide) (by decide) BN.out).at_ 6 (v:=(.slice (some ⟨kb,ko,none⟩) (tl.length+1+1+1) c)) rfl;have k1:=KC1.out _ _ _ _ hX;clear hX hf)|(go_at_call 191;refine(Na.out _).mono ?_;rintro e w1 ⟨rfl,rfl⟩)|fail);have GE:=G (show PrR w t s next l' W (.returned (.tuple #[])) w4 from⟨rfl,B3,c3',H3.out,HF.out.trans F3.out⟩);simp[bodyPostD,Leaves,results,results156,go_sem];exact GE.out
theorem uU(op:Int):(jD op=0/\op=23)\/(jD op=1/\op=10)\/(jD op=2/\op=9)\/(jD op=3/\op=8)\/(jD op=4/\11<=op/\op<=17)\/(jD op=5/\18<=op/\op<=19)\/(jD op=6/\20<=op/\op<=22)\/(jD op=7/\op=7)\/(jD op=8/\(op<7\/23<op)):=by
 unfold jD;by_cases h1:op=23
 ·rw[jJ6 h1];exact .inl ⟨rfl,h1⟩
 rw[jJ5 h1];by_cases h2:op=10
 ·rw[jJ6 h2];exact .inr (.inl ⟨rfl,h2⟩)
 rw[jJ5 h2];by_cases h3:op=9
 ·rw[jJ6 h3];exact .inr (.inr (.inl ⟨rfl,h3⟩))
 rw[jJ5 h3];by_cases h4:op=8
 ·rw[jJ6 h4];exact .inr (.inr (.inr (.inl ⟨rfl,h4⟩)))
 rw[jJ5 h4];by_cases h5:11<=op/\op<=17
 ·rw[jJ6 h5];exact .inr (.inr (.inr (.inr (.inl ⟨rfl,h5⟩))))
 rw[jJ5 h5];by_cases h6:op=18\/op=19
 ·rw[jJ6 h6];exact .inr (.inr (.inr (.inr (.inr (.inl ⟨rfl,by omega,by omega⟩)))))
 rw[jJ5 h6];by_cases h7:20<=op/\op<=22
 ·rw[jJ6 h7];exact .inr (.inr (.inr (.inr (.inr (.inr (.inl ⟨rfl,h7⟩))))))
 rw[jJ5 h7];by_cases h8:op=7
 ·rw[jJ6 h8];exact .inr (.inr (.inr (.inr (.inr (.inr (.inr (.inl ⟨rfl,h8⟩)))))))
 rw[jJ5 h8];exact .inr (.inr (.inr (.inr (.inr (.inr (.inr (.inr ⟨rfl,by omega⟩)))))))
def VI(nodes:List Nd)(f:Nat)(n:Nd)(b0:LB):Option LB:=
 let own:=jD n.op
 let two (l r:Nat) (w:LB):Option LB:=match n.kids with
  |k::q::_=>(exprP nodes f k l b0).bind fun b1=>exprP nodes f q r (jI b1 w)
  |_=>none
 let one:Option LB:=match n.kids with
  |k::_=>exprP nodes f k own (jI b0 (jA n.op))
  |_=>none
 if own=0 then(match n.kids with
   |a::c::d::_=>(exprP nodes f a 0 (jI b0 [105,102])).bind fun b1=>(exprP nodes f c 0 (jI b1 [116,104,101,110])).bind fun b2=>exprP nodes f d 0 (jI b2 [101,108,115,101])
   |_=>none)
  else if own=1\/own=2\/own=5\/own=6 then two own (own+1) (jA n.op)
  else if own=3\/own=7 then one
  else if own=4 then two 5 5 (jA n.op)
  else yz nodes f n b0
theorem xU{ns:List Nd}{f:Nat}{root:Int}{least:Nat}{b l' :LB}(h:exprP ns (f+1) root least b=some l'):∃r:Nat,root=(r:Int)/\∃n,ns[r]? =some n/\∃b1,VI ns f n (opens (jD n.op) least b)=some b1/\JE (jD n.op) least b1=l' :=by
 rw[exprP]at h;by_cases hr:root<0
 ·rw[jJ6 hr]at h;cases h
 rw[jJ5 hr]at h;cases hn:ns[root.toNat]? with
 |none=>rw[hn]at h;cases h
 |some n=>
  rw[hn]at h;obtain⟨b1,h1,e⟩:=jM4 h;exact⟨root.toNat,by omega,n,hn,b1,h1,e⟩
theorem zd{ns:List Nd}{f:Nat}{root:Int}{least:Nat}{b l' :LB}(h:exprP ns f root least b=some l'):0<=root:=by
 cases f with
 |zero=>rw[exprP]at h;cases h
 |succ f=>
  obtain⟨r,e,-⟩:=xU h;omega
theorem QH{n:Nd}(h:jK n=true):1<=n.op/\n.op<=33:=by
 rcases Int.lt_or_le n.op 1 with h1|h1
 ·exfalso;unfold jK at h;rw[jJ5 (by omega),jJ5 (by omega),jJ5 (by omega),jJ5 (by omega),jJ5 (by omega),jJ5 (by omega),jJ5 (by omega),jJ5 (by omega),jK3 (p:=1<=n.op/\n.op<34) (by omega)]at h;simp at h
 ·rcases Int.lt_or_le n.op 34 with h2|h2
  ·exact⟨h1,by omega⟩
  ·exfalso;unfold jK at h;rw[jJ5 (by omega),jJ5 (by omega),jJ5 (by omega),jJ5 (by omega),jJ5 (by omega),jJ5 (by omega),jJ5 (by omega),jJ5 (by omega),jK3 (p:=1<=n.op/\n.op<34) (by omega)]at h;simp at h
theorem XM{n:Nd}(h:jK n=true)(h2:n.op=2):n.vn=0\/n.vn=1:=by
 unfold jK at h;rw[jJ5 (by omega),jJ6 h2]at h;simp only[Bool.and_eq_true,decide_eq_true_eq]at h;exact h.1.1.1.1.2
def qD(w:World)(t:Tre)(s:Sl):Prop:=∀(W:World) (next:Nat) (l:LB) (B:OA) (bc:Nat) (x:MNd),x.n∈t.nodes->x.n.op=1\/x.n.op=3->Pr w t s next l B bc W->∀(f:Nat) (l' :LB),yz t.nodes f x.n l=some l' ->l'.length<=jN->
 Calls prog 193 #[.pointer (some ⟨w.heap.size,0,none⟩),.agg (ndC x).toArray] W (PrR w t s next l' W)
theorem jD6(w W:World)(hg:Sg w)(Fg:8<=w.heap.size)(t:Tre)(s:Sl)(AT:qD w t s)(f:Nat)(PX:PxAll w t s f)(next:Nat)(l l' :LB)(B:OA)(bc:Nat)(h:Pr w t s next l B bc W)(x:MNd)(hm:x.n∈t.nodes)(hr:jK x.n=true)(h8:x.n.op<7\/23<x.n.op)(Ff:Rd w 1 x.A x.n.kids.length (x.n.kids.map iv))(hn:x.n.kids.length<=1000000000)(hk:yz t.nodes f x.n l=some l')(hl:l'.length<=jN):
  Calls prog 193 #[.pointer (some ⟨w.heap.size,0,none⟩),.agg (ndC x).toArray] W (PrR w t s next l' W):=by
 have h1:=QH hr;rcases Int.lt_or_le 23 x.n.op with hb|hb
 ·exact jB6 w W hg Fg t s f PX next l l' B bc h x (by omega) Ff hn hk hl
 ·have:x.n.op=1\/x.n.op=2\/x.n.op=3\/x.n.op=4\/x.n.op=5\/x.n.op=6:=(by omega);rcases this with e|e|e|e|e|e
  ·exact AT W next l B bc x hm (.inl e) h f l' hk hl
  ·rcases XM hr e with e2|e2
   ·exact jF6 w W (h.sg hg Fg) t s f next l l' B bc h x e e2 hk hl
   ·exact jF7 w W (h.sg hg Fg) t s f next l l' B bc h x e e2 hk hl
  ·exact AT W next l B bc x hm (.inr e) h f l' hk hl
  ·exact jHM w W t s f next l l' B bc h x e hk hl
  ·exact jHL w W t s f next l l' B bc h x e hk hl
  ·exact jD3 w W t s f PX next l l' B bc h x e Ff hn hk hl
theorem yJ{a c:Nat}(h:c<=a)(b:LB):opens a c b=b/\JE a c b=b:=by
 unfold opens JE;rw[jJ5 (by omega),jJ5 (by omega)];exact⟨rfl,rfl⟩
theorem zD{a c:Nat}(h:a<c)(b:LB):opens a c b=jI b [40]/\JE a c b=jI b [41]:=by
 unfold opens JE;rw[jJ6 h,jJ6 h];exact⟨rfl,rfl⟩
theorem jD1{ns:List Nd}{f:Nat}{n:Nd}{b0 b1:LB}(hl:jD n.op=0)(h:VI ns f n b0=some b1):∃k q z tl la lb,n.kids=k::q::z::tl/\exprP ns f k 0 (jI b0 [105,102])=some la/\exprP ns f q 0 (jI la [116,104,101,110])=some lb/\exprP ns f z 0 (jI lb [101,108,115,101])=some b1:=by
 unfold VI at h;simp only[hl,if_true]at h;rcases hk:n.kids with _ |⟨k,_ |⟨q,_ |⟨z,tl⟩⟩⟩
 ·rw[hk]at h;cases h
 ·rw[hk]at h;cases h
 ·rw[hk]at h;cases h
 ·rw[hk]at h;obtain⟨la,h1,h⟩:=jM2 h;obtain⟨lb,h2,h⟩:=jM2 h;exact⟨k,q,z,tl,la,lb,rfl,h1,h2,h⟩
theorem jBw{ns:List Nd}{f:Nat}{n:Nd}{b0 b1:LB}{own:Nat}(hl:jD n.op=own)(ho:own=1\/own=2\/own=5\/own=6)(h:VI ns f n b0=some b1):∃k q tl lm,n.kids=k::q::tl/\exprP ns f k own b0=some lm/\exprP ns f q (own+1) (jI lm (jA n.op))=some b1:=by
 unfold VI at h;simp only[hl]at h;rw[jJ5 (by omega),jJ6 ho]at h;rcases hk:n.kids with _ |⟨k,_ |⟨q,tl⟩⟩
 ·rw[hk]at h;cases h
 ·rw[hk]at h;cases h
 ·rw[hk]at h;obtain⟨lm,h1,h⟩:=jM2 h;exact⟨k,q,tl,lm,rfl,h1,h⟩
theorem jBx{ns:List Nd}{f:Nat}{n:Nd}{b0 b1:LB}{own:Nat}(hl:jD n.op=own)(ho:own=3\/own=7)(h:VI ns f n b0=some b1):∃k tl,n.kids=k::tl/\exprP ns f k own (jI b0 (jA n.op))=some b1:=by
 unfold VI at h;simp only[hl]at h;rw[jJ5 (by omega),jJ5 (by omega),jJ6 ho]at h;rcases hk:n.kids with _ |⟨k,tl⟩
 ·rw[hk]at h;cases h
 ·rw[hk]at h;exact⟨k,tl,rfl,h⟩
theorem Xw{ns:List Nd}{f:Nat}{n:Nd}{b0 b1:LB}(hl:jD n.op=4)(h:VI ns f n b0=some b1):∃k q tl lm,n.kids=k::q::tl/\exprP ns f k 5 b0=some lm/\exprP ns f q 5 (jI lm (jA n.op))=some b1:=by
 unfold VI at h;simp only[hl]at h;rw[jJ5 (by omega),jJ5 (by omega),jJ5 (by omega),jJ6 trivial]at h;rcases hk:n.kids with _ |⟨k,_ |⟨q,tl⟩⟩
 ·rw[hk]at h;cases h
 ·rw[hk]at h;cases h
 ·rw[hk]at h;obtain⟨lm,h1,h⟩:=jM2 h;exact⟨k,q,tl,lm,rfl,h1,h⟩
theorem Xx{ns:List Nd}{f:Nat}{n:Nd}{b0 b1:LB}(hl:jD n.op=8)(h:VI ns f n b0=some b1):yz ns f n b0=some b1:=by
 unfold VI at h;simp only[hl]at h;rw[jJ5 (by omega),jJ5 (by omega),jJ5 (by omega),jJ5 (by omega)]at h;exact h
theorem Vk(w W:World)(hg:Sg w)(Fg:8<=w.heap.size)(t:Tre)(s:Sl)(ns:List MNd)(TN:TrN w t s ns)(f:Nat)(PX:PxAll w t s f)(next:Nat)(l l' :LB)(B:OA)(bc:Nat)(h:Pr w t s next l B bc W)(root least:Nat)(Fa:least<=8)(n:Nd)(hn:t.nodes[root]? =some n)(own own1:Nat)(hv:jD n.op=own)(hw:own=1/\own1=2\/own=2/\own1=3\/own=5/\own1=6\/own=6/\own1=7)(Hm:7<=n.op/\n.op<=33/\n.op≠23)
  (b1:LB) (hb:VI t.nodes f n (opens (jD n.op) least l)=some b1) (hs:JE (jD n.op) least b1=l') (hl:l'.length<=jN):
  Calls prog 156 #[.pointer (some ⟨w.heap.size,0,none⟩),iv (root:Int),iv (least:Int)] W (PrR w t s next l' W):=by
 rw[hv]at hb hs;obtain⟨k,q,tl,lm,Lg,h1,h2⟩:=jBw hv (by omega) hb;rw[show own+1=own1 by omega]at h2;rcases Nat.lt_or_ge own least with e|e
 ·rw[(zD e _).1]at h1;rw[(zD e _).2]at hs;subst hs;exact jFf w W hg Fg t s ns TN f PX next l B bc h root least own own1 n hn hv hw e Fa Hm k q tl Lg lm _ h1 h2 hl
 ·rw[(yJ e _).1]at h1;rw[(yJ e _).2]at hs;subst hs;exact jFg w W hg Fg t s ns TN f PX next l B bc h root least own own1 n hn hv hw e Hm k q tl Lg lm _ h1 h2 hl
theorem Qq(w W:World)(hg:Sg w)(Fg:8<=w.heap.size)(t:Tre)(s:Sl)(ns:List MNd)(TN:TrN w t s ns)(f:Nat)(PX:PxAll w t s f)(next:Nat)(l l' :LB)(B:OA)(bc:Nat)(h:Pr w t s next l B bc W)(root least:Nat)(Fa:least<=8)(n:Nd)(hn:t.nodes[root]? =some n)(own:Nat)(hv:jD n.op=own)(hw:own=3\/own=7)(Hm:n.op=8\/n.op=7)
  (b1:LB) (hb:VI t.nodes f n (opens (jD n.op) least l)=some b1) (hs:JE (jD n.op) least b1=l') (hl:l'.length<=jN):
  Calls prog 156 #[.pointer (some ⟨w.heap.size,0,none⟩),iv (root:Int),iv (least:Int)] W (PrR w t s next l' W):=by
 rw[hv]at hb hs;obtain⟨k,tl,Lg,h1⟩:=jBx hv hw hb;rcases Nat.lt_or_ge own least with e|e
 ·rw[(zD e _).1]at h1;rw[(zD e _).2]at hs;subst hs;exact jFi w W hg Fg t s ns TN f PX next l B bc h root least own n hn hv hw e Fa Hm k tl Lg _ h1 hl
 ·rw[(yJ e _).1]at h1;rw[(yJ e _).2]at hs;subst hs;exact jG8 w W hg Fg t s ns TN f PX next l B bc h root least own n hn hv hw e Hm k tl Lg _ h1 hl
theorem jEE(w:World)(hg:Sg w)(Fg:8<=w.heap.size)(t:Tre)(s:Sl)(ns:List MNd)(TN:TrN w t s ns)(OK:∀n∈t.nodes,jK n=true)(AT:qD w t s):∀f,PxAll w t s f:=by
 intro f
 induction f with
 |zero=>exact⟨fun W next l l' B bc root least h Fa hk hl=>by rw[exprP]at hk;cases hk⟩
 |succ f PX=>
  refine⟨fun W next l l' B bc root least h Fa hk hl=> ?_⟩;obtain⟨r,rfl,n,hn,b1,hb,hs⟩:=xU hk;have hm:=List.mem_of_getElem? hn;have hr:=OK n hm;rcases uU n.op with⟨hv,ho⟩|⟨hv,ho⟩|⟨hv,ho⟩|⟨hv,ho⟩|⟨hv,ho⟩|⟨hv,ho⟩|⟨hv,ho⟩|⟨hv,ho⟩|⟨hv,ho⟩
  ·rw[hv]at hb hs;obtain⟨k,q,z,tl,la,lb,Lg,h1,h2,h3⟩:=jD1 hv hb;rcases Nat.eq_zero_or_pos least with e|e
   ·rw[(yJ (Nat.le_of_eq e) _).1]at h1;rw[(yJ (Nat.le_of_eq e) _).2]at hs;subst hs;exact jHB w W t s ns TN f PX next l B bc h r least n hn hv e k q z tl Lg (zd h1) (zd h2) (zd h3) la lb _ h1 h2 h3 hl
   ·rw[(zD e _).1]at h1;rw[(zD e _).2]at hs;subst hs;exact jHA w W t s ns TN f PX next l B bc h r least n hn hv e Fa k q z tl Lg (zd h1) (zd h2) (zd h3) la lb _ h1 h2 h3 hl
  ·exact Vk w W hg Fg t s ns TN f PX next l l' B bc h r least Fa n hn 1 2 hv (by decide) (by omega) b1 hb hs hl
  ·exact Vk w W hg Fg t s ns TN f PX next l l' B bc h r least Fa n hn 2 3 hv (by decide) (by omega) b1 hb hs hl
  ·exact Qq w W hg Fg t s ns TN f PX next l l' B bc h r least Fa n hn 3 hv (by decide) (by omega) b1 hb hs hl
  ·rw[hv]at hb hs;obtain⟨k,q,tl,lm,Lg,h1,h2⟩:=Xw hv hb;rcases Nat.lt_or_ge 4 least with e|e
   ·rw[(zD e _).1]at h1;rw[(zD e _).2]at hs;subst hs;exact jDa w W hg Fg t s ns TN f PX next l B bc h r least n hn hv e Fa (by omega) k q tl Lg lm _ h1 h2 hl
   ·rw[(yJ e _).1]at h1;rw[(yJ e _).2]at hs;subst hs;exact jDb w W hg Fg t s ns TN f PX next l B bc h r least n hn hv e (by omega) k q tl Lg lm _ h1 h2 hl
  ·exact Vk w W hg Fg t s ns TN f PX next l l' B bc h r least Fa n hn 5 6 hv (by decide) (by omega) b1 hb hs hl
  ·exact Vk w W hg Fg t s ns TN f PX next l l' B bc h r least Fa n hn 6 7 hv (by decide) (by omega) b1 hb hs hl
  ·exact Qq w W hg Fg t s ns TN f PX next l l' B bc h r least Fa n hn 7 hv (by decide) (by omega) b1 hb hs hl
  ·rw[hv]at hb hs;rw[(yJ Fa _).1]at hb;rw[(yJ Fa _).2]at hs;subst hs;have ha:=Xx hv hb;refine jFj w W t s ns TN next l B bc h r least Fa n hn hv b1 (fun W1 x e Ff Gj hp=> ?_);subst e;exact jD6 w W1 hg Fg t s AT f PX next l b1 B bc hp x hm hr ho Ff Gj ha hl
theorem Zo{n:Nd}(h:jK n=true)(h1:n.op=9\/n.op=10\/11<=n.op/\n.op<=22):n.kids.length=2:=by
 unfold jK at h;rw[jJ5 (by omega),jJ5 (by omega),jJ5 (by omega),jJ5 (by omega),jJ5 (by omega),jJ5 (by omega),jJ5 (by omega),jJ5 (by omega)]at h;simp only[Bool.and_eq_true,decide_eq_true_eq]at h;exact h.2.1.2
theorem Zp{n:Nd}(h:jK n=true)(h1:n.op=7\/n.op=8):n.kids.length=1:=by
 unfold jK at h;rw[jJ5 (by omega),jJ5 (by omega),jJ5 (by omega),jJ5 (by omega),jJ5 (by omega),jJ5 (by omega),jJ6 (by omega)]at h;simp only[Bool.and_eq_true,decide_eq_true_eq]at h;exact h.2.1
theorem Kz{n:Nd}(h:jK n=true)(h1:n.op=23):n.kids.length=3:=by
 unfold jK at h;rw[jJ5 (by omega),jJ5 (by omega),jJ5 (by omega),jJ5 (by omega),jJ5 (by omega),jJ5 (by omega),jJ5 (by omega),jJ6 (by omega)]at h;simp only[Bool.and_eq_true,decide_eq_true_eq]at h;exact h.2.1
theorem xO{ns:List Nd}{root:Int}{f:Nat}:∀(l:List Int) (a b:Nat),l.foldl (fun(s:Option Nat) k=>s.bind fun nx=>if root<=k then none else kQ ns f k nx) (some a)=some b->∀k∈l,k<root/\∃x y,kQ ns f k x=some y
 |[],_,_,_,_,hk=>by cases hk
 |q::l,a,b,h,k,hk=>by
  rw[List.foldl_cons,jL2]at h;cases e:(if root<=q then none else kQ ns f q a)with
  |none=>
   rw[e]at h;have:=KZ (fun k nx=>if root<=k then none else kQ ns f k nx) l;rw[this]at h;cases h
  |some c=>
   rw[e]at h;rcases jN4 hk with rfl|hk
   ·by_cases h4:root<=k
    ·rw[jJ6 h4]at e;cases e
    ·rw[jJ5 h4]at e;exact⟨by omega,a,c,e⟩
   ·exact xO l c b h k hk
def FitP(ns:List Nd)(root:Int):Prop:=∃f x y,kQ ns f root x=some y
theorem FitP.node{ns:List Nd}{root:Int}(h:FitP ns root):0<=root/\∃n,ns[root.toNat]? =some n/\jK n=true/\∀k∈n.kids,k<root/\FitP ns k:=by
 obtain⟨f,x,y,h⟩:=h;cases f with
 |zero=>cases h
 |succ f=>
  rw[kQ]at h;by_cases h1:root<0\/(ns.length:Int)<=root
  ·rw[jJ6 h1]at h;cases h
  ·rw[jJ5 h1]at h;cases hn:ns[root.toNat]? with
   |none=>rw[hn]at h;cases h
   |some n=>
    rw[hn]at h;simp only at h;by_cases h2:jK n=false
    ·rw[jJ6 h2]at h;cases h
    ·rw[jJ5 h2]at h;obtain⟨nx,hf,_⟩:=jM2 h;refine⟨by omega,n,rfl,by simpa using h2,fun k hk=> ?_⟩;obtain⟨h3,x,y,h4⟩:=xO n.kids x nx hf k hk;exact⟨h3,f,x,y,h4⟩
theorem xF{g:Int->Nat->LB->Option LB}:∀(l:List Int),(∀k∈l,∀r b,∃o,g k r b=some o)->∀i b,∃o,exprP.listP g l i b=some o
 |[],_,i,b=>⟨b,rfl⟩
 |k::l,h,i,b=>by
  obtain⟨o,ho⟩:=h k (List.mem_cons_self ..) 0 (if 0<i then jI b [44]else b);obtain⟨p,hp⟩:=xF l (fun q hq=>h q (jN1 _ hq)) (i+1) o;exact⟨p,by rw[exprP.listP,ho,jL2];exact hp⟩
end Go.Proofs.YtmmjcbbogokmfaaGreatDoor

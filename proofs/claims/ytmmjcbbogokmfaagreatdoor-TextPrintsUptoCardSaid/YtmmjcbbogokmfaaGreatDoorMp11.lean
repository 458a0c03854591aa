import Derived.Test.YtmmjcbbogokmfaaGreatDoorMp10
set_option maxRecDepth 100000
set_option maxHeartbeats 25600000
namespace Go.Proofs.YtmmjcbbogokmfaaGreatDoor
open Go.Proofs.Tryz
open Go.RowKit
theorem Kv(w W:World)(t:Tre)(s:Sl)(f:Nat)(PX:PxAll w t s f)(next:Nat)(l l' :LB)(B:OA)(bc:Nat)(h:Pr w t s next l B bc W)(A:OA)(c:Nat)(kids:List Int)(hr:Rd w 1 A kids.length (kids.map iv))(hn:kids.length<=1000000000)
  (hk:exprP.listP (exprP t.nodes f) kids 0 l=some l') (hl:l'.length<=jN):
  Calls prog 223 #[.pointer (some ⟨w.heap.size,0,none⟩),.slice A kids.length c] W (PrR w t s next l' W):=by
 have H0:=G h;have HR:=G hr;have HK:=G hk;have HL:=G hl;have HX:=G PX;clear h hr hk hl PX;go_enter func223,ntmps223;go_wp2;go_loopw [8] (fun i wr=>∃(j:Nat) (l1:LB) (B1:OA) (c1:Nat),j<=kids.length/\i=.int .i64 (j:Int)/\exprP.listP (exprP t.nodes f) (kids.drop j) j l1=some l' /\Pr w t s next l1 B1 c1 wr/\FrP W wr) (fun i _=>kids.length-(intOf i).toNat)
 case atStart=>exact⟨0,l,B,bc,Nat.zero_le _,rfl,HK.out,H0.out,FrP.refl _⟩
 case round=>
  clear H0;obtain⟨j,l1,B1,c1,hj,rfl,Ht,hp,hf⟩:=hrel;have Hp:=G hp;have Hf:=G hf;by_cases hlt:j<kids.length
  ·have hd:kids.drop j=kids[j]::kids.drop (j+1):=jM9 hlt;obtain⟨b,o,u,hA,hu,hc⟩:=HR.out.at_ hlt;have G9:iv kids[j]=u:=by rw[jM1,jJ9 hlt]at hu;injection hu
   subst G9;subst hA;have P6:wr.cell? ⟨b,o+j,none⟩=some (.int .i64 kids[j]):=by
    have Gm:=je hc;rw[World.cell?_of_block (hp.kp.block b Gm (fun e:w.heap.size<=b=>by have:b<w.heap.size:=Gm;omega))];exact hc
   rw[hd,exprP.listP]at Ht;obtain⟨l2,h2,h3⟩:=jM2 Ht;have E3:=G h3;have FM:l2.length<=jN:=jL4 (JO _ (fun k m b b' h=>jm _ f k m b b' h) _ _ _ _ h3) HL.out;have ND:=jm _ f _ _ _ _ h2;generalize kids[j]=k at*;have b1:(0:Int)<=(j:Int):=(by omega);have b2:(j:Int).toNat=j:=(by omega);have b3:(j:Int)<(kids.length:Int):=(by omega);have b4:IntKind.i64.wrap ((j:Int)+1)=(j:Int)+1:=jQ3 _ (by omega);have HC:=G (fun W1 B2 c2 l0 (h1:Pr w t s next l0 B2 c2 W1) (h2:exprP t.nodes f k 0 l0=some l2)=>HX.out.ex W1 next l0 l2 B2 c2 k 0 h1 (by decide) h2 FM);unfold iv at HC;clear Ht h3 hd hu hc hf;by_cases h0:0<j
   ·rw[jJ6 h0]at h2 ND;have BM:=G (JJ w wr t s next l1 B1 c1 hp [⟨#[44]⟩] (jL4 ND FM) (show 1<=1000 by decide));have E2:=G h2;have b5:(0:Int)<(j:Int):=(by omega);clear hp h2 ND FM h0;go_wp2_with (first|(go_at_call 53;refine BM.out.mono ?_;rintro e w1 ⟨rfl,B2,c2,hX,hg⟩;have H1:=G hX;have F1:=G hg;clear hX hg)|(go_at_call 156;refine(HC.out _ _ _ _ H1.out E2.out).mono ?_;rintro e w2 ⟨rfl,B3,c3,hX,hg⟩;have H2:=G hX;have F2:=G hg;clear hX hg)|fail);exact⟨⟨j+1,l2,B3,c3,by omega,by rw[show((j+1:Nat):Int)=(j:Int)+1 by omega],E3.out,H2.out,(Hf.out.trans F1.out).trans F2.out⟩,by simp only[intOf];omega⟩
   ·rw[jJ5 h0]at h2;have E2:=G h2;have b5:¬(0:Int)<(j:Int):=(by omega);clear hp h2 ND FM h0;go_wp2_with (first|(go_at_call 156;refine(HC.out _ _ _ _ Hp.out E2.out).mono ?_;rintro e w2 ⟨rfl,B3,c3,hX,hg⟩;have H2:=G hX;have F2:=G hg;clear hX hg)|fail);exact⟨⟨j+1,l2,B3,c3,by omega,by rw[show((j+1:Nat):Int)=(j:Int)+1 by omega],E3.out,H2.out,Hf.out.trans F2.out⟩,by simp only[intOf];omega⟩
  ·obtain rfl:j=kids.length:=(by omega);rw[List.drop_length,exprP.listP]at Ht;injection Ht with Ht;subst Ht;clear hp hf;go_wp2;go_end0;exact⟨rfl,B1,c1,Hp.out,Hf.out⟩
theorem jEa(w:World):Calls prog 247 #[.int .i64 12] w fun e w' =>e=.returned (.string ⟨#[49,50]⟩)/\w=w' :=by
 go_enter func247,ntmps247;go_wp2;go_ret;exact⟨by kernel_rfl,rfl⟩
theorem jDU(w:World):Calls prog 242 #[.int .i64 12,.int .i64 10] w fun e w' =>e=.returned (.string ⟨#[49,50]⟩)/\w=w' :=by
 go_enter func242,ntmps242;go_wp2_with (first|(go_at_call 247;refine(jEa _).mono ?_;rintro e w1 ⟨rfl,rfl⟩)|fail);go_ret;exact⟨rfl,rfl⟩
theorem jFV(w:World):Calls prog 235 #[.int .i64 12] w fun e w' =>e=.returned (.string ⟨#[49,50]⟩)/\w=w' :=by
 go_enter func235,ntmps235;go_wp2_with (first|(go_at_call 242;refine(jDU _).mono ?_;rintro e w1 ⟨rfl,rfl⟩)|fail);go_ret;exact⟨rfl,rfl⟩
theorem jG2(w:World):Calls prog 221 #[.int .i64 12] w fun e w' =>e=.returned (.string ⟨#[49,50]⟩)/\w=w' :=by
 go_enter func221,ntmps221;go_wp2_with (first|(go_at_call 235;refine(jFV _).mono ?_;rintro e w1 ⟨rfl,rfl⟩)|fail);go_ret;exact⟨rfl,rfl⟩
def yz(ns:List Nd)(f:Nat)(n:Nd)(b0:LB):Option LB:=
 if n.op=1 then some (jI b0 (qF n.vn))
 else if n.op=2 then some (jI b0 (if n.vn=1 then [116,114,117,101]else [102,97,108,115,101]))
 else if n.op=3 then some (jI b0 (kw (tb n.vt)))
 else if n.op=5 then some (jI b0 (tb n.name))
 else if n.op=4 then some (jI b0 [110,111,116,104,105,110,103])
 else if n.op=6 then(exprP.listP (exprP ns f) n.kids 0 (jI b0 [123])).map fun b1=>jI b1 [125]
 else(exprP.listP (exprP ns f) n.kids 0 (let b1:=jI (jI b0 (jA n.op)) [40];if n.name.size=0 then b1 else jI b1 (tb n.name))).map fun b1=>jI b1 [41]
theorem jQ(w W:World)(t:Tre)(s:Sl)(next:Nat)(l:LB)(B:OA)(bc:Nat)(h:Pr w t s next l B bc W)(k:Nat)(hk:k=W.heap.size)(ws:List BA)(hl:(jT l (ws.map sb)).length<=jN)(Wm:ws.length<=1000):
  Calls prog 53 #[.pointer (some ⟨w.heap.size,0,none⟩),.slice (some ⟨k,0,none⟩) ws.length ws.length] (W.alloc (.cells (ws.map sv).toArray 9)) (PrR w t s next (jT l (ws.map sb)) W):=hk▸JJ w W t s next l B bc h ws hl Wm
theorem jHn:qF 12=[49,50]:=by decide+kernel
theorem jHN(w W:World)(t:Tre)(s:Sl)(f:Nat)(next:Nat)(l l' :LB)(B:OA)(bc:Nat)(h:Pr w t s next l B bc W)(x:MNd)(Hm:x.n.op=1)(hv:x.n.vn=12)(hk:yz t.nodes f x.n l=some l')(hl:l'.length<=jN):
  Calls prog 193 #[.pointer (some ⟨w.heap.size,0,none⟩),.agg (ndC x).toArray] W (PrR w t s next l' W):=by
 unfold yz at hk;obtain⟨⟨op,name,vk,vn,vt,vs,kids⟩,A,c,vA,vc⟩:=x;simp only at Hm hv hk;subst Hm;subst hv;rw[jJ6 rfl]at hk;injection hk with hk;rw[jHn]at hk;have ho:=(jQ0 NoX W).alloc (.cells (ndC ⟨⟨1,name,vk,12,vt,vs,kids⟩,A,c,vA,vc⟩).toArray 46);have HP:=G (jQ w _ t s next l B bc (h.old ho) (W.heap.size+1) (by simp) [⟨#[49,50]⟩] (show(jT l (([⟨#[49,50]⟩]:List BA).map sb)).length<=jN from by show(jI l _).length<=jN;exact(congrArg List.length hk).symm▸hl) (show 1<=1000 by decide));have HF:=G (FrP.of_old ho);have Hk:=G (show jT l (([⟨#[49,50]⟩]:List BA).map sb)=l' from hk);rw[Hk.out]at HP;clear h hk hl ho;unfold ndC iv at*;go_enter func193,ntmps193;go_wp2_with (first|(go_at_call 221;refine(jG2 _).mono ?_;rintro e w1 ⟨rfl,rfl⟩)|(go_at_call 53;refine HP.out.mono ?_;rintro e w2 ⟨rfl,B2,c2,hX,hf⟩)|fail);go_end0;exact⟨rfl,B2,c2,hX,HF.out.trans hf⟩
theorem jF7(w W:World)(hg:Sg W)(t:Tre)(s:Sl)(f:Nat)(next:Nat)(l l' :LB)(B:OA)(bc:Nat)(h:Pr w t s next l B bc W)(x:MNd)(Hm:x.n.op=2)(hv:x.n.vn=1)(hk:yz t.nodes f x.n l=some l')(hl:l'.length<=jN):
  Calls prog 193 #[.pointer (some ⟨w.heap.size,0,none⟩),.agg (ndC x).toArray] W (PrR w t s next l' W):=by
 unfold yz at hk;obtain⟨⟨op,name,vk,vn,vt,vs,kids⟩,A,c,vA,vc⟩:=x;simp only at Hm hv hk;subst Hm;subst hv;rw[jJ5 (by decide),jJ6 rfl]at hk;injection hk with hk;rw[jJ6 rfl]at hk;have ho:=(jQ0 NoX W).alloc (.cells (ndC ⟨⟨2,name,vk,1,vt,vs,kids⟩,A,c,vA,vc⟩).toArray 46);have HP:=G (jQ w _ t s next l B bc (h.old ho) (W.heap.size+1) (by simp) [⟨#[116,114,117,101]⟩] (show(jT l (([⟨#[116,114,117,101]⟩]:List BA).map sb)).length<=jN from by show(jI l _).length<=jN;exact(congrArg List.length hk).symm▸hl) (show 1<=1000 by decide));have HF:=G (FrP.of_old ho);have Hk:=G (show jT l (([⟨#[116,114,117,101]⟩]:List BA).map sb)=l' from hk);rw[Hk.out]at HP;have L5:W.cell? ⟨0,23,none⟩=some (.string ⟨#[116,114,117,101]⟩):=hg.res 23 _ rfl;have Fy:W.cell? ⟨0,24,none⟩=some (.string ⟨#[102,97,108,115,101]⟩):=hg.res 24 _ rfl;have Bi:0<W.heap.size:=je L5;clear h hk hl ho hg;unfold ndC iv at*;go_enter func193,ntmps193;go_wp2_with (first|(go_at_call 53;refine HP.out.mono ?_;rintro e w2 ⟨rfl,B2,c2,hX,hf⟩)|fail);go_end0;exact⟨rfl,B2,c2,hX,HF.out.trans hf⟩
theorem jF6(w W:World)(hg:Sg W)(t:Tre)(s:Sl)(f:Nat)(next:Nat)(l l' :LB)(B:OA)(bc:Nat)(h:Pr w t s next l B bc W)(x:MNd)(Hm:x.n.op=2)(hv:x.n.vn=0)(hk:yz t.nodes f x.n l=some l')(hl:l'.length<=jN):
  Calls prog 193 #[.pointer (some ⟨w.heap.size,0,none⟩),.agg (ndC x).toArray] W (PrR w t s next l' W):=by
 unfold yz at hk;obtain⟨⟨op,name,vk,vn,vt,vs,kids⟩,A,c,vA,vc⟩:=x;simp only at Hm hv hk;subst Hm;subst hv;rw[jJ5 (by decide),jJ6 rfl]at hk;injection hk with hk;rw[jJ5 (by decide)]at hk;have ho:=(jQ0 NoX W).alloc (.cells (ndC ⟨⟨2,name,vk,0,vt,vs,kids⟩,A,c,vA,vc⟩).toArray 46);have HP:=G (jQ w _ t s next l B bc (h.old ho) (W.heap.size+1) (by simp) [⟨#[102,97,108,115,101]⟩] (show(jT l (([⟨#[102,97,108,115,101]⟩]:List BA).map sb)).length<=jN from by show(jI l _).length<=jN;exact(congrArg List.length hk).symm▸hl) (show 1<=1000 by decide));have HF:=G (FrP.of_old ho);have Hk:=G (show jT l (([⟨#[102,97,108,115,101]⟩]:List BA).map sb)=l' from hk);rw[Hk.out]at HP;have L5:W.cell? ⟨0,23,none⟩=some (.string ⟨#[116,114,117,101]⟩):=hg.res 23 _ rfl;have Fy:W.cell? ⟨0,24,none⟩=some (.string ⟨#[102,97,108,115,101]⟩):=hg.res 24 _ rfl;have Bi:0<W.heap.size:=je L5;clear h hk hl ho hg;unfold ndC iv at*;go_enter func193,ntmps193;go_wp2_with (first|(go_at_call 53;refine HP.out.mono ?_;rintro e w2 ⟨rfl,B2,c2,hX,hf⟩)|fail);go_end0;exact⟨rfl,B2,c2,hX,HF.out.trans hf⟩
theorem jHM(w W:World)(t:Tre)(s:Sl)(f:Nat)(next:Nat)(l l' :LB)(B:OA)(bc:Nat)(h:Pr w t s next l B bc W)(x:MNd)(Hm:x.n.op=4)(hk:yz t.nodes f x.n l=some l')(hl:l'.length<=jN):
  Calls prog 193 #[.pointer (some ⟨w.heap.size,0,none⟩),.agg (ndC x).toArray] W (PrR w t s next l' W):=by
 unfold yz at hk;obtain⟨⟨op,name,vk,vn,vt,vs,kids⟩,A,c,vA,vc⟩:=x;simp only at Hm hk;subst Hm;rw[jJ5 (by decide),jJ5 (by decide),jJ5 (by decide),jJ5 (by decide),jJ6 rfl]at hk;injection hk with hk;have ho:=(jQ0 NoX W).alloc (.cells (ndC ⟨⟨4,name,vk,vn,vt,vs,kids⟩,A,c,vA,vc⟩).toArray 46);have HP:=G (jQ w _ t s next l B bc (h.old ho) (W.heap.size+1) (by simp) [⟨#[110,111,116,104,105,110,103]⟩] (show(jT l (([⟨#[110,111,116,104,105,110,103]⟩]:List BA).map sb)).length<=jN from by show(jI l _).length<=jN;exact(congrArg List.length hk).symm▸hl) (show 1<=1000 by decide));have HF:=G (FrP.of_old ho);have Hk:=G (show jT l (([⟨#[110,111,116,104,105,110,103]⟩]:List BA).map sb)=l' from hk);rw[Hk.out]at HP;clear h hk hl ho;unfold ndC iv at*;go_enter func193,ntmps193;go_wp2_with (first|(go_at_call 53;refine HP.out.mono ?_;rintro e w2 ⟨rfl,B2,c2,hX,hf⟩)|fail);go_end0;exact⟨rfl,B2,c2,hX,HF.out.trans hf⟩
theorem jHL(w W:World)(t:Tre)(s:Sl)(f:Nat)(next:Nat)(l l' :LB)(B:OA)(bc:Nat)(h:Pr w t s next l B bc W)(x:MNd)(Hm:x.n.op=5)(hk:yz t.nodes f x.n l=some l')(hl:l'.length<=jN):
  Calls prog 193 #[.pointer (some ⟨w.heap.size,0,none⟩),.agg (ndC x).toArray] W (PrR w t s next l' W):=by
 unfold yz at hk;obtain⟨⟨op,name,vk,vn,vt,vs,kids⟩,A,c,vA,vc⟩:=x;simp only at Hm hk;subst Hm;rw[jJ5 (by decide),jJ5 (by decide),jJ5 (by decide),jJ6 rfl]at hk;injection hk with hk;have ho:=(jQ0 NoX W).alloc (.cells (ndC ⟨⟨5,name,vk,vn,vt,vs,kids⟩,A,c,vA,vc⟩).toArray 46);have HP:=G (jQ w _ t s next l B bc (h.old ho) (W.heap.size+1) (by simp) [name] (show(jT l (([name]:List BA).map sb)).length<=jN from by show(jI l _).length<=jN;exact(congrArg List.length hk).symm▸hl) (show 1<=1000 by decide));have HF:=G (FrP.of_old ho);have Hk:=G (show jT l (([name]:List BA).map sb)=l' from hk);rw[Hk.out]at HP;clear h hk hl ho;unfold ndC iv at*;go_enter func193,ntmps193;go_wp2_with (first|(go_at_call 53;refine HP.out.mono ?_;rintro e w2 ⟨rfl,B2,c2,hX,hf⟩)|fail);go_end0;exact⟨rfl,B2,c2,hX,HF.out.trans hf⟩
theorem jD3(w W:World)(t:Tre)(s:Sl)(f:Nat)(PX:PxAll w t s f)(next:Nat)(l l' :LB)(B:OA)(bc:Nat)(h:Pr w t s next l B bc W)(x:MNd)(Hm:x.n.op=6)(hr:Rd w 1 x.A x.n.kids.length (x.n.kids.map iv))(hn:x.n.kids.length<=1000000000)(hk:yz t.nodes f x.n l=some l')(hl:l'.length<=jN):
  Calls prog 193 #[.pointer (some ⟨w.heap.size,0,none⟩),.agg (ndC x).toArray] W (PrR w t s next l' W):=by
 unfold yz at hk;obtain⟨⟨op,name,vk,vn,vt,vs,kids⟩,A,c,vA,vc⟩:=x;simp only at Hm hk hr hn;subst Hm;rw[jJ5 (by decide),jJ5 (by decide),jJ5 (by decide),jJ5 (by decide),jJ5 (by decide),jJ6 rfl]at hk;obtain⟨l1,h1,e⟩:=jM4 hk;subst e;have g1:=JO _ (fun k m b b' h=>jm _ f k m b b' h) _ _ _ _ h1;have g2:=(jG l1 [125]).1;have ho:=(jQ0 NoX W).alloc (.cells (ndC ⟨⟨6,name,vk,vn,vt,vs,kids⟩,A,c,vA,vc⟩).toArray 46);have P1:=G (jQ w _ t s next l B bc (h.old ho) (W.heap.size+1) (by simp) [⟨#[123]⟩] (jL4 g1 (jL4 g2 hl)) (show 1<=1000 by decide));have BN:=G (jQ2 W 46 (ndC ⟨⟨6,name,vk,vn,vt,vs,kids⟩,A,c,vA,vc⟩).toArray);have LS:=G (fun W1 B1 c1 (hp:Pr w t s next (jI l [123]) B1 c1 W1)=>Kv w W1 t s f PX next _ l1 B1 c1 hp A c kids hr hn h1 (jL4 g2 hl));have P2:=G (fun W1 B1 c1 (hp:Pr w t s next l1 B1 c1 W1)=>JJ w W1 t s next l1 B1 c1 hp [⟨#[125]⟩] hl (show 1<=1000 by decide));have HF:=G (FrP.of_old ho);clear h hk hl ho h1 g1 g2 hr hn PX;unfold ndC iv at*;go_enter func193,ntmps193;go_wp2_with (first|(go_at_call 53;first|(refine(P2.out _ _ _ H2.out).mono ?_;rintro e w3 ⟨rfl,B3,c3,hX,hf⟩;have H3:=G hX;have F3:=G hf;clear hX hf)|(refine P1.out.mono ?_;rintro e w1 ⟨rfl,B1,c1,hX,hf⟩;have H1:=G hX;have F1:=G hf;have n6:=(hf.blk _ _ _ (by decide) (by decide) BN.out).at_ 6 (v:=.slice A kids.length c) rfl;clear hX hf))|(go_at_call 223;refine(LS.out _ _ _ H1.out).mono ?_;rintro e w2 ⟨rfl,B2,c2,hX,hf⟩;have H2:=G hX;have F2:=G hf;clear hX hf)|fail);go_end0;exact⟨rfl,B3,c3,H3.out,((HF.out.trans F1.out).trans F2.out).trans F3.out⟩
theorem jB6(w W:World)(hg:Sg w)(h8:8<=w.heap.size)(t:Tre)(s:Sl)(f:Nat)(PX:PxAll w t s f)(next:Nat)(l l' :LB)(B:OA)(bc:Nat)(h:Pr w t s next l B bc W)(x:MNd)(Hm:24<=x.n.op/\x.n.op<=33)(hr:Rd w 1 x.A x.n.kids.length (x.n.kids.map iv))(hn:x.n.kids.length<=1000000000)(hk:yz t.nodes f x.n l=some l')(hl:l'.length<=jN):
  Calls prog 193 #[.pointer (some ⟨w.heap.size,0,none⟩),.agg (ndC x).toArray] W (PrR w t s next l' W):=by
 unfold yz at hk;obtain⟨⟨op,name,vk,vn,vt,vs,kids⟩,A,c,vA,vc⟩:=x;simp only at Hm hk hr hn;rw[jJ5 (by omega),jJ5 (by omega),jJ5 (by omega),jJ5 (by omega),jJ5 (by omega),jJ5 (by omega)]at hk;obtain⟨l1,h1,e⟩:=jM4 hk;subst e;have g1:=JO _ (fun k m b b' h=>jm _ f k m b b' h) _ _ _ _ h1;have g2:=(jG l1 [41]).1;have ho:=(jQ0 NoX W).alloc (.cells (ndC ⟨⟨op,name,vk,vn,vt,vs,kids⟩,A,c,vA,vc⟩).toArray 46);have Cw:=(h.sg hg h8).old ho;have SP:=G (vR _ Cw op (by omega));have BN:=G (jQ2 W 46 (ndC ⟨⟨op,name,vk,vn,vt,vs,kids⟩,A,c,vA,vc⟩).toArray);have q1:(op==1)=false:=jM3 (by omega);have q2:(op==2)=false:=jM3 (by omega);have q3:(op==3)=false:=jM3 (by omega);have q4:(op==4)=false:=jM3 (by omega);have q5:(op==5)=false:=jM3 (by omega);have q6:(op==6)=false:=jM3 (by omega);have P2:=G (fun W1 B1 c1 (hp:Pr w t s next l1 B1 c1 W1)=>JJ w W1 t s next l1 B1 c1 hp [⟨#[41]⟩] hl (show 1<=1000 by decide));have HF:=G (FrP.of_old ho);by_cases hz:name.size=0
 ·simp only[jJ6 hz]at h1 g1;have L1:(!name.toList.isEmpty)=false:=by rw[ke,jK5 hz];rfl
  have P1:=G (jQ w _ t s next l B bc (h.old ho) (W.heap.size+1) (by simp) [⟨(jA op).toArray⟩,⟨#[40]⟩] (jL4 g1 (jL4 g2 hl)) (show 2<=1000 by decide));have LS:=G (fun W1 B1 c1 (hp:Pr w t s next (jI (jI l (jA op)) [40]) B1 c1 W1)=>Kv w W1 t s f PX next _ l1 B1 c1 hp A c kids hr hn h1 (jL4 g2 hl));clear h hk hl ho h1 g1 g2 hr hn PX hz Cw hg Hm;unfold ndC iv at*;go_enter func193,ntmps193;go_wp2_with (first|(go_at_call 192;refine SP.out.mono ?_;rintro e w0 ⟨rfl,rfl⟩)|(go_at_call 53;first|(refine(P2.out _ _ _ H2.out).mono ?_;rintro e w3 ⟨rfl,B3,c3,hX,hf⟩;have H3:=G hX;have F3:=G hf;clear hX hf)|(refine P1.out.mono ?_;rintro e w1 ⟨rfl,B1,c1,hX,hf⟩;have H1:=G hX;have F1:=G hf;have n1:=(hf.blk _ _ _ (by decide) (by decide) BN.out).at_ 1 (v:=.string name) rfl;have n6:=(hf.blk _ _ _ (by decide) (by decide) BN.out).at_ 6 (v:=.slice A kids.length c) rfl;clear hX hf))|(go_at_call 223;refine(LS.out _ _ _ H1.out).mono ?_;rintro e w2 ⟨rfl,B2,c2,hX,hf⟩;have H2:=G hX;have F2:=G hf;clear hX hf)|fail);go_end0;exact⟨rfl,B3,c3,H3.out,((HF.out.trans F1.out).trans F2.out).trans F3.out⟩
 ·simp only[jJ5 hz]at h1 g1;have L1:(!name.toList.isEmpty)=true:=by rw[ke,jK3 hz];rfl
  have g3:=(jG (jI (jI l (jA op)) [40]) (tb name)).1;have P1:=G (jQ w _ t s next l B bc (h.old ho) (W.heap.size+1) (by simp) [⟨(jA op).toArray⟩,⟨#[40]⟩] (jL4 g3 (jL4 g1 (jL4 g2 hl))) (show 2<=1000 by decide));have PN:=G (fun W1 B1 c1 (hp:Pr w t s next (jI (jI l (jA op)) [40]) B1 c1 W1)=>JJ w W1 t s next _ B1 c1 hp [name] (jL4 g1 (jL4 g2 hl)) (show 1<=1000 by decide));have LS:=G (fun W1 B1 c1 (hp:Pr w t s next (jI (jI (jI l (jA op)) [40]) (tb name)) B1 c1 W1)=>Kv w W1 t s f PX next _ l1 B1 c1 hp A c kids hr hn h1 (jL4 g2 hl));clear h hk hl ho h1 g1 g2 g3 hr hn PX hz Cw hg Hm;unfold ndC iv at*;go_enter func193,ntmps193;go_wp2_with (first|(go_at_call 192;refine SP.out.mono ?_;rintro e w0 ⟨rfl,rfl⟩)|(go_at_call 53;first|(refine(P2.out _ _ _ H2.out).mono ?_;rintro e w3 ⟨rfl,B3,c3,hX,hf⟩;have H3:=G hX;have F3:=G hf;clear hX hf)|(refine(PN.out _ _ _ H1.out).mono ?_;rintro e w4 ⟨rfl,B4,c4,hX,hf⟩;have H4:=G hX;have F4:=G hf;have n6:=(hf.blk _ _ _ (by decide) (by decide) (F1.out.blk _ _ _ (by decide) (by decide) BN.out)).at_ 6 (v:=.slice A kids.length c) rfl;clear hX hf)|(refine P1.out.mono ?_;rintro e w1 ⟨rfl,B1,c1,hX,hf⟩;have H1:=G hX;have F1:=G hf;have n1:=(hf.blk _ _ _ (by decide) (by decide) BN.out).at_ 1 (v:=.string name) rfl;clear hX hf))|(go_at_call 223;refine(LS.out _ _ _ H4.out).mono ?_;rintro e w2 ⟨rfl,B2,c2,hX,hf⟩;have H2:=G hX;have F2:=G hf;clear hX hf)|fail);go_end0;exact⟨rfl,B3,c3,H3.out,(((HF.out.trans F1.out).trans F4.out).trans F2.out).trans F3.out⟩
theorem jBV:∀(ns:List MNd) (k:Nat) (x:MNd),ns[k]? =some x->∀i,i<7->(ns.flatMap ndC)[k*7+i]? =(ndC x)[i]?
 |[],_,_,h=>by cases h
 |y::l,0,x,h=>by
  intro i hi;injection h with h;subst h;rw[jL9,Nat.zero_mul,Nat.zero_add,List.getElem?_append_left (by simp only[ndC,jK6,jN2];omega)]
 |y::l,k+1,x,h=>by
  intro i hi;rw[jL9,List.getElem?_append_right (by simp only[ndC,jK6,jN2];omega)];have:=jBV l k x h i hi;rw[<-this]
  congr 1
  simp only[ndC,jK6,jN2];omega
theorem jAt{w:World}{A:OA}{n:Nat}{ns:List MNd}(hr:Rd w 7 A n (ns.flatMap ndC)){k:Nat}{x:MNd}(hk:ns[k]? =some x)(hn:k<n):∃b o,A=some ⟨b,o,none⟩/\∀i u,(ndC x)[i]? =some u->w.cell? ⟨b,o+(k*7+i),none⟩=some u:=by
 obtain⟨b,o,hA,hc⟩:=hr.2 (by omega);refine⟨b,o,hA,fun i u hu=>hc _ u ?_⟩;have hi:i<7:=by
  have:=(jM5 hu).1;simpa [ndC]using this
 rw[jBV ns k x hk i hi];exact hu
structure TrN(w:World)(t:Tre)(s:Sl)(ns:List MNd):Prop where
 rows:Rd w 7 s.nA t.nodes.length (ns.flatMap ndC)
 eq:ns.map (·.n)=t.nodes
 cnt:t.nodes.length<=1000000
 ok:∀x∈ns,Rd w 1 x.A x.n.kids.length (x.n.kids.map iv)/\x.n.kids.length<=1000000000
theorem TrN.at_{w:World}{t:Tre}{s:Sl}{ns:List MNd}(h:TrN w t s ns){k:Nat}{n:Nd}(hk:t.nodes[k]? =some n):∃x b o,ns[k]? =some x/\x.n=n/\s.nA=some ⟨b,o,none⟩/\(∀i u,(ndC x)[i]? =some u->w.cell? ⟨b,o+(k*7+i),none⟩=some u)/\Rd w 1 x.A x.n.kids.length (x.n.kids.map iv)/\x.n.kids.length<=1000000000:=by
 have hlt:=(jM5 hk).1;rw[<-h.eq,jM1]at hk;obtain⟨x,hx,e⟩:=jM4 hk;obtain⟨b,o,hA,hc⟩:=jAt h.rows hx hlt;have hm:=List.mem_of_getElem? hx;exact⟨x,b,o,hx,e,hA,hc,h.ok x hm⟩
theorem jFj(w W:World)(t:Tre)(s:Sl)(ns:List MNd)(TN:TrN w t s ns)(next:Nat)(l:LB)(B:OA)(bc:Nat)(h:Pr w t s next l B bc W)(root least:Nat)(Fa:least<=8)(n:Nd)(hn:t.nodes[root]? =some n)(h8:jD n.op=8)(l' :LB)
  (HA:∀(W1:World) (x:MNd),x.n=n->Rd w 1 x.A x.n.kids.length (x.n.kids.map iv)->x.n.kids.length<=1000000000->Pr w t s next l B bc W1->Calls prog 193 #[.pointer (some ⟨w.heap.size,0,none⟩),.agg (ndC x).toArray] W1 (PrR w t s next l' W1)):
  Calls prog 156 #[.pointer (some ⟨w.heap.size,0,none⟩),iv (root:Int),iv (least:Int)] W (PrR w t s next l' W):=by
 obtain⟨x,b,o,hx,e,hA,hc,Ff,Gj⟩:=TN.at_ hn;have hlt:=(jM5 hn).1;have FK:=TN.cnt;have Nt:=h.c6;rw[hA]at Nt;obtain⟨⟨op,name,vk,vn,vt,vs,kids⟩,A,c,vA,vc⟩:=x;have hw:∀i u,(ndC ⟨⟨op,name,vk,vn,vt,vs,kids⟩,A,c,vA,vc⟩)[i]? =some u->W.cell? ⟨b,o+(root*7+i),none⟩=some u:=fun i u hu=>by
  have h1:=hc i u hu;have hb:=je h1;rw[World.cell?_of_block (h.kp.block b hb (fun e:w.heap.size<=b=>by have:b<w.heap.size:=hb;omega))];exact h1
 have c0:W.cell? ⟨b,o+root*7,none⟩=some (.int .i64 op):=hw 0 _ rfl;have c1:W.cell? ⟨b,o+root*7+1,none⟩=some (.string name):=hw 1 _ rfl;have c2:W.cell? ⟨b,o+root*7+2,none⟩=some (.int .i64 vk):=hw 2 _ rfl;have c3:W.cell? ⟨b,o+root*7+3,none⟩=some (.int .i64 vn):=hw 3 _ rfl;have c4:W.cell? ⟨b,o+root*7+4,none⟩=some (.string vt):=hw 4 _ rfl;have c5:W.cell? ⟨b,o+root*7+5,none⟩=some (.slice vA vs.length vc):=hw 5 _ rfl;have c6:W.cell? ⟨b,o+root*7+6,none⟩=some (.slice A kids.length c):=hw 6 _ rfl;have Ig:=G (fun W1 (hp:Pr w t s next l B bc W1)=>HA W1 _ e Ff Gj hp);have ho:=(jQ0 NoX W).alloc (.cells (ndC ⟨⟨op,name,vk,vn,vt,vs,kids⟩,A,c,vA,vc⟩).toArray 46);have H1:=G (h.old ho);have HF:=G (FrP.of_old ho);have Hm:jD op=8:=by rw[<-e]at h8;exact h8
 have Na:=G (fun W1=>vp W1 op);rw[Hm]at Na;have f1:(0:Int)<=(root:Int):=(by omega);have f2:(root:Int).toNat=root:=(by omega);have f3:(root:Int)<(t.nodes.length:Int):=(by omega);have f4:¬(8:Int)<(least:Int):=(by omega);clear h hx hc hw Ff Gj TN HA ho Hm h8 hn FK e;unfold ndC iv at*
 go_enter_defers func156,ntmps156
 go_wp2_with (first|(go_at_call 191;refine(Na.out _).mono ?_;rintro e w1 ⟨rfl,rfl⟩)|(go_at_call 193;refine(Ig.out _ H1.out).mono ?_;rintro e w2 ⟨rfl,B2,c2,hX,hf⟩)|fail);have GE:=G (show PrR w t s next l' W (.returned (.tuple #[])) w2 from⟨rfl,B2,c2,hX,HF.out.trans hf⟩);clear hX hf;simp[bodyPostD,Leaves,results,results156,go_sem];exact GE.out
theorem jG8(w W:World)(hg:Sg w)(Fg:8<=w.heap.size)(t:Tre)(s:Sl)(ns:List MNd)(TN:TrN w t s ns)(f:Nat)(PX:PxAll w t s f)(next:Nat)(l:LB)(B:OA)(bc:Nat)(h:Pr w t s next l B bc W)(root least own:Nat)(n:Nd)(hn:t.nodes[root]? =some n)(Hi:jD n.op=own)(Bf:own=3\/own=7)(Fa:least<=own)(Hm:n.op=8\/n.op=7)
  (k:Int) (tl:List Int) (Fw:n.kids=k::tl) (l' :LB) (hk:exprP t.nodes f k own (jI l (jA n.op))=some l') (hl:l'.length<=jN):
  Calls prog 156 #[.pointer (some ⟨w.heap.size,0,none⟩),iv (root:Int),iv (least:Int)] W (PrR w t s next l' W):=by
 obtain⟨x,b,o,hx,e,hA,hc,Ff,Gj⟩:=TN.at_ hn;have hlt:=(jM5 hn).1;have FK:=TN.cnt;have Nt:=h.c6;rw[hA]at Nt;obtain⟨⟨op,name,vk,vn,vt,vs,kids⟩,A,c,vA,vc⟩:=x;subst e;simp only at Fw Hi Hm Ff hk;subst Fw;have hw:∀i u,(ndC ⟨⟨op,name,vk,vn,vt,vs,k::tl⟩,A,c,vA,vc⟩)[i]? =some u->W.cell? ⟨b,o+(root*7+i),none⟩=some u:=fun i u hu=>by
  have h1:=hc i u hu;have hb:=je h1;rw[World.cell?_of_block (h.kp.block b hb (fun e:w.heap.size<=b=>by have:b<w.heap.size:=hb;omega))];exact h1
 have c0:W.cell? ⟨b,o+root*7,none⟩=some (.int .i64 op):=hw 0 _ rfl;have c1:W.cell? ⟨b,o+root*7+1,none⟩=some (.string name):=hw 1 _ rfl;have c2:W.cell? ⟨b,o+root*7+2,none⟩=some (.int .i64 vk):=hw 2 _ rfl;have c3:W.cell? ⟨b,o+root*7+3,none⟩=some (.int .i64 vn):=hw 3 _ rfl;have c4:W.cell? ⟨b,o+root*7+4,none⟩=some (.string vt):=hw 4 _ rfl;have c5:W.cell? ⟨b,o+root*7+5,none⟩=some (.slice vA vs.length vc):=hw 5 _ rfl;have c6:W.cell? ⟨b,o+root*7+6,none⟩=some (.slice A (tl.length+1) c):=hw 6 _ rfl;have ho:=(jQ0 NoX W).alloc (.cells (ndC ⟨⟨op,name,vk,vn,vt,vs,k::tl⟩,A,c,vA,vc⟩).toArray 46);have BN:=G (jQ2 W 46 (ndC ⟨⟨op,name,vk,vn,vt,vs,k::tl⟩,A,c,vA,vc⟩).toArray);have HF:=G (FrP.of_old ho);have SP:=G (vR _ ((h.sg hg Fg).old ho) op (by omega));have g1:=jm _ f _ _ _ _ hk;have P1:=G (jQ w _ t s next l B bc (h.old ho) (W.heap.size+1) (by simp) [⟨(jA op).toArray⟩] (jL4 g1 hl) (show 1<=1000 by decide));have EX:=G (fun W1 B1 c1 (hp:Pr w t s next (jI l (jA op)) B1 c1 W1)=>PX.ex W1 next _ l' B1 c1 k own hp (by omega) hk hl);have Na:=G (fun W1=>vp W1 op);rw[Hi]at Na;obtain⟨kb,ko,u,WW,hu,MO⟩:=Ff.at_ (k:=0) (Nat.succ_pos _);have G9:iv k=u:=(by injection hu);subst G9;subst WW;have KC:=G (fun W1 B1 c1 l1 (hp:Pr w t s next l1 B1 c1 W1)=>(show W1.cell? ⟨kb,ko,none⟩=some (.int .i64 k)from by
  have hb:=je MO;rw[World.cell?_of_block (hp.kp.block kb hb (fun e:w.heap.size<=kb=>by have:kb<w.heap.size:=hb;omega))];exact MO))
 have f1:(0:Int)<=(root:Int):=(by omega);have f2:(root:Int).toNat=root:=(by omega);have f3:(root:Int)<(t.nodes.length:Int):=(by omega);have f4:¬(own:Int)<(least:Int):=(by omega);clear h hx hc hw Ff Gj TN PX ho hn FK hl hk g1 hu MO hg Fg Hi Hm Fa;unfold ndC iv at*;rcases Bf with rfl|rfl
 all_goals
  go_enter_defers func156,ntmps156
  go_wp2_with (first|(go_at_call 191;refine(Na.out _).mono ?_;rintro e w1 ⟨rfl,rfl⟩)|(go_at_call 192;refine SP.out.mono ?_;rintro e w1 ⟨rfl,rfl⟩)|(go_at_call 53;refine P1.out.mono ?_;rintro e w2 ⟨rfl,B2,c2,hX,hf⟩;have H2:=G hX;have F2:=G hf;have n6:=(hf.blk _ _ _ (by decide) (by decide) BN.out).at_ 6 (v:=.slice (some ⟨kb,ko,none⟩) (tl.length+1) c) rfl;have k0:=KC.out _ _ _ _ hX;clear hX hf)|(go_at_call 156;refine(EX.out _ _ _ H2.out).mono ?_;rintro e w3 ⟨rfl,B3,c3,hX,hf⟩)|fail);have GE:=G (show PrR w t s next l' W (.returned (.tuple #[])) w3 from⟨rfl,B3,c3,hX,(HF.out.trans F2.out).trans hf⟩);clear hX hf;simp[bodyPostD,Leaves,results,results156,go_sem];exact GE.out
theorem yO(w W:World)(t:Tre)(s:Sl)(f:Nat)(PX:PxAll w t s f)(next:Nat)(l l' :LB)(B:OA)(bc:Nat)(h:Pr w t s next l B bc W)(k:Nat)(hk:k=W.heap.size)(ws:List BA)(root:Int)(h0:0<=root)
  (he:exprP t.nodes f root 0 (jT l (ws.map sb))=some l') (hp:(jT l (ws.map sb)).length<=jN) (hl:l'.length<=jN) (Wm:ws.length<=1000):
  Calls prog 118 #[.pointer (some ⟨w.heap.size,0,none⟩),iv root,.slice (some ⟨k,0,none⟩) ws.length ws.length] (W.alloc (.cells (ws.map sv).toArray 9)) (PrR w t s next l' W):=by
 subst hk;have ho:=(jQ0 NoX W).alloc (.cells (ws.map sv).toArray 9);exact(xv w _ t s f PX next l l' B bc (h.old ho) W.heap.size ws (jQ2 _ _ _) root h0 he hp hl Wm).mono (fun _ _ hX=>PrR.of (FrP.of_old ho) hX)
theorem jFg(w W:World)(hg:Sg w)(Fg:8<=w.heap.size)(t:Tre)(s:Sl)(ns:List MNd)(TN:TrN w t s ns)(f:Nat)(PX:PxAll w t s f)(next:Nat)(l:LB)(B:OA)(bc:Nat)(h:Pr w t s next l B bc W)(root least:Nat)(own own1:Nat)(n:Nd)(hn:t.nodes[root]? =some n)(Hi:jD n.op=own)(hw:own=1/\own1=2\/own=2/\own1=3\/own=5/\own1=6\/own=6/\own1=7)(Fa:least<=own)(Hm:7<=n.op/\n.op<=33/\n.op≠23)
  (k q:Int) (tl:List Int) (Fw:n.kids=k::q::tl) (lm l' :LB) (hk:exprP t.nodes f k own l=some lm) (hq:exprP t.nodes f q own1 (jI lm (jA n.op))=some l') (hl:l'.length<=jN):
  Calls prog 156 #[.pointer (some ⟨w.heap.size,0,none⟩),iv (root:Int),iv (least:Int)] W (PrR w t s next l' W):=by
 obtain⟨x,b,o,hx,e,hA,hc,Ff,Gj⟩:=TN.at_ hn;have hlt:=(jM5 hn).1;have FK:=TN.cnt;have Nt:=h.c6;rw[hA]at Nt;obtain⟨⟨op,name,vk,vn,vt,vs,kids⟩,A,c,vA,vc⟩:=x;subst e;simp only at Fw Hi Hm Ff hk hq;subst Fw;have FG:∀i u,(ndC ⟨⟨op,name,vk,vn,vt,vs,k::q::tl⟩,A,c,vA,vc⟩)[i]? =some u->W.cell? ⟨b,o+(root*7+i),none⟩=some u:=fun i u hu=>by
  have h1:=hc i u hu;have hb:=je h1;rw[World.cell?_of_block (h.kp.block b hb (fun e:w.heap.size<=b=>by have:b<w.heap.size:=hb;omega))];exact h1
 have c0:W.cell? ⟨b,o+root*7,none⟩=some (.int .i64 op):=FG 0 _ rfl;have c1:W.cell? ⟨b,o+root*7+1,none⟩=some (.string name):=FG 1 _ rfl;have c2:W.cell? ⟨b,o+root*7+2,none⟩=some (.int .i64 vk):=FG 2 _ rfl;have c3:W.cell? ⟨b,o+root*7+3,none⟩=some (.int .i64 vn):=FG 3 _ rfl;have c4:W.cell? ⟨b,o+root*7+4,none⟩=some (.string vt):=FG 4 _ rfl;have c5:W.cell? ⟨b,o+root*7+5,none⟩=some (.slice vA vs.length vc):=FG 5 _ rfl;have c6:W.cell? ⟨b,o+root*7+6,none⟩=some (.slice A (tl.length+1+1) c):=FG 6 _ rfl;have ho:=(jQ0 NoX W).alloc (.cells (ndC ⟨⟨op,name,vk,vn,vt,vs,k::q::tl⟩,A,c,vA,vc⟩).toArray 46);have BN:=G (jQ2 W 46 (ndC ⟨⟨op,name,vk,vn,vt,vs,k::q::tl⟩,A,c,vA,vc⟩).toArray);have HF:=G (FrP.of_old ho);have H0:=G (h.old ho);have Na:=G (fun W1=>vp W1 op);rw[Hi]at Na;have gf:l'.length<=jN:=hl;have g2:(jI lm (jA op)).length<=jN:=jL4 (jm _ f _ _ _ _ hq) gf;have gm:lm.length<=jN:=jL4 (jG lm (jA op)).1 g2;have SP:=G (fun W1 l1 B1 c1 (hp:Pr w t s next l1 B1 c1 W1)=>vR W1 (hp.sg hg Fg) op (by omega));have P1:=G (fun W1 B1 c1 Q (hp:Pr w t s next lm B1 c1 W1) (hQ:Q=W1.heap.size)=>jQ w W1 t s next lm B1 c1 hp Q hQ [⟨(jA op).toArray⟩] g2 (show 1<=1000 by decide));have EX1:=G (fun W1 B1 c1 (hp:Pr w t s next l B1 c1 W1)=>PX.ex W1 next _ lm B1 c1 k own hp (by omega) hk gm);have EX2:=G (fun W1 B1 c1 (hp:Pr w t s next (jI lm (jA op)) B1 c1 W1)=>PX.ex W1 next _ l' B1 c1 q own1 hp (by omega) hq gf);obtain⟨kb,ko,u0,WW,NT,FS⟩:=Ff.at_ (k:=0) (Nat.succ_pos _);have e0:iv k=u0:=(by injection NT);subst e0;subst WW;have KC0:=G (fun W1 l1 B1 c1 (hp:Pr w t s next l1 B1 c1 W1)=>(show W1.cell? ⟨kb,ko,none⟩=some (.int .i64 k)from by
  have hb:=je FS;rw[World.cell?_of_block (hp.kp.block kb hb (fun e:w.heap.size<=kb=>by have:kb<w.heap.size:=hb;omega))];exact FS))
 have Gb:w.cell? ⟨kb,ko+1,none⟩=some (iv q):=by
  obtain⟨b2,o2,Fj,FE⟩:=Ff.2 (Nat.succ_pos _);have eb:=jL5 Fj;have e1:kb=b2:=congrArg Addr.block eb;have e2:ko=o2:=congrArg Addr.off eb;rw[e1,e2];exact FE 1 _ rfl
 have KC1:=G (fun W1 l1 B1 c1 (hp:Pr w t s next l1 B1 c1 W1)=>(show W1.cell? ⟨kb,ko+1,none⟩=some (.int .i64 q)from by
  have hb:=je Gb;rw[World.cell?_of_block (hp.kp.block kb hb (fun e:w.heap.size<=kb=>by have:kb<w.heap.size:=hb;omega))];exact Gb))
 have f1:(0:Int)<=(root:Int):=(by omega);have f2:(root:Int).toNat=root:=(by omega);have f3:(root:Int)<(t.nodes.length:Int):=(by omega);have f4:¬((own:Int):Int)<(least:Int):=(by omega);clear h hx hc FG Ff Gj TN PX ho hn FK hl hk NT Hi gf hg Fg Hm hq g2 gm FS Gb Fa;unfold ndC iv at*;rcases hw with⟨rfl,rfl⟩|⟨rfl,rfl⟩|⟨rfl,rfl⟩|⟨rfl,rfl⟩
 all_goals
  have k0:=KC0.out _ _ _ _ H0.out;simp only[jK6]at k0
  go_enter_defers func156,ntmps156
  go_wp2_with (first|(go_at_call 156;refine(EX2.out _ _ _ H2.out).mono ?_;rintro e w4 ⟨rfl,B3,c3',hX,hf⟩;have H3:=G hX;have F3:=G (F2.out.trans hf);clear hX hf)|(go_at_call 53;refine(P1.out _ _ _ _ H1.out (by simp)).mono ?_;rintro e w3 ⟨rfl,B2,c2',hX,hf⟩;have H2:=G hX;have F2:=G (F1.out.trans hf);have n6:=(F2.out.blk _ _ _ (by decide) (by decide) BN.out).at_ 6 (v:=(.slice (some ⟨kb,ko,none⟩) (tl.length+1+1) c)) rfl;have k1:=KC1.out _ _ _ _ hX;clear hX hf)|(go_at_call 156;refine(EX1.out _ _ _ H0.out).mono ?_;rintro e w2 ⟨rfl,B1,c1',hX,hf⟩;have H1:=G hX;have F1:=G (hf);have n0:=(F1.out.blk _ _ _ (by decide) (by decide) BN.out).at_ 0 (v:=(.int .i64 op)) rfl;clear hX hf)|(go_at_call 191;refine(Na.out _).mono ?_;rintro e w1 ⟨rfl,rfl⟩)|(go_at_call 192;refine(SP.out _ _ _ _ H1.out).mono ?_;rintro e ws ⟨rfl,rfl⟩)|fail);have GE:=G (show PrR w t s next l' W (.returned (.tuple #[])) w4 from⟨rfl,B3,c3',H3.out,HF.out.trans F3.out⟩);simp[bodyPostD,Leaves,results,results156,go_sem];exact GE.out
theorem jFf(w W:World)(hg:Sg w)(Fg:8<=w.heap.size)(t:Tre)(s:Sl)(ns:List MNd)(TN:TrN w t s ns)(f:Nat)(PX:PxAll w t s f)(next:Nat)(l:LB)(B:OA)(bc:Nat)(h:Pr w t s next l B bc W)(root least:Nat)(own own1:Nat)(n:Nd)(hn:t.nodes[root]? =some n)(Hi:jD n.op=own)(hw:own=1/\own1=2\/own=2/\own1=3\/own=5/\own1=6\/own=6/\own1=7)(Fa:own<least)(LW:least<=8)(Hm:7<=n.op/\n.op<=33/\n.op≠23)
  (k q:Int) (tl:List Int) (Fw:n.kids=k::q::tl) (lm l' :LB) (hk:exprP t.nodes f k own (jI l [40])=some lm) (hq:exprP t.nodes f q own1 (jI lm (jA n.op))=some l') (hl:(jI l' [41]).length<=jN):
  Calls prog 156 #[.pointer (some ⟨w.heap.size,0,none⟩),iv (root:Int),iv (least:Int)] W (PrR w t s next (jI l' [41]) W):=by
 obtain⟨x,b,o,hx,e,hA,hc,Ff,Gj⟩:=TN.at_ hn;have hlt:=(jM5 hn).1;have FK:=TN.cnt;have Nt:=h.c6;rw[hA]at Nt;obtain⟨⟨op,name,vk,vn,vt,vs,kids⟩,A,c,vA,vc⟩:=x;subst e;simp only at Fw Hi Hm Ff hk hq;subst Fw;have FG:∀i u,(ndC ⟨⟨op,name,vk,vn,vt,vs,k::q::tl⟩,A,c,vA,vc⟩)[i]? =some u->W.cell? ⟨b,o+(root*7+i),none⟩=some u:=fun i u hu=>by
  have h1:=hc i u hu;have hb:=je h1;rw[World.cell?_of_block (h.kp.block b hb (fun e:w.heap.size<=b=>by have:b<w.heap.size:=hb;omega))];exact h1
 have c0:W.cell? ⟨b,o+root*7,none⟩=some (.int .i64 op):=FG 0 _ rfl;have c1:W.cell? ⟨b,o+root*7+1,none⟩=some (.string name):=FG 1 _ rfl;have c2:W.cell? ⟨b,o+root*7+2,none⟩=some (.int .i64 vk):=FG 2 _ rfl;have c3:W.cell? ⟨b,o+root*7+3,none⟩=some (.int .i64 vn):=FG 3 _ rfl;have c4:W.cell? ⟨b,o+root*7+4,none⟩=some (.string vt):=FG 4 _ rfl;have c5:W.cell? ⟨b,o+root*7+5,none⟩=some (.slice vA vs.length vc):=FG 5 _ rfl;have c6:W.cell? ⟨b,o+root*7+6,none⟩=some (.slice A (tl.length+1+1) c):=FG 6 _ rfl;have ho:=(jQ0 NoX W).alloc (.cells (ndC ⟨⟨op,name,vk,vn,vt,vs,k::q::tl⟩,A,c,vA,vc⟩).toArray 46);have BN:=G (jQ2 W 46 (ndC ⟨⟨op,name,vk,vn,vt,vs,k::q::tl⟩,A,c,vA,vc⟩).toArray);have HF:=G (FrP.of_old ho);have H0:=G (h.old ho);have Na:=G (fun W1=>vp W1 op);rw[Hi]at Na;have gf:l'.length<=jN:=jL4 (jG l' [41]).1 hl;have g2:(jI lm (jA op)).length<=jN:=jL4 (jm _ f _ _ _ _ hq) gf;have gm:lm.length<=jN:=jL4 (jG lm (jA op)).1 g2;have g0:(jI l [40]).length<=jN:=jL4 (jm _ f _ _ _ _ hk) gm;have P0:=G (jQ w _ t s next l B bc (h.old ho) (W.heap.size+1) (by simp) [⟨#[40]⟩] g0 (show 1<=1000 by decide));have PZ:=G (fun W1 B1 c1 Q (hp:Pr w t s next l' B1 c1 W1) (hb:Blk W1 Q 9 #[.string ⟨#[41]⟩])=>jCq w W1 t s next l' B1 c1 hp Q [⟨#[41]⟩] hb hl (show 1<=1000 by decide) .returning);have SP:=G (fun W1 l1 B1 c1 (hp:Pr w t s next l1 B1 c1 W1)=>vR W1 (hp.sg hg Fg) op (by omega));have P1:=G (fun W1 B1 c1 Q (hp:Pr w t s next lm B1 c1 W1) (hQ:Q=W1.heap.size)=>jQ w W1 t s next lm B1 c1 hp Q hQ [⟨(jA op).toArray⟩] g2 (show 1<=1000 by decide));have EX1:=G (fun W1 B1 c1 (hp:Pr w t s next (jI l [40]) B1 c1 W1)=>PX.ex W1 next _ lm B1 c1 k own hp (by omega) hk gm);have EX2:=G (fun W1 B1 c1 (hp:Pr w t s next (jI lm (jA op)) B1 c1 W1)=>PX.ex W1 next _ l' B1 c1 q own1 hp (by omega) hq gf);obtain⟨kb,ko,u0,WW,NT,FS⟩:=Ff.at_ (k:=0) (Nat.succ_pos _);have e0:iv k=u0:=(by injection NT);subst e0;subst WW;have KC0:=G (fun W1 l1 B1 c1 (hp:Pr w t s next l1 B1 c1 W1)=>(show W1.cell? ⟨kb,ko,none⟩=some (.int .i64 k)from by
  have hb:=je FS;rw[World.cell?_of_block (hp.kp.block kb hb (fun e:w.heap.size<=kb=>by have:kb<w.heap.size:=hb;omega))];exact FS))
 have Gb:w.cell? ⟨kb,ko+1,none⟩=some (iv q):=by
  obtain⟨b2,o2,Fj,FE⟩:=Ff.2 (Nat.succ_pos _);have eb:=jL5 Fj;have e1:kb=b2:=congrArg Addr.block eb;have e2:ko=o2:=congrArg Addr.off eb;rw[e1,e2];exact FE 1 _ rfl
 have KC1:=G (fun W1 l1 B1 c1 (hp:Pr w t s next l1 B1 c1 W1)=>(show W1.cell? ⟨kb,ko+1,none⟩=some (.int .i64 q)from by
  have hb:=je Gb;rw[World.cell?_of_block (hp.kp.block kb hb (fun e:w.heap.size<=kb=>by have:kb<w.heap.size:=hb;omega))];exact Gb))
 have f1:(0:Int)<=(root:Int):=(by omega);have f2:(root:Int).toNat=root:=(by omega);have f3:(root:Int)<(t.nodes.length:Int):=(by omega);have f4:((own:Int):Int)<(least:Int):=(by omega);clear h hx hc FG Ff Gj TN PX ho hn FK hl hk NT Hi gf hg Fg Hm hq g2 gm FS Gb Fa LW g0;unfold ndC iv at*;rcases hw with⟨rfl,rfl⟩|⟨rfl,rfl⟩|⟨rfl,rfl⟩|⟨rfl,rfl⟩
 all_goals
  go_enter_defers func156,ntmps156
  go_wp2_with (first|(go_at_call 156;refine(EX2.out _ _ _ H3.out).mono ?_;rintro e w5 ⟨rfl,B4,c4',hX,hf⟩;have H4:=G hX;have F4:=G (F3.out.trans hf);have G4:=G (G3.out.trans hf);clear hX hf)|(go_at_call 53;refine(P1.out _ _ _ _ H2.out (by simp)).mono ?_;rintro e w4 ⟨rfl,B3,c3',hX,hf⟩;have H3:=G hX;have F3:=G (F2.out.trans hf);have n6:=(F3.out.blk _ _ _ (by decide) (by decide) BN.out).at_ 6 (v:=(.slice (some ⟨kb,ko,none⟩) (tl.length+1+1) c)) rfl;have k1:=KC1.out _ _ _ _ hX;have G3:=G (G2.out.trans hf);clear hX hf)|(go_at_call 156;refine(EX1.out _ _ _ LI.out).mono ?_;rintro e w3 ⟨rfl,B2,c2',hX,hf⟩;have H2:=G hX;have F2:=G (F1'.out.trans hf);have n0:=(F2.out.blk _ _ _ (by decide) (by decide) BN.out).at_ 0 (v:=(.int .i64 op)) rfl;have G2:=G (hf);clear hX hf)|(go_at_call 53;refine P0.out.mono ?_;rintro e w2 ⟨rfl,B1,c1',hX,hf⟩;have H1:=G hX;have F1:=G (hf);have n6:=(F1.out.blk _ _ _ (by decide) (by decide) BN.out).at_ 6 (v:=(.slice (some ⟨kb,ko,none⟩) (tl.length+1+1) c)) rfl;have k0:=KC0.out _ _ _ _ hX;have BZ:=G (jQ2 w2 9 #[.string ⟨#[41]⟩]);have G8:=(jQ0 NoX w2).alloc (.cells #[.string ⟨#[41]⟩] 9);have LI:=G (H1.out.old G8);have F1' :=G (F1.out.trans (FrP.of_old G8));clear G8;have n6:=(F1'.out.blk _ _ _ (by decide) (by decide) BN.out).at_ 6 (v:=(.slice (some ⟨kb,ko,none⟩) (tl.length+1+1) c)) rfl;have k0:=KC0.out _ _ _ _ LI.out;clear hX hf)|(go_at_call 191;refine(Na.out _).mono ?_;rintro e w1 ⟨rfl,rfl⟩)|(go_at_call 192;refine(SP.out _ _ _ _ H2.out).mono ?_;rintro e ws ⟨rfl,rfl⟩)|fail);have BZ2:=G (G4.out.blk _ _ _ (by decide) (by decide) BZ.out);have GE:=G (HF.out.trans F4.out);refine leaves_cons (f:=53) (args:= #[.pointer (some ⟨w.heap.size,0,none⟩),.slice (some ⟨w2.heap.size,0,none⟩) 1 1]) (by simp) (by simp[go_sem]) ?_;refine(PZ.out _ _ _ _ H4.out BZ2.out).mono ?_;rintro e u' w'' ⟨rfl,rfl,B9,c9,hX,hf⟩;have Pz:=G (show PrR w t s next (jI l' [41]) W (.returned (.tuple #[])) w'' from⟨rfl,B9,c9,hX,GE.out.trans hf⟩);clear hX hf;simp[Leaves,settle,results,results156,go_sem];exact Pz.out
def RightIn(ns:List Nd)(a b:Nat):Prop:=a<=b/\∀i,a<=i->i<b->∃n,ns[i]? =some n/\jK n=true
theorem RightIn.refl(ns:List Nd)(a:Nat):RightIn ns a a:=⟨jL3 _,fun i h1 h2=>by omega⟩
theorem RightIn.trans{ns:List Nd}{a b c:Nat}(h:RightIn ns a b)(k:RightIn ns b c):RightIn ns a c:=
 ⟨jL4 h.1 k.1,fun i h1 h2=>by
  rcases Nat.lt_or_ge i b with h3|h3
  ·exact h.2 i h1 h3
  ·exact k.2 i h3 h2⟩
theorem KZ{α:Type}(g:α->Nat->Option Nat):∀(l:List α),l.foldl (fun(s:Option Nat) k=>s.bind fun nx=>g k nx) none=none
 |[]=>rfl
 |_::l=>KZ g l
theorem jBU{ns:List Nd}{α:Type}(g:α->Nat->Option Nat)(hg:∀k a b,g k a=some b->RightIn ns a b):∀(l:List α) (a b:Nat),l.foldl (fun(s:Option Nat) k=>s.bind fun nx=>g k nx) (some a)=some b->RightIn ns a b
 |[],a,b,h=>by
  injection h with h;subst h;exact RightIn.refl _ _
 |k::l,a,b,h=>by
  rw[List.foldl_cons,jL2]at h;cases e:g k a with
  |none=>rw[e,KZ]at h;cases h
  |some c=>
   rw[e]at h;exact(hg k a c e).trans (jBU g hg l c b h)
theorem xo(ns:List Nd):∀(f:Nat) (root:Int) (a b:Nat),kQ ns f root a=some b->RightIn ns a b
 |0,_,_,_,h=>by cases h
 |f+1,root,a,b,h=>by
  rw[kQ]at h;by_cases h1:root<0\/(ns.length:Int)<=root
  ·rw[jJ6 h1]at h;cases h
  ·rw[jJ5 h1]at h;cases hn:ns[root.toNat]? with
   |none=>rw[hn]at h;cases h
   |some n=>
    rw[hn]at h;simp only at h;by_cases h2:jK n=false
    ·rw[jJ6 h2]at h;cases h
    ·rw[jJ5 h2]at h;obtain⟨nx,hf,h3⟩:=jM2 h;have hk:=jBU (ns:=ns) (fun k nx=>if root<=k then none else kQ ns f k nx) (fun k x y e=>by
      by_cases h4:root<=k
      ·rw[jJ6 h4]at e;cases e
      ·rw[jJ5 h4]at e;exact xo ns f k x y e) n.kids a nx hf
     by_cases h5:root=(nx:Int)
     ·rw[jJ6 h5]at h3;injection h3 with h3;subst h3;refine hk.trans ⟨by omega,fun i i1 i2=> ?_⟩;obtain rfl:i=root.toNat:=(by omega);exact⟨n,hn,by simpa using h2⟩
     ·rw[jJ5 h5]at h3;cases h3
theorem yg{ns:List Nd}{root:Int}{a b:Nat}(h:jX ns root a=some b):RightIn ns a b:=by
 unfold jX at h;split at h
 ·injection h with h;subst h;exact RightIn.refl _ _
 ·exact xo _ _ _ _ _ h
theorem jBg{ns:List Nd}:∀{l:List Eff} {a b:Nat},vE ns l a=some b->RightIn ns a b
 |[],a,b,h=>by
  injection h with h;subst h;exact RightIn.refl _ _
 |e::l,a,b,h=>by
  rw[vE]at h;split at h
  ·obtain⟨c,h1,h2⟩:=jM2 h;exact(yg h1).trans (jBg h2)
  ·cases h
theorem jFl{t:Tre}{d:Int×Int}{a b:Nat}(h:kZ t d a=some b):RightIn t.nodes a b:=by
 unfold kZ at h;split at h
 ·obtain⟨x,_,h⟩:=jM2 h;unfold KI at h;split at h
  ·obtain⟨c,h1,h2⟩:=jM2 h;exact(yg h1).trans (yg h2)
  ·cases h
 ·split at h
  ·obtain⟨x,_,h⟩:=jM2 h;unfold VM at h;split at h
   ·obtain⟨c,h1,h2⟩:=jM2 h;exact(yg h1).trans (yg h2)
   ·cases h
  ·split at h
   ·obtain⟨x,_,h⟩:=jM2 h;unfold Jd at h;split at h
    ·exact xo _ _ _ _ _ h
    ·cases h
   ·obtain⟨x,_,h⟩:=jM2 h;unfold Jc at h;split at h
    ·obtain⟨c,h1,h2⟩:=jM2 h;exact(yg h1).trans (jBg h2)
    ·cases h
theorem jEL{t:Tre}:∀{l:List (Int×Int)} {a b:Nat},jw t l a=some b->RightIn t.nodes a b
 |[],a,b,h=>by
  injection h with h;subst h;exact RightIn.refl _ _
 |d::l,a,b,h=>by
  rw[jw]at h;obtain⟨c,h1,h2⟩:=jM2 h;exact(jFl h1).trans (jEL h2)
theorem jBW{t:Tre}(h:ua t=true):∀n∈t.nodes,jK n=true:=by
 unfold ua at h;rw[Bool.and_eq_true,Bool.and_eq_true,decide_eq_true_eq]at h;intro n hn;obtain⟨i,hi,rfl⟩:=List.mem_iff_getElem.1 hn;obtain⟨m,hm,hr⟩:=(jEL h.2).2 i (Nat.zero_le _) hi;rw[jJ9 hi]at hm;injection hm with hm;rw[hm];exact hr
theorem qb{n:Nd}(h:jK n=true)(h1:n.op=1):0<=n.vn:=by
 unfold jK at h;rw[jJ6 h1]at h;simp only[Bool.and_eq_true,decide_eq_true_eq]at h;exact h.1.1.1.1.2
end Go.Proofs.YtmmjcbbogokmfaaGreatDoor

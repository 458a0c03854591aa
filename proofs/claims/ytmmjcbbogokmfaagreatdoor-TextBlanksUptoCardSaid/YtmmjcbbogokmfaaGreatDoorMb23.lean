import Derived.Test.YtmmjcbbogokmfaaGreatDoorMb22
set_option maxRecDepth 100000
set_option maxHeartbeats 25600000
namespace Go.Proofs.YtmmjcbbogokmfaaGreatDoor
open Go.Proofs.Tryz
open Go.RowKit
theorem JQ(w W:World)(t:Tre)(s:Sl)(next:Nat)(l:LB)(B:OA)(bc:Nat)(h:Pr w t s next l B bc W)(ws:List BA)(hl:(jU l (ws.map sb)).length<=jv)(NZ:ws.length<=1000):
  Calls prog 53 #[.pointer (some ⟨w.heap.size,0,none⟩),.slice (some ⟨W.heap.size,0,none⟩) ws.length ws.length] (W.alloc (.cells (ws.map sv).toArray 9)) (PrR w t s next (jU l (ws.map sb)) W):=by
 have ho:=(jQ0 NoX W).alloc (.cells (ws.map sv).toArray 9);exact(jBY w _ t s next l B bc (h.old ho) W.heap.size ws (jQ2 _ _ _) hl NZ).mono (fun _ _ hX=>PrR.of (FrP.of_old ho) hX)
theorem xA(w W:World)(t:Tre)(s:Sl)(next:Nat)(l:LB)(B:OA)(bc:Nat)(h:Pr w t s next l B bc W)(x:BA)(hl:(inP x l).length<=jv):
  Calls prog 119 #[.pointer (some ⟨w.heap.size,0,none⟩),.string x] W (PrR w t s next (inP x l) W):=by
 have H:=G h;unfold inP at hl⊢;by_cases hx:x.size=0
 ·rw[jJ6 hx];have WK:(!x.toList.isEmpty)=false:=by rw[Jf,jK5 hx];rfl
  clear h hl hx;go_enter func119,ntmps119;go_wp2;go_end0;exact⟨rfl,B,bc,H.out,FrP.refl _⟩
 ·rw[jJ5 hx]at hl⊢;have WK:(!x.toList.isEmpty)=true:=by rw[Jf,jK3 hx];rfl
  have HP:=G (JQ w W t s next l B bc h [⟨#[105,110]⟩,x] hl (show 2<=1000 by decide));clear h hl hx;go_enter func119,ntmps119;go_wp2_with (first|(go_at_call 53;refine HP.out.mono ?_;rintro e w1 ⟨rfl,hX⟩)|fail);go_end0;exact⟨rfl,hX⟩
structure PxAll(w:World)(t:Tre)(s:Sl)(f:Nat):Prop where
 ex:∀(W:World) (next:Nat) (l l' :LB) (B:OA) (bc:Nat) (root:Int) (least:Nat),Pr w t s next l B bc W->least<=8->exprP t.nodes f root least l=some l' ->l'.length<=jv->
  Calls prog 156 #[.pointer (some ⟨w.heap.size,0,none⟩),iv root,iv (least:Int)] W (PrR w t s next l' W)
theorem QK(w W:World)(t:Tre)(s:Sl)(f:Nat)(PX:PxAll w t s f)(next:Nat)(l l' :LB)(B:OA)(bc:Nat)(h:Pr w t s next l B bc W)(q:Nat)(ws:List BA)(hq:Blk W q 9 (ws.map sv).toArray)(root:Int)(h0:0<=root)
  (hk:exprP t.nodes f root 0 (jU l (ws.map sb))=some l') (hp:(jU l (ws.map sb)).length<=jv) (hl:l'.length<=jv) (NZ:ws.length<=1000):
  Calls prog 118 #[.pointer (some ⟨w.heap.size,0,none⟩),iv root,.slice (some ⟨q,0,none⟩) ws.length ws.length] W (PrR w t s next l' W):=by
 have HP:=G (jBY w W t s next l B bc h q ws hq hp NZ);have HE:=G (fun W1 B1 c1 (h1:Pr w t s next (jU l (ws.map sb)) B1 c1 W1)=>PX.ex W1 next _ l' B1 c1 root 0 h1 (by decide) hk hl);clear h hq hk hp hl NZ PX;unfold iv at*;go_enter func118,ntmps118;go_wp2_with (first|(go_at_call 53;refine HP.out.mono ?_;rintro e w1 ⟨rfl,B1,c1,hX,hf⟩;have HX:=G hX;have HF:=G hf;clear hX hf)|(go_at_call 156;refine(HE.out _ _ _ HX.out).mono ?_;rintro e w2 ⟨rfl,B2,c2,hX,hf⟩)|fail);go_end0;exact⟨rfl,B2,c2,hX,HF.out.trans hf⟩
theorem JT(g:Int->Nat->LB->Option LB)(hg:∀k m b b',g k m b=some b' ->b.length<=b'.length):∀(kids:List Int) (i:Nat) (b b' :LB),exprP.listP g kids i b=some b' ->b.length<=b'.length:=by
 intro kids
 induction kids with
 |nil=>intro i b b' h;rw[exprP.listP]at h;injection h with h;rw[h];exact jL3 _
 |cons k l ih=>
  intro i b b' h;rw[exprP.listP]at h;obtain⟨b1,h1,h2⟩:=jM2 h;have e1:=hg _ _ _ _ h1;have e2:=ih _ _ _ h2;split at e1
  ·have:=(jH b [44]).1;omega
  ·omega
theorem jBk(a c:Nat)(b:LB):b.length<=(opens a c b).length:=by
 unfold opens;split
 ·exact(jH b _).1
 ·exact jL3 _
theorem jA7(a c:Nat)(b:LB):b.length<=(JL a c b).length:=by
 unfold JL;split
 ·exact(jH b _).1
 ·exact jL3 _
theorem jp(ns:List Nd):∀(f:Nat) (root:Int) (least:Nat) (b b' :LB),exprP ns f root least b=some b' ->b.length<=b'.length:=by
 intro f
 induction f with
 |zero=>intro root least b b' h;rw[exprP]at h;cases h
 |succ f ih=>
  intro root least b b' h;rw[exprP]at h;by_cases hr:root<0
  ·rw[jJ6 hr]at h;cases h
  rw[jJ5 hr]at h;cases hn:ns[root.toNat]? with
  |none=>rw[hn]at h;cases h
  |some n=>
   rw[hn]at h;simp only at h;obtain⟨b1,h1,e⟩:=jM4 h;have g1:=jA7 (jD n.op) least b1;have g0:=jBk (jD n.op) least b;rw[<-e];refine jL4 g0 (jL4 ?_ g1);generalize opens (jD n.op) least b=b0 at*;clear h e g0 g1 hn hr;have two:∀(l r:Nat),(match n.kids with|k::q::_=>(exprP ns f k l b0).bind fun b1=>exprP ns f q r (jI b1 (jA n.op))|_=>none)=some b1->b0.length<=b1.length:=by
    intro l r h;rcases hk:n.kids with _ |⟨a,_ |⟨c,tl⟩⟩
    ·rw[hk]at h;cases h
    ·rw[hk]at h;cases h
    ·rw[hk]at h;obtain⟨c1,k1,h⟩:=jM2 h;have q1:=ih _ _ _ _ k1;have q2:=ih _ _ _ _ h;have p1:=(jH c1 (jA n.op)).1;omega
   by_cases c0:jD n.op=0
   ·rw[jJ6 c0]at h1;rcases hk:n.kids with _ |⟨a,_ |⟨c,_ |⟨d,tl⟩⟩⟩
    ·rw[hk]at h1;cases h1
    ·rw[hk]at h1;cases h1
    ·rw[hk]at h1;cases h1
    ·rw[hk]at h1;obtain⟨c1,k1,h1⟩:=jM2 h1;obtain⟨c2,k2,h1⟩:=jM2 h1;have q1:=ih _ _ _ _ k1;have q2:=ih _ _ _ _ k2;have q3:=ih _ _ _ _ h1;have p1:=(jH b0 [105,102]).1;have p2:=(jH c1 [116,104,101,110]).1;have p3:=(jH c2 [101,108,115,101]).1;omega
   rw[jJ5 c0]at h1;by_cases c1:jD n.op=1\/jD n.op=2\/jD n.op=5\/jD n.op=6
   ·rw[jJ6 c1]at h1;exact two _ _ h1
   rw[jJ5 c1]at h1;by_cases c2:jD n.op=3\/jD n.op=7
   ·rw[jJ6 c2]at h1;rcases hk:n.kids with _ |⟨a,tl⟩
    ·rw[hk]at h1;cases h1
    ·rw[hk]at h1;have q1:=ih _ _ _ _ h1;have p1:=(jH b0 (jA n.op)).1;omega
   rw[jJ5 c2]at h1;by_cases c3:jD n.op=4
   ·rw[jJ6 c3]at h1;exact two _ _ h1
   rw[jJ5 c3]at h1;by_cases o1:n.op=1
   ·rw[jJ6 o1]at h1;injection h1 with h1;rw[<-h1];exact(jH b0 _).1
   rw[jJ5 o1]at h1;by_cases o2:n.op=2
   ·rw[jJ6 o2]at h1;injection h1 with h1;rw[<-h1];exact(jH b0 _).1
   rw[jJ5 o2]at h1;by_cases o3:n.op=3
   ·rw[jJ6 o3]at h1;injection h1 with h1;rw[<-h1];exact(jH b0 _).1
   rw[jJ5 o3]at h1;by_cases o5:n.op=5
   ·rw[jJ6 o5]at h1;injection h1 with h1;rw[<-h1];exact(jH b0 _).1
   rw[jJ5 o5]at h1;by_cases o4:n.op=4
   ·rw[jJ6 o4]at h1;injection h1 with h1;rw[<-h1];exact(jH b0 _).1
   rw[jJ5 o4]at h1;by_cases o6:n.op=6
   ·rw[jJ6 o6]at h1;obtain⟨c1,k1,e1⟩:=jM4 h1;have q1:=JT _ (fun k m b b' h=>ih k m b b' h) _ _ _ _ k1;have p1:=(jH b0 [123]).1;have p2:=(jH c1 [125]).1;rw[<-e1];omega
   rw[jJ5 o6]at h1;obtain⟨c1,k1,e1⟩:=jM4 h1;have q1:=JT _ (fun k m b b' h=>ih k m b b' h) _ _ _ _ k1;have p2:=(jH c1 [41]).1;rw[<-e1];refine jL4 ?_ p2;refine jL4 ?_ q1;have p0:=(jH b0 (jA n.op)).1;have p1:=(jH (jI b0 (jA n.op)) [40]).1;by_cases z:n.name.size=0
   ·rw[jJ6 z];omega
   ·rw[jJ5 z];have p3:=(jH (jI (jI b0 (jA n.op)) [40]) (tb n.name)).1;omega
theorem VX(w W:World)(t:Tre)(s:Sl)(f:Nat)(PX:PxAll w t s f)(next:Nat)(l l' :LB)(B:OA)(bc:Nat)(h:Pr w t s next l B bc W)(A:OA)(c:Nat)(kids:List Int)(hr:Rd w 1 A kids.length (kids.map iv))(hn:kids.length<=1000000000)
  (hk:exprP.listP (exprP t.nodes f) kids 0 l=some l') (hl:l'.length<=jv):
  Calls prog 223 #[.pointer (some ⟨w.heap.size,0,none⟩),.slice A kids.length c] W (PrR w t s next l' W):=by
 have H0:=G h;have HR:=G hr;have HK:=G hk;have HL:=G hl;have HX:=G PX;clear h hr hk hl PX;go_enter func223,ntmps223;go_wp2;go_loopw [8] (fun i wr=>∃(j:Nat) (l1:LB) (B1:OA) (c1:Nat),j<=kids.length/\i=.int .i64 (j:Int)/\exprP.listP (exprP t.nodes f) (kids.drop j) j l1=some l' /\Pr w t s next l1 B1 c1 wr/\FrP W wr) (fun i _=>kids.length-(intOf i).toNat)
 case atStart=>exact⟨0,l,B,bc,Nat.zero_le _,rfl,HK.out,H0.out,FrP.refl _⟩
 case round=>
  clear H0;obtain⟨j,l1,B1,c1,hj,rfl,Fi,hp,hf⟩:=hrel;have Hp:=G hp;have Hf:=G hf;by_cases hlt:j<kids.length
  ·have hd:kids.drop j=kids[j]::kids.drop (j+1):=jM9 hlt;obtain⟨b,o,u,hA,hu,hc⟩:=HR.out.at_ hlt;have Nk:iv kids[j]=u:=by rw[jM1,jJ9 hlt]at hu;injection hu
   subst Nk;subst hA;have Cu:wr.cell? ⟨b,o+j,none⟩=some (.int .i64 kids[j]):=by
    have Gc:=jg hc;rw[World.cell?_of_block (hp.kp.block b Gc (fun e:w.heap.size<=b=>by have:b<w.heap.size:=Gc;omega))];exact hc
   rw[hd,exprP.listP]at Fi;obtain⟨l2,h2,h3⟩:=jM2 Fi;have E3:=G h3;have Gg:l2.length<=jv:=jL4 (JT _ (fun k m b b' h=>jp _ f k m b b' h) _ _ _ _ h3) HL.out;have PM:=jp _ f _ _ _ _ h2;generalize kids[j]=k at*;have b1:(0:Int)<=(j:Int):=(by omega);have b2:(j:Int).toNat=j:=(by omega);have b3:(j:Int)<(kids.length:Int):=(by omega);have b4:IntKind.i64.wrap ((j:Int)+1)=(j:Int)+1:=jQ3 _ (by omega);have HC:=G (fun W1 B2 c2 l0 (h1:Pr w t s next l0 B2 c2 W1) (h2:exprP t.nodes f k 0 l0=some l2)=>HX.out.ex W1 next l0 l2 B2 c2 k 0 h1 (by decide) h2 Gg);unfold iv at HC;clear Fi h3 hd hu hc hf;by_cases h0:0<j
   ·rw[jJ6 h0]at h2 PM;have ED:=G (JQ w wr t s next l1 B1 c1 hp [⟨#[44]⟩] (jL4 PM Gg) (show 1<=1000 by decide));have E2:=G h2;have b5:(0:Int)<(j:Int):=(by omega);clear hp h2 PM Gg h0;go_wp2_with (first|(go_at_call 53;refine ED.out.mono ?_;rintro e w1 ⟨rfl,B2,c2,hX,hg⟩;have H1:=G hX;have F1:=G hg;clear hX hg)|(go_at_call 156;refine(HC.out _ _ _ _ H1.out E2.out).mono ?_;rintro e w2 ⟨rfl,B3,c3,hX,hg⟩;have H2:=G hX;have F2:=G hg;clear hX hg)|fail);exact⟨⟨j+1,l2,B3,c3,by omega,by rw[show((j+1:Nat):Int)=(j:Int)+1 by omega],E3.out,H2.out,(Hf.out.trans F1.out).trans F2.out⟩,by simp only[intOf];omega⟩
   ·rw[jJ5 h0]at h2;have E2:=G h2;have b5:¬(0:Int)<(j:Int):=(by omega);clear hp h2 PM Gg h0;go_wp2_with (first|(go_at_call 156;refine(HC.out _ _ _ _ Hp.out E2.out).mono ?_;rintro e w2 ⟨rfl,B3,c3,hX,hg⟩;have H2:=G hX;have F2:=G hg;clear hX hg)|fail);exact⟨⟨j+1,l2,B3,c3,by omega,by rw[show((j+1:Nat):Int)=(j:Int)+1 by omega],E3.out,H2.out,Hf.out.trans F2.out⟩,by simp only[intOf];omega⟩
  ·obtain rfl:j=kids.length:=(by omega);rw[List.drop_length,exprP.listP]at Fi;injection Fi with Fi;subst Fi;clear hp hf;go_wp2;go_end0;exact⟨rfl,B1,c1,Hp.out,Hf.out⟩
theorem jFp(w:World):Calls prog 247 #[.int .i64 12] w fun e w' =>e=.returned (.string ⟨#[49,50]⟩)/\w=w' :=by
 go_enter func247,ntmps247;go_wp2;go_ret;exact⟨by kernel_rfl,rfl⟩
theorem jEZ(w:World):Calls prog 242 #[.int .i64 12,.int .i64 10] w fun e w' =>e=.returned (.string ⟨#[49,50]⟩)/\w=w' :=by
 go_enter func242,ntmps242;go_wp2_with (first|(go_at_call 247;refine(jFp _).mono ?_;rintro e w1 ⟨rfl,rfl⟩)|fail);go_ret;exact⟨rfl,rfl⟩
theorem jG6(w:World):Calls prog 235 #[.int .i64 12] w fun e w' =>e=.returned (.string ⟨#[49,50]⟩)/\w=w' :=by
 go_enter func235,ntmps235;go_wp2_with (first|(go_at_call 242;refine(jEZ _).mono ?_;rintro e w1 ⟨rfl,rfl⟩)|fail);go_ret;exact⟨rfl,rfl⟩
theorem jIe(w:World):Calls prog 221 #[.int .i64 12] w fun e w' =>e=.returned (.string ⟨#[49,50]⟩)/\w=w' :=by
 go_enter func221,ntmps221;go_wp2_with (first|(go_at_call 235;refine(jG6 _).mono ?_;rintro e w1 ⟨rfl,rfl⟩)|fail);go_ret;exact⟨rfl,rfl⟩
def zD(ns:List Nd)(f:Nat)(n:Nd)(b0:LB):Option LB:=
 if n.op=1 then some (jI b0 (Yu n.vn))
 else if n.op=2 then some (jI b0 (if n.vn=1 then [116,114,117,101]else [102,97,108,115,101]))
 else if n.op=3 then some (jI b0 (ji (tb n.vt)))
 else if n.op=5 then some (jI b0 (tb n.name))
 else if n.op=4 then some (jI b0 [110,111,116,104,105,110,103])
 else if n.op=6 then(exprP.listP (exprP ns f) n.kids 0 (jI b0 [123])).map fun b1=>jI b1 [125]
 else(exprP.listP (exprP ns f) n.kids 0 (let b1:=jI (jI b0 (jA n.op)) [40];if n.name.size=0 then b1 else jI b1 (tb n.name))).map fun b1=>jI b1 [41]
theorem jT(w W:World)(t:Tre)(s:Sl)(next:Nat)(l:LB)(B:OA)(bc:Nat)(h:Pr w t s next l B bc W)(k:Nat)(hk:k=W.heap.size)(ws:List BA)(hl:(jU l (ws.map sb)).length<=jv)(NZ:ws.length<=1000):
  Calls prog 53 #[.pointer (some ⟨w.heap.size,0,none⟩),.slice (some ⟨k,0,none⟩) ws.length ws.length] (W.alloc (.cells (ws.map sv).toArray 9)) (PrR w t s next (jU l (ws.map sb)) W):=hk▸JQ w W t s next l B bc h ws hl NZ
theorem jJc:Yu 12=[49,50]:=by decide+kernel
theorem jI3(w W:World)(t:Tre)(s:Sl)(f:Nat)(next:Nat)(l l' :LB)(B:OA)(bc:Nat)(h:Pr w t s next l B bc W)(x:MNd)(hU:x.n.op=1)(hv:x.n.vn=12)(hk:zD t.nodes f x.n l=some l')(hl:l'.length<=jv):
  Calls prog 193 #[.pointer (some ⟨w.heap.size,0,none⟩),.agg (ndC x).toArray] W (PrR w t s next l' W):=by
 unfold zD at hk;obtain⟨⟨op,name,vk,vn,vt,vs,kids⟩,A,c,vA,vc⟩:=x;simp only at hU hv hk;subst hU;subst hv;rw[jJ6 rfl]at hk;injection hk with hk;rw[jJc]at hk;have ho:=(jQ0 NoX W).alloc (.cells (ndC ⟨⟨1,name,vk,12,vt,vs,kids⟩,A,c,vA,vc⟩).toArray 46);have HP:=G (jT w _ t s next l B bc (h.old ho) (W.heap.size+1) (by simp) [⟨#[49,50]⟩] (show(jU l (([⟨#[49,50]⟩]:List BA).map sb)).length<=jv from by show(jI l _).length<=jv;exact(congrArg List.length hk).symm▸hl) (show 1<=1000 by decide));have HF:=G (FrP.of_old ho);have Hk:=G (show jU l (([⟨#[49,50]⟩]:List BA).map sb)=l' from hk);rw[Hk.out]at HP;clear h hk hl ho;unfold ndC iv at*;go_enter func193,ntmps193;go_wp2_with (first|(go_at_call 221;refine(jIe _).mono ?_;rintro e w1 ⟨rfl,rfl⟩)|(go_at_call 53;refine HP.out.mono ?_;rintro e w2 ⟨rfl,B2,c2,hX,hf⟩)|fail);go_end0;exact⟨rfl,B2,c2,hX,HF.out.trans hf⟩
theorem jHY(w W:World)(hg:Sg W)(t:Tre)(s:Sl)(f:Nat)(next:Nat)(l l' :LB)(B:OA)(bc:Nat)(h:Pr w t s next l B bc W)(x:MNd)(hU:x.n.op=2)(hv:x.n.vn=1)(hk:zD t.nodes f x.n l=some l')(hl:l'.length<=jv):
  Calls prog 193 #[.pointer (some ⟨w.heap.size,0,none⟩),.agg (ndC x).toArray] W (PrR w t s next l' W):=by
 unfold zD at hk;obtain⟨⟨op,name,vk,vn,vt,vs,kids⟩,A,c,vA,vc⟩:=x;simp only at hU hv hk;subst hU;subst hv;rw[jJ5 (by decide),jJ6 rfl]at hk;injection hk with hk;rw[jJ6 rfl]at hk;have ho:=(jQ0 NoX W).alloc (.cells (ndC ⟨⟨2,name,vk,1,vt,vs,kids⟩,A,c,vA,vc⟩).toArray 46);have HP:=G (jT w _ t s next l B bc (h.old ho) (W.heap.size+1) (by simp) [⟨#[116,114,117,101]⟩] (show(jU l (([⟨#[116,114,117,101]⟩]:List BA).map sb)).length<=jv from by show(jI l _).length<=jv;exact(congrArg List.length hk).symm▸hl) (show 1<=1000 by decide));have HF:=G (FrP.of_old ho);have Hk:=G (show jU l (([⟨#[116,114,117,101]⟩]:List BA).map sb)=l' from hk);rw[Hk.out]at HP;have WX:W.cell? ⟨0,23,none⟩=some (.string ⟨#[116,114,117,101]⟩):=hg.res 23 _ rfl;have FJ:W.cell? ⟨0,24,none⟩=some (.string ⟨#[102,97,108,115,101]⟩):=hg.res 24 _ rfl;have Ef:0<W.heap.size:=jg WX;clear h hk hl ho hg;unfold ndC iv at*;go_enter func193,ntmps193;go_wp2_with (first|(go_at_call 53;refine HP.out.mono ?_;rintro e w2 ⟨rfl,B2,c2,hX,hf⟩)|fail);go_end0;exact⟨rfl,B2,c2,hX,HF.out.trans hf⟩
theorem jHX(w W:World)(hg:Sg W)(t:Tre)(s:Sl)(f:Nat)(next:Nat)(l l' :LB)(B:OA)(bc:Nat)(h:Pr w t s next l B bc W)(x:MNd)(hU:x.n.op=2)(hv:x.n.vn=0)(hk:zD t.nodes f x.n l=some l')(hl:l'.length<=jv):
  Calls prog 193 #[.pointer (some ⟨w.heap.size,0,none⟩),.agg (ndC x).toArray] W (PrR w t s next l' W):=by
 unfold zD at hk;obtain⟨⟨op,name,vk,vn,vt,vs,kids⟩,A,c,vA,vc⟩:=x;simp only at hU hv hk;subst hU;subst hv;rw[jJ5 (by decide),jJ6 rfl]at hk;injection hk with hk;rw[jJ5 (by decide)]at hk;have ho:=(jQ0 NoX W).alloc (.cells (ndC ⟨⟨2,name,vk,0,vt,vs,kids⟩,A,c,vA,vc⟩).toArray 46);have HP:=G (jT w _ t s next l B bc (h.old ho) (W.heap.size+1) (by simp) [⟨#[102,97,108,115,101]⟩] (show(jU l (([⟨#[102,97,108,115,101]⟩]:List BA).map sb)).length<=jv from by show(jI l _).length<=jv;exact(congrArg List.length hk).symm▸hl) (show 1<=1000 by decide));have HF:=G (FrP.of_old ho);have Hk:=G (show jU l (([⟨#[102,97,108,115,101]⟩]:List BA).map sb)=l' from hk);rw[Hk.out]at HP;have WX:W.cell? ⟨0,23,none⟩=some (.string ⟨#[116,114,117,101]⟩):=hg.res 23 _ rfl;have FJ:W.cell? ⟨0,24,none⟩=some (.string ⟨#[102,97,108,115,101]⟩):=hg.res 24 _ rfl;have Ef:0<W.heap.size:=jg WX;clear h hk hl ho hg;unfold ndC iv at*;go_enter func193,ntmps193;go_wp2_with (first|(go_at_call 53;refine HP.out.mono ?_;rintro e w2 ⟨rfl,B2,c2,hX,hf⟩)|fail);go_end0;exact⟨rfl,B2,c2,hX,HF.out.trans hf⟩
theorem jI2(w W:World)(t:Tre)(s:Sl)(f:Nat)(next:Nat)(l l' :LB)(B:OA)(bc:Nat)(h:Pr w t s next l B bc W)(x:MNd)(hU:x.n.op=4)(hk:zD t.nodes f x.n l=some l')(hl:l'.length<=jv):
  Calls prog 193 #[.pointer (some ⟨w.heap.size,0,none⟩),.agg (ndC x).toArray] W (PrR w t s next l' W):=by
 unfold zD at hk;obtain⟨⟨op,name,vk,vn,vt,vs,kids⟩,A,c,vA,vc⟩:=x;simp only at hU hk;subst hU;rw[jJ5 (by decide),jJ5 (by decide),jJ5 (by decide),jJ5 (by decide),jJ6 rfl]at hk;injection hk with hk;have ho:=(jQ0 NoX W).alloc (.cells (ndC ⟨⟨4,name,vk,vn,vt,vs,kids⟩,A,c,vA,vc⟩).toArray 46);have HP:=G (jT w _ t s next l B bc (h.old ho) (W.heap.size+1) (by simp) [⟨#[110,111,116,104,105,110,103]⟩] (show(jU l (([⟨#[110,111,116,104,105,110,103]⟩]:List BA).map sb)).length<=jv from by show(jI l _).length<=jv;exact(congrArg List.length hk).symm▸hl) (show 1<=1000 by decide));have HF:=G (FrP.of_old ho);have Hk:=G (show jU l (([⟨#[110,111,116,104,105,110,103]⟩]:List BA).map sb)=l' from hk);rw[Hk.out]at HP;clear h hk hl ho;unfold ndC iv at*;go_enter func193,ntmps193;go_wp2_with (first|(go_at_call 53;refine HP.out.mono ?_;rintro e w2 ⟨rfl,B2,c2,hX,hf⟩)|fail);go_end0;exact⟨rfl,B2,c2,hX,HF.out.trans hf⟩
theorem jI1(w W:World)(t:Tre)(s:Sl)(f:Nat)(next:Nat)(l l' :LB)(B:OA)(bc:Nat)(h:Pr w t s next l B bc W)(x:MNd)(hU:x.n.op=5)(hk:zD t.nodes f x.n l=some l')(hl:l'.length<=jv):
  Calls prog 193 #[.pointer (some ⟨w.heap.size,0,none⟩),.agg (ndC x).toArray] W (PrR w t s next l' W):=by
 unfold zD at hk;obtain⟨⟨op,name,vk,vn,vt,vs,kids⟩,A,c,vA,vc⟩:=x;simp only at hU hk;subst hU;rw[jJ5 (by decide),jJ5 (by decide),jJ5 (by decide),jJ6 rfl]at hk;injection hk with hk;have ho:=(jQ0 NoX W).alloc (.cells (ndC ⟨⟨5,name,vk,vn,vt,vs,kids⟩,A,c,vA,vc⟩).toArray 46);have HP:=G (jT w _ t s next l B bc (h.old ho) (W.heap.size+1) (by simp) [name] (show(jU l (([name]:List BA).map sb)).length<=jv from by show(jI l _).length<=jv;exact(congrArg List.length hk).symm▸hl) (show 1<=1000 by decide));have HF:=G (FrP.of_old ho);have Hk:=G (show jU l (([name]:List BA).map sb)=l' from hk);rw[Hk.out]at HP;clear h hk hl ho;unfold ndC iv at*;go_enter func193,ntmps193;go_wp2_with (first|(go_at_call 53;refine HP.out.mono ?_;rintro e w2 ⟨rfl,B2,c2,hX,hf⟩)|fail);go_end0;exact⟨rfl,B2,c2,hX,HF.out.trans hf⟩
theorem jE4(w W:World)(t:Tre)(s:Sl)(f:Nat)(PX:PxAll w t s f)(next:Nat)(l l' :LB)(B:OA)(bc:Nat)(h:Pr w t s next l B bc W)(x:MNd)(hU:x.n.op=6)(hr:Rd w 1 x.A x.n.kids.length (x.n.kids.map iv))(hn:x.n.kids.length<=1000000000)(hk:zD t.nodes f x.n l=some l')(hl:l'.length<=jv):
  Calls prog 193 #[.pointer (some ⟨w.heap.size,0,none⟩),.agg (ndC x).toArray] W (PrR w t s next l' W):=by
 unfold zD at hk;obtain⟨⟨op,name,vk,vn,vt,vs,kids⟩,A,c,vA,vc⟩:=x;simp only at hU hk hr hn;subst hU;rw[jJ5 (by decide),jJ5 (by decide),jJ5 (by decide),jJ5 (by decide),jJ5 (by decide),jJ6 rfl]at hk;obtain⟨l1,h1,e⟩:=jM4 hk;subst e;have g1:=JT _ (fun k m b b' h=>jp _ f k m b b' h) _ _ _ _ h1;have g2:=(jH l1 [125]).1;have ho:=(jQ0 NoX W).alloc (.cells (ndC ⟨⟨6,name,vk,vn,vt,vs,kids⟩,A,c,vA,vc⟩).toArray 46);have P1:=G (jT w _ t s next l B bc (h.old ho) (W.heap.size+1) (by simp) [⟨#[123]⟩] (jL4 g1 (jL4 g2 hl)) (show 1<=1000 by decide));have BN:=G (jQ2 W 46 (ndC ⟨⟨6,name,vk,vn,vt,vs,kids⟩,A,c,vA,vc⟩).toArray);have LS:=G (fun W1 B1 c1 (hp:Pr w t s next (jI l [123]) B1 c1 W1)=>VX w W1 t s f PX next _ l1 B1 c1 hp A c kids hr hn h1 (jL4 g2 hl));have P2:=G (fun W1 B1 c1 (hp:Pr w t s next l1 B1 c1 W1)=>JQ w W1 t s next l1 B1 c1 hp [⟨#[125]⟩] hl (show 1<=1000 by decide));have HF:=G (FrP.of_old ho);clear h hk hl ho h1 g1 g2 hr hn PX;unfold ndC iv at*;go_enter func193,ntmps193;go_wp2_with (first|(go_at_call 53;first|(refine(P2.out _ _ _ H2.out).mono ?_;rintro e w3 ⟨rfl,B3,c3,hX,hf⟩;have H3:=G hX;have F3:=G hf;clear hX hf)|(refine P1.out.mono ?_;rintro e w1 ⟨rfl,B1,c1,hX,hf⟩;have H1:=G hX;have F1:=G hf;have n6:=(hf.blk _ _ _ (by decide) (by decide) BN.out).at_ 6 (v:=.slice A kids.length c) rfl;clear hX hf))|(go_at_call 223;refine(LS.out _ _ _ H1.out).mono ?_;rintro e w2 ⟨rfl,B2,c2,hX,hf⟩;have H2:=G hX;have F2:=G hf;clear hX hf)|fail);go_end0;exact⟨rfl,B3,c3,H3.out,((HF.out.trans F1.out).trans F2.out).trans F3.out⟩
theorem jC1(w W:World)(hg:Sg w)(h8:8<=w.heap.size)(t:Tre)(s:Sl)(f:Nat)(PX:PxAll w t s f)(next:Nat)(l l' :LB)(B:OA)(bc:Nat)(h:Pr w t s next l B bc W)(x:MNd)(hU:24<=x.n.op/\x.n.op<=33)(hr:Rd w 1 x.A x.n.kids.length (x.n.kids.map iv))(hn:x.n.kids.length<=1000000000)(hk:zD t.nodes f x.n l=some l')(hl:l'.length<=jv):
  Calls prog 193 #[.pointer (some ⟨w.heap.size,0,none⟩),.agg (ndC x).toArray] W (PrR w t s next l' W):=by
 unfold zD at hk;obtain⟨⟨op,name,vk,vn,vt,vs,kids⟩,A,c,vA,vc⟩:=x;simp only at hU hk hr hn;rw[jJ5 (by omega),jJ5 (by omega),jJ5 (by omega),jJ5 (by omega),jJ5 (by omega),jJ5 (by omega)]at hk;obtain⟨l1,h1,e⟩:=jM4 hk;subst e;have g1:=JT _ (fun k m b b' h=>jp _ f k m b b' h) _ _ _ _ h1;have g2:=(jH l1 [41]).1;have ho:=(jQ0 NoX W).alloc (.cells (ndC ⟨⟨op,name,vk,vn,vt,vs,kids⟩,A,c,vA,vc⟩).toArray 46);have TE:=(h.sg hg h8).old ho;have SP:=G (vi _ TE op (by omega));have BN:=G (jQ2 W 46 (ndC ⟨⟨op,name,vk,vn,vt,vs,kids⟩,A,c,vA,vc⟩).toArray);have q1:(op==1)=false:=jM3 (by omega);have q2:(op==2)=false:=jM3 (by omega);have q3:(op==3)=false:=jM3 (by omega);have q4:(op==4)=false:=jM3 (by omega);have q5:(op==5)=false:=jM3 (by omega);have q6:(op==6)=false:=jM3 (by omega);have P2:=G (fun W1 B1 c1 (hp:Pr w t s next l1 B1 c1 W1)=>JQ w W1 t s next l1 B1 c1 hp [⟨#[41]⟩] hl (show 1<=1000 by decide));have HF:=G (FrP.of_old ho);by_cases hz:name.size=0
 ·simp only[jJ6 hz]at h1 g1;have WK:(!name.toList.isEmpty)=false:=by rw[Jf,jK5 hz];rfl
  have P1:=G (jT w _ t s next l B bc (h.old ho) (W.heap.size+1) (by simp) [⟨(jA op).toArray⟩,⟨#[40]⟩] (jL4 g1 (jL4 g2 hl)) (show 2<=1000 by decide));have LS:=G (fun W1 B1 c1 (hp:Pr w t s next (jI (jI l (jA op)) [40]) B1 c1 W1)=>VX w W1 t s f PX next _ l1 B1 c1 hp A c kids hr hn h1 (jL4 g2 hl));clear h hk hl ho h1 g1 g2 hr hn PX hz TE hg hU;unfold ndC iv at*;go_enter func193,ntmps193;go_wp2_with (first|(go_at_call 192;refine SP.out.mono ?_;rintro e w0 ⟨rfl,rfl⟩)|(go_at_call 53;first|(refine(P2.out _ _ _ H2.out).mono ?_;rintro e w3 ⟨rfl,B3,c3,hX,hf⟩;have H3:=G hX;have F3:=G hf;clear hX hf)|(refine P1.out.mono ?_;rintro e w1 ⟨rfl,B1,c1,hX,hf⟩;have H1:=G hX;have F1:=G hf;have n1:=(hf.blk _ _ _ (by decide) (by decide) BN.out).at_ 1 (v:=.string name) rfl;have n6:=(hf.blk _ _ _ (by decide) (by decide) BN.out).at_ 6 (v:=.slice A kids.length c) rfl;clear hX hf))|(go_at_call 223;refine(LS.out _ _ _ H1.out).mono ?_;rintro e w2 ⟨rfl,B2,c2,hX,hf⟩;have H2:=G hX;have F2:=G hf;clear hX hf)|fail);go_end0;exact⟨rfl,B3,c3,H3.out,((HF.out.trans F1.out).trans F2.out).trans F3.out⟩
 ·simp only[jJ5 hz]at h1 g1;have WK:(!name.toList.isEmpty)=true:=by rw[Jf,jK3 hz];rfl
  have g3:=(jH (jI (jI l (jA op)) [40]) (tb name)).1;have P1:=G (jT w _ t s next l B bc (h.old ho) (W.heap.size+1) (by simp) [⟨(jA op).toArray⟩,⟨#[40]⟩] (jL4 g3 (jL4 g1 (jL4 g2 hl))) (show 2<=1000 by decide));have PN:=G (fun W1 B1 c1 (hp:Pr w t s next (jI (jI l (jA op)) [40]) B1 c1 W1)=>JQ w W1 t s next _ B1 c1 hp [name] (jL4 g1 (jL4 g2 hl)) (show 1<=1000 by decide));have LS:=G (fun W1 B1 c1 (hp:Pr w t s next (jI (jI (jI l (jA op)) [40]) (tb name)) B1 c1 W1)=>VX w W1 t s f PX next _ l1 B1 c1 hp A c kids hr hn h1 (jL4 g2 hl));clear h hk hl ho h1 g1 g2 g3 hr hn PX hz TE hg hU;unfold ndC iv at*;go_enter func193,ntmps193;go_wp2_with (first|(go_at_call 192;refine SP.out.mono ?_;rintro e w0 ⟨rfl,rfl⟩)|(go_at_call 53;first|(refine(P2.out _ _ _ H2.out).mono ?_;rintro e w3 ⟨rfl,B3,c3,hX,hf⟩;have H3:=G hX;have F3:=G hf;clear hX hf)|(refine(PN.out _ _ _ H1.out).mono ?_;rintro e w4 ⟨rfl,B4,c4,hX,hf⟩;have H4:=G hX;have F4:=G hf;have n6:=(hf.blk _ _ _ (by decide) (by decide) (F1.out.blk _ _ _ (by decide) (by decide) BN.out)).at_ 6 (v:=.slice A kids.length c) rfl;clear hX hf)|(refine P1.out.mono ?_;rintro e w1 ⟨rfl,B1,c1,hX,hf⟩;have H1:=G hX;have F1:=G hf;have n1:=(hf.blk _ _ _ (by decide) (by decide) BN.out).at_ 1 (v:=.string name) rfl;clear hX hf))|(go_at_call 223;refine(LS.out _ _ _ H4.out).mono ?_;rintro e w2 ⟨rfl,B2,c2,hX,hf⟩;have H2:=G hX;have F2:=G hf;clear hX hf)|fail);go_end0;exact⟨rfl,B3,c3,H3.out,(((HF.out.trans F1.out).trans F4.out).trans F2.out).trans F3.out⟩
theorem jCS:∀(ns:List MNd) (k:Nat) (x:MNd),ns[k]? =some x->∀i,i<7->(ns.flatMap ndC)[k*7+i]? =(ndC x)[i]?
 |[],_,_,h=>by cases h
 |y::l,0,x,h=>by
  intro i hi;injection h with h;subst h;rw[jL9,Nat.zero_mul,Nat.zero_add,List.getElem?_append_left (by simp only[ndC,jK6,jN2];omega)]
 |y::l,k+1,x,h=>by
  intro i hi;rw[jL9,List.getElem?_append_right (by simp only[ndC,jK6,jN2];omega)];have:=jCS l k x h i hi;rw[<-this]
  congr 1
  simp only[ndC,jK6,jN2];omega
theorem jBq{w:World}{A:OA}{n:Nat}{ns:List MNd}(hr:Rd w 7 A n (ns.flatMap ndC)){k:Nat}{x:MNd}(hk:ns[k]? =some x)(hn:k<n):∃b o,A=some ⟨b,o,none⟩/\∀i u,(ndC x)[i]? =some u->w.cell? ⟨b,o+(k*7+i),none⟩=some u:=by
 obtain⟨b,o,hA,hc⟩:=hr.2 (by omega);refine⟨b,o,hA,fun i u hu=>hc _ u ?_⟩;have hi:i<7:=by
  have:=(jM5 hu).1;simpa [ndC]using this
 rw[jCS ns k x hk i hi];exact hu
structure TrN(w:World)(t:Tre)(s:Sl)(ns:List MNd):Prop where
 rows:Rd w 7 s.nA t.nodes.length (ns.flatMap ndC)
 eq:ns.map (·.n)=t.nodes
 cnt:t.nodes.length<=1000000
 ok:∀x∈ns,Rd w 1 x.A x.n.kids.length (x.n.kids.map iv)/\x.n.kids.length<=1000000000
theorem TrN.at_{w:World}{t:Tre}{s:Sl}{ns:List MNd}(h:TrN w t s ns){k:Nat}{n:Nd}(hk:t.nodes[k]? =some n):∃x b o,ns[k]? =some x/\x.n=n/\s.nA=some ⟨b,o,none⟩/\(∀i u,(ndC x)[i]? =some u->w.cell? ⟨b,o+(k*7+i),none⟩=some u)/\Rd w 1 x.A x.n.kids.length (x.n.kids.map iv)/\x.n.kids.length<=1000000000:=by
 have hlt:=(jM5 hk).1;rw[<-h.eq,jM1]at hk;obtain⟨x,hx,e⟩:=jM4 hk;obtain⟨b,o,hA,hc⟩:=jBq h.rows hx hlt;have hm:=List.mem_of_getElem? hx;exact⟨x,b,o,hx,e,hA,hc,h.ok x hm⟩
theorem jHL(w W:World)(t:Tre)(s:Sl)(ns:List MNd)(TN:TrN w t s ns)(next:Nat)(l:LB)(B:OA)(bc:Nat)(h:Pr w t s next l B bc W)(root least:Nat)(Fc:least<=8)(n:Nd)(hn:t.nodes[root]? =some n)(h8:jD n.op=8)(l' :LB)
  (HA:∀(W1:World) (x:MNd),x.n=n->Rd w 1 x.A x.n.kids.length (x.n.kids.map iv)->x.n.kids.length<=1000000000->Pr w t s next l B bc W1->Calls prog 193 #[.pointer (some ⟨w.heap.size,0,none⟩),.agg (ndC x).toArray] W1 (PrR w t s next l' W1)):
  Calls prog 156 #[.pointer (some ⟨w.heap.size,0,none⟩),iv (root:Int),iv (least:Int)] W (PrR w t s next l' W):=by
 obtain⟨x,b,o,hx,e,hA,hc,Fx,Ni⟩:=TN.at_ hn;have hlt:=(jM5 hn).1;have FA:=TN.cnt;have Ns:=h.c6;rw[hA]at Ns;obtain⟨⟨op,name,vk,vn,vt,vs,kids⟩,A,c,vA,vc⟩:=x;have hw:∀i u,(ndC ⟨⟨op,name,vk,vn,vt,vs,kids⟩,A,c,vA,vc⟩)[i]? =some u->W.cell? ⟨b,o+(root*7+i),none⟩=some u:=fun i u hu=>by
  have h1:=hc i u hu;have hb:=jg h1;rw[World.cell?_of_block (h.kp.block b hb (fun e:w.heap.size<=b=>by have:b<w.heap.size:=hb;omega))];exact h1
 have c0:W.cell? ⟨b,o+root*7,none⟩=some (.int .i64 op):=hw 0 _ rfl;have c1:W.cell? ⟨b,o+root*7+1,none⟩=some (.string name):=hw 1 _ rfl;have c2:W.cell? ⟨b,o+root*7+2,none⟩=some (.int .i64 vk):=hw 2 _ rfl;have c3:W.cell? ⟨b,o+root*7+3,none⟩=some (.int .i64 vn):=hw 3 _ rfl;have c4:W.cell? ⟨b,o+root*7+4,none⟩=some (.string vt):=hw 4 _ rfl;have c5:W.cell? ⟨b,o+root*7+5,none⟩=some (.slice vA vs.length vc):=hw 5 _ rfl;have c6:W.cell? ⟨b,o+root*7+6,none⟩=some (.slice A kids.length c):=hw 6 _ rfl;have EZ:=G (fun W1 (hp:Pr w t s next l B bc W1)=>HA W1 _ e Fx Ni hp);have ho:=(jQ0 NoX W).alloc (.cells (ndC ⟨⟨op,name,vk,vn,vt,vs,kids⟩,A,c,vA,vc⟩).toArray 46);have H1:=G (h.old ho);have HF:=G (FrP.of_old ho);have hU:jD op=8:=by rw[<-e]at h8;exact h8
 have N0:=G (fun W1=>yC W1 op);rw[hU]at N0;have f1:(0:Int)<=(root:Int):=(by omega);have f2:(root:Int).toNat=root:=(by omega);have f3:(root:Int)<(t.nodes.length:Int):=(by omega);have f4:¬(8:Int)<(least:Int):=(by omega);clear h hx hc hw Fx Ni TN HA ho hU h8 hn FA e;unfold ndC iv at*
 go_enter_defers func156,ntmps156
 go_wp2_with (first|(go_at_call 191;refine(N0.out _).mono ?_;rintro e w1 ⟨rfl,rfl⟩)|(go_at_call 193;refine(EZ.out _ H1.out).mono ?_;rintro e w2 ⟨rfl,B2,c2,hX,hf⟩)|fail);have Gt:=G (show PrR w t s next l' W (.returned (.tuple #[])) w2 from⟨rfl,B2,c2,hX,HF.out.trans hf⟩);clear hX hf;simp[bodyPostD,Leaves,results,results156,go_sem];exact Gt.out
theorem jIo(w W:World)(hg:Sg w)(Fb:8<=w.heap.size)(t:Tre)(s:Sl)(ns:List MNd)(TN:TrN w t s ns)(f:Nat)(PX:PxAll w t s f)(next:Nat)(l:LB)(B:OA)(bc:Nat)(h:Pr w t s next l B bc W)(root least own:Nat)(n:Nd)(hn:t.nodes[root]? =some n)(Hh:jD n.op=own)(Eb:own=3\/own=7)(Fc:least<=own)(hU:n.op=8\/n.op=7)
  (k:Int) (tl:List Int) (Fp:n.kids=k::tl) (l' :LB) (hk:exprP t.nodes f k own (jI l (jA n.op))=some l') (hl:l'.length<=jv):
  Calls prog 156 #[.pointer (some ⟨w.heap.size,0,none⟩),iv (root:Int),iv (least:Int)] W (PrR w t s next l' W):=by
 obtain⟨x,b,o,hx,e,hA,hc,Fx,Ni⟩:=TN.at_ hn;have hlt:=(jM5 hn).1;have FA:=TN.cnt;have Ns:=h.c6;rw[hA]at Ns;obtain⟨⟨op,name,vk,vn,vt,vs,kids⟩,A,c,vA,vc⟩:=x;subst e;simp only at Fp Hh hU Fx hk;subst Fp;have hw:∀i u,(ndC ⟨⟨op,name,vk,vn,vt,vs,k::tl⟩,A,c,vA,vc⟩)[i]? =some u->W.cell? ⟨b,o+(root*7+i),none⟩=some u:=fun i u hu=>by
  have h1:=hc i u hu;have hb:=jg h1;rw[World.cell?_of_block (h.kp.block b hb (fun e:w.heap.size<=b=>by have:b<w.heap.size:=hb;omega))];exact h1
 have c0:W.cell? ⟨b,o+root*7,none⟩=some (.int .i64 op):=hw 0 _ rfl;have c1:W.cell? ⟨b,o+root*7+1,none⟩=some (.string name):=hw 1 _ rfl;have c2:W.cell? ⟨b,o+root*7+2,none⟩=some (.int .i64 vk):=hw 2 _ rfl;have c3:W.cell? ⟨b,o+root*7+3,none⟩=some (.int .i64 vn):=hw 3 _ rfl;have c4:W.cell? ⟨b,o+root*7+4,none⟩=some (.string vt):=hw 4 _ rfl;have c5:W.cell? ⟨b,o+root*7+5,none⟩=some (.slice vA vs.length vc):=hw 5 _ rfl;have c6:W.cell? ⟨b,o+root*7+6,none⟩=some (.slice A (tl.length+1) c):=hw 6 _ rfl;have ho:=(jQ0 NoX W).alloc (.cells (ndC ⟨⟨op,name,vk,vn,vt,vs,k::tl⟩,A,c,vA,vc⟩).toArray 46);have BN:=G (jQ2 W 46 (ndC ⟨⟨op,name,vk,vn,vt,vs,k::tl⟩,A,c,vA,vc⟩).toArray);have HF:=G (FrP.of_old ho);have SP:=G (vi _ ((h.sg hg Fb).old ho) op (by omega));have g1:=jp _ f _ _ _ _ hk;have P1:=G (jT w _ t s next l B bc (h.old ho) (W.heap.size+1) (by simp) [⟨(jA op).toArray⟩] (jL4 g1 hl) (show 1<=1000 by decide));have EX:=G (fun W1 B1 c1 (hp:Pr w t s next (jI l (jA op)) B1 c1 W1)=>PX.ex W1 next _ l' B1 c1 k own hp (by omega) hk hl);have N0:=G (fun W1=>yC W1 op);rw[Hh]at N0;obtain⟨kb,ko,u,Wr,hu,TB⟩:=Fx.at_ (k:=0) (Nat.succ_pos _);have Nk:iv k=u:=(by injection hu);subst Nk;subst Wr;have KC:=G (fun W1 B1 c1 l1 (hp:Pr w t s next l1 B1 c1 W1)=>(show W1.cell? ⟨kb,ko,none⟩=some (.int .i64 k)from by
  have hb:=jg TB;rw[World.cell?_of_block (hp.kp.block kb hb (fun e:w.heap.size<=kb=>by have:kb<w.heap.size:=hb;omega))];exact TB))
 have f1:(0:Int)<=(root:Int):=(by omega);have f2:(root:Int).toNat=root:=(by omega);have f3:(root:Int)<(t.nodes.length:Int):=(by omega);have f4:¬(own:Int)<(least:Int):=(by omega);clear h hx hc hw Fx Ni TN PX ho hn FA hl hk g1 hu TB hg Fb Hh hU Fc;unfold ndC iv at*;rcases Eb with rfl|rfl
 all_goals
  go_enter_defers func156,ntmps156
  go_wp2_with (first|(go_at_call 191;refine(N0.out _).mono ?_;rintro e w1 ⟨rfl,rfl⟩)|(go_at_call 192;refine SP.out.mono ?_;rintro e w1 ⟨rfl,rfl⟩)|(go_at_call 53;refine P1.out.mono ?_;rintro e w2 ⟨rfl,B2,c2,hX,hf⟩;have H2:=G hX;have F2:=G hf;have n6:=(hf.blk _ _ _ (by decide) (by decide) BN.out).at_ 6 (v:=.slice (some ⟨kb,ko,none⟩) (tl.length+1) c) rfl;have k0:=KC.out _ _ _ _ hX;clear hX hf)|(go_at_call 156;refine(EX.out _ _ _ H2.out).mono ?_;rintro e w3 ⟨rfl,B3,c3,hX,hf⟩)|fail);have Gt:=G (show PrR w t s next l' W (.returned (.tuple #[])) w3 from⟨rfl,B3,c3,hX,(HF.out.trans F2.out).trans hf⟩);clear hX hf;simp[bodyPostD,Leaves,results,results156,go_sem];exact Gt.out
end Go.Proofs.YtmmjcbbogokmfaaGreatDoor

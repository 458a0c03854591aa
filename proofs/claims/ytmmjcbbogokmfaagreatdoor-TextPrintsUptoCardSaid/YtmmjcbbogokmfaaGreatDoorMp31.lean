import Derived.Test.YtmmjcbbogokmfaaGreatDoorMp23
import Derived.Test.YtmmjcbbogokmfaaGreatDoorMp25
set_option maxRecDepth 100000
set_option maxHeartbeats 25600000
namespace Go.Proofs.YtmmjcbbogokmfaaGreatDoor
open Go.Proofs.Tryz
open Go.RowKit
theorem Yz(w W:World)(t:Tre)(s:Sl)(st:Wr9)(B:OA)(bc:Nat)(h:Rw9 w t s st B bc W)(root below:Int)(least:Nat)(hc:st.ok=false):
  Calls prog 157 #[.pointer (some ⟨w.heap.size,0,none⟩),.int .i64 root,.int .i64 below,.int .i64 (least:Int)] W (WrR w t s st.bad W):=by
 have k9:=h.c9;have z9:=h.z 9;have HB:=G h.setBad;rw[hc]at k9;clear h;go_enter func157,ntmps157;go_wp2_with fail;go_end0;exact⟨rfl,B,bc,HB.out.1,HB.out.2⟩
theorem ZA(w W:World)(t:Tre)(s:Sl)(st:Wr9)(B:OA)(bc:Nat)(h:Rw9 w t s st B bc W)(root below:Int)(least:Nat)(FY:st.ok=true)(hc:root<0):
  Calls prog 157 #[.pointer (some ⟨w.heap.size,0,none⟩),.int .i64 root,.int .i64 below,.int .i64 (least:Int)] W (WrR w t s st.bad W):=by
 have k9:=h.c9;have z9:=h.z 9;have HB:=G h.setBad;rw[FY]at k9;have d1:decide (root<0)=true:=jK5 hc;clear h;go_enter func157,ntmps157;go_wp2_with fail;go_end0;exact⟨rfl,B,bc,HB.out.1,HB.out.2⟩
theorem ZB(w W:World)(t:Tre)(s:Sl)(st:Wr9)(B:OA)(bc:Nat)(h:Rw9 w t s st B bc W)(root below:Int)(least:Nat)(FY:st.ok=true)(hc:below<=root)(L5:¬root<0):
  Calls prog 157 #[.pointer (some ⟨w.heap.size,0,none⟩),.int .i64 root,.int .i64 below,.int .i64 (least:Int)] W (WrR w t s st.bad W):=by
 have k9:=h.c9;have z9:=h.z 9;have HB:=G h.setBad;rw[FY]at k9;have d1:decide (root<0)=false:=jK3 L5;have d2:decide (below<=root)=true:=jK5 hc;clear h;go_enter func157,ntmps157;go_wp2_with fail;go_end0;exact⟨rfl,B,bc,HB.out.1,HB.out.2⟩
theorem xz(w W:World)(hg:SgR w)(h8:8<=w.heap.size)(t:Tre)(s:Sl)(ns:List MNd)(TN:TrN w t s ns)(st:Wr9)(FY:st.ok=true)(B:OA)(bc:Nat)(h:Rw9 w t s st B bc W)(root:Nat)(below:Int)(least:Nat)(hb:(root:Int)<below)(n:Nd)(hn:t.nodes[root]? =some n)(hr:jK n=false):
  Calls prog 157 #[.pointer (some ⟨w.heap.size,0,none⟩),.int .i64 (root:Int),.int .i64 below,.int .i64 (least:Int)] W (WrR w t s st.bad W):=by
 obtain⟨x,b,o,hx,e,hA,hc,Ff,Gj⟩:=TN.at_ hn;have hlt:=(jM5 hn).1;have Nt:=h.c6;rw[hA]at Nt;obtain⟨⟨op,name,vk,vn,vt,vs,kids⟩,A,c,vA,vc⟩:=x;subst e;have H0:=G h;have MV:=G (Yy W (h.sgr hg h8) ⟨⟨op,name,vk,vn,vt,vs,kids⟩,A,c,vA,vc⟩);rw[show jK ((⟨⟨op,name,vk,vn,vt,vs,kids⟩,A,c,vA,vc⟩:MNd).n)=false from hr]at MV;have c0:W.cell? ⟨b,o+root*7,none⟩=some (.int .i64 op):=h.cellw (hc 0 _ rfl);have c1:W.cell? ⟨b,o+root*7+1,none⟩=some (.string name):=h.cellw (hc 1 _ rfl);have c2:W.cell? ⟨b,o+root*7+2,none⟩=some (.int .i64 vk):=h.cellw (hc 2 _ rfl);have c3:W.cell? ⟨b,o+root*7+3,none⟩=some (.int .i64 vn):=h.cellw (hc 3 _ rfl);have c4:W.cell? ⟨b,o+root*7+4,none⟩=some (.string vt):=h.cellw (hc 4 _ rfl);have c5:W.cell? ⟨b,o+root*7+5,none⟩=some (.slice vA vs.length vc):=h.cellw (hc 5 _ rfl);have c6:W.cell? ⟨b,o+root*7+6,none⟩=some (.slice A kids.length c):=h.cellw (hc 6 _ rfl);have k9:=h.c9;rw[FY]at k9;have f1:¬(root:Int)<0:=(by omega);have f1' :(0:Int)<=(root:Int):=(by omega);have f2:(root:Int).toNat=root:=(by omega);have f3:(root:Int)<(t.nodes.length:Int):=(by omega);have f5:¬below<=(root:Int):=(by omega);have f6:(root:Int)<below:=hb;have d1:decide ((root:Int)<0)=false:=jK3 f1;have d2:decide (below<=(root:Int))=false:=jK3 f5;clear h hx hc Ff Gj TN hn hlt hr hg h8 hb FY hA;unfold ndC iv at*;go_enter func157,ntmps157;go_wp2_with (first|(go_at_call 23;refine MV.out.mono ?_;rintro e w1 ⟨rfl,hX⟩;have H1:=G (H0.out.old hX);have F1:=G (FrW.of_old hX);have HB:=G H1.out.setBad;have k9:=H1.out.c9;have z9:=H1.out.z 9;clear hX)|fail);go_end0;exact⟨rfl,B,bc,HB.out.1,F1.out.trans HB.out.2⟩
theorem XZ{n:Nd}(hr:jK n=true):n.op=23/\(∃k q z tl,n.kids=k::q::z::tl)\/(jD n.op=3\/jD n.op=7)/\(∃k tl,n.kids=k::tl)\/(jD n.op=1\/jD n.op=2\/jD n.op=5\/jD n.op=6)/\(∃k q tl,n.kids=k::q::tl)\/jD n.op=4/\(∃k q tl,n.kids=k::q::tl)\/jD n.op=8:=by
 have R:=Vd hr;have K1:=Zp hr;have K2:=Zo hr;have K3:=Kz hr;have e1:jD n.op=1\/jD n.op=2\/jD n.op=5\/jD n.op=6->n.op=9\/n.op=10\/11<=n.op/\n.op<=22:=by unfold jD;((repeat' split)<;>omega)
 have e4:jD n.op=4->n.op=9\/n.op=10\/11<=n.op/\n.op<=22:=by unfold jD;((repeat' split)<;>omega)
 have e2:jD n.op=3\/jD n.op=7->n.op=7\/n.op=8:=by unfold jD;((repeat' split)<;>omega)
 have e0:jD n.op=0->n.op=23:=by unfold jD;((repeat' split)<;>omega)
 have e8:jD n.op<=8:=by unfold jD;((repeat' split)<;>omega)
 generalize jD n.op=L at*;by_cases h0:L=0
 ·have h1:=K3 (e0 h0)
  match hk:n.kids,h1 with
  |[k,q,z],_=>exact .inl ⟨e0 h0,k,q,z,[],rfl⟩
 by_cases h2:L=3\/L=7
 ·have h1:=K1 (e2 h2)
  match hk:n.kids,h1 with
  |[k],_=>exact .inr (.inl ⟨h2,k,[],rfl⟩)
 by_cases h4:L=4
 ·have h1:=K2 (e4 h4)
  match hk:n.kids,h1 with
  |[k,q],_=>exact .inr (.inr (.inr (.inl ⟨h4,k,q,[],rfl⟩)))
 by_cases h3:L=1\/L=2\/L=5\/L=6
 ·have h1:=K2 (e1 h3)
  match hk:n.kids,h1 with
  |[k,q],_=>exact .inr (.inr (.inl ⟨h3,k,q,[],rfl⟩))
 ·exact .inr (.inr (.inr (.inr (by omega))))
theorem QS(w:World)(hg:SgR w)(h8:8<=w.heap.size)(t:Tre)(s:Sl)(ns:List MNd)(TN:TrN w t s ns)(hv:∀n∈t.nodes,n.vn<=9223372036854775807/\n.vt.size<=100000000):∀f,ur w t s f
 |0=>fun W st B bc root below least h hu hf MR LW hl=>by
  rw[jU];cases FY:st.ok with
  |false=>exact Yz w W t s st B bc h root below least FY
  |true=>
   by_cases h0:root<0
   ·exact ZA w W t s st B bc h root below least FY h0
   ·by_cases h1:below<=root
    ·exact ZB w W t s st B bc h root below least FY h1 h0
    ·exact absurd (hf (by omega) (by omega)) (Nat.not_lt_zero _)
 |f+1=>fun W st B bc root below least h hu hf MR LW hl=>by
  rw[jU]at hl⊢;cases FY:st.ok with
  |false=>
   rw[jJ5 (show¬(false=true/\0<=root/\root<below)from fun e=>(by cases e.1))];exact Yz w W t s st B bc h root below least FY
  |true=>
   by_cases h0:root<0
   ·rw[jJ5 (show¬(true=true/\0<=root/\root<below)from fun e=>(by omega))];exact ZA w W t s st B bc h root below least FY h0
   by_cases h1:below<=root
   ·rw[jJ5 (show¬(true=true/\0<=root/\root<below)from fun e=>(by omega))];exact ZB w W t s st B bc h root below least FY h1 h0
   have WI:=hf (by omega) (by omega);rw[FY]at hl;rw[jJ6 (show true=true/\0<=root/\root<below from⟨rfl,by omega,by omega⟩)]at hl⊢;obtain⟨r,rfl⟩:∃r:Nat,root=(r:Int):=⟨root.toNat,by omega⟩;rw[jL1]at hl⊢;have hlt:r<t.nodes.length:=(by omega);rw[jJ9 hlt]at hl⊢;have hn:=jJ9 hlt;have hm:=jL6 hlt;generalize t.nodes[r]=n at*;simp only at hl⊢;cases hr:jK n with
   |false=>
    rw[jJ5 (show¬false=true by decide)];exact xz w W hg h8 t s ns TN st FY B bc h r below least (by omega) n hn hr
   |true=>
    rw[hr,jJ6 rfl]at hl;rw[jJ6 rfl];have PC:=QS w hg h8 t s ns TN hv f;have W8:r<=f:=(by omega);have hb:(r:Int)<below:=(by omega);refine XL w W hg h8 t s ns TN f PC st FY hu B bc h r below least hb W8 n hn hr ?_ (hv n hm) hl;rcases XZ hr with e|e|e|e|e
    ·exact .inl e
    ·exact .inr (.inl e)
    ·exact .inr (.inr (.inl ⟨by omega,e.2⟩))
    ·exact .inr (.inr (.inl ⟨by omega,e.2⟩))
    ·exact .inr (.inr (.inr e))
def VV(w:World)(t:Tre)(s:Sl):Prop:=∀(W:World) (st:Wr9) (B:OA) (bc:Nat) (root:Int),Rw9 w t s st B bc W->st.Ub->(jx t.nodes root st).b.length<=jN->
 Calls prog 122 #[.pointer (some ⟨w.heap.size,0,none⟩),.int .i64 root] W (WrR w t s (jx t.nodes root st) W)
theorem XF(w:World)(hg:SgR w)(h8:8<=w.heap.size)(t:Tre)(s:Sl)(ns:List MNd)(TN:TrN w t s ns)(hv:∀n∈t.nodes,n.vn<=9223372036854775807/\n.vt.size<=100000000):VV w t s:=fun W st B bc root h hu hl=>by
 have c6:=h.c6;unfold jx at hl⊢;have HP:=G (QS w hg h8 t s ns TN hv (t.nodes.length+1) W st B bc root t.nodes.length 0 h hu (fun h1 h2=>by omega) (Int.le_refl _) (by decide) hl);clear h hl hu hg h8 TN hv;go_enter func122,ntmps122;go_wp2_with (first|(go_at_call 157;refine HP.out.mono ?_;rintro e w1 ⟨rfl,B1,c1,hX,hf⟩;have H1:=G hX;have F1:=G hf;clear hX hf)|fail);go_end0;exact⟨rfl,B1,c1,H1.out,F1.out⟩
theorem yZ(ns:List Nd)(root:Int){st:Wr9}(h:st.Ub):(jx ns root st).Ub:=(zP ns _ _ _ _ _).ub h
theorem Zc(ns:List Nd)(w:LB)(root:Int)(s:Wr9):s.le (yx ns w root s):=by
 unfold yx;exact KQ (.refl s) ((((s.le_put w).trans (Wr9.le_put _ _)).trans (yM ns root _)).trans (Wr9.le_put _ _))
theorem xw(ns:List Nd)(w:LB)(root:Int){s:Wr9}(h:s.Ub):(yx ns w root s).Ub:=by
 unfold yx;split
 ·exact h
 ·exact(yZ ns root ((h.put _).put _)).put _
theorem jAI(w W:World)(t:Tre)(s:Sl)(WC:VV w t s)(st:Wr9)(B:OA)(bc:Nat)(h:Rw9 w t s st B bc W)(hu:st.Ub)(x:BA)(root:Int)(hl:(yx t.nodes (sb x) root st).b.length<=jN):
  Calls prog 124 #[.pointer (some ⟨w.heap.size,0,none⟩),.string x,.int .i64 root] W (WrR w t s (yx t.nodes (sb x) root st) W):=by
 unfold yx at hl⊢;by_cases hm:root= -1
 ·rw[jJ6 hm];have H:=G h;have m1:(root != -1)=false:=by rw[bne,beq_iff_eq.2 hm];rfl
  clear h hl hu hm WC;go_enter func124,ntmps124;go_wp2;go_end0;exact⟨rfl,B,bc,H.out,FrW.refl _⟩
 ·rw[jJ5 hm]at hl⊢;have m1:(root != -1)=true:=by rw[bne,jM3 hm];rfl
  obtain⟨s1,e1⟩:∃y,y=st.put (sb x):=⟨_,rfl⟩;rw[<-e1]at hl⊢;obtain⟨s2,e2⟩:∃y,y=s1.put [119,104,101,110]:=⟨_,rfl⟩;rw[<-e2]at hl⊢;obtain⟨s3,e3⟩:∃y,y=jx t.nodes root s2:=⟨_,rfl⟩;rw[<-e3]at hl⊢;have q3:s3.b.length<=jN:=jL4 (s3.le_put [59]) hl;have q2:s2.b.length<=jN:=jL4 (by rw[e3];exact yM _ _ _) q3;have q1:s1.b.length<=jN:=jL4 (by rw[e2];exact s1.le_put _) q2;have u2:s2.Ub:=by rw[e2,e1];exact(hu.put _).put _
  have P1:=G (show Calls prog 55 #[.pointer (some ⟨w.heap.size,0,none⟩),.string x] W (WrR w t s s1 W)from by rw[e1]at q1⊢;exact jc w W t s st B bc h x q1);have P2:=G (fun W1 B1 c1 (hp:Rw9 w t s s1 B1 c1 W1)=>(show Calls prog 55 #[.pointer (some ⟨w.heap.size,0,none⟩),.string ⟨#[119,104,101,110]⟩] W1 (WrR w t s s2 W1)from by rw[e2]at q2⊢;exact jc w W1 t s s1 B1 c1 hp ⟨#[119,104,101,110]⟩ q2));have P3:=G (fun W1 B1 c1 (hp:Rw9 w t s s2 B1 c1 W1)=>(show Calls prog 122 #[.pointer (some ⟨w.heap.size,0,none⟩),.int .i64 root] W1 (WrR w t s s3 W1)from by rw[e3]at q3⊢;exact WC W1 s2 B1 c1 root hp u2 q3));have P4:=G (fun W1 B1 c1 (hp:Rw9 w t s s3 B1 c1 W1)=>jc w W1 t s s3 B1 c1 hp ⟨#[59]⟩ hl);clear h hl hu hm WC q1 q2 q3 u2 e1 e2 e3;go_enter func124,ntmps124;go_wp2_with (first|(go_at_call 55;refine(P4.out _ _ _ H3.out).mono ?_;rintro e w4 ⟨rfl,B4,c4,hX,hf⟩;have H4:=G hX;have F4:=G hf;clear hX hf)|(go_at_call 122;refine(P3.out _ _ _ H2.out).mono ?_;rintro e w3 ⟨rfl,B3,c3,hX,hf⟩;have H3:=G hX;have F3:=G hf;clear hX hf)|(go_at_call 55;refine(P2.out _ _ _ H1.out).mono ?_;rintro e w2 ⟨rfl,B2,c2,hX,hf⟩;have H2:=G hX;have F2:=G hf;clear hX hf)|(go_at_call 55;refine P1.out.mono ?_;rintro e w1 ⟨rfl,B1,c1,hX,hf⟩;have H1:=G hX;have F1:=G hf;clear hX hf)|fail);go_end0;exact⟨rfl,B4,c4,H4.out,((F1.out.trans F2.out).trans F3.out).trans F4.out⟩
theorem jCL{s s' :Wr9}(h:s.Ub)(hu:s'.used=s.used)(hl:s.le s'):s'.Ub:=by
 unfold Wr9.Ub Wr9.le at*;omega
theorem vB{s:Wr9}(x:BA)(h:s.Ub):(s.named x).Ub:=jCL h (by unfold Wr9.named;split<;>rfl) (s.le_named x)
theorem ZJ{s:Wr9}(x:BA)(h:s.Ub):(s.inn x).Ub:=jCL h (by unfold Wr9.inn Wr9.named;((repeat' split)<;>rfl)) (s.le_inn x)
theorem uW{s:Wr9}(k:Int)(h:s.Ub):(s.kind k).Ub:=jCL h (by unfold Wr9.kind;split<;>rfl) (s.le_kind k)
theorem ZD{st st' :Wr9}{x:BA}(e:st' =st.named x)(q:st'.b.length<=jN):st.b.length<=jN:=jL4 (by rw[e];exact st.le_named x) q
theorem jHj{st st' :Wr9}{x:BA}(e:st' =st.inn x)(q:st'.b.length<=jN):st.b.length<=jN:=jL4 (by rw[e];exact st.le_inn x) q
theorem jGc{st st' :Wr9}{k:Int}(e:st' =st.kind k)(q:st'.b.length<=jN):st.b.length<=jN:=jL4 (by rw[e];exact st.le_kind k) q
theorem KK{ns:List Nd}{k:Int}{st st' :Wr9}(e:st' =jx ns k st)(q:st'.b.length<=jN):st.b.length<=jN:=jL4 (by rw[e];exact yM _ _ _) q
theorem jGb{ns:List Nd}{x:LB}{k:Int}{st st' :Wr9}(e:st' =yx ns x k st)(q:st'.b.length<=jN):st.b.length<=jN:=jL4 (by rw[e];exact Zc _ _ _ _) q
theorem YR{w:World}(hg:SgR w)(h8:8<=w.heap.size)(t:Tre)(s:Sl){st st' :Wr9}{x:BA}(e:st' =st.named x)(q:st'.b.length<=jN):RowKit.Hid (∀W1 B1 c1,Rw9 w t s st B1 c1 W1->Calls prog 56 #[.pointer (some ⟨w.heap.size,0,none⟩),.string x] W1 (WrR w t s st' W1)):=G fun W1 B1 c1 hp=>by
 subst e;exact Kj w W1 hg h8 t s st B1 c1 hp x q
theorem jHv{w:World}(hg:SgR w)(h8:8<=w.heap.size)(t:Tre)(s:Sl){st st' :Wr9}{x:BA}(e:st' =st.inn x)(q:st'.b.length<=jN):RowKit.Hid (∀W1 B1 c1,Rw9 w t s st B1 c1 W1->Calls prog 123 #[.pointer (some ⟨w.heap.size,0,none⟩),.string x] W1 (WrR w t s st' W1)):=G fun W1 B1 c1 hp=>by
 subst e;exact jEO w W1 hg h8 t s st B1 c1 hp x q
theorem jGr(w:World)(t:Tre)(s:Sl){st st' :Wr9}{k:Int}(e:st' =st.kind k)(q:st'.b.length<=jN):RowKit.Hid (∀W1 B1 c1,Rw9 w t s st B1 c1 W1->Calls prog 121 #[.pointer (some ⟨w.heap.size,0,none⟩),.int .i64 k] W1 (WrR w t s st' W1)):=G fun W1 B1 c1 hp=>by
 subst e;exact UI w W1 t s st B1 c1 hp k q
theorem qI{w:World}{t:Tre}{s:Sl}(WC:VV w t s){st st' :Wr9}{k:Int}(e:st' =jx t.nodes k st)(u:st.Ub)(q:st'.b.length<=jN):RowKit.Hid (∀W1 B1 c1,Rw9 w t s st B1 c1 W1->Calls prog 122 #[.pointer (some ⟨w.heap.size,0,none⟩),.int .i64 k] W1 (WrR w t s st' W1)):=G fun W1 B1 c1 hp=>by
 subst e;exact WC W1 st B1 c1 k hp u q
theorem jGT{w:World}{t:Tre}{s:Sl}(WC:VV w t s){st st' :Wr9}{x:BA}{k:Int}(e:st' =yx t.nodes (sb x) k st)(u:st.Ub)(q:st'.b.length<=jN):RowKit.Hid (∀W1 B1 c1,Rw9 w t s st B1 c1 W1->Calls prog 124 #[.pointer (some ⟨w.heap.size,0,none⟩),.string x,.int .i64 k] W1 (WrR w t s st' W1)):=G fun W1 B1 c1 hp=>by
 subst e;exact jAI w W1 t s WC st B1 c1 hp u x k q
theorem jAS(w W:World)(hg:SgR w)(h8:8<=w.heap.size)(t:Tre)(s:Sl)(WC:VV w t s)(st:Wr9)(hu:st.Ub)(B:OA)(bc:Nat)(h:Rw9 w t s st B bc W)(a:Atr)(hl:(QK t.nodes a st).b.length<=jN):
  Calls prog 57 #[.pointer (some ⟨w.heap.size,0,none⟩),.agg (atC a).toArray] W (WrR w t s (QK t.nodes a st) W):=by
 obtain⟨name,at_,order,opt,kind,dflt,when_⟩:=a;obtain⟨s1,e1⟩:∃x,x=st.put [97,116,116,114,105,98,117,116,101]:=⟨_,rfl⟩;obtain⟨s2,e2⟩:∃x,x=s1.named name:=⟨_,rfl⟩;obtain⟨s3,e3⟩:∃x,x=s2.put [58]:=⟨_,rfl⟩;obtain⟨s4,e4⟩:∃x,x=if opt=true then s3.put [111,112,116,105,111,110,97,108]else s3:=⟨_,rfl⟩;obtain⟨s5,e5⟩:∃x,x=s4.kind kind:=⟨_,rfl⟩;obtain⟨s6,e6⟩:∃x,x=s5.put [61]:=⟨_,rfl⟩;obtain⟨s7,e7⟩:∃x,x=if dflt= -1 then s5 else jx t.nodes dflt s6:=⟨_,rfl⟩;obtain⟨s8,e8⟩:∃x,x=s7.put [119,104,101,110]:=⟨_,rfl⟩;obtain⟨s9,e9⟩:∃x,x=if when_= -1 then s7 else jx t.nodes when_ s8:=⟨_,rfl⟩;obtain⟨sf,ef⟩:∃x,x=s9.put [59]:=⟨_,rfl⟩;have es:QK t.nodes ⟨name,at_,order,opt,kind,dflt,when_⟩ st=sf:=by rw[ef,e9,e8,e7,e6,e5,e4,e3,e2,e1];rfl
 rw[es]at hl⊢;have q9:=Yg ef hl;have q7:s7.b.length<=jN:=by
  have q:=q9;rw[e9]at q;split at q
  ·exact q
  ·exact Yg e8 (KK rfl q)
 have q5:s5.b.length<=jN:=by
  have q:=q7;rw[e7]at q;split at q
  ·exact q
  ·exact Yg e6 (KK rfl q)
 have q4:=jGc e5 q5;have q3:s3.b.length<=jN:=by
  have q:=q4;rw[e4]at q;split at q
  ·exact Yg rfl q
  ·exact q
 have q2:=Yg e3 q3;have u5:s5.Ub:=by
  have u3:=ZU e3 (e2▸vB name (ZU e1 hu));rw[e5];refine uW _ ?_;rw[e4];split
  ·exact u3.put _
  ·exact u3
 have u6:=ZU e6 u5;have u8:s8.Ub:=by
  rw[e8,e7];split
  ·exact u5.put _
  ·exact(yZ _ _ u6).put _
 have K1:=Jk w t s (x:=⟨#[97,116,116,114,105,98,117,116,101]⟩) e1 (ZD e2 q2);have K2:=YR hg h8 t s e2 q2;have K3:=Jk w t s (x:=⟨#[58]⟩) e3 q3;have K5:=jGr w t s e5 q5;have KF:=Jk w t s (x:=⟨#[59]⟩) ef hl;have ho:=(jQ0 NoX W).alloc (.cells #[.string name,.int .i64 at_,.int .i64 order,.int .i64 kind,.bool opt,.int .i64 dflt,.int .i64 when_] 114);have BN:=G (jQ2 W 114 #[.string name,.int .i64 at_,.int .i64 order,.int .i64 kind,.bool opt,.int .i64 dflt,.int .i64 when_]);have F:=G (FrW.of_old ho);have H:=G (h.old ho);unfold atC iv at*;clear h ho;by_cases hd:dflt= -1<;>by_cases hw:when_= -1<;>cases opt
 all_goals
  simp only[hd,hw,if_true,if_false,Bool.false_eq_true]at e4 e7 e9
  try have K4:=Jk w t s (x:=⟨#[111,112,116,105,111,110,97,108]⟩) e4 q4
  try have K6:=Jk w t s (x:=⟨#[61]⟩) e6 (KK e7 q7)
  try have K7:=qI WC e7 u6 q7
  try have K8:=Jk w t s (x:=⟨#[119,104,101,110]⟩) e8 (KK e9 q9)
  try have K9:=qI WC e9 u8 q9
  first|have m1:=bnf hd|have m1:=bnt hd
  first|have m2:=bnf hw|have m2:=bnt hw
  clear hd hw hl q9 q7 q5 q4 q3 q2 u5 u6 u8 hg h8 WC hu es e1 e2 e3 e5 e6 e8 ef
  try subst e4
  try subst e7
  try subst e9
  go_enter func57,ntmps57;go_wp2_with (first|((first|(go_at_call 55;first|refine(KF.out _ _ _ H.out).mono ?_ |refine(K8.out _ _ _ H.out).mono ?_ |refine(K6.out _ _ _ H.out).mono ?_ |refine(K4.out _ _ _ H.out).mono ?_ |refine(K3.out _ _ _ H.out).mono ?_ |refine(K1.out _ _ _ H.out).mono ?_)|(go_at_call 56;refine(K2.out _ _ _ H.out).mono ?_)|(go_at_call 121;refine(K5.out _ _ _ H.out).mono ?_)|(go_at_call 122;first|refine(K9.out _ _ _ H.out).mono ?_ |refine(K7.out _ _ _ H.out).mono ?_));rintro e w1 ⟨rfl,B1,c1',hX,hf⟩;have H:=G hX;have F:=G (F.out.trans hf);have BN:=G (hf.blk _ _ _ (by decide) (by decide) BN.out);have n0:=BN.out.at_ 0 (v:=.string name) rfl;have n3:=BN.out.at_ 3 (v:=.int .i64 kind) rfl;have n4:=BN.out.at_ 4 (v:=.bool _) rfl;have n5:=BN.out.at_ 5 (v:=.int .i64 _) rfl;have n6:=BN.out.at_ 6 (v:=.int .i64 _) rfl;clear hX hf)|fail);go_end0;exact⟨rfl,B1,c1',H.out,F.out⟩
theorem XH(w W:World)(hg:SgR w)(h8:8<=w.heap.size)(t:Tre)(s:Sl)(WC:VV w t s)(st:Wr9)(hu:st.Ub)(B:OA)(bc:Nat)(h:Rw9 w t s st B bc W)(a:Stg)(hl:(XO t.nodes a st).b.length<=jN):
  Calls prog 58 #[.pointer (some ⟨w.heap.size,0,none⟩),.agg (sgC a).toArray] W (WrR w t s (XO t.nodes a st) W):=by
 obtain⟨name,at_,order,in_,inAt,opens,closes⟩:=a;obtain⟨s1,e1⟩:∃x,x=st.put [115,116,97,103,101]:=⟨_,rfl⟩;obtain⟨s2,e2⟩:∃x,x=s1.named name:=⟨_,rfl⟩;obtain⟨s3,e3⟩:∃x,x=s2.inn in_:=⟨_,rfl⟩;obtain⟨s4,e4⟩:∃x,x=s3.put [123]:=⟨_,rfl⟩;obtain⟨s5,e5⟩:∃x,x=yx t.nodes [111,112,101,110,115] opens s4:=⟨_,rfl⟩;obtain⟨s6,e6⟩:∃x,x=yx t.nodes [99,108,111,115,101,115] closes s5:=⟨_,rfl⟩;obtain⟨s7,e7⟩:∃x,x=s6.put [125]:=⟨_,rfl⟩;have es:XO t.nodes ⟨name,at_,order,in_,inAt,opens,closes⟩ st=s7:=by rw[e7,e6,e5,e4,e3,e2,e1];rfl
 rw[es]at hl⊢;have q7:=hl;have q6:=Yg e7 q7;have q5:=jGb e6 q6;have q4:=jGb e5 q5;have q3:=Yg e4 q4;have q2:=jHj e3 q3;have q1:=ZD e2 q2;have u0:=hu;have u1:s1.Ub:=ZU e1 u0;have u2:s2.Ub:=e2▸vB _ u1;have u3:s3.Ub:=e3▸ZJ _ u2;have u4:s4.Ub:=ZU e4 u3;have u5:s5.Ub:=e5▸xw _ _ _ u4;have K1:=Jk w t s (x:=⟨#[115,116,97,103,101]⟩) e1 q1;have K2:=YR hg h8 t s e2 q2;have K3:=jHv hg h8 t s e3 q3;have K4:=Jk w t s (x:=⟨#[123]⟩) e4 q4;have K5:=jGT WC (x:=⟨#[111,112,101,110,115]⟩) e5 u4 q5;have K6:=jGT WC (x:=⟨#[99,108,111,115,101,115]⟩) e6 u5 q6;have K7:=Jk w t s (x:=⟨#[125]⟩) e7 q7;have ho:=(jQ0 NoX W).alloc (.cells #[.string name,.int .i64 at_,.int .i64 order,.string in_,.int .i64 inAt,.int .i64 opens,.int .i64 closes] 117);have BN:=G (jQ2 W 117 #[.string name,.int .i64 at_,.int .i64 order,.string in_,.int .i64 inAt,.int .i64 opens,.int .i64 closes]);have F:=G (FrW.of_old ho);have H:=G (h.old ho);clear h ho hl hg h8 WC hu es e1 q1 e2 q2 e3 q3 e4 q4 e5 q5 e6 q6 e7 q7 u0 u1 u2 u3 u4 u5;unfold sgC iv at*;go_enter func58,ntmps58;go_wp2_with (first|((first|(go_at_call 55;first|refine(K7.out _ _ _ H.out).mono ?_ |refine(K4.out _ _ _ H.out).mono ?_ |refine(K1.out _ _ _ H.out).mono ?_)|(go_at_call 56;refine(K2.out _ _ _ H.out).mono ?_)|(go_at_call 123;refine(K3.out _ _ _ H.out).mono ?_)|(go_at_call 124;first|refine(K6.out _ _ _ H.out).mono ?_ |refine(K5.out _ _ _ H.out).mono ?_));rintro e w1 ⟨rfl,B1,c1',hX,hf⟩;have H:=G hX;have F:=G (F.out.trans hf);have BN:=G (hf.blk _ _ _ (by decide) (by decide) BN.out);have n0:=BN.out.at_ 0 (v:=.string name) rfl;have n3:=BN.out.at_ 3 (v:=.string in_) rfl;have n5:=BN.out.at_ 5 (v:=.int .i64 opens) rfl;have n6:=BN.out.at_ 6 (v:=.int .i64 closes) rfl;clear hX hf)|fail);go_end0;exact⟨rfl,B1,c1',H.out,F.out⟩
theorem jAJ(w W:World)(hg:SgR w)(h8:8<=w.heap.size)(t:Tre)(s:Sl)(WC:VV w t s)(st:Wr9)(hu:st.Ub)(B:OA)(bc:Nat)(h:Rw9 w t s st B bc W)(a:Mil)(hl:(XN t.nodes a st).b.length<=jN):
  Calls prog 59 #[.pointer (some ⟨w.heap.size,0,none⟩),.agg (miC a).toArray] W (WrR w t s (XN t.nodes a st) W):=by
 obtain⟨name,at_,order,in_,inAt,when_⟩:=a;obtain⟨s1,e1⟩:∃x,x=st.put [109,105,108,101,115,116,111,110,101]:=⟨_,rfl⟩;obtain⟨s2,e2⟩:∃x,x=s1.named name:=⟨_,rfl⟩;obtain⟨s3,e3⟩:∃x,x=s2.inn in_:=⟨_,rfl⟩;obtain⟨s4,e4⟩:∃x,x=s3.put [114,101,97,99,104,101,100]:=⟨_,rfl⟩;obtain⟨s5,e5⟩:∃x,x=s4.put [119,104,101,110]:=⟨_,rfl⟩;obtain⟨s6,e6⟩:∃x,x=jx t.nodes when_ s5:=⟨_,rfl⟩;obtain⟨s7,e7⟩:∃x,x=s6.put [59]:=⟨_,rfl⟩;have es:XN t.nodes ⟨name,at_,order,in_,inAt,when_⟩ st=s7:=by rw[e7,e6,e5,e4,e3,e2,e1];rfl
 rw[es]at hl⊢;have q7:=hl;have q6:=Yg e7 q7;have q5:=KK e6 q6;have q4:=Yg e5 q5;have q3:=Yg e4 q4;have q2:=jHj e3 q3;have q1:=ZD e2 q2;have u0:=hu;have u1:s1.Ub:=ZU e1 u0;have u2:s2.Ub:=e2▸vB _ u1;have u3:s3.Ub:=e3▸ZJ _ u2;have u4:s4.Ub:=ZU e4 u3;have u5:s5.Ub:=ZU e5 u4;have K1:=Jk w t s (x:=⟨#[109,105,108,101,115,116,111,110,101]⟩) e1 q1;have K2:=YR hg h8 t s e2 q2;have K3:=jHv hg h8 t s e3 q3;have K4:=Jk w t s (x:=⟨#[114,101,97,99,104,101,100]⟩) e4 q4;have K5:=Jk w t s (x:=⟨#[119,104,101,110]⟩) e5 q5;have K6:=qI WC e6 u5 q6;have K7:=Jk w t s (x:=⟨#[59]⟩) e7 q7;have ho:=(jQ0 NoX W).alloc (.cells #[.string name,.int .i64 at_,.int .i64 order,.string in_,.int .i64 inAt,.int .i64 when_] 64);have BN:=G (jQ2 W 64 #[.string name,.int .i64 at_,.int .i64 order,.string in_,.int .i64 inAt,.int .i64 when_]);have F:=G (FrW.of_old ho);have H:=G (h.old ho);clear h ho hl hg h8 WC hu es e1 q1 e2 q2 e3 q3 e4 q4 e5 q5 e6 q6 e7 q7 u0 u1 u2 u3 u4 u5;unfold miC iv at*;go_enter func59,ntmps59;go_wp2_with (first|((first|(go_at_call 55;first|refine(K7.out _ _ _ H.out).mono ?_ |refine(K5.out _ _ _ H.out).mono ?_ |refine(K4.out _ _ _ H.out).mono ?_ |refine(K1.out _ _ _ H.out).mono ?_)|(go_at_call 56;refine(K2.out _ _ _ H.out).mono ?_)|(go_at_call 123;refine(K3.out _ _ _ H.out).mono ?_)|(go_at_call 122;refine(K6.out _ _ _ H.out).mono ?_));rintro e w1 ⟨rfl,B1,c1',hX,hf⟩;have H:=G hX;have F:=G (F.out.trans hf);have BN:=G (hf.blk _ _ _ (by decide) (by decide) BN.out);have n0:=BN.out.at_ 0 (v:=.string name) rfl;have n3:=BN.out.at_ 3 (v:=.string in_) rfl;have n5:=BN.out.at_ 5 (v:=.int .i64 when_) rfl;clear hX hf)|fail);go_end0;exact⟨rfl,B1,c1',H.out,F.out⟩
end Go.Proofs.YtmmjcbbogokmfaaGreatDoor

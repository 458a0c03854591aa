import Derived.Test.YtmmjcbbogokmfaaGreatDoorMb34
set_option maxRecDepth 100000
set_option maxHeartbeats 25600000
namespace Go.Proofs.YtmmjcbbogokmfaaGreatDoor
open Go.Proofs.Tryz
open Go.RowKit
theorem Vh(s:BA)(b:LB):b.length<=(inP s b).length:=by
 unfold inP;split
 ·exact jL3 _
 ·exact vN _ _
theorem kj(ns:List Nd)(root:Int)(ws:List LB)(b b' :LB)(h:vq ns root ws b=some b'):b.length<=b'.length:=by
 unfold vq at h;split at h
 ·exact jL4 (vN _ _) (jp _ _ _ _ _ _ h)
 ·injection h with h;rw[h];exact jL3 _
theorem zQ{l:LB}(h:(l++[10]).length<=jv):l.length<=jv/\l.length+1<=maxLen/\(l.length+1)*1<=140737488355328/\l.length+1=(l++[10]).length:=by
 unfold jv at*;have e:(l++[10]).length=l.length+1:=by rw[jJ4];rfl
 rw[e]at h⊢;exact⟨by omega,by unfold maxLen;omega,by omega,rfl⟩
theorem jFW(w W:World)(t:Tre)(s:Sl)(ns:List MNd)(ps:List MSt)(TD:TrD w t s ns ps)(PX:PxAll w t s (t.nodes.length+1))(i:Nat)(a:Mil)(ha:t.miles[i]? =some a)(h0:0<=a.when_)(next:Nat)(l l4:LB)(B:OA)(bc:Nat)(h:Pr w t s next l B bc W)(hk:Zg t.nodes a l=some l4)(hl:(l4++[10]).length<=jv):
  Calls prog 54 #[.pointer (some ⟨w.heap.size,0,none⟩),.int .i64 3,iv (i:Int)] W (PrR w t s next (l4++[10]) W):=by
 obtain⟨i0,hi,FF,Ft,FM⟩:=info_parts Zz;obtain⟨b,o,hA,hc⟩:=kH (C:=miC) (fun x=>rfl) TD.rM ha (jM5 ha).1;have hlt:=(jM5 ha).1;have FA:=TD.nM;have NO:=h.c4;rw[hA]at NO;have hw:=fun j u hu=>h.cellw (hc j u hu);obtain⟨name,at_,order,in_,inAt,when_⟩:=a;simp only at h0;unfold Zg at hk;obtain⟨l3,h3,e4⟩:=jM4 hk;simp only at h3;subst e4;have c0:W.cell? ⟨b,o+i*6,none⟩=some (.string name):=hw 0 _ rfl;have c1:W.cell? ⟨b,o+i*6+1,none⟩=some (.int .i64 at_):=hw 1 _ rfl;have c2:W.cell? ⟨b,o+i*6+2,none⟩=some (.int .i64 order):=hw 2 _ rfl;have c3:W.cell? ⟨b,o+i*6+3,none⟩=some (.string in_):=hw 3 _ rfl;have c4:W.cell? ⟨b,o+i*6+4,none⟩=some (.int .i64 inAt):=hw 4 _ rfl;have c5:W.cell? ⟨b,o+i*6+5,none⟩=some (.int .i64 when_):=hw 5 _ rfl;have f1:(0:Int)<=(i:Int):=(by omega);have f2:(i:Int).toNat=i:=(by omega);have f3:(i:Int)<(t.miles.length:Int):=(by omega);have ho:Old W (W.alloc (.cells #[.string name,.int .i64 at_,.int .i64 order,.string in_,.int .i64 inAt,.int .i64 when_] 64)):=(jQ0 NoX W).alloc _;have BN:=G (jQ2 W 64 #[.string name,.int .i64 at_,.int .i64 order,.string in_,.int .i64 inAt,.int .i64 when_]);have HW:=G (FrP.of_old ho);have g4:=(zQ hl).1;have g3:l3.length<=jv:=jL4 (jH l3 [59]).1 g4;have NS:=G (zQ hl);unfold vq at h3;rw[jJ6 h0]at h3;unfold exP at h3;have g2' :=jp _ _ _ _ _ _ h3;have g2:(inP in_ (jU l [[109,105,108,101,115,116,111,110,101],tb name])).length<=jv:=jL4 (vN _ _) (jL4 g2' g3);have g1:(jU l [[109,105,108,101,115,116,111,110,101],tb name]).length<=jv:=jL4 (Vh _ _) g2;generalize Gg:inP in_ (jU l [[109,105,108,101,115,116,111,110,101],tb name])=l2 at*;have P1:=G (jT w _ t s next l B bc (h.old ho) (W.heap.size+1) (by simp) [⟨#[109,105,108,101,115,116,111,110,101]⟩,name] g1 (show 2<=1000 by decide));have IN:=G (fun W1 B1 c1 (hp:Pr w t s next (jU l [[109,105,108,101,115,116,111,110,101],tb name]) B1 c1 W1)=>xA w W1 t s next _ B1 c1 hp in_ (Gg▸g2));rw[Gg]at IN;have RU:=G (fun W1 B1 c1 Q (hp:Pr w t s next l2 B1 c1 W1) (hQ:Q=W1.heap.size)=>yT w W1 t s _ PX next l2 l3 B1 c1 hp Q hQ [⟨#[114,101,97,99,104,101,100]⟩,⟨#[119,104,101,110]⟩] when_ h0 h3 (jL4 g2' g3) g3 (show 2<=1000 by decide));have P2:=G (fun W1 B1 c1 Q (hp:Pr w t s next l3 B1 c1 W1) (hQ:Q=W1.heap.size)=>jT w W1 t s next l3 B1 c1 hp Q hQ [⟨#[59]⟩] g4 (show 1<=1000 by decide));clear h hA hc hw ha hlt TD ho hk h3 g1 g2 g2' g3 g4 hl Gg PX h0;have NY:=G (show(jI l3 [59]).map bv++[bv 10]=(jI l3 [59]++[10]).map bv by rw[jN3 (l₂:=[10])];rfl);unfold iv at*;go_enter func54,ntmps54;go_wp2_with (first|(at_builtin;refine jF _ rfl (.tmp 143) (.tmp 144) 33 rfl w.heap.size 5 i0 (.int .u8 0) 1 1 underlying33 hi FF Ft FM rfl (by decide) (.slice B5 (jI l3 [59]).length c5') (jI l3 [59]).length ((jI l3 [59]).map bv) rfl (jW H5.out.own ((jQ0 NoX _).alloc _) (fun _ _ e=>e)) _ 1 1 [bv 10] rfl (Rd.one_new _ _ _) (kK _ rfl) NS.out.2.1 NS.out.2.2.1 (jL4 H5.out.kp.size ((jQ0 NoX _).alloc _).size) ?_;intro B6 c6' w6 Hh hgrow Ff;rw[jC]at hgrow;rw[NY.out,NS.out.2.2.2]at Hh;have HG:=H5.out.grow ((jQ0 NoX _).alloc _) hgrow Hh;have WO:=HG.1.at_ 9 rfl;have M9:=HG.1.frozen 9;have HN:=G HG.2;clear Hh hgrow Ff HG)|(go_at_call 53;refine(P2.out _ _ _ _ H4.out (by simp)).mono ?_;rintro e w5 ⟨rfl,B5,c5',hX,hf⟩;have H5:=G hX;have F5:=G hf;have k9:=hX.c9;clear hX hf)|(go_at_call 118;refine(RU.out _ _ _ _ H3.out (by simp)).mono ?_;rintro e w4 ⟨rfl,B4,c4',hX,hf⟩;have H4:=G hX;have F4:=G hf;clear hX hf)|(go_at_call 119;refine(IN.out _ _ _ H2.out).mono ?_;rintro e w3 ⟨rfl,B3,c3',hX,hf⟩;have H3:=G hX;have F3:=G hf;have BN3:=G (hf.blk _ _ _ (by decide) (by decide) BN2.out);have n5:=BN3.out.at_ 5 (v:=.int .i64 when_) rfl;clear hX hf)|(go_at_call 53;refine P1.out.mono ?_;rintro e w2 ⟨rfl,B2,c2',hX,hf⟩;have H2:=G hX;have F2:=G hf;have BN2:=G (hf.blk _ _ _ (by decide) (by decide) BN.out);have n3:=BN2.out.at_ 3 (v:=.string in_) rfl;clear hX hf)|fail);go_end0;rw[<-NS.out.2.2.2]at HN;exact⟨rfl,B6,c6',HN.out.1,((((HW.out.trans F2.out).trans F3.out).trans F4.out).trans F5.out).trans HN.out.2⟩
section
variable{ns:List Nd}{nx n2:Nat}
theorem Yq{a b:Int}(h:(jV ns a nx).bind (jV ns b)=some n2)(hn:nx<=1000000)(hl:ns.length<=1000000):n2<=1000000:=by
 obtain⟨m,h1,h2⟩:=jM2 h;exact kc h2 (kc h1 hn hl) hl
theorem xn:∀(l:List Eff) {nx:Nat},vM ns l nx=some n2->nx<=1000000->ns.length<=1000000->n2<=1000000
 |[],nx,h,hn,_=>by
  rw[vM]at h;injection h with h;omega
 |e::l,nx,h,hn,hl=>by
  rw[vM]at h;split at h
  ·obtain⟨m,h1,h2⟩:=jM2 h;exact xn l h2 (kc h1 hn hl) hl
  ·cases h
end
theorem xo{t:Tre}{d:Int×Int}{nx n2:Nat}(h:km t d nx=some n2)(hn:nx<=1000000)(hl:t.nodes.length<=1000000):n2<=1000000:=by
 unfold km at h;split at h
 ·obtain⟨a,_,h⟩:=jM2 h;unfold KW at h;split at h
  ·exact Yq h hn hl
  ·cases h
 split at h
 ·obtain⟨a,_,h⟩:=jM2 h;unfold Vt at h;split at h
  ·exact Yq h hn hl
  ·cases h
 split at h
 ·obtain⟨a,_,h⟩:=jM2 h;unfold Jw at h;split at h
  ·have:=qO h;omega
  ·cases h
 ·obtain⟨a,_,h⟩:=jM2 h;unfold Jv at h;split at h
  ·obtain⟨m,h1,h2⟩:=jM2 h;exact xn _ h2 (kc h1 hn hl) hl
  ·cases h
theorem yb(b x:LB):b.length<=(jI b x).length:=(jH b x).1
theorem jCn{ns:List Nd}{a:Atr}{b b' :LB}(h:ug ns a b=some b'):b.length<=b'.length:=by
 unfold ug at h;obtain⟨b3,h1,h⟩:=jM2 h;obtain⟨b4,h2,h⟩:=jM4 h;have e1:=kj _ _ _ _ _ h1;have e2:=kj _ _ _ _ _ h2;have e3:=yb b4 [59];rw[h]at e3;have e4:=vN [[97,116,116,114,105,98,117,116,101],tb a.name,[58]] b;have e5:=yb (if a.opt=true then jI (jU b [[97,116,116,114,105,98,117,116,101],tb a.name,[58]]) [111,112,116,105,111,110,97,108]else jU b [[97,116,116,114,105,98,117,116,101],tb a.name,[58]]) (Vz a.kind);have e6:(jU b [[97,116,116,114,105,98,117,116,101],tb a.name,[58]]).length<=(if a.opt=true then jI (jU b [[97,116,116,114,105,98,117,116,101],tb a.name,[58]]) [111,112,116,105,111,110,97,108]else jU b [[97,116,116,114,105,98,117,116,101],tb a.name,[58]]).length:=by
  split
  ·exact yb _ _
  ·exact jL3 _
 omega
theorem xj{ns:List Nd}{r:Int}{w b b' :LB}(h:ZZ ns r w b=some b'):b.length<=b'.length:=by
 unfold ZZ at h;split at h
 ·obtain⟨b1,h1,h⟩:=jM4 h;have e1:=kj _ _ _ _ _ h1;have e2:=yb b1 [59];rw[h]at e2;omega
 ·injection h with h;rw[h];exact jL3 _
theorem jCm{ns:List Nd}{a:Stg}{b b' :LB}(h:uf ns a b=some b'):b.length<=b'.length:=by
 unfold uf at h;obtain⟨b3,h1,h⟩:=jM2 h;obtain⟨b4,h2,h⟩:=jM4 h;have e1:=xj h1;have e2:=xj h2;have e3:=yb b4 [125];rw[h]at e3;have e4:=vN [[115,116,97,103,101],tb a.name] b;have e5:=Vh a.in_ (jU b [[115,116,97,103,101],tb a.name]);have e6:=yb (inP a.in_ (jU b [[115,116,97,103,101],tb a.name])) [123];omega
theorem jCl{ns:List Nd}{a:Mil}{b b' :LB}(h:Zg ns a b=some b'):b.length<=b'.length:=by
 unfold Zg at h;obtain⟨b4,h2,h⟩:=jM4 h;have e2:=kj _ _ _ _ _ h2;have e3:=yb b4 [59];rw[h]at e3;have e4:=vN [[109,105,108,101,115,116,111,110,101],tb a.name] b;have e5:=Vh a.in_ (jU b [[109,105,108,101,115,116,111,110,101],tb a.name]);omega
theorem zq:∀(l:List Prm) (i:Nat) (b:LB),b.length<=(vj l i b).length
 |[],_,b=>jL3 _
 |p::l,i,b=>by
  rw[vj];refine jL4 ?_ (zq l (i+1) _);refine jL4 ?_ (vN _ _);split
  ·exact yb _ _
  ·exact jL3 _
theorem zJ{ns:List Nd}:∀(l:List Eff) {b b' :LB},ve ns l b=some b' ->b.length<=b'.length
 |[],b,b',h=>by
  rw[ve]at h;injection h with h;rw[h];exact jL3 _
 |e::l,b,b',h=>by
  rw[ve]at h;obtain⟨b1,h1,h2⟩:=jM2 h;have e2:=zJ l h2;have e3:=yb b1 [59];split at h1
  ·injection h1 with h1;have:=vN [[114,101,111,112,101,110],tb e.name] b;rw[h1]at this;omega
  ·have:=kj _ _ _ _ _ h1;omega
theorem jCj{ns:List Nd}{a:Stp}{b b' :LB}(h:xM ns a b=some b'):b.length<=b'.length:=by
 unfold xM at h;obtain⟨b3,h1,h⟩:=jM2 h;obtain⟨b4,h2,h⟩:=jM4 h;have e1:=kj _ _ _ _ _ h1;have e2:=zJ _ h2;have e3:=yb b4 [125];have e3' :=yb b3 [123];rw[h]at e3;have e4:=vN [[115,116,101,112],tb a.name,[40]] b;have e5:=zq a.params 0 (jU b [[115,116,101,112],tb a.name,[40]]);have e6:=yb (vj a.params 0 (jU b [[115,116,101,112],tb a.name,[40]])) [41];have e7:=Vh a.in_ (jI (vj a.params 0 (jU b [[115,116,101,112],tb a.name,[40]])) [41]);omega
theorem jCk{t:Tre}{d:Int×Int}{b b' :LB}(h:Kw t d b=some b'):b.length+1<=b'.length:=by
 unfold Kw at h;obtain⟨b1,h,e⟩:=jM4 h;have hl:b1.length+1=b'.length:=by rw[<-e,jJ4];rfl
 rw[<-hl];refine Nat.succ_le_succ ?_;split at h
 ·obtain⟨a,_,h⟩:=jM2 h;exact jCn h
 split at h
 ·obtain⟨a,_,h⟩:=jM2 h;exact jCm h
 split at h
 ·obtain⟨a,_,h⟩:=jM2 h;exact jCl h
 ·obtain⟨a,_,h⟩:=jM2 h;exact jCj h
theorem Vl{t:Tre}:∀(l:List (Int×Int)) {b b' :LB},yx t l b=some b' ->b.length<=b'.length
 |[],b,b',h=>by
  rw[yx]at h;injection h with h;rw[h];exact jL3 _
 |d::l,b,b',h=>by
  rw[yx]at h;obtain⟨b1,h1,h2⟩:=jM2 h;have:=jCk h1;have:=Vl l h2;omega
structure PrS(w:World)(w1:World)(t:Tre)(s:Sl)(lp:List (Int×Int))(q:Nat)(next:Nat)(l:LB)(B:OA)(bc:Nat)(W:World):Prop where
 pr:Pr w1 t s next l B bc W
 row:Blk W q 134 (lp.flatMap lpC).toArray
 box:Blk W w.heap.size 29 (jJ t s).toArray
section
variable{w w1 W W1:World}{t:Tre}{s:Sl}{lp:List (Int×Int)}{q next n2:Nat}{l l2:LB}{B B2:OA}{bc c2:Nat}
theorem PrS.old(h:PrS w w1 t s lp q next l B bc W)(ho:Old W W1):PrS w w1 t s lp q next l B bc W1:=⟨h.pr.old ho,h.row.old ho,h.box.old ho⟩
theorem PrS.step(h:PrS w w1 t s lp q next l B bc W)(hp:Pr w1 t s n2 l2 B2 c2 W1)(hf:FrP W W1):PrS w w1 t s lp q n2 l2 B2 c2 W1:=⟨hp,hf.blk _ _ _ (by decide) (by decide) h.row,hf.blk _ _ _ (by decide) (by decide) h.box⟩
theorem Jo(h:PrS w w1 t s lp q next l B bc W){k:Nat}{d:Int×Int}(hk:lp[k]? =some d):W.cell? ⟨q,k*2,none⟩=some (.int .i64 d.1)/\W.cell? ⟨q,k*2+1,none⟩=some (.int .i64 d.2):=by
 have hf:=UD lpC 2 (fun _=>rfl) lp k _ hk;refine⟨h.row.at_ (k*2) ?_,h.row.at_ (k*2+1) ?_⟩
 ·have:=hf 0 (by decide);rw[jJ7];exact this
 ·have:=hf 1 (by decide);rw[jJ7];exact this
end
structure PrtOk(w1:World)(t:Tre)(s:Sl):Prop where
 right:∀d∈(jx t).l,∀(W:World) (next:Nat) (l:LB) (B:OA) (bc:Nat),next<=1000000->Pr w1 t s next l B bc W->
  Calls prog 52 #[.pointer (some ⟨w1.heap.size,0,none⟩),iv d.1,iv d.2] W (TrR w1 t s l B bc (km t d next) W)
 decl:∀d∈(jx t).l,∀(W:World) (next:Nat) (l l' :LB) (B:OA) (bc:Nat),Pr w1 t s next l B bc W->Kw t d l=some l' ->l'.length<=jv->
  Calls prog 54 #[.pointer (some ⟨w1.heap.size,0,none⟩),iv d.1,iv d.2] W (PrR w1 t s next l' W)
def jFd(w:World)(l:LB)(e:Ending)(W:World):Prop:=∃A c,e=.returned (.tuple #[.slice A l.length c,iv 0])/\W.ownsRow (w.heap.size+1) 5 1 (.slice A l.length c) l.length (l.map bv)/\Kp (ZH w.heap.size) w W
theorem YI(w:World)(t:Tre)(s:Sl):Pr w t s 0 [] none 0 (w.alloc (.cells (jJ t s++[Value.int .i64 0,Value.slice none 0 0]).toArray 129)):=
 ⟨jQ2 _ _ _,World.ownsRow_nil _ _ _ _,((jQ0 NoX w).alloc _).mono (fun _ _ e=>e.elim)⟩
theorem TrD.old{w w1:World}{t:Tre}{s:Sl}{ns:List MNd}{ps:List MSt}(h:TrD w t s ns ps)(ho:Old w w1):TrD w1 t s ns ps:=
 ⟨⟨h.nd.rows.old ho,h.nd.eq,h.nd.cnt,fun x hx=>⟨(h.nd.ok x hx).1.old ho,(h.nd.ok x hx).2⟩⟩,h.rA.old ho,h.rG.old ho,h.rM.old ho,h.rP.old ho,h.pe,fun x hx=>⟨⟨(h.po x hx).1.1.old ho,(h.po x hx).1.2⟩,(h.po x hx).2.1.old ho,(h.po x hx).2.2⟩,h.nA,h.nG,h.nM,h.nP⟩
theorem Pr.far{w W W1:World}{t:Tre}{s:Sl}{next:Nat}{l:LB}{B:OA}{bc:Nat}(h:Pr w t s next l B bc W)(hk:Kp (ZH W.heap.size) W W1):Pr w t s next l B bc W1:=by
 have hb:=h.box.lt;refine⟨h.box.kp hk (fun e:W.heap.size<=w.heap.size=>by omega),jW h.own hk (fun k e e2=> ?_),h.kp.trans hk (fun b _ e=> ?_)⟩
 ·have h1:=(ye h.own (b:=k) (by rw[<-jC];exact e)).2;have h2:W.heap.size<=k:=e2;omega
 ·have h1:=h.kp.size;have h2:W.heap.size<=b:=e;show w.heap.size<=b;omega
theorem qU{t:Tre}{d:Int×Int}{l:List (Int×Int)}{nx N:Nat}(h:kG t (d::l) nx=some N):∃m,km t d nx=some m/\kG t l m=some N:=by
 rw[kG]at h;exact jM2 h
theorem Qn{t:Tre}{d:Int×Int}{l:List (Int×Int)}{b b' :LB}(h:yx t (d::l) b=some b'):∃m,Kw t d b=some m/\yx t l m=some b' :=by
 rw[yx]at h;exact jM2 h
theorem xt(w:World)(hg:Sg w)(h8:8<=w.heap.size)(t:Tre)(s:Sl)(ns:List MNd)(ps:List MSt)(TD:TrD w t s ns ps)(OK:∀w1,Old w w1->PrtOk w1 t s)(hfit:Qk t=true)(lE:LB)(FC:qI t=some lE)(hl:lE.length<=jv):
  Calls prog 14 #[.agg (jJ t s).toArray] w (jFd w lE):=by
 obtain⟨i0,hi,FF,Ft,FM⟩:=info_parts Zz;unfold Qk at hfit;rw[Bool.and_eq_true,Bool.and_eq_true,decide_eq_true_eq]at hfit;obtain⟨⟨Gk,Gr⟩,G9⟩:=hfit;unfold qI at FC;obtain⟨l3,Cs,hE⟩:=jM4 FC;obtain⟨w1,Nz⟩:∃w1,w1=w.alloc (.cells (jJ t s).toArray 29):=⟨_,rfl⟩;have GW:Old w w1:=by rw[Nz];exact(jQ0 NoX w).alloc _
 have Gj:w1.heap.size=w.heap.size+1:=by rw[Nz];simp
 have OK1:=OK _ GW;have Ng:Pr w1 t s 0 [] none 0 ((w.alloc (.cells (jJ t s).toArray 29)).alloc (.cells (jJ t s++[Value.int .i64 0,Value.slice none 0 0]).toArray 129)):=by rw[Nz];exact YI _ t s
 have TD2:TrD ((w.alloc (.cells (jJ t s).toArray 29)).alloc (.cells (jJ t s++[Value.int .i64 0,Value.slice none 0 0]).toArray 129)) t s ns ps:=TD.old (((jQ0 NoX w).alloc _).alloc _);have LD:=G (YL _ t s ns ps TD2);have HB:=G ((jQ2 w 29 (jJ t s).toArray).alloc (.cells (jJ t s++[Value.int .i64 0,Value.slice none 0 0]).toArray 129));replace Ng:=G Ng;have NN:=TD.nd.cnt;have HG:=G (hg.old GW);have PD:=G (show 8<=w1.heap.size by rw[Gj];omega);have KPW:=G GW;have NY:Hid ((jx t).l.length<=4000000):=G (by
  have h1:=Ky TD;have e:(jx t).l.length=t.count:=by
   have ha:∀(fam:Int) (l:List Int) (i:Nat) (x:LayP),(jY fam l i x).l.length=x.l.length:=by
    intro fam l
    induction l with
    |nil=>exact fun i x=>rfl
    |cons o l ih=>exact fun i x=>by rw[jY,ih,YK]
   unfold jx;rw[ha,ha,ha,ha];exact List.length_replicate
  rw[e];exact h1)
 have Z3:=G OK1.right;have ET:=G OK1.decl;have LDP:=G (fun(w3:World) (q:Nat) (Fy:Blk w3 q 134 ((jx t).l.flatMap lpC).toArray) (G7:Kp (ZH ((w.alloc (.cells (jJ t s).toArray 29)).alloc (.cells (jJ t s++[Value.int .i64 0,Value.slice none 0 0]).toArray 129)).heap.size) ((w.alloc (.cells (jJ t s).toArray 29)).alloc (.cells (jJ t s++[Value.int .i64 0,Value.slice none 0 0]).toArray 129)) w3)=>(show PrS w w1 t s (jx t).l q 0 [] none 0 w3 from⟨Ng.out.far G7,Fy,HB.out.kp G7 (fun e:_ <=w.heap.size=>by have:=HB.out.lt;omega)⟩));have Lk:=G (fun W next l B bc (hp:Pr w1 t s next l B bc W)=>jf W (hp.sg HG.out PD.out) t.name);rw[show jQ (sb t.name)=true from Gr]at Lk;clear Ng TD TD2 GW hg h8 OK OK1 Gr Nz;have MF:=G Gk;have Sj:=G G9;have C4:=G Cs;have HE:=G hE;clear Gk G9 Cs hE FC;unfold jDB at LD;generalize (jx t).ok=lok at*;generalize (jx t).l=L at*;unfold jJ iv at*;simp only[jN6,jN8]at*;go_enter func14,ntmps14;go_wp2_with (first|(go_at_call 20;refine(Lk.out _ _ _ _ _ P3.out.pr).mono ?_;rintro e w4 ⟨rfl,rfl⟩)|(go_at_call 51;refine LD.out.mono ?_;rintro e w3 ⟨q,rfl,Fy,hq,G7⟩;have P3:=G (LDP.out w3 q Fy G7);have p3:=P3.out.box.at_ 0 (v:=.string t.name) rfl;rw[MF.out];clear Fy hq G7 LD LDP HB)|fail);go_loopw [6,7] (fun b i wr=>∃(j nx:Nat),j<=L.length/\b=.bool true/\i=.int .i64 (j:Int)/\kG t (L.drop j) nx=some t.nodes.length/\nx<=1000000/\PrS w w1 t s L q nx [] none 0 wr) (fun _ i _=>L.length-(intOf i).toNat)
 case atStart=>exact⟨0,0,Nat.zero_le _,rfl,rfl,Sj.out,by decide,P3.out⟩
 case round=>
  clear P3 p3 Sj;obtain⟨j,nx,hj,rfl,rfl,GR,GC,hS⟩:=hrel;have HS:=G hS;have Ar:=G GC;have El:=G GR;by_cases hlt:j<L.length
  ·have hd:L.drop j=L[j]::L.drop (j+1):=jM9 hlt;have hm:L[j]∈L:=jL6 hlt;have hx:L[j]? =some L[j]:=jJ9 hlt;rw[hd]at GR;generalize L[j]=d at*;obtain⟨m,FJ,FT⟩:=qU GR;have HR:=G (Z3.out d hm _ nx [] none 0 GC (hS.pr.old ((jQ0 NoX wr).drew)));rw[FJ,Gj]at HR;have NR:=G FT;have Y7:=G (xo FJ GC NN);have Hx:=G hx;have b1:(0:Int)<=(j:Int):=(by omega);have b2:(j:Int).toNat=j:=(by omega);have b3:(j:Int)<(L.length:Int):=(by omega);have b4:IntKind.i64.wrap ((j:Int)+1)=(j:Int)+1:=jQ3 _ (by have:=NY.out;omega);clear hS hd hm hx GR FJ FT GC;go_wp2;refine jd (S:=fun W=>∃n',PrS w w1 t s L q n' [] none 0 W) 13 rfl (by kernel_rfl) ⟨nx,HS.out.old ((jQ0 NoX wr).drew)⟩ (fun Ha=> ?_)
   iterate 11 (refine' tOn rfl rfl (by kernel_rfl) (fun _ _ _ h=>h) rfl Ha (fun w' Hj=> ?_) ?_;rotate_left;(obtain⟨n',Pj⟩:=Hj;have s0:=(Jo Pj Hx.out).1;have s1:=(Jo Pj Hx.out).2;clear Pj;go_simp<;>with_reducible rfl);simp only[Act.put,jJ1,jJ2,jJ3])
   refine Vy rfl (by kernel_rfl) (by decide) (fun K hK=> ?_);go_simp;go_at_call 52;refine HR.out.mono ?_;rintro e w2 ⟨rfl,n2,Fv,hX,Gz⟩;obtain rfl:=Fv m rfl;have Wv:=G ((HS.out.old ((jQ0 NoX wr).drew)).step hX Gz);clear hX Gz Fv;go_simp;refine hK.out _ _ ⟨n2,Wv.out⟩ (fun Ha=> ?_);clear hK K
   iterate 1 (refine' tOn rfl rfl (by kernel_rfl) (fun _ _ _ h=>h) rfl Ha (fun w' Hj=> ?_) ?_;rotate_left;(clear Hj;go_simp<;>with_reducible rfl);simp only[Act.put,jJ1,jJ2,jJ3])
   refine wpAnyH_done (by kernel_rfl) ?_ _;clear Ha;go_wp2;exact⟨⟨j+1,n2,by omega,rfl,by rw[show((j+1:Nat):Int)=(j:Int)+1 by omega],NR.out,Y7.out,Wv.out⟩,by simp only[intOf];omega⟩
  ·obtain rfl:j=L.length:=(by omega);rw[List.drop_length]at GR;have hN:nx=t.nodes.length:=by rw[kG]at GR;injection GR
   subst hN;have k8:=hS.pr.c8;rw[Gj]at k8;have k6:=hS.box.at_ 6 (v:=.slice s.nA t.nodes.length s.nc) rfl;have k0:=hS.box.at_ 0 (v:=.string t.name) rfl;have gE:l3.length+2=lE.length:=by rw[<-HE.out,jJ4];rfl
   have g3:l3.length<=jv:=(by omega);have g0:(jU [] [[116,121,112,101],tb t.name,[123]]++[10]).length<=jv:=jL4 (Vl _ C4.out) g3;have Pq:=G (zQ g0);have P1:=G (fun W Q (hp:Pr w1 t s t.nodes.length [] none 0 W) (hQ:Q=W.heap.size)=>jT w1 W t s t.nodes.length [] none 0 hp Q hQ [⟨#[116,121,112,101]⟩,t.name,⟨#[123]⟩] (zQ g0).1 (show 3<=1000 by decide));simp only[Gj]at P1;have C3:=G C4.out;have EM:=G (show(jU [] [[116,121,112,101],tb t.name,[123]]).map bv++[bv 10]=(jU [] [[116,121,112,101],tb t.name,[123]]++[10]).map bv by rw[jN3 (l₂:=[10])];rfl);have P1' :=G (show jU [] [sb ⟨#[116,121,112,101]⟩,sb t.name,sb ⟨#[123]⟩]=jU [] [[116,121,112,101],tb t.name,[123]]from rfl);simp only[List.map_cons,List.map_nil,P1'.out]at P1;clear hS GR El C4 P1' g0;generalize jU [] [[116,121,112,101],tb t.name,[123]]=l0 at*;go_wp2_with (first|(at_builtin;refine jF _ rfl (.tmp 66) (.tmp 67) 33 rfl w1.heap.size 5 i0 (.int .u8 0) 1 1 underlying33 hi FF Ft FM rfl (by decide) (.slice B5 l0.length c5) l0.length (l0.map bv) rfl (jW H5.out.pr.own ((jQ0 NoX _).alloc _) (fun _ _ e=>e)) _ 1 1 [bv 10] rfl (Rd.one_new _ _ _) (kK _ rfl) Pq.out.2.1 Pq.out.2.2.1 (jL4 H5.out.pr.kp.size ((jQ0 NoX _).alloc _).size) ?_;intro B6 c6 w6 Hh hgrow Ff;rw[jC]at hgrow;rw[EM.out,Pq.out.2.2.2]at Hh;have Sf:=H5.out.pr.grow ((jQ0 NoX _).alloc _) hgrow Hh;have WO:=Sf.1.at_ 9 rfl;have M9:=Sf.1.frozen 9;rw[Gj]at WO M9;have HN:=G (H5.out.step Sf.2.1 Sf.2.2);rw[Gj]at HN;clear Hh hgrow Ff Sf)|(go_at_call 53;refine(P1.out _ _ (HS.out.old ((jQ0 NoX _).drewN _)).pr (by simp)).mono ?_;rintro e w5 ⟨rfl,B5,c5,hX,hf⟩;have H5:=G ((HS.out.old ((jQ0 NoX _).drewN _)).step hX hf);have k9:=hX.c9;rw[Gj]at k9;clear hX hf)|go_quiet (fail)|fail);rw[<-Pq.out.2.2.2]at HN;generalize hW0:w6.setCell ⟨w.heap.size+1,9,none⟩ (.slice B6 (l0.length+1) c6)=W0 at*;clear hW0 WO M9;have Ep:=G g3;have Y9:=G gE;clear g3 gE k9 k0 k6 k8;go_loopw [73] (fun i wr=>∃(k:Nat) (l1:LB) (B1:OA) (c1:Nat),k<=L.length/\i=.int .i64 (k:Int)/\yx t (L.drop k) l1=some l3/\PrS w w1 t s L q t.nodes.length l1 B1 c1 wr) (fun i _=>L.length-(intOf i).toNat)
   case atStart=>exact⟨0,_,_,_,Nat.zero_le _,rfl,C3.out,HN.out⟩
   case round=>
    clear HN;obtain⟨k,l1,B1,c1,hk,rfl,Pb,hS⟩:=hrel;have S2:=G hS;by_cases Gc:k<L.length
    ·have hd:L.drop k=L[k]::L.drop (k+1):=jM9 Gc;have hm:L[k]∈L:=jL6 Gc;have hx:L[k]? =some L[k]:=jJ9 Gc;rw[hd]at Pb;generalize L[k]=d at*;obtain⟨m,FJ,FT⟩:=Qn Pb;have q0:=(Jo hS hx).1;have q1:=(Jo hS hx).2;have Tv:=(jQ0 NoX wr).alloc (.cells #[.int .i64 d.1,.int .i64 d.2] 134);have gm:m.length<=jv:=jL4 (Vl _ FT) Ep.out;have HC:=G (ET.out d hm (wr.alloc (.cells #[.int .i64 d.1,.int .i64 d.2] 134)) t.nodes.length l1 m B1 c1 (hS.pr.old Tv) FJ gm);rw[Gj]at HC;have NR:=G FT;have b1:(0:Int)<=(k:Int):=(by omega);have b2:(k:Int).toNat=k:=(by omega);have b3:(k:Int)<(L.length:Int):=(by omega);have b4:IntKind.i64.wrap ((k:Int)+1)=(k:Int)+1:=jQ3 _ (by have:=NY.out;omega);have RZ:=G (S2.out.old Tv);clear hS hd hm hx Pb FJ FT Tv gm;go_wp2_with (first|(go_at_call 54;refine HC.out.mono ?_;rintro e w2 ⟨rfl,B2,c2,hX,hf⟩;have Wv:=G (RZ.out.step hX hf);clear hX hf)|fail);exact⟨⟨k+1,m,B2,c2,by omega,by rw[show((k+1:Nat):Int)=(k:Int)+1 by omega],NR.out,Wv.out⟩,by simp only[intOf];omega⟩
    ·obtain rfl:k=L.length:=(by omega);rw[List.drop_length]at Pb;have E4:l1=l3:=by rw[yx]at Pb;injection Pb
     subst E4;have k9:=hS.pr.c9;rw[Gj]at k9;have CP:=G hS;have Z2:=G hS.pr.own;have J63:=G (show l1.length+(⟨#[125,10]⟩:BA).size<=maxLen by have h1:=Y9.out;have h2:=hl;show l1.length+2<=_;unfold maxLen;unfold jv at h2;omega);have J47:=G (show l1.length+(⟨#[125,10]⟩:BA).size<=140737488355328 by have h1:=Y9.out;have h2:=hl;show l1.length+2<=_;unfold jv at h2;omega);have FN:=hS.pr.kp.size;have CZ:=G (show l1.length+(⟨#[125,10]⟩:BA).size=lE.length from Y9.out);have Ax:=G (show l1.map bv++(sb ⟨#[125,10]⟩).map bv=lE.map bv by rw[<-HE.out,jN3];rfl);clear hS Pb HS S2;go_wp2_with (first|(at_builtin;refine jq _ rfl (.tmp 87) (.const (.string ⟨#[125,10]⟩)) 33 9 rfl w1.heap.size 5 i0 underlying33 underlying9 hi FF Ft FM (.slice B1 l1.length c1) l1.length (l1.map bv) rfl Z2.out ⟨#[125,10]⟩ rfl J63.out J47.out FN ?_;intro B2 c2 w2 Hh hgrow Ff;rw[jC]at hgrow;rw[<-jN3]at Hh;have Nf:=G Hh;have Eo:=G hgrow;clear Hh hgrow Ff)|fail)
     go_ret2
     have Hh:w2.ownsRow (w.heap.size+1) 5 1 (.slice B2 lE.length c2) lE.length (lE.map bv):=by
      have h:=Nf.out;rw[CZ.out,Gj,show l1++sb ⟨#[125,10]⟩=lE from HE.out]at h;exact h
     have Fg:Kp (fun b=>B1.map (·.block)=some b) wr w2:=Kp.grown ((jQ0 NoX wr).mono (fun _ _ e=>e.elim)) Eo.out (fun _ e _=>e);refine⟨B2,c2,by rw[<-CZ.out];rfl,Hh,((KPW.out.mono (fun _ _ e=>e.elim)).trans CP.out.pr.kp (fun b _ e=> ?_)).trans Fg (fun b _ e=> ?_)⟩
     ·have h2:w1.heap.size<=b:=e;show w.heap.size<=b;omega
     ·have h2:=(ye CP.out.pr.own e).1;show w.heap.size<=b;omega
theorem jGQ(x:Stg):∀u∈sgC x,u.oneCell' =true:=by
 intro u hu;simp only[sgC,iv,List.mem_cons,List.mem_nil_iff,or_false]at hu;rcases hu with rfl|rfl|rfl|rfl|rfl|rfl|rfl<;>rfl
theorem jGS(x:Mil):∀u∈miC x,u.oneCell' =true:=by
 intro u hu;simp only[miC,iv,List.mem_cons,List.mem_nil_iff,or_false]at hu;rcases hu with rfl|rfl|rfl|rfl|rfl|rfl<;>rfl
theorem jAf(w:World)(g:Nat)(src:BA)(f:Nat)(r r' :Rdr)(s:Sl)(h:St w g src r s)(hk:Ye (sb src) f r=some r'):
  Calls prog 138 #[.pointer (some ⟨g,0,none⟩)] w (Ex w g src s r' (.tuple #[])):=by
 unfold Ye at hk;obtain⟨⟨nm,at_,od,r1⟩,hd,hk⟩:=jM2 hk;obtain⟨⟨inn,ia,r2⟩,FB,hk⟩:=jM2 hk;obtain⟨r3,Fl,hk⟩:=jM2 hk;obtain⟨⟨op,r4⟩,ND,hk⟩:=jM2 hk;obtain⟨⟨cl,r5⟩,Gz,hk⟩:=jM2 hk;obtain⟨r6,Fv,hk⟩:=jM2 hk;split at hk
 case isFalse=>cases hk
 rename_i hlt;injection hk with hk;have HZ:=G h.zlt;have Py:=G hk;have MG:=G hlt;have D0:=G hd;have I0:=G FB;have N1:=G Fl;have G1:=G ND;have G2:=G Gz;have N2:=G Fv;clear hd FB Fl ND Gz Fv;have K0:=G ((Ks.start h).alloc (.cells [.string ⟨#[]⟩,.int .i64 0,.int .i64 0,.string ⟨#[]⟩,.int .i64 0,.int .i64 0,.int .i64 0].toArray 117));have B0:=G (jQ2 w 117 [.string ⟨#[]⟩,.int .i64 0,.int .i64 0,.string ⟨#[]⟩,.int .i64 0,.int .i64 0,.int .i64 0].toArray);clear h hk hlt;generalize ha:w.heap.size=a at*;have hm:a∈ [a]:=List.mem_singleton.2 rfl;go_enter func138,ntmps138;go_wp2_with (first|(go_at_call 166;(refine(zK _ g src _ _ _ _ _ _ K0.out.st D0.out).mono ?_;rintro e w1 ⟨rfl,hX⟩;have K1a:=G (K0.out.step hX.1 hX.2);have B1a:=G (K0.out.blk hm B0.out hX.2);clear hX;have b0:=B1a.out.at_ 0 rfl;have z0:=B1a.out.frozen 0;have b1:=B1a.out.at_ 1 rfl;have z1:=B1a.out.frozen 1;have b2:=B1a.out.at_ 2 rfl;have z2:=B1a.out.frozen 2;have K1:=G (((K1a.out.put hm 0 (.string nm)).put hm 1 (.int .i64 at_)).put hm 2 (.int .i64 od));have B1:=G (((B1a.out.setL 0 (.string nm)).setL 1 (.int .i64 at_)).setL 2 (.int .i64 od));clear K1a B1a;(try unfold iv)))|(go_at_call 170;(refine(jCO _ g src _ _ _ _ _ K1.out.st I0.out).mono ?_;rintro e w2 ⟨rfl,hX⟩;have K2a:=G (K1.out.step hX.1 hX.2);have B2a:=G (K1.out.blk hm B1.out hX.2);clear hX;have b3:=B2a.out.at_ 3 rfl;have z3:=B2a.out.frozen 3;have b4:=B2a.out.at_ 4 rfl;have z4:=B2a.out.frozen 4;have K2:=G ((K2a.out.put hm 3 (.string inn)).put hm 4 (.int .i64 ia));have B2:=G ((B2a.out.setL 3 (.string inn)).setL 4 (.int .i64 ia));clear K2a B2a;(try unfold iv)))|(go_at_call 135;first|(refine(jX _ g src _ _ _ K5.out.st N2.out).mono ?_;rintro e w6 ⟨rfl,hX⟩;have K6a:=G (K5.out.step hX.1 hX.2);have B6a:=G (K5.out.blk hm B5.out hX.2);clear hX;have K6:=G K6a.out;have B6:=G B6a.out;clear K6a B6a;(try unfold iv))|(refine(jX _ g src _ _ _ K2.out.st N1.out).mono ?_;rintro e w3 ⟨rfl,hX⟩;have K3a:=G (K2.out.step hX.1 hX.2);have B3a:=G (K2.out.blk hm B2.out hX.2);clear hX;have K3:=G K3a.out;have B3:=G B3a.out;clear K3a B3a;(try unfold iv)))|(go_at_call 171;first|(refine(jFv _ g src f _ _ _ K4.out.st G2.out).mono ?_;rintro e w5 ⟨rfl,s5,hX⟩;have K5a:=G (K4.out.step hX.1 hX.2);have B5a:=G (K4.out.blk hm B4.out hX.2);clear hX;have b6:=B5a.out.at_ 6 rfl;have z6:=B5a.out.frozen 6;have K5:=G (K5a.out.put hm 6 (.int .i64 cl));have B5:=G (B5a.out.setL 6 (.int .i64 cl));clear K5a B5a;(try unfold iv))|(refine(jFw _ g src f _ _ _ K3.out.st G1.out).mono ?_;rintro e w4 ⟨rfl,s4,hX⟩;have K4a:=G (K3.out.step hX.1 hX.2);have B4a:=G (K3.out.blk hm B3.out hX.2);clear hX;have b5:=B4a.out.at_ 5 rfl;have z5:=B4a.out.frozen 5;have K4:=G (K4a.out.put hm 5 (.int .i64 op));have B4:=G (B4a.out.setL 5 (.int .i64 op));clear K4a B4a;(try unfold iv)))|fail);clear K0 B0 K1 B1 K2 B2 K3 B3 K4 B4 K5 B5 b0 z0 b1 z1 b2 z2 b3 z3 b4 z4 b5 z5 b6 z6;have HX:=G (show Blk w6 a 117 (sgC ⟨nm,at_,od,inn,ia,op,cl⟩).toArray from B6.out);clear B6;obtain⟨ns,ps,hR⟩:=K6.out.st.rows;have HR:=G hR;clear hR;obtain⟨i0,hi,FF,Ft,FM⟩:=info_parts uP;have GB:=G (show r6.tree.stages.length+1<=maxLen by have:=MG.out;unfold maxLen;omega);have GH:=G (show(r6.tree.stages.length+1)*72<=140737488355328 by have:=MG.out;omega);have RE:w6.cell? ⟨g,8,none⟩=some (.slice s5.gA r6.tree.stages.length s5.gc):=Blk.at_ K6.out.st.box 8 rfl;have V2:=K6.out.st.box.z 8;have NV:=K6.out.st.lt;have N5:=HX.out.lt;have c0:w6.cell? ⟨a,0,none⟩=some (.string nm):=HX.out.at_ 0 rfl;have c1:w6.cell? ⟨a,1,none⟩=some (.int .i64 at_):=HX.out.at_ 1 rfl;have c2:w6.cell? ⟨a,2,none⟩=some (.int .i64 od):=HX.out.at_ 2 rfl;have c3:w6.cell? ⟨a,3,none⟩=some (.string inn):=HX.out.at_ 3 rfl;have c4:w6.cell? ⟨a,4,none⟩=some (.int .i64 ia):=HX.out.at_ 4 rfl;have c5:w6.cell? ⟨a,5,none⟩=some (.int .i64 op):=HX.out.at_ 5 rfl;have c6:w6.cell? ⟨a,6,none⟩=some (.int .i64 cl):=HX.out.at_ 6 rfl;have HO:=G ((jQ0 NoX w6).drew.alloc (.cells (sgC ⟨nm,at_,od,inn,ia,op,cl⟩).toArray 117));go_region_law ((refine kR _ rfl (.tmp 34) (.tmp 36) 23 rfl 8 117 i0 _ 7 72 underlying23 hi FF Ft FM rfl (by decide) (.slice s5.gA r6.tree.stages.length s5.gc) r6.tree.stages.length (r6.tree.stages.flatMap sgC) rfl (jW HR.out.rG HO.out (fun _ _ e=>e)) _ 1 1 (sgC ⟨nm,at_,od,inn,ia,op,cl⟩) rfl (Rd.row_new _ _ 7 1 _ rfl) (jGQ _) GB.out GH.out (jL4 K6.out.st.eight HO.out.size) ?_;intro A1 c1 w9 Hh hgrow Ff;rw[jC]at hgrow Ff;have Fk:=K6.out.st.pastG HR.out HO.out hgrow;have HG:=G (K6.out.st.growG HR.out ⟨nm,at_,od,inn,ia,op,cl⟩ True.intro HO.out hgrow Ff Hh);have RE:w9.cell? ⟨g,8,none⟩=some (.slice s5.gA r6.tree.stages.length s5.gc):=Blk.at_ Fk 8 rfl;have V2:=Fk.z 8;clear Hh hgrow Ff Fk))
 all_goals
  have HE:=G ((K6.out.step HG.out.1 HG.out.2).done (fun b e=>by rw[ha];exact HZ.out b e));go_wp2;go_end0;rw[<-Py.out];exact⟨rfl,_,HE.out.1,HE.out.2⟩
theorem qt(w:World)(g:Nat)(src:BA)(f:Nat)(r r' :Rdr)(s:Sl)(h:St w g src r s)(hk:QW (sb src) f r=some r'):
  Calls prog 139 #[.pointer (some ⟨g,0,none⟩)] w (Ex w g src s r' (.tuple #[])):=by
 unfold QW at hk;obtain⟨⟨nm,at_,od,r1⟩,hd,hk⟩:=jM2 hk;obtain⟨⟨inn,ia,r2⟩,FB,hk⟩:=jM2 hk;obtain⟨⟨wh,r3⟩,ND,hk⟩:=jM2 hk;split at hk
 case isFalse=>cases hk
 rename_i hlt;injection hk with hk;have HZ:=G h.zlt;have Py:=G hk;have MG:=G hlt;have D0:=G hd;have I0:=G FB;have G1:=G ND;clear hd FB ND;have K0:=G ((Ks.start h).alloc (.cells [.string ⟨#[]⟩,.int .i64 0,.int .i64 0,.string ⟨#[]⟩,.int .i64 0,.int .i64 0].toArray 64));have B0:=G (jQ2 w 64 [.string ⟨#[]⟩,.int .i64 0,.int .i64 0,.string ⟨#[]⟩,.int .i64 0,.int .i64 0].toArray);clear h hk hlt;generalize ha:w.heap.size=a at*;have hm:a∈ [a]:=List.mem_singleton.2 rfl;go_enter func139,ntmps139;go_wp2_with (first|(go_at_call 166;(refine(zK _ g src _ _ _ _ _ _ K0.out.st D0.out).mono ?_;rintro e w1 ⟨rfl,hX⟩;have K1a:=G (K0.out.step hX.1 hX.2);have B1a:=G (K0.out.blk hm B0.out hX.2);clear hX;have b0:=B1a.out.at_ 0 rfl;have z0:=B1a.out.frozen 0;have b1:=B1a.out.at_ 1 rfl;have z1:=B1a.out.frozen 1;have b2:=B1a.out.at_ 2 rfl;have z2:=B1a.out.frozen 2;have K1:=G (((K1a.out.put hm 0 (.string nm)).put hm 1 (.int .i64 at_)).put hm 2 (.int .i64 od));have B1:=G (((B1a.out.setL 0 (.string nm)).setL 1 (.int .i64 at_)).setL 2 (.int .i64 od));clear K1a B1a;(try unfold iv)))|(go_at_call 170;(refine(jCO _ g src _ _ _ _ _ K1.out.st I0.out).mono ?_;rintro e w2 ⟨rfl,hX⟩;have K2a:=G (K1.out.step hX.1 hX.2);have B2a:=G (K1.out.blk hm B1.out hX.2);clear hX;have b3:=B2a.out.at_ 3 rfl;have z3:=B2a.out.frozen 3;have b4:=B2a.out.at_ 4 rfl;have z4:=B2a.out.frozen 4;have K2:=G ((K2a.out.put hm 3 (.string inn)).put hm 4 (.int .i64 ia));have B2:=G ((B2a.out.setL 3 (.string inn)).setL 4 (.int .i64 ia));clear K2a B2a;(try unfold iv)))|(go_at_call 171;(refine(jFu _ g src f _ _ _ K2.out.st G1.out).mono ?_;rintro e w3 ⟨rfl,s3,hX⟩;have K3a:=G (K2.out.step hX.1 hX.2);have B3a:=G (K2.out.blk hm B2.out hX.2);clear hX;have b5:=B3a.out.at_ 5 rfl;have z5:=B3a.out.frozen 5;have K3:=G (K3a.out.put hm 5 (.int .i64 wh));have B3:=G (B3a.out.setL 5 (.int .i64 wh));clear K3a B3a;(try unfold iv)))|fail);clear K0 B0 K1 B1 K2 B2 b0 z0 b1 z1 b2 z2 b3 z3 b4 z4 b5 z5;generalize w3.setCell ⟨a,5,none⟩ (.int .i64 wh)=w33 at*;have HX:=G (show Blk w33 a 64 (miC ⟨nm,at_,od,inn,ia,wh⟩).toArray from B3.out);clear B3;obtain⟨ns,ps,hR⟩:=K3.out.st.rows;have HR:=G hR;clear hR;obtain⟨i0,hi,FF,Ft,FM⟩:=info_parts Xy;have GB:=G (show r3.tree.miles.length+1<=maxLen by have:=MG.out;unfold maxLen;omega);have GH:=G (show(r3.tree.miles.length+1)*64<=140737488355328 by have:=MG.out;omega);have RE:w33.cell? ⟨g,9,none⟩=some (.slice s3.mA r3.tree.miles.length s3.mc):=Blk.at_ K3.out.st.box 9 rfl;have V2:=K3.out.st.box.z 9;have NV:=K3.out.st.lt;have N5:=HX.out.lt;have c0:w33.cell? ⟨a,0,none⟩=some (.string nm):=HX.out.at_ 0 rfl;have c1:w33.cell? ⟨a,1,none⟩=some (.int .i64 at_):=HX.out.at_ 1 rfl;have c2:w33.cell? ⟨a,2,none⟩=some (.int .i64 od):=HX.out.at_ 2 rfl;have c3:w33.cell? ⟨a,3,none⟩=some (.string inn):=HX.out.at_ 3 rfl;have c4:w33.cell? ⟨a,4,none⟩=some (.int .i64 ia):=HX.out.at_ 4 rfl;have c5:w33.cell? ⟨a,5,none⟩=some (.int .i64 wh):=HX.out.at_ 5 rfl;have HO:=G ((jQ0 NoX w33).drew.alloc (.cells (miC ⟨nm,at_,od,inn,ia,wh⟩).toArray 64));go_region_law ((refine kR _ rfl (.tmp 27) (.tmp 29) 24 rfl 8 64 i0 _ 6 64 underlying24 hi FF Ft FM rfl (by decide) (.slice s3.mA r3.tree.miles.length s3.mc) r3.tree.miles.length (r3.tree.miles.flatMap miC) rfl (jW HR.out.rM HO.out (fun _ _ e=>e)) _ 1 1 (miC ⟨nm,at_,od,inn,ia,wh⟩) rfl (Rd.row_new _ _ 6 1 _ rfl) (jGS _) GB.out GH.out (jL4 K3.out.st.eight HO.out.size) ?_;intro A1 c1 w9 Hh hgrow Ff;rw[jC]at hgrow Ff;have Fk:=K3.out.st.pastM HR.out HO.out hgrow;have HG:=G (K3.out.st.growM HR.out ⟨nm,at_,od,inn,ia,wh⟩ True.intro HO.out hgrow Ff Hh);have RE:w9.cell? ⟨g,9,none⟩=some (.slice s3.mA r3.tree.miles.length s3.mc):=Blk.at_ Fk 9 rfl;have V2:=Fk.z 9;clear Hh hgrow Ff Fk))
 all_goals
  have HE:=G ((K3.out.step HG.out.1 HG.out.2).done (fun b e=>by rw[ha];exact HZ.out b e));go_wp2;go_end0;rw[<-Py.out];exact⟨rfl,_,HE.out.1,HE.out.2⟩
end Go.Proofs.YtmmjcbbogokmfaaGreatDoor

import Derived.Test.YtmmjcbbogokmfaaGreatDoorMp24
set_option maxRecDepth 100000
set_option maxHeartbeats 25600000
namespace Go.Proofs.YtmmjcbbogokmfaaGreatDoor
open Go.Proofs.Tryz
open Go.RowKit
theorem uN{n:Nd}{at_:Nat}{r r' :Rdr}{x:Int}(op:Int)(h:ye n at_ r=some (x,r')):ye (yw op []) at_ r=some (x,{r' with tree:={r'.tree with nodes:=r.tree.nodes++[yw op []]}})/\r'.tree.nodes=r.tree.nodes++[n]/\x=(r.tree.nodes.length:Int)/\r.tree.nodes.length<1000000:=by
 unfold ye at h⊢;split at h
 case isFalse=>cases h
 rename_i hlt;injection h with h;injection h with h1 h2;rw[jJ6 hlt];subst h1 h2;exact⟨rfl,rfl,rfl,hlt.1⟩
theorem jGO(src:BA)(f:Nat)(w:World)(g:Nat)(r:Rdr)(s:Sl)(k:Int×List Int×Rdr)(h:St w g src r s)(ht:r.t=49\/r.t=52\/r.t=31)(hk:exN (sb src) (f+1) .unary r=some k):
  Calls prog 228 #[.pointer (some ⟨g,0,none⟩)] w (Ex w g src s k.2.2 (iv k.1)):=by
 rcases ht with ht|ht|ht
 all_goals
  rw[exN,jJ5 (by rw[ht];decide),jJ5 (by rw[ht];decide),jJ5 (by rw[ht];decide),jJ5 (by rw[ht];decide),jJ5 (by rw[ht];decide)]at hk;have FE:=h.box.c2;have HS:=G h;obtain⟨r1,Fq,hk⟩:=jM2 hk;obtain⟨r2,Fu,hk⟩:=jM2 hk;rw[jJ6 (by rw[ht];decide)]at hk;obtain⟨⟨nm,na,r3⟩,hm,hk⟩:=jM2 hk;obtain⟨r4,WR,hk⟩:=jM2 hk;obtain⟨x,hx,hk⟩:=jM4 hk;subst hk;obtain⟨x,r'⟩:=x;obtain⟨h1,h2,h3,h4⟩:=uN (jDz r.t) hx;rw[ht]at h1 h2;have K1:=G (show kJ (sb src) 19 r=some (false,r)by rw[kJ,jJ5 (by rw[ht];decide)]);have HT:=G ht;have N1:=G Fq;have N2:=G Fu;have NM:=G hm;have N4:=G WR;have HB:=G h1;have HN:=G h2;generalize hq:r4.tree.nodes.length=q at*;subst h3;clear h Fq Fu hm WR hx ht h1 h2;have f1:(0:Int)<=(q:Int):=(by omega);have f2:(q:Int).toNat=q:=(by omega);have f3:(q:Int)<(q:Int)+1:=(by omega);unfold iv;go_enter func228,ntmps228;go_wp2_with (first|(go_at_call 167;refine(jk _ g src _ _ s 19 _ HS.out K1.out).mono ?_;rintro e w1 ⟨rfl,hX⟩;have H1:=G hX;have FE:=hX.1.box.c2;have Fo:=hX.1.box.c3;rw[HT.out]at Fo;clear hX)|fail);go_quiet (fail);go_wp2_with (first|(go_at_call 135;first|(refine(jZ _ g src _ _ s (H1.out.1.drewN _) N1.out).mono ?_;rintro e w2 ⟨rfl,hX⟩;have H2:=G hX;clear hX)|(refine(jZ _ g src _ _ _ H2.out.1 N2.out).mono ?_;rintro e w3 ⟨rfl,hX⟩;have H3:=G hX;clear hX)|(refine(jZ _ g src _ _ _ H4.out.1 N4.out).mono ?_;rintro e w5 ⟨rfl,hX⟩;have H5:=G hX;clear hX))|(go_at_call 136;refine(zj _ g src _ _ _ _ _ H3.out.1 NM.out).mono ?_;rintro e w4 ⟨rfl,hX⟩;have H4:=G hX;clear hX;unfold iv)|(go_at_call 238;refine(jBv _ (by decide) _).mono ?_;rintro e w5 ⟨rfl,rfl⟩;unfold iv)|(go_at_call 201;refine(yK _ g src _ _ s _ _ _ none 0 [] H5.out.1 Rd.none_ (fun h0=>absurd h0 (Nat.lt_irrefl 0)) HB.out).mono ?_;rintro e w6 ⟨rfl,s6,hY,NY⟩;obtain⟨kk,ns,xx,ps,WE,WQ,Fz,NS⟩:=hY.lastC rfl hq;have d1:=(Fz.cell 1 rfl).1;have z1:=(Fz.cell 1 rfl).2;have MI:=G Fz;have HF:=G NY;clear Fz hY NY;unfold iv)|fail);go_ret;have HD:=G ((MI.out.set_ 1 (.string nm)).lit WQ HN.out rfl rfl xx.vA xx.vc (by simp only[ndC,WE];rfl));exact⟨rfl,s6,HD.out.1,((((((H1.out.2.trans (Fr.of_old s ((jQ0 _ _).drewN _))).trans H2.out.2).trans H3.out.2).trans H4.out.2).trans H5.out.2).trans HF.out).trans HD.out.2⟩
theorem jET(src:BA)(f:Nat)(IH:ExAll src f)(w:World)(g:Nat)(r:Rdr)(s:Sl)(k:Int×List Int×Rdr)(h:St w g src r s)(ht:r.t=50\/r.t=51\/r.t=53\/r.t=54\/r.t=55\/r.t=56\/r.t=57)(hk:exN (sb src) (f+1) .unary r=some k):
  Calls prog 228 #[.pointer (some ⟨g,0,none⟩)] w (Ex w g src s k.2.2 (iv k.1)):=by
 rcases ht with ht|ht|ht|ht|ht|ht|ht
 all_goals
  rw[exN,jJ5 (by rw[ht];decide),jJ5 (by rw[ht];decide),jJ5 (by rw[ht];decide),jJ5 (by rw[ht];decide),jJ5 (by rw[ht];decide)]at hk;have FE:=h.box.c2;have HS:=G h;have HI:=G IH;obtain⟨r1,Fq,hk⟩:=jM2 hk;obtain⟨r2,Fu,hk⟩:=jM2 hk;rw[jJ5 (by rw[ht];decide)]at hk;obtain⟨q,hq,hk⟩:=jM2 hk;obtain⟨x,hx,hk⟩:=jM4 hk;subst hk;obtain⟨x,r'⟩:=x;rw[ht]at hx;have K1:=G (show kJ (sb src) 19 r=some (false,r)by rw[kJ,jJ5 (by rw[ht];decide)]);have HT:=G ht;have N1:=G Fq;have N2:=G Fu;have E1:=G hq;have NX:=G hx;clear h IH Fq Fu hq hx ht;unfold iv;go_enter func228,ntmps228;go_wp2_with (first|(go_at_call 167;refine(jk _ g src _ _ s 19 _ HS.out K1.out).mono ?_;rintro e w1 ⟨rfl,hX⟩;have H1:=G hX;have FE:=hX.1.box.c2;have Fo:=hX.1.box.c3;rw[HT.out]at Fo;clear hX)|fail);go_quiet (fail);go_wp2_with (first|(go_at_call 135;first|(refine(jZ _ g src _ _ s (H1.out.1.drewN _) N1.out).mono ?_;rintro e w2 ⟨rfl,hX⟩;have H2:=G hX;clear hX)|(refine(jZ _ g src _ _ _ H2.out.1 N2.out).mono ?_;rintro e w3 ⟨rfl,hX⟩;have H3:=G hX;clear hX))|(go_at_call 237;refine(HI.out.ls 7 _ g _ _ _ H3.out.1 E1.out).mono ?_;rintro e w4 ⟨A4,c4,s4,rfl,hX⟩;have H4:=G hX;clear hX)|(go_at_call 238;refine(jBv _ (by decide) _).mono ?_;rintro e w5 ⟨rfl,rfl⟩;unfold iv)|(go_at_call 201;refine(yK _ g src _ _ _ _ _ _ A4 c4 q.2.1 H4.out.2.2.1 H4.out.1 H4.out.2.1 NX.out).mono ?_;rintro e w6 ⟨rfl,s6,hX⟩;have H6:=G hX;clear hX;unfold iv)|fail);go_ret;exact⟨rfl,s6,H6.out.1,((((H1.out.2.trans (Fr.of_old s ((jQ0 _ _).drewN _))).trans H2.out.2).trans H3.out.2).trans H4.out.2.2.2).trans H6.out.2⟩
theorem jEQ(src:BA)(f:Nat)(IH:ExAll src f)(w:World)(g:Nat)(r:Rdr)(s:Sl)(k:Int×List Int×Rdr)(h:St w g src r s)(hk:exN (sb src) (f+1) .unary r=some k):
  Calls prog 228 #[.pointer (some ⟨g,0,none⟩)] w (Ex w g src s k.2.2 (iv k.1)):=by
 by_cases h19:r.t=19
 ·exact jCK src f IH w g r s k h h19 hk
 by_cases hl:jGE r.t=true
 ·exact jGN src f w g r s k h hl hk
 by_cases h6:r.t=6
 ·exact jES src f IH w g r s k h h6 hk
 by_cases h4:r.t=4
 ·exact jER src f IH w g r s k h h4 hk
 have hU:=hk;rw[exN,jJ5 h19,jJ5 hl,jJ5 h6,jJ5 h4]at hU;split at hU
 ·cases hU
 rename_i hc;have hc:=Classical.not_not.1 hc;have:(r.t=49\/r.t=52\/r.t=31)\/r.t=50\/r.t=51\/r.t=53\/r.t=54\/r.t=55\/r.t=56\/r.t=57:=(by omega);exact this.elim (fun e=>jGO src f w g r s k h e hk) (fun e=>jET src f IH w g r s k h e hk)
def VX(src:BA)(w:World)(g:Nat)(level:Nat)(s:Sl)(k:Int×List Int×Rdr)(F n:Nat)(rv:Value)(W:World):Prop:=
 n<=F/\∃root r' s',rv=iv root/\St W g src r' s' /\Fr g s s' w W/\exN (sb src) n (.more level root) r' =some k
theorem jHd(src:BA)(f:Nat)(IH:∀m,m<=f->ExAll src m)(w:World)(g:Nat)(r:Rdr)(s:Sl)(k:Int×List Int×Rdr)(h:St w g src r s)(hk:exN (sb src) (f+1) (.row 43) r=some k):
  Calls prog 200 #[.pointer (some ⟨g,0,none⟩),.int .u8 43] w (Ex w g src s k.2.2 (iv k.1)):=by
 rw[exN,jJ5 (by decide),jJ6 (by decide)]at hk;have HS:=G h;have HI:=G IH;have Px:=G (IH f (jL3 f));obtain⟨q,hq,hk⟩:=jM2 hk;have E1:=G (show exN (sb src) f (.row 44) r=some q from hq);have EX:=G hk;clear h IH hq hk;go_enter func200,ntmps200;go_wp2_with (first|(go_at_call 200;refine(Px.out.row 44 (by decide) _ g _ _ _ HS.out E1.out).mono ?_;rintro e w1 ⟨rfl,s1,hX⟩;have H1:=G hX;clear hX)|fail);go_loopw [5] (fun rv wr=>∃n,VX src w g 43 s k f n rv wr) (fun rv wr=>least (fun n=>VX src w g 43 s k f n rv wr))
 case atStart=>exact⟨f,jL3 _,q.1,q.2.2,s1,rfl,H1.out.1,H1.out.2,EX.out⟩
 case round=>
  clear H1;obtain⟨n,⟨hn,root,r',s',rfl,Hv,Gt,hD⟩,Fv⟩:=zF hrel;have Fo:=Hv.box.c3;have Gw:=G Hv;have GG:=G Gt;have Gp:=G Fv;cases n with
  |zero=>exact absurd hD (by simp[exN])
  |succ m=>
   rw[exN]at hD;by_cases ht:r'.t=43
   ·have Hm:KG 43 r'.t=10:=by rw[ht];rfl
    rw[Hm,jJ5 (by decide)]at hD;obtain⟨q2,Wo,hD⟩:=jM2 hD;have E2:=G (show exN (sb src) m (.two 10 root 44) r' =some q2 from Wo);have EX2:=G hD;have Pw:=G (HI.out m (by omega));rw[ht]at Fo;clear Hv Gt Fv hrel hD Wo ht Hm;unfold iv;go_wp2_with (first|(go_at_call 227;refine(Pw.out.two 10 root 44 (by decide) _ g _ _ _ Gw.out E2.out).mono ?_;rintro e w2 ⟨rfl,s2,hX⟩;have H2:=G hX;clear hX)|fail);have HL:VX src w g 43 s k f m (iv q2.1) w2:=⟨by omega,q2.1,q2.2.2,s2,rfl,H2.out.1,GG.out.trans H2.out.2,EX2.out⟩;exact⟨⟨m,HL⟩,by rw[show Value.int .i64 root=iv root from rfl,Gp.out];exact vP HL (Nat.lt_succ_self m)⟩
   ·have Hm:KG 43 r'.t=0:=by unfold KG;simp[ht]
    rw[Hm,jJ6 rfl]at hD;injection hD with hD;have He:=G hD;have e1:((r'.t:Int)==43)=false:=jM3 (by omega);clear Hv Gt Fv hrel hD ht Hm;go_wp2;go_ret;rw[<-He.out];exact⟨rfl,s',Gw.out,GG.out⟩
theorem jHc(src:BA)(f:Nat)(IH:∀m,m<=f->ExAll src m)(w:World)(g:Nat)(r:Rdr)(s:Sl)(k:Int×List Int×Rdr)(h:St w g src r s)(hk:exN (sb src) (f+1) (.row 44) r=some k):
  Calls prog 200 #[.pointer (some ⟨g,0,none⟩),.int .u8 44] w (Ex w g src s k.2.2 (iv k.1)):=by
 rw[exN,jJ5 (by decide),jJ6 (by decide)]at hk;have HS:=G h;have HI:=G IH;have Px:=G (IH f (jL3 f));obtain⟨q,hq,hk⟩:=jM2 hk;have E1:=G (show exN (sb src) f (.row 45) r=some q from hq);have EX:=G hk;clear h IH hq hk;go_enter func200,ntmps200;go_wp2_with (first|(go_at_call 200;refine(Px.out.row 45 (by decide) _ g _ _ _ HS.out E1.out).mono ?_;rintro e w1 ⟨rfl,s1,hX⟩;have H1:=G hX;clear hX)|fail);go_loopw [5] (fun rv wr=>∃n,VX src w g 44 s k f n rv wr) (fun rv wr=>least (fun n=>VX src w g 44 s k f n rv wr))
 case atStart=>exact⟨f,jL3 _,q.1,q.2.2,s1,rfl,H1.out.1,H1.out.2,EX.out⟩
 case round=>
  clear H1;obtain⟨n,⟨hn,root,r',s',rfl,Hv,Gt,hD⟩,Fv⟩:=zF hrel;have Fo:=Hv.box.c3;have Gw:=G Hv;have GG:=G Gt;have Gp:=G Fv;cases n with
  |zero=>exact absurd hD (by simp[exN])
  |succ m=>
   rw[exN]at hD;by_cases ht:r'.t=44
   ·have Hm:KG 44 r'.t=9:=by rw[ht];rfl
    rw[Hm,jJ5 (by decide)]at hD;obtain⟨q2,Wo,hD⟩:=jM2 hD;have E2:=G (show exN (sb src) m (.two 9 root 45) r' =some q2 from Wo);have EX2:=G hD;have Pw:=G (HI.out m (by omega));rw[ht]at Fo;clear Hv Gt Fv hrel hD Wo ht Hm;unfold iv;go_wp2_with (first|(go_at_call 227;refine(Pw.out.two 9 root 45 (by decide) _ g _ _ _ Gw.out E2.out).mono ?_;rintro e w2 ⟨rfl,s2,hX⟩;have H2:=G hX;clear hX)|fail);have HL:VX src w g 44 s k f m (iv q2.1) w2:=⟨by omega,q2.1,q2.2.2,s2,rfl,H2.out.1,GG.out.trans H2.out.2,EX2.out⟩;exact⟨⟨m,HL⟩,by rw[show Value.int .i64 root=iv root from rfl,Gp.out];exact vP HL (Nat.lt_succ_self m)⟩
   ·have Hm:KG 44 r'.t=0:=by unfold KG;simp[ht]
    rw[Hm,jJ6 rfl]at hD;injection hD with hD;have He:=G hD;have e1:((r'.t:Int)==44)=false:=jM3 (by omega);clear Hv Gt Fv hrel hD ht Hm;go_wp2;go_ret;rw[<-He.out];exact⟨rfl,s',Gw.out,GG.out⟩
theorem jHf(src:BA)(f:Nat)(IH:ExAll src f)(w:World)(g:Nat)(r:Rdr)(s:Sl)(k:Int×List Int×Rdr)(h:St w g src r s)(hk:exN (sb src) (f+1) (.row 19) r=some k):
  Calls prog 200 #[.pointer (some ⟨g,0,none⟩),.int .u8 19] w (Ex w g src s k.2.2 (iv k.1)):=by
 rw[exN,jJ5 (by decide),jJ5 (by decide)]at hk;have HS:=G h;have HI:=G IH;have E1:=G hk;clear h IH hk;go_enter func200,ntmps200;go_wp2_with (first|(go_at_call 228;refine(HI.out.un _ g _ _ _ HS.out E1.out).mono ?_;rintro e w1 ⟨rfl,s1,hX⟩)|fail);go_ret;exact⟨rfl,s1,hX⟩
theorem jHg(src:BA)(f:Nat)(IH:∀m,m<=f->ExAll src m)(w:World)(g:Nat)(r:Rdr)(s:Sl)(k:Int×List Int×Rdr)(h:St w g src r s)(hk:exN (sb src) (f+1) (.row 18) r=some k):
  Calls prog 200 #[.pointer (some ⟨g,0,none⟩),.int .u8 18] w (Ex w g src s k.2.2 (iv k.1)):=by
 rw[exN,jJ5 (by decide),jJ6 (by decide)]at hk;have HS:=G h;have HI:=G IH;have Px:=G (IH f (jL3 f));obtain⟨q,hq,hk⟩:=jM2 hk;have E1:=G (show exN (sb src) f (.row 20) r=some q from hq);have EX:=G hk;clear h IH hq hk;go_enter func200,ntmps200;go_wp2_with (first|(go_at_call 200;refine(Px.out.row 20 (by decide) _ g _ _ _ HS.out E1.out).mono ?_;rintro e w1 ⟨rfl,s1,hX⟩;have H1:=G hX;clear hX)|fail);go_loopw [8] (fun rv wr=>∃n,VX src w g 18 s k f n rv wr) (fun rv wr=>least (fun n=>VX src w g 18 s k f n rv wr))
 case atStart=>exact⟨f,jL3 _,q.1,q.2.2,s1,rfl,H1.out.1,H1.out.2,EX.out⟩
 case round=>
  clear H1;obtain⟨n,⟨hn,root,r',s',rfl,Hv,Gt,hD⟩,Fv⟩:=zF hrel;have Fo:=Hv.box.c3;have Gw:=G Hv;have GG:=G Gt;have Gp:=G Fv;cases n with
  |zero=>exact absurd hD (by simp[exN])
  |succ m=>
   rw[exN]at hD;by_cases ht:r'.t=18\/r'.t=19
   ·rcases ht with ht|ht
    all_goals
     have Hm:KG 18 r'.t=(r'.t:Int):=by rw[ht];rfl
     rw[Hm,ht,jJ5 (by decide)]at hD;obtain⟨q2,Wo,hD⟩:=jM2 hD;have E2:=G (show exN (sb src) m (.two _ root 20) r' =some q2 from Wo);have EX2:=G hD;have Pw:=G (HI.out m (by omega));rw[ht]at Fo;clear Hv Gt Fv hrel hD Wo ht Hm;unfold iv;go_wp2_with (first|(go_at_call 227;refine(Pw.out.two _ root 20 (by decide) _ g _ _ _ Gw.out E2.out).mono ?_;rintro e w2 ⟨rfl,s2,hX⟩;have H2:=G hX;clear hX)|fail);have HL:VX src w g 18 s k f m (iv q2.1) w2:=⟨by omega,q2.1,q2.2.2,s2,rfl,H2.out.1,GG.out.trans H2.out.2,EX2.out⟩;exact⟨⟨m,HL⟩,by rw[show Value.int .i64 root=iv root from rfl,Gp.out];exact vP HL (Nat.lt_succ_self m)⟩
   ·have Hm:KG 18 r'.t=0:=by unfold KG;simp[ht]
    rw[Hm,jJ6 rfl]at hD;injection hD with hD;have He:=G hD;have e1:((r'.t:Int)==18)=false:=jM3 (by omega);have e2:((r'.t:Int)==19)=false:=jM3 (by omega);clear Hv Gt Fv hrel hD ht Hm;go_wp2;go_ret;rw[<-He.out];exact⟨rfl,s',Gw.out,GG.out⟩
theorem jHe(src:BA)(f:Nat)(IH:∀m,m<=f->ExAll src m)(w:World)(g:Nat)(r:Rdr)(s:Sl)(k:Int×List Int×Rdr)(h:St w g src r s)(hk:exN (sb src) (f+1) (.row 20) r=some k):
  Calls prog 200 #[.pointer (some ⟨g,0,none⟩),.int .u8 20] w (Ex w g src s k.2.2 (iv k.1)):=by
 rw[exN,jJ5 (by decide),jJ6 (by decide)]at hk;have HS:=G h;have HI:=G IH;obtain⟨q,hq,hk⟩:=jM2 hk;have E1:=G (show exN (sb src) f (.row 19) r=some q from hq);have EX:=G hk;cases f with
 |zero=>exact absurd E1.out (by simp[exN])
 |succ f1=>
 have E0:=G (show exN (sb src) f1 .unary r=some q by have h:=E1.out;rwa [exN,jJ5 (by decide),jJ5 (by decide)]at h);have Px:=G (IH f1 (Nat.le_succ f1));clear h IH hq hk E1;go_enter func200,ntmps200;go_wp2_with (first|(go_at_call 228;refine(Px.out.un _ g _ _ _ HS.out E0.out).mono ?_;rintro e w1 ⟨rfl,s1,hX⟩;have H1:=G hX;clear hX)|fail);go_loopw [9] (fun rv wr=>∃n,VX src w g 20 s k (f1+1) n rv wr) (fun rv wr=>least (fun n=>VX src w g 20 s k (f1+1) n rv wr))
 case atStart=>exact⟨f1+1,jL3 _,q.1,q.2.2,s1,rfl,H1.out.1,H1.out.2,EX.out⟩
 case round=>
  clear H1;obtain⟨n,⟨hn,root,r',s',rfl,Hv,Gt,hD⟩,Fv⟩:=zF hrel;have Fo:=Hv.box.c3;have Gw:=G Hv;have GG:=G Gt;have Gp:=G Fv;cases n with
  |zero=>exact absurd hD (by simp[exN])
  |succ m=>
   rw[exN]at hD;by_cases ht:r'.t=20\/r'.t=21\/r'.t=22
   ·rcases ht with ht|ht|ht
    all_goals
     have Hm:KG 20 r'.t=(r'.t:Int):=by rw[ht];rfl
     rw[Hm,ht,jJ5 (by decide)]at hD;obtain⟨q2,Wo,hD⟩:=jM2 hD;have E2:=G (show exN (sb src) m (.two _ root 19) r' =some q2 from Wo);have EX2:=G hD;have Pw:=G (HI.out m (by omega));rw[ht]at Fo;clear Hv Gt Fv hrel hD Wo ht Hm;unfold iv;go_wp2_with (first|(go_at_call 227;refine(Pw.out.two _ root 19 (by decide) _ g _ _ _ Gw.out E2.out).mono ?_;rintro e w2 ⟨rfl,s2,hX⟩;have H2:=G hX;clear hX)|fail);have HL:VX src w g 20 s k (f1+1) m (iv q2.1) w2:=⟨by omega,q2.1,q2.2.2,s2,rfl,H2.out.1,GG.out.trans H2.out.2,EX2.out⟩;exact⟨⟨m,HL⟩,by rw[show Value.int .i64 root=iv root from rfl,Gp.out];exact vP HL (Nat.lt_succ_self m)⟩
   ·have Hm:KG 20 r'.t=0:=by unfold KG;rw[jJ5 (by decide),jJ5 (by decide),jJ5 (by decide),jJ5 (by omega)]
    rw[Hm,jJ6 rfl]at hD;injection hD with hD;have He:=G hD;have e0:¬(20:Int)<=(r'.t:Int)\/(20:Int)<=(r'.t:Int)/\¬(r'.t:Int)<=22:=(by omega);clear Hv Gt Fv hrel hD ht Hm;rcases e0 with e1|⟨e1,e2⟩
    all_goals
     go_wp2;go_ret;rw[<-He.out];exact⟨rfl,s',Gw.out,GG.out⟩
theorem jGZ(src:BA)(f:Nat)(IH:ExAll src f)(w:World)(g:Nat)(r:Rdr)(s:Sl)(k:Int×List Int×Rdr)(h:St w g src r s)(ht:r.t=45)(hk:exN (sb src) (f+1) (.row 45) r=some k):
  Calls prog 200 #[.pointer (some ⟨g,0,none⟩),.int .u8 45] w (Ex w g src s k.2.2 (iv k.1)):=by
 rw[exN,jJ6 rfl,jJ6 ht]at hk;have FE:=h.box.c2;have HS:=G h;have HI:=G IH;obtain⟨r1,Fq,hk⟩:=jM2 hk;obtain⟨q,hq,hk⟩:=jM2 hk;obtain⟨x,hx,hk⟩:=jM4 hk;subst hk;obtain⟨x,r'⟩:=x;have K1:=G (show kJ (sb src) 45 r=some (true,r1)by rw[kJ,jJ6 ht,Fq];rfl);have E1:=G hq;have NX:=G hx;clear h IH Fq hq hx ht;unfold iv;go_enter func200,ntmps200;go_wp2_with (first|(go_at_call 167;refine(jk _ g src _ _ s 45 _ HS.out K1.out).mono ?_;rintro e w1 ⟨rfl,hX⟩;have H1:=G hX;clear hX)|(go_at_call 200;refine(HI.out.row 45 (by decide) _ g _ _ _ H1.out.1 E1.out).mono ?_;rintro e w2 ⟨rfl,s2,hX⟩;have H2:=G hX;clear hX;unfold iv)|(go_at_call 201;refine(KM _ g src _ _ _ 8 _ _ [q.1] H2.out.1 NX.out).mono ?_;rintro e w3 ⟨rfl,s3,hX⟩;have H3:=G hX;clear hX;unfold iv)|fail);go_ret;exact⟨rfl,s3,H3.out.1,(H1.out.2.trans H2.out.2).trans H3.out.2⟩
theorem jEC(src:BA)(f:Nat)(IH:ExAll src f)(w:World)(g:Nat)(r:Rdr)(s:Sl)(k q:Int×List Int×Rdr)(h:St w g src r s)(ht:r.t≠45)(hq:exN (sb src) f (.row 18) r=some q)(op:Int)(LK:q.2.2.t=12/\op=11\/q.2.2.t=13/\op=12\/q.2.2.t=14/\op=13\/q.2.2.t=15/\op=14\/q.2.2.t=16/\op=15\/q.2.2.t=17/\op=16\/q.2.2.t=28/\op=17)(hk:exN (sb src) f (.two op q.1 18) q.2.2=some k):
  Calls prog 200 #[.pointer (some ⟨g,0,none⟩),.int .u8 45] w (Ex w g src s k.2.2 (iv k.1)):=by
 rcases LK with⟨LK,rfl⟩|⟨LK,rfl⟩|⟨LK,rfl⟩|⟨LK,rfl⟩|⟨LK,rfl⟩|⟨LK,rfl⟩|⟨LK,rfl⟩
 all_goals
  have FE:=h.box.c2;have HS:=G h;have HI:=G IH;have K1:=G (show kJ (sb src) 45 r=some (false,r)by rw[kJ,jJ5 ht]);have E1:=G hq;have E2:=G hk;have HT:=G LK;clear h IH hq hk ht LK;unfold iv;go_enter func200,ntmps200;go_wp2_with (first|(go_at_call 167;refine(jk _ g src _ _ s 45 _ HS.out K1.out).mono ?_;rintro e w1 ⟨rfl,hX⟩;have H1:=G hX;clear hX)|(go_at_call 200;refine(HI.out.row 18 (by decide) _ g _ _ _ H1.out.1 E1.out).mono ?_;rintro e w2 ⟨rfl,s2,hX⟩;have H2:=G hX;have Fo:=hX.1.box.c3;rw[HT.out]at Fo;clear hX;unfold iv)|(go_at_call 227;refine(HI.out.two _ q.1 18 (by decide) _ g _ _ _ H2.out.1 E2.out).mono ?_;rintro e w3 ⟨rfl,s3,hX⟩;have H3:=G hX;clear hX;unfold iv)|fail);go_ret;exact⟨rfl,s3,H3.out.1,(H1.out.2.trans H2.out.2).trans H3.out.2⟩
theorem jGY(src:BA)(f:Nat)(IH:ExAll src f)(w:World)(g:Nat)(r:Rdr)(s:Sl)(q:Int×List Int×Rdr)(h:St w g src r s)(ht:r.t≠45)(hq:exN (sb src) f (.row 18) r=some q)(h1:¬(12<=q.2.2.t/\q.2.2.t<=17))(h2:¬q.2.2.t=28):
  Calls prog 200 #[.pointer (some ⟨g,0,none⟩),.int .u8 45] w (Ex w g src s q.2.2 (iv q.1)):=by
 have FE:=h.box.c2;have HS:=G h;have HI:=G IH;have K1:=G (show kJ (sb src) 45 r=some (false,r)by rw[kJ,jJ5 ht]);have E1:=G hq;have e28:((q.2.2.t:Int)==28)=false:=jM3 (by omega);have:(12:Int)<=(q.2.2.t:Int)/\¬(q.2.2.t:Int)<=17\/¬(12:Int)<=(q.2.2.t:Int):=(by omega);clear h IH hq ht h1 h2;rcases this with⟨e1,e2⟩|e1
 all_goals
  unfold iv;go_enter func200,ntmps200;go_wp2_with (first|(go_at_call 167;refine(jk _ g src _ _ s 45 _ HS.out K1.out).mono ?_;rintro e w1 ⟨rfl,hX⟩;have H1:=G hX;clear hX)|(go_at_call 200;refine(HI.out.row 18 (by decide) _ g _ _ _ H1.out.1 E1.out).mono ?_;rintro e w2 ⟨rfl,s2,hX⟩;have H2:=G hX;have Fo:=hX.1.box.c3;clear hX;unfold iv)|fail);go_ret;exact⟨rfl,s2,H2.out.1,H1.out.2.trans H2.out.2⟩
theorem jHb(src:BA)(f:Nat)(IH:ExAll src f)(w:World)(g:Nat)(r:Rdr)(s:Sl)(k:Int×List Int×Rdr)(h:St w g src r s)(hk:exN (sb src) (f+1) (.row 45) r=some k):
  Calls prog 200 #[.pointer (some ⟨g,0,none⟩),.int .u8 45] w (Ex w g src s k.2.2 (iv k.1)):=by
 by_cases ht:r.t=45
 ·exact jGZ src f IH w g r s k h ht hk
 rw[exN,jJ6 rfl,jJ5 ht]at hk;obtain⟨q,hq,hk⟩:=jM2 hk;by_cases h1:12<=q.2.2.t/\q.2.2.t<=17
 ·rw[jJ6 h1]at hk;exact jEC src f IH w g r s k q h ht hq _ (by omega) hk
 rw[jJ5 h1]at hk;by_cases h2:q.2.2.t=28
 ·rw[jJ6 h2]at hk;exact jEC src f IH w g r s k q h ht hq _ (by omega) hk
 rw[jJ5 h2]at hk;injection hk with hk;subst hk;exact jGY src f IH w g r s q h ht hq h1 h2
theorem ZM(src:BA)(f:Nat):ExAll src f:=by
 induction f using Nat.strongRecOn with
 |_ f ih=>
  cases f with
  |zero=>exact⟨fun _ _ _ _ _ _ h=>absurd h (by simp[exN]),fun _ _ _ _ _ _ _ _ h=>absurd h (by simp[exN]),fun _ _ _ _ _ _ _ _ _ _ h=>absurd h (by simp[exN]),fun _ _ _ _ _ _ h=>absurd h (by simp[exN]),fun _ _ _ _ _ _ _ h=>absurd h (by simp[exN])⟩
  |succ f=>
   have IH:∀m,m<=f->ExAll src m:=fun m hm=>ih m (by omega);have I0:=IH f (jL3 f);refine⟨jFh src f I0,fun l hl w g r s k h hk=> ?_,jCM src f I0,jEQ src f I0,jA2 src f IH⟩;have:l=43\/l=44\/l=45\/l=18\/l=20\/l=19:=(by simpa [jHW]using hl);rcases this with rfl|rfl|rfl|rfl|rfl|rfl
   ·exact jHd src f IH w g r s k h hk
   ·exact jHc src f IH w g r s k h hk
   ·exact jHb src f I0 w g r s k h hk
   ·exact jHg src f IH w g r s k h hk
   ·exact jHe src f IH w g r s k h hk
   ·exact jHf src f I0 w g r s k h hk
end Go.Proofs.YtmmjcbbogokmfaaGreatDoor

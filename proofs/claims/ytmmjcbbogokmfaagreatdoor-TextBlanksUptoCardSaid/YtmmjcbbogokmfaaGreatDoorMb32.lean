import Derived.Test.YtmmjcbbogokmfaaGreatDoorMb31
set_option maxRecDepth 100000
set_option maxHeartbeats 25600000
namespace Go.Proofs.YtmmjcbbogokmfaaGreatDoor
open Go.Proofs.Tryz
open Go.RowKit
theorem QS{n:Nd}{at_:Nat}{r r' :Rdr}{x:Int}(op:Int)(h:yA n at_ r=some (x,r')):yA (kg op []) at_ r=some (x,{r' with tree:={r'.tree with nodes:=r.tree.nodes++[kg op []]}})/\r'.tree.nodes=r.tree.nodes++[n]/\x=(r.tree.nodes.length:Int)/\r.tree.nodes.length<1000000:=by
 unfold yA at h⊢;split at h
 case isFalse=>cases h
 rename_i hlt;injection h with h;injection h with h1 h2;rw[jJ6 hlt];subst h1 h2;exact⟨rfl,rfl,rfl,hlt.1⟩
theorem jHp(src:BA)(f:Nat)(w:World)(g:Nat)(r:Rdr)(s:Sl)(k:Int×List Int×Rdr)(h:St w g src r s)(ht:r.t=49\/r.t=52\/r.t=31)(hk:exN (sb src) (f+1) .unary r=some k):
  Calls prog 228 #[.pointer (some ⟨g,0,none⟩)] w (Ex w g src s k.2.2 (iv k.1)):=by
 rcases ht with ht|ht|ht
 all_goals
  rw[exN,jJ5 (by rw[ht];decide),jJ5 (by rw[ht];decide),jJ5 (by rw[ht];decide),jJ5 (by rw[ht];decide),jJ5 (by rw[ht];decide)]at hk;have Fq:=h.box.c2;have HS:=G h;obtain⟨r1,Fl,hk⟩:=jM2 hk;obtain⟨r2,Fv,hk⟩:=jM2 hk;rw[jJ6 (by rw[ht];decide)]at hk;obtain⟨⟨nm,na,r3⟩,hm,hk⟩:=jM2 hk;obtain⟨r4,Wl,hk⟩:=jM2 hk;obtain⟨x,hx,hk⟩:=jM4 hk;subst hk;obtain⟨x,r'⟩:=x;obtain⟨h1,h2,h3,h4⟩:=QS (yL r.t) hx;rw[ht]at h1 h2;have K1:=G (show jn (sb src) 19 r=some (false,r)by rw[jn,jJ5 (by rw[ht];decide)]);have HT:=G ht;have N1:=G Fl;have N2:=G Fv;have NM:=G hm;have N4:=G Wl;have HB:=G h1;have HN:=G h2;generalize hq:r4.tree.nodes.length=q at*;subst h3;clear h Fl Fv hm Wl hx ht h1 h2;have f1:(0:Int)<=(q:Int):=(by omega);have f2:(q:Int).toNat=q:=(by omega);have f3:(q:Int)<(q:Int)+1:=(by omega);unfold iv;go_enter func228,ntmps228;go_wp2_with (first|(go_at_call 167;refine(jm _ g src _ _ s 19 _ HS.out K1.out).mono ?_;rintro e w1 ⟨rfl,hX⟩;have H1:=G hX;have Fq:=hX.1.box.c2;have Fh:=hX.1.box.c3;rw[HT.out]at Fh;clear hX)|fail);go_quiet (fail);go_wp2_with (first|(go_at_call 135;first|(refine(jX _ g src _ _ s (H1.out.1.drewN _) N1.out).mono ?_;rintro e w2 ⟨rfl,hX⟩;have H2:=G hX;clear hX)|(refine(jX _ g src _ _ _ H2.out.1 N2.out).mono ?_;rintro e w3 ⟨rfl,hX⟩;have H3:=G hX;clear hX)|(refine(jX _ g src _ _ _ H4.out.1 N4.out).mono ?_;rintro e w5 ⟨rfl,hX⟩;have H5:=G hX;clear hX))|(go_at_call 136;refine(zt _ g src _ _ _ _ _ H3.out.1 NM.out).mono ?_;rintro e w4 ⟨rfl,hX⟩;have H4:=G hX;clear hX;unfold iv)|(go_at_call 238;refine(jCp _ (by decide) _).mono ?_;rintro e w5 ⟨rfl,rfl⟩;unfold iv)|(go_at_call 201;refine(yP _ g src _ _ s _ _ _ none 0 [] H5.out.1 Rd.none_ (fun h0=>absurd h0 (Nat.lt_irrefl 0)) HB.out).mono ?_;rintro e w6 ⟨rfl,s6,hY,NG⟩;obtain⟨kk,ns,xx,ps,WJ,Wk,Fu,Nu⟩:=hY.lastC rfl hq;have d1:=(Fu.cell 1 rfl).1;have z1:=(Fu.cell 1 rfl).2;have WV:=G Fu;have HF:=G NG;clear Fu hY NG;unfold iv)|fail);go_ret;have HD:=G ((WV.out.set_ 1 (.string nm)).lit Wk HN.out rfl rfl xx.vA xx.vc (by simp only[ndC,WJ];rfl));exact⟨rfl,s6,HD.out.1,((((((H1.out.2.trans (Fr.of_old s ((jQ0 _ _).drewN _))).trans H2.out.2).trans H3.out.2).trans H4.out.2).trans H5.out.2).trans HF.out).trans HD.out.2⟩
theorem jFi(src:BA)(f:Nat)(IH:ExAll src f)(w:World)(g:Nat)(r:Rdr)(s:Sl)(k:Int×List Int×Rdr)(h:St w g src r s)(ht:r.t=50\/r.t=51\/r.t=53\/r.t=54\/r.t=55\/r.t=56\/r.t=57)(hk:exN (sb src) (f+1) .unary r=some k):
  Calls prog 228 #[.pointer (some ⟨g,0,none⟩)] w (Ex w g src s k.2.2 (iv k.1)):=by
 rcases ht with ht|ht|ht|ht|ht|ht|ht
 all_goals
  rw[exN,jJ5 (by rw[ht];decide),jJ5 (by rw[ht];decide),jJ5 (by rw[ht];decide),jJ5 (by rw[ht];decide),jJ5 (by rw[ht];decide)]at hk;have Fq:=h.box.c2;have HS:=G h;have HI:=G IH;obtain⟨r1,Fl,hk⟩:=jM2 hk;obtain⟨r2,Fv,hk⟩:=jM2 hk;rw[jJ5 (by rw[ht];decide)]at hk;obtain⟨q,hq,hk⟩:=jM2 hk;obtain⟨x,hx,hk⟩:=jM4 hk;subst hk;obtain⟨x,r'⟩:=x;rw[ht]at hx;have K1:=G (show jn (sb src) 19 r=some (false,r)by rw[jn,jJ5 (by rw[ht];decide)]);have HT:=G ht;have N1:=G Fl;have N2:=G Fv;have E1:=G hq;have NX:=G hx;clear h IH Fl Fv hq hx ht;unfold iv;go_enter func228,ntmps228;go_wp2_with (first|(go_at_call 167;refine(jm _ g src _ _ s 19 _ HS.out K1.out).mono ?_;rintro e w1 ⟨rfl,hX⟩;have H1:=G hX;have Fq:=hX.1.box.c2;have Fh:=hX.1.box.c3;rw[HT.out]at Fh;clear hX)|fail);go_quiet (fail);go_wp2_with (first|(go_at_call 135;first|(refine(jX _ g src _ _ s (H1.out.1.drewN _) N1.out).mono ?_;rintro e w2 ⟨rfl,hX⟩;have H2:=G hX;clear hX)|(refine(jX _ g src _ _ _ H2.out.1 N2.out).mono ?_;rintro e w3 ⟨rfl,hX⟩;have H3:=G hX;clear hX))|(go_at_call 237;refine(HI.out.ls 7 _ g _ _ _ H3.out.1 E1.out).mono ?_;rintro e w4 ⟨A4,c4,s4,rfl,hX⟩;have H4:=G hX;clear hX)|(go_at_call 238;refine(jCp _ (by decide) _).mono ?_;rintro e w5 ⟨rfl,rfl⟩;unfold iv)|(go_at_call 201;refine(yP _ g src _ _ _ _ _ _ A4 c4 q.2.1 H4.out.2.2.1 H4.out.1 H4.out.2.1 NX.out).mono ?_;rintro e w6 ⟨rfl,s6,hX⟩;have H6:=G hX;clear hX;unfold iv)|fail);go_ret;exact⟨rfl,s6,H6.out.1,((((H1.out.2.trans (Fr.of_old s ((jQ0 _ _).drewN _))).trans H2.out.2).trans H3.out.2).trans H4.out.2.2.2).trans H6.out.2⟩
theorem jFf(src:BA)(f:Nat)(IH:ExAll src f)(w:World)(g:Nat)(r:Rdr)(s:Sl)(k:Int×List Int×Rdr)(h:St w g src r s)(hk:exN (sb src) (f+1) .unary r=some k):
  Calls prog 228 #[.pointer (some ⟨g,0,none⟩)] w (Ex w g src s k.2.2 (iv k.1)):=by
 by_cases Nw:r.t=19
 ·exact jDK src f IH w g r s k h Nw hk
 by_cases hl:Uw r.t=true
 ·exact jHo src f w g r s k h hl hk
 by_cases h6:r.t=6
 ·exact jFh src f IH w g r s k h h6 hk
 by_cases h4:r.t=4
 ·exact jFg src f IH w g r s k h h4 hk
 have Fg:=hk;rw[exN,jJ5 Nw,jJ5 hl,jJ5 h6,jJ5 h4]at Fg;split at Fg
 ·cases Fg
 rename_i hc;have hc:=Classical.not_not.1 hc;have:(r.t=49\/r.t=52\/r.t=31)\/r.t=50\/r.t=51\/r.t=53\/r.t=54\/r.t=55\/r.t=56\/r.t=57:=(by omega);exact this.elim (fun e=>jHp src f w g r s k h e hk) (fun e=>jFi src f IH w g r s k h e hk)
def YD(src:BA)(w:World)(g:Nat)(level:Nat)(s:Sl)(k:Int×List Int×Rdr)(F n:Nat)(rv:Value)(W:World):Prop:=
 n<=F/\∃root r' s',rv=iv root/\St W g src r' s' /\Fr g s s' w W/\exN (sb src) n (.more level root) r' =some k
theorem jJP(src:BA)(f:Nat)(IH:∀m,m<=f->ExAll src m)(w:World)(g:Nat)(r:Rdr)(s:Sl)(k:Int×List Int×Rdr)(h:St w g src r s)(hk:exN (sb src) (f+1) (.row 43) r=some k):
  Calls prog 200 #[.pointer (some ⟨g,0,none⟩),.int .u8 43] w (Ex w g src s k.2.2 (iv k.1)):=by
 rw[exN,jJ5 (by decide),jJ6 (by decide)]at hk;have HS:=G h;have HI:=G IH;have Pz:=G (IH f (jL3 f));obtain⟨q,hq,hk⟩:=jM2 hk;have E1:=G (show exN (sb src) f (.row 44) r=some q from hq);have EX:=G hk;clear h IH hq hk;go_enter func200,ntmps200;go_wp2_with (first|(go_at_call 200;refine(Pz.out.row 44 (by decide) _ g _ _ _ HS.out E1.out).mono ?_;rintro e w1 ⟨rfl,s1,hX⟩;have H1:=G hX;clear hX)|fail);go_loopw [5] (fun rv wr=>∃n,YD src w g 43 s k f n rv wr) (fun rv wr=>least (fun n=>YD src w g 43 s k f n rv wr))
 case atStart=>exact⟨f,jL3 _,q.1,q.2.2,s1,rfl,H1.out.1,H1.out.2,EX.out⟩
 case round=>
  clear H1;obtain⟨n,⟨hn,root,r',s',rfl,Hm,Gf,Hu⟩,Fo⟩:=zI hrel;have Fh:=Hm.box.c3;have Gh:=G Hm;have Gx:=G Gf;have Gd:=G Fo;cases n with
  |zero=>exact absurd Hu (by simp[exN])
  |succ m=>
   rw[exN]at Hu;by_cases ht:r'.t=43
   ·have hU:kJ 43 r'.t=10:=by rw[ht];rfl
    rw[hU,jJ5 (by decide)]at Hu;obtain⟨q2,Wz,Hu⟩:=jM2 Hu;have E2:=G (show exN (sb src) m (.two 10 root 44) r' =some q2 from Wz);have EX2:=G Hu;have Ll:=G (HI.out m (by omega));rw[ht]at Fh;clear Hm Gf Fo hrel Hu Wz ht hU;unfold iv;go_wp2_with (first|(go_at_call 227;refine(Ll.out.two 10 root 44 (by decide) _ g _ _ _ Gh.out E2.out).mono ?_;rintro e w2 ⟨rfl,s2,hX⟩;have H2:=G hX;clear hX)|fail);have HL:YD src w g 43 s k f m (iv q2.1) w2:=⟨by omega,q2.1,q2.2.2,s2,rfl,H2.out.1,Gx.out.trans H2.out.2,EX2.out⟩;exact⟨⟨m,HL⟩,by rw[show Value.int .i64 root=iv root from rfl,Gd.out];exact vZ HL (Nat.lt_succ_self m)⟩
   ·have hU:kJ 43 r'.t=0:=by unfold kJ;simp[ht]
    rw[hU,jJ6 rfl]at Hu;injection Hu with Hu;have He:=G Hu;have e1:((r'.t:Int)==43)=false:=jM3 (by omega);clear Hm Gf Fo hrel Hu ht hU;go_wp2;go_ret;rw[<-He.out];exact⟨rfl,s',Gh.out,Gx.out⟩
theorem jJO(src:BA)(f:Nat)(IH:∀m,m<=f->ExAll src m)(w:World)(g:Nat)(r:Rdr)(s:Sl)(k:Int×List Int×Rdr)(h:St w g src r s)(hk:exN (sb src) (f+1) (.row 44) r=some k):
  Calls prog 200 #[.pointer (some ⟨g,0,none⟩),.int .u8 44] w (Ex w g src s k.2.2 (iv k.1)):=by
 rw[exN,jJ5 (by decide),jJ6 (by decide)]at hk;have HS:=G h;have HI:=G IH;have Pz:=G (IH f (jL3 f));obtain⟨q,hq,hk⟩:=jM2 hk;have E1:=G (show exN (sb src) f (.row 45) r=some q from hq);have EX:=G hk;clear h IH hq hk;go_enter func200,ntmps200;go_wp2_with (first|(go_at_call 200;refine(Pz.out.row 45 (by decide) _ g _ _ _ HS.out E1.out).mono ?_;rintro e w1 ⟨rfl,s1,hX⟩;have H1:=G hX;clear hX)|fail);go_loopw [5] (fun rv wr=>∃n,YD src w g 44 s k f n rv wr) (fun rv wr=>least (fun n=>YD src w g 44 s k f n rv wr))
 case atStart=>exact⟨f,jL3 _,q.1,q.2.2,s1,rfl,H1.out.1,H1.out.2,EX.out⟩
 case round=>
  clear H1;obtain⟨n,⟨hn,root,r',s',rfl,Hm,Gf,Hu⟩,Fo⟩:=zI hrel;have Fh:=Hm.box.c3;have Gh:=G Hm;have Gx:=G Gf;have Gd:=G Fo;cases n with
  |zero=>exact absurd Hu (by simp[exN])
  |succ m=>
   rw[exN]at Hu;by_cases ht:r'.t=44
   ·have hU:kJ 44 r'.t=9:=by rw[ht];rfl
    rw[hU,jJ5 (by decide)]at Hu;obtain⟨q2,Wz,Hu⟩:=jM2 Hu;have E2:=G (show exN (sb src) m (.two 9 root 45) r' =some q2 from Wz);have EX2:=G Hu;have Ll:=G (HI.out m (by omega));rw[ht]at Fh;clear Hm Gf Fo hrel Hu Wz ht hU;unfold iv;go_wp2_with (first|(go_at_call 227;refine(Ll.out.two 9 root 45 (by decide) _ g _ _ _ Gh.out E2.out).mono ?_;rintro e w2 ⟨rfl,s2,hX⟩;have H2:=G hX;clear hX)|fail);have HL:YD src w g 44 s k f m (iv q2.1) w2:=⟨by omega,q2.1,q2.2.2,s2,rfl,H2.out.1,Gx.out.trans H2.out.2,EX2.out⟩;exact⟨⟨m,HL⟩,by rw[show Value.int .i64 root=iv root from rfl,Gd.out];exact vZ HL (Nat.lt_succ_self m)⟩
   ·have hU:kJ 44 r'.t=0:=by unfold kJ;simp[ht]
    rw[hU,jJ6 rfl]at Hu;injection Hu with Hu;have He:=G Hu;have e1:((r'.t:Int)==44)=false:=jM3 (by omega);clear Hm Gf Fo hrel Hu ht hU;go_wp2;go_ret;rw[<-He.out];exact⟨rfl,s',Gh.out,Gx.out⟩
theorem jJR(src:BA)(f:Nat)(IH:ExAll src f)(w:World)(g:Nat)(r:Rdr)(s:Sl)(k:Int×List Int×Rdr)(h:St w g src r s)(hk:exN (sb src) (f+1) (.row 19) r=some k):
  Calls prog 200 #[.pointer (some ⟨g,0,none⟩),.int .u8 19] w (Ex w g src s k.2.2 (iv k.1)):=by
 rw[exN,jJ5 (by decide),jJ5 (by decide)]at hk;have HS:=G h;have HI:=G IH;have E1:=G hk;clear h IH hk;go_enter func200,ntmps200;go_wp2_with (first|(go_at_call 228;refine(HI.out.un _ g _ _ _ HS.out E1.out).mono ?_;rintro e w1 ⟨rfl,s1,hX⟩)|fail);go_ret;exact⟨rfl,s1,hX⟩
theorem jJS(src:BA)(f:Nat)(IH:∀m,m<=f->ExAll src m)(w:World)(g:Nat)(r:Rdr)(s:Sl)(k:Int×List Int×Rdr)(h:St w g src r s)(hk:exN (sb src) (f+1) (.row 18) r=some k):
  Calls prog 200 #[.pointer (some ⟨g,0,none⟩),.int .u8 18] w (Ex w g src s k.2.2 (iv k.1)):=by
 rw[exN,jJ5 (by decide),jJ6 (by decide)]at hk;have HS:=G h;have HI:=G IH;have Pz:=G (IH f (jL3 f));obtain⟨q,hq,hk⟩:=jM2 hk;have E1:=G (show exN (sb src) f (.row 20) r=some q from hq);have EX:=G hk;clear h IH hq hk;go_enter func200,ntmps200;go_wp2_with (first|(go_at_call 200;refine(Pz.out.row 20 (by decide) _ g _ _ _ HS.out E1.out).mono ?_;rintro e w1 ⟨rfl,s1,hX⟩;have H1:=G hX;clear hX)|fail);go_loopw [8] (fun rv wr=>∃n,YD src w g 18 s k f n rv wr) (fun rv wr=>least (fun n=>YD src w g 18 s k f n rv wr))
 case atStart=>exact⟨f,jL3 _,q.1,q.2.2,s1,rfl,H1.out.1,H1.out.2,EX.out⟩
 case round=>
  clear H1;obtain⟨n,⟨hn,root,r',s',rfl,Hm,Gf,Hu⟩,Fo⟩:=zI hrel;have Fh:=Hm.box.c3;have Gh:=G Hm;have Gx:=G Gf;have Gd:=G Fo;cases n with
  |zero=>exact absurd Hu (by simp[exN])
  |succ m=>
   rw[exN]at Hu;by_cases ht:r'.t=18\/r'.t=19
   ·rcases ht with ht|ht
    all_goals
     have hU:kJ 18 r'.t=(r'.t:Int):=by rw[ht];rfl
     rw[hU,ht,jJ5 (by decide)]at Hu;obtain⟨q2,Wz,Hu⟩:=jM2 Hu;have E2:=G (show exN (sb src) m (.two _ root 20) r' =some q2 from Wz);have EX2:=G Hu;have Ll:=G (HI.out m (by omega));rw[ht]at Fh;clear Hm Gf Fo hrel Hu Wz ht hU;unfold iv;go_wp2_with (first|(go_at_call 227;refine(Ll.out.two _ root 20 (by decide) _ g _ _ _ Gh.out E2.out).mono ?_;rintro e w2 ⟨rfl,s2,hX⟩;have H2:=G hX;clear hX)|fail);have HL:YD src w g 18 s k f m (iv q2.1) w2:=⟨by omega,q2.1,q2.2.2,s2,rfl,H2.out.1,Gx.out.trans H2.out.2,EX2.out⟩;exact⟨⟨m,HL⟩,by rw[show Value.int .i64 root=iv root from rfl,Gd.out];exact vZ HL (Nat.lt_succ_self m)⟩
   ·have hU:kJ 18 r'.t=0:=by unfold kJ;simp[ht]
    rw[hU,jJ6 rfl]at Hu;injection Hu with Hu;have He:=G Hu;have e1:((r'.t:Int)==18)=false:=jM3 (by omega);have e2:((r'.t:Int)==19)=false:=jM3 (by omega);clear Hm Gf Fo hrel Hu ht hU;go_wp2;go_ret;rw[<-He.out];exact⟨rfl,s',Gh.out,Gx.out⟩
theorem jJQ(src:BA)(f:Nat)(IH:∀m,m<=f->ExAll src m)(w:World)(g:Nat)(r:Rdr)(s:Sl)(k:Int×List Int×Rdr)(h:St w g src r s)(hk:exN (sb src) (f+1) (.row 20) r=some k):
  Calls prog 200 #[.pointer (some ⟨g,0,none⟩),.int .u8 20] w (Ex w g src s k.2.2 (iv k.1)):=by
 rw[exN,jJ5 (by decide),jJ6 (by decide)]at hk;have HS:=G h;have HI:=G IH;obtain⟨q,hq,hk⟩:=jM2 hk;have E1:=G (show exN (sb src) f (.row 19) r=some q from hq);have EX:=G hk;cases f with
 |zero=>exact absurd E1.out (by simp[exN])
 |succ f1=>
 have E0:=G (show exN (sb src) f1 .unary r=some q by have h:=E1.out;rwa [exN,jJ5 (by decide),jJ5 (by decide)]at h);have Pz:=G (IH f1 (Nat.le_succ f1));clear h IH hq hk E1;go_enter func200,ntmps200;go_wp2_with (first|(go_at_call 228;refine(Pz.out.un _ g _ _ _ HS.out E0.out).mono ?_;rintro e w1 ⟨rfl,s1,hX⟩;have H1:=G hX;clear hX)|fail);go_loopw [9] (fun rv wr=>∃n,YD src w g 20 s k (f1+1) n rv wr) (fun rv wr=>least (fun n=>YD src w g 20 s k (f1+1) n rv wr))
 case atStart=>exact⟨f1+1,jL3 _,q.1,q.2.2,s1,rfl,H1.out.1,H1.out.2,EX.out⟩
 case round=>
  clear H1;obtain⟨n,⟨hn,root,r',s',rfl,Hm,Gf,Hu⟩,Fo⟩:=zI hrel;have Fh:=Hm.box.c3;have Gh:=G Hm;have Gx:=G Gf;have Gd:=G Fo;cases n with
  |zero=>exact absurd Hu (by simp[exN])
  |succ m=>
   rw[exN]at Hu;by_cases ht:r'.t=20\/r'.t=21\/r'.t=22
   ·rcases ht with ht|ht|ht
    all_goals
     have hU:kJ 20 r'.t=(r'.t:Int):=by rw[ht];rfl
     rw[hU,ht,jJ5 (by decide)]at Hu;obtain⟨q2,Wz,Hu⟩:=jM2 Hu;have E2:=G (show exN (sb src) m (.two _ root 19) r' =some q2 from Wz);have EX2:=G Hu;have Ll:=G (HI.out m (by omega));rw[ht]at Fh;clear Hm Gf Fo hrel Hu Wz ht hU;unfold iv;go_wp2_with (first|(go_at_call 227;refine(Ll.out.two _ root 19 (by decide) _ g _ _ _ Gh.out E2.out).mono ?_;rintro e w2 ⟨rfl,s2,hX⟩;have H2:=G hX;clear hX)|fail);have HL:YD src w g 20 s k (f1+1) m (iv q2.1) w2:=⟨by omega,q2.1,q2.2.2,s2,rfl,H2.out.1,Gx.out.trans H2.out.2,EX2.out⟩;exact⟨⟨m,HL⟩,by rw[show Value.int .i64 root=iv root from rfl,Gd.out];exact vZ HL (Nat.lt_succ_self m)⟩
   ·have hU:kJ 20 r'.t=0:=by unfold kJ;rw[jJ5 (by decide),jJ5 (by decide),jJ5 (by decide),jJ5 (by omega)]
    rw[hU,jJ6 rfl]at Hu;injection Hu with Hu;have He:=G Hu;have e0:¬(20:Int)<=(r'.t:Int)\/(20:Int)<=(r'.t:Int)/\¬(r'.t:Int)<=22:=(by omega);clear Hm Gf Fo hrel Hu ht hU;rcases e0 with e1|⟨e1,e2⟩
    all_goals
     go_wp2;go_ret;rw[<-He.out];exact⟨rfl,s',Gh.out,Gx.out⟩
theorem jH1(src:BA)(f:Nat)(IH:ExAll src f)(w:World)(g:Nat)(r:Rdr)(s:Sl)(k:Int×List Int×Rdr)(h:St w g src r s)(ht:r.t=45)(hk:exN (sb src) (f+1) (.row 45) r=some k):
  Calls prog 200 #[.pointer (some ⟨g,0,none⟩),.int .u8 45] w (Ex w g src s k.2.2 (iv k.1)):=by
 rw[exN,jJ6 rfl,jJ6 ht]at hk;have Fq:=h.box.c2;have HS:=G h;have HI:=G IH;obtain⟨r1,Fl,hk⟩:=jM2 hk;obtain⟨q,hq,hk⟩:=jM2 hk;obtain⟨x,hx,hk⟩:=jM4 hk;subst hk;obtain⟨x,r'⟩:=x;have K1:=G (show jn (sb src) 45 r=some (true,r1)by rw[jn,jJ6 ht,Fl];rfl);have E1:=G hq;have NX:=G hx;clear h IH Fl hq hx ht;unfold iv;go_enter func200,ntmps200;go_wp2_with (first|(go_at_call 167;refine(jm _ g src _ _ s 45 _ HS.out K1.out).mono ?_;rintro e w1 ⟨rfl,hX⟩;have H1:=G hX;clear hX)|(go_at_call 200;refine(HI.out.row 45 (by decide) _ g _ _ _ H1.out.1 E1.out).mono ?_;rintro e w2 ⟨rfl,s2,hX⟩;have H2:=G hX;clear hX;unfold iv)|(go_at_call 201;refine(Kc _ g src _ _ _ 8 _ _ [q.1] H2.out.1 NX.out).mono ?_;rintro e w3 ⟨rfl,s3,hX⟩;have H3:=G hX;clear hX;unfold iv)|fail);go_ret;exact⟨rfl,s3,H3.out.1,(H1.out.2.trans H2.out.2).trans H3.out.2⟩
theorem jFG(src:BA)(f:Nat)(IH:ExAll src f)(w:World)(g:Nat)(r:Rdr)(s:Sl)(k q:Int×List Int×Rdr)(h:St w g src r s)(ht:r.t≠45)(hq:exN (sb src) f (.row 18) r=some q)(op:Int)(MN:q.2.2.t=12/\op=11\/q.2.2.t=13/\op=12\/q.2.2.t=14/\op=13\/q.2.2.t=15/\op=14\/q.2.2.t=16/\op=15\/q.2.2.t=17/\op=16\/q.2.2.t=28/\op=17)(hk:exN (sb src) f (.two op q.1 18) q.2.2=some k):
  Calls prog 200 #[.pointer (some ⟨g,0,none⟩),.int .u8 45] w (Ex w g src s k.2.2 (iv k.1)):=by
 rcases MN with⟨MN,rfl⟩|⟨MN,rfl⟩|⟨MN,rfl⟩|⟨MN,rfl⟩|⟨MN,rfl⟩|⟨MN,rfl⟩|⟨MN,rfl⟩
 all_goals
  have Fq:=h.box.c2;have HS:=G h;have HI:=G IH;have K1:=G (show jn (sb src) 45 r=some (false,r)by rw[jn,jJ5 ht]);have E1:=G hq;have E2:=G hk;have HT:=G MN;clear h IH hq hk ht MN;unfold iv;go_enter func200,ntmps200;go_wp2_with (first|(go_at_call 167;refine(jm _ g src _ _ s 45 _ HS.out K1.out).mono ?_;rintro e w1 ⟨rfl,hX⟩;have H1:=G hX;clear hX)|(go_at_call 200;refine(HI.out.row 18 (by decide) _ g _ _ _ H1.out.1 E1.out).mono ?_;rintro e w2 ⟨rfl,s2,hX⟩;have H2:=G hX;have Fh:=hX.1.box.c3;rw[HT.out]at Fh;clear hX;unfold iv)|(go_at_call 227;refine(HI.out.two _ q.1 18 (by decide) _ g _ _ _ H2.out.1 E2.out).mono ?_;rintro e w3 ⟨rfl,s3,hX⟩;have H3:=G hX;clear hX;unfold iv)|fail);go_ret;exact⟨rfl,s3,H3.out.1,(H1.out.2.trans H2.out.2).trans H3.out.2⟩
theorem jH0(src:BA)(f:Nat)(IH:ExAll src f)(w:World)(g:Nat)(r:Rdr)(s:Sl)(q:Int×List Int×Rdr)(h:St w g src r s)(ht:r.t≠45)(hq:exN (sb src) f (.row 18) r=some q)(h1:¬(12<=q.2.2.t/\q.2.2.t<=17))(h2:¬q.2.2.t=28):
  Calls prog 200 #[.pointer (some ⟨g,0,none⟩),.int .u8 45] w (Ex w g src s q.2.2 (iv q.1)):=by
 have Fq:=h.box.c2;have HS:=G h;have HI:=G IH;have K1:=G (show jn (sb src) 45 r=some (false,r)by rw[jn,jJ5 ht]);have E1:=G hq;have e28:((q.2.2.t:Int)==28)=false:=jM3 (by omega);have:(12:Int)<=(q.2.2.t:Int)/\¬(q.2.2.t:Int)<=17\/¬(12:Int)<=(q.2.2.t:Int):=(by omega);clear h IH hq ht h1 h2;rcases this with⟨e1,e2⟩|e1
 all_goals
  unfold iv;go_enter func200,ntmps200;go_wp2_with (first|(go_at_call 167;refine(jm _ g src _ _ s 45 _ HS.out K1.out).mono ?_;rintro e w1 ⟨rfl,hX⟩;have H1:=G hX;clear hX)|(go_at_call 200;refine(HI.out.row 18 (by decide) _ g _ _ _ H1.out.1 E1.out).mono ?_;rintro e w2 ⟨rfl,s2,hX⟩;have H2:=G hX;have Fh:=hX.1.box.c3;clear hX;unfold iv)|fail);go_ret;exact⟨rfl,s2,H2.out.1,H1.out.2.trans H2.out.2⟩
theorem jJN(src:BA)(f:Nat)(IH:ExAll src f)(w:World)(g:Nat)(r:Rdr)(s:Sl)(k:Int×List Int×Rdr)(h:St w g src r s)(hk:exN (sb src) (f+1) (.row 45) r=some k):
  Calls prog 200 #[.pointer (some ⟨g,0,none⟩),.int .u8 45] w (Ex w g src s k.2.2 (iv k.1)):=by
 by_cases ht:r.t=45
 ·exact jH1 src f IH w g r s k h ht hk
 rw[exN,jJ6 rfl,jJ5 ht]at hk;obtain⟨q,hq,hk⟩:=jM2 hk;by_cases h1:12<=q.2.2.t/\q.2.2.t<=17
 ·rw[jJ6 h1]at hk;exact jFG src f IH w g r s k q h ht hq _ (by omega) hk
 rw[jJ5 h1]at hk;by_cases h2:q.2.2.t=28
 ·rw[jJ6 h2]at hk;exact jFG src f IH w g r s k q h ht hq _ (by omega) hk
 rw[jJ5 h2]at hk;injection hk with hk;subst hk;exact jH0 src f IH w g r s q h ht hq h1 h2
theorem qC(src:BA)(f:Nat):ExAll src f:=by
 induction f using Nat.strongRecOn with
 |_ f ih=>
  cases f with
  |zero=>exact⟨fun _ _ _ _ _ _ h=>absurd h (by simp[exN]),fun _ _ _ _ _ _ _ _ h=>absurd h (by simp[exN]),fun _ _ _ _ _ _ _ _ _ _ h=>absurd h (by simp[exN]),fun _ _ _ _ _ _ h=>absurd h (by simp[exN]),fun _ _ _ _ _ _ _ h=>absurd h (by simp[exN])⟩
  |succ f=>
   have IH:∀m,m<=f->ExAll src m:=fun m hm=>ih m (by omega);have I0:=IH f (jL3 f);refine⟨jHJ src f I0,fun l hl w g r s k h hk=> ?_,jDL src f I0,jFf src f I0,jB2 src f IH⟩;have:l=43\/l=44\/l=45\/l=18\/l=20\/l=19:=(by simpa [jJD]using hl);rcases this with rfl|rfl|rfl|rfl|rfl|rfl
   ·exact jJP src f IH w g r s k h hk
   ·exact jJO src f IH w g r s k h hk
   ·exact jJN src f I0 w g r s k h hk
   ·exact jJS src f IH w g r s k h hk
   ·exact jJQ src f IH w g r s k h hk
   ·exact jJR src f I0 w g r s k h hk
def zL(s:Sl)(L:List Nat):Nat->Prop:=fun b=>s.z b\/b∈L
structure Ks(src:BA)(w:World)(g:Nat)(s:Sl)(r:Rdr)(L:List Nat)(s' :Sl)(W:World):Prop where
 st:St W g src r s'
 z:s'.z=zL s L
 new:∀b∈L,w.heap.size<=b
 kp:Kp (OX g s) w W
 ox:∀b,b<w.heap.size->OX g s' b->OX g s b
section
variable{src:BA}{w W W1 W2 W3:World}{g:Nat}{s s' s1:Sl}{r r1:Rdr}{L:List Nat}
theorem Ks.start(h:St w g src r s):Ks src w g s r [] {s with z:=zL s []} w:=
 ⟨h.zgrow (jQ0 NoX w) (fun _ e=>e.elim) _ (fun b hb=>hb.elim (fun e=>⟨.inl e,h.zlt b e⟩) (fun e=>by cases e)),rfl,fun _ e=>by(cases e),jQ0 _ _,fun _ _ e=>e⟩
theorem Ks.old(h:Ks src w g s r L s' W)(ho:Old W W1):Ks src w g s r L s' W1:=⟨h.st.old ho,h.z,h.new,h.kp.old ho,h.ox⟩
theorem Ks.inz(h:Ks src w g s r L s' W){b:Nat}(hb:b∈L):s'.z b:=by rw[h.z];exact .inr hb
theorem Ks.alloc(h:Ks src w g s r L s' W)(o:Obj):Ks src w g s r (W.heap.size::L) {s' with z:=zL s (W.heap.size::L)} (W.alloc o):=by
 have ho:=(jQ0 NoX W).alloc o;have G6:(W.alloc o).heap.size=W.heap.size+1:=(by simp);refine⟨h.st.zgrow ho (fun _ e=>e.elim) _ (fun b hb=> ?_),rfl,fun b hb=> ?_,h.kp.old ho,h.ox⟩
 ·have key:s'.z b\/b=W.heap.size:=by
   rcases hb with e|e
   ·left;rw[h.z];exact .inl e
   ·rcases jN4 e with e|e
    ·exact .inr e
    ·exact .inl (h.inz e)
  rcases key with e|e
  ·exact⟨.inl e,by have:=h.st.zlt b e;omega⟩
  ·exact⟨.inr (by omega),by omega⟩
 ·rcases jN4 hb with e|e
  ·rw[e];exact h.kp.size
  ·exact h.new b e
theorem Ks.put(h:Ks src w g s r L s' W){b:Nat}(hb:b∈L)(i:Nat)(u:Value):Ks src w g s r L s' (W.setCell ⟨b,i,none⟩ u):=by
 have hk:Kp (fun k=>k=b) W (W.setCell ⟨b,i,none⟩ u):=(jQ0 (fun k=>k=b) W).setCell (p:=⟨b,i,none⟩) (fun _=>rfl) u;exact⟨h.st.zgrow hk (fun k e=>by rw[e];exact h.inz hb) s'.z (fun k e=>⟨.inl e,jL8 (h.st.zlt k e) hk.size⟩),h.z,h.new,h.kp.trans hk (fun k L4 e=>by have:=h.new b hb;omega),h.ox⟩
theorem Ks.step(h:Ks src w g s r L s' W)(h1:St W1 g src r1 s1)(f:Fr g s' s1 W W1):Ks src w g s r1 L s1 W1:=
 ⟨h1,f.z.trans h.z,h.new,h.kp.trans f.kp h.ox,fun b hb e=>h.ox b hb (f.own b (jL8 hb h.kp.size) e)⟩
theorem Ks.blk(h:Ks src w g s r L s' W){b:Nat}(hb:b∈L){T:TypeId}{cs:Array Value}(hB:Blk W b T cs)(f:Fr g s' s1 W W1):Blk W1 b T cs:=hB.kp f.kp (fun hx=>h.st.zno b hx (h.inz hb))
theorem Ks.own(h:Ks src w g s r L s' W){base:Nat}{e:TypeId}{z:Nat}{A:OA}{c n:Nat}{xs:List Value}(ho:W.ownsRow base e z (.slice A n c) n xs)(hA:∀b,A.map (·.block)=some b->b∈L)(f:Fr g s' s1 W W1):W1.ownsRow base e z (.slice A n c) n xs:=
 jW ho f.kp (fun b e hx=>h.st.zno b hx (h.inz (hA b (by rw[<-jC];exact e))))
theorem Ks.grow(h:Ks src w g s r L s' W)(ho:Old W W2){A A' :OA}(hA:∀b,A.map (·.block)=some b->b∈L)(hg:W2.grownBy W3 (A.map (·.block)))(ha:A'.map (·.block)=A.map (·.block)\/A'.map (·.block)=some W2.heap.size)
  {base:Nat} {e:TypeId} {z c n:Nat} {xs:List Value} (Hh:W3.ownsRow base e z (.slice A' n c) n xs):Ks src w g s r ((A'.map (·.block)).toList++L) {s' with z:=zL s ((A'.map (·.block)).toList++L)} W3:=by
 have Fg:Kp (fun b=>A.map (·.block)=some b) W W3:=Kp.grown (ho.mono (fun _ _ e=>e.elim)) hg (fun _ e _=>e);have key:∀b,A'.map (·.block)=some b->b∈L\/W2.heap.size=b:=fun b e=>by
  rcases ha with ha|ha
  ·exact .inl (hA b (by rw[<-ha];exact e))
  ·rw[ha]at e;injection e with e;exact .inr e
 refine⟨h.st.zgrow Fg (fun b e=>h.inz (hA b e)) _ (fun b hb=> ?_),rfl,fun b hb=> ?_,h.kp.trans Fg (fun b hb e=>by have:=h.new b (hA b e);omega),h.ox⟩
 ·rcases hb with e|e
  ·have e2:s'.z b:=by rw[h.z];exact .inl e
   exact⟨.inl e2,jL8 (h.st.zlt b e2) Fg.size⟩
  ·rcases jM6 e with e|e
   ·have e:=Option.mem_toList.1 e;refine⟨?_,(ye Hh e).2⟩;rcases key b e with e2|e2
    ·exact .inl (h.inz e2)
    ·right;rw[<-e2];exact ho.size
   ·exact⟨.inl (h.inz e),jL8 (h.st.zlt b (h.inz e)) Fg.size⟩
 ·rcases jM6 hb with e|e
  ·have e:=Option.mem_toList.1 e;rcases key b e with e2|e2
   ·exact h.new b e2
   ·rw[<-e2];exact jL4 h.kp.size ho.size
  ·exact h.new b e
theorem Ks.done(h:Ks src w g s r L s' W)(h0:∀b,s.z b->b<w.heap.size):St W g src r {s' with z:=s.z}/\Fr g s {s' with z:=s.z} w W:=
 ⟨h.st.zgrow (jQ0 NoX W) (fun _ e=>e.elim) _ (fun b e=>⟨.inl (by rw[h.z];exact .inl e),jL8 (h0 b e) h.kp.size⟩),⟨h.kp,h.ox,rfl⟩⟩
end
theorem yo{src:LB}{f:Nat}{r:Rdr}{k:Int×Rdr}(h:ud src f r=some k):∃q,exN src f .expr r=some q/\q.1=k.1/\q.2.2=k.2:=by
 obtain⟨q,hq,e⟩:=jM4 h;exact⟨q,hq,by rw[<-e],by rw[<-e]⟩
theorem jHF(w:World)(g:Nat)(src:BA)(f:Nat)(r:Rdr)(s:Sl)(k:Int×Rdr)(h:St w g src r s)(hk:vQ (sb src) f 12 r=some k):
  Calls prog 169 #[.pointer (some ⟨g,0,none⟩),.int .u8 12] w (Ex w g src s k.2 (iv k.1)):=by
 have HS:=G h;unfold vQ at hk;by_cases ht:r.t=12
 ·rw[jJ5 (fun e=>e ht)]at hk;obtain⟨r1,Fl,hk⟩:=jM2 hk;rw[jJ6 (by decide)]at hk;obtain⟨q,hq,e1,e2⟩:=yo hk;have K1:=G (show jn (sb src) 12 r=some (true,r1)by rw[jn,jJ6 ht,Fl];rfl);have E1:=G ((qC src f).ex · g r1 · q · hq);rw[e1,e2]at E1;clear h Fl hk hq e1 e2 ht;go_enter func169,ntmps169;go_wp2_with (first|(go_at_call 167;refine(jm _ g src _ _ s 12 _ HS.out K1.out).mono ?_;rintro e w1 ⟨rfl,hX⟩;have H1:=G hX;clear hX)|(go_at_call 172;refine(E1.out _ _ H1.out.1).mono ?_;rintro e w2 ⟨rfl,s2,hX⟩;have H2:=G hX;clear hX;unfold iv)|fail);go_ret;exact⟨rfl,s2,H2.out.1,H1.out.2.trans H2.out.2⟩
 ·rw[jJ6 ht]at hk;injection hk with hk;subst hk;have K1:=G (show jn (sb src) 12 r=some (false,r)by rw[jn,jJ5 ht]);clear h ht;go_enter func169,ntmps169;go_wp2_with (first|(go_at_call 167;refine(jm _ g src _ _ s 12 _ HS.out K1.out).mono ?_;rintro e w1 ⟨rfl,hX⟩;have H1:=G hX;clear hX)|fail);go_ret;exact⟨rfl,s,H1.out⟩
theorem jCP(w:World)(g:Nat)(src:BA)(f:Nat)(r:Rdr)(s:Sl)(k:Int×Rdr)(h:St w g src r s)(hk:vQ (sb src) f 32 r=some k):
  Calls prog 169 #[.pointer (some ⟨g,0,none⟩),.int .u8 32] w (Ex w g src s k.2 (iv k.1)):=by
 have HS:=G h;unfold vQ at hk;by_cases ht:r.t=32
 ·rw[jJ5 (fun e=>e ht)]at hk;obtain⟨r1,Fl,hk⟩:=jM2 hk;rw[jJ6 (by decide)]at hk;obtain⟨q,hq,e1,e2⟩:=yo hk;have K1:=G (show jn (sb src) 32 r=some (true,r1)by rw[jn,jJ6 ht,Fl];rfl);have E1:=G ((qC src f).ex · g r1 · q · hq);rw[e1,e2]at E1;clear h Fl hk hq e1 e2 ht;go_enter func169,ntmps169;go_wp2_with (first|(go_at_call 167;refine(jm _ g src _ _ s 32 _ HS.out K1.out).mono ?_;rintro e w1 ⟨rfl,hX⟩;have H1:=G hX;clear hX)|(go_at_call 172;refine(E1.out _ _ H1.out.1).mono ?_;rintro e w2 ⟨rfl,s2,hX⟩;have H2:=G hX;clear hX;unfold iv)|fail);go_ret;exact⟨rfl,s2,H2.out.1,H1.out.2.trans H2.out.2⟩
 ·rw[jJ6 ht]at hk;injection hk with hk;subst hk;have K1:=G (show jn (sb src) 32 r=some (false,r)by rw[jn,jJ5 ht]);clear h ht;go_enter func169,ntmps169;go_wp2_with (first|(go_at_call 167;refine(jm _ g src _ _ s 32 _ HS.out K1.out).mono ?_;rintro e w1 ⟨rfl,hX⟩;have H1:=G hX;clear hX)|fail);go_ret;exact⟨rfl,s,H1.out⟩
theorem jHE(w:World)(g:Nat)(src:BA)(f:Nat)(r:Rdr)(s:Sl)(k:Int×Rdr)(h:St w g src r s)(hk:vQ (sb src) f 29 r=some k):
  Calls prog 169 #[.pointer (some ⟨g,0,none⟩),.int .u8 29] w (Ex w g src s k.2 (iv k.1)):=by
 have HS:=G h;unfold vQ at hk;by_cases ht:r.t=29
 ·rw[jJ5 (fun e=>e ht)]at hk;obtain⟨r1,Fl,hk⟩:=jM2 hk;rw[jJ5 (by decide)]at hk;obtain⟨r2,Fv,hk⟩:=jM2 hk;obtain⟨q,hq,e1,e2⟩:=yo hk;have K1:=G (show jn (sb src) 29 r=some (true,r1)by rw[jn,jJ6 ht,Fl];rfl);have N2:=G Fv;have E1:=G ((qC src f).ex · g r2 · q · hq);rw[e1,e2]at E1;clear h Fl Fv hk hq e1 e2 ht;go_enter func169,ntmps169;go_wp2_with (first|(go_at_call 167;refine(jm _ g src _ _ s 29 _ HS.out K1.out).mono ?_;rintro e w1 ⟨rfl,hX⟩;have H1:=G hX;clear hX)|(go_at_call 135;refine(jX _ g src _ _ s H1.out.1 N2.out).mono ?_;rintro e w2 ⟨rfl,hX⟩;have H2:=G hX;clear hX)|(go_at_call 172;refine(E1.out _ _ H2.out.1).mono ?_;rintro e w3 ⟨rfl,s3,hX⟩;have H3:=G hX;clear hX;unfold iv)|fail);go_ret;exact⟨rfl,s3,H3.out.1,(H1.out.2.trans H2.out.2).trans H3.out.2⟩
 ·rw[jJ6 ht]at hk;injection hk with hk;subst hk;have K1:=G (show jn (sb src) 29 r=some (false,r)by rw[jn,jJ5 ht]);clear h ht;go_enter func169,ntmps169;go_wp2_with (first|(go_at_call 167;refine(jm _ g src _ _ s 29 _ HS.out K1.out).mono ?_;rintro e w1 ⟨rfl,hX⟩;have H1:=G hX;clear hX)|fail);go_ret;exact⟨rfl,s,H1.out⟩
theorem jFw(w:World)(g:Nat)(src:BA)(f:Nat)(r:Rdr)(s:Sl)(k:Int×Rdr)(h:St w g src r s)(hk:yU (sb src) f 29 r=some k):
  Calls prog 171 #[.pointer (some ⟨g,0,none⟩),.int .u8 29] w (Ex w g src s k.2 (iv k.1)):=by
 have HS:=G h;unfold yU at hk;obtain⟨q,hq,hk⟩:=jM2 hk;have G1:=G (jHE w g src f r s q h hq);by_cases h0:0<=q.1
 ·rw[jJ6 h0]at hk;obtain⟨r1,Fl,hk⟩:=jM2 hk;injection hk with hk;subst hk;have N1:=G Fl;have f1:(0:Int)<=q.1:=h0;clear h hq Fl h0;go_enter func171,ntmps171;go_wp2_with (first|(go_at_call 169;refine G1.out.mono ?_;rintro e w1 ⟨rfl,s1,hX⟩;have H1:=G hX;clear hX;unfold iv)|(go_at_call 135;refine(jX _ g src _ _ _ H1.out.1 N1.out).mono ?_;rintro e w2 ⟨rfl,hX⟩;have H2:=G hX;clear hX)|fail);go_ret;exact⟨rfl,s1,H2.out.1,H1.out.2.trans H2.out.2⟩
 ·rw[jJ5 h0]at hk;injection hk with hk;subst hk;clear h hq;go_enter func171,ntmps171;go_wp2_with (first|(go_at_call 169;refine G1.out.mono ?_;rintro e w1 ⟨rfl,s1,hX⟩;have H1:=G hX;clear hX;unfold iv)|fail);go_ret;exact⟨rfl,s1,H1.out⟩
theorem jHD(w:World)(g:Nat)(src:BA)(f:Nat)(r:Rdr)(s:Sl)(k:Int×Rdr)(h:St w g src r s)(hk:vQ (sb src) f 30 r=some k):
  Calls prog 169 #[.pointer (some ⟨g,0,none⟩),.int .u8 30] w (Ex w g src s k.2 (iv k.1)):=by
 have HS:=G h;unfold vQ at hk;by_cases ht:r.t=30
 ·rw[jJ5 (fun e=>e ht)]at hk;obtain⟨r1,Fl,hk⟩:=jM2 hk;rw[jJ5 (by decide)]at hk;obtain⟨r2,Fv,hk⟩:=jM2 hk;obtain⟨q,hq,e1,e2⟩:=yo hk;have K1:=G (show jn (sb src) 30 r=some (true,r1)by rw[jn,jJ6 ht,Fl];rfl);have N2:=G Fv;have E1:=G ((qC src f).ex · g r2 · q · hq);rw[e1,e2]at E1;clear h Fl Fv hk hq e1 e2 ht;go_enter func169,ntmps169;go_wp2_with (first|(go_at_call 167;refine(jm _ g src _ _ s 30 _ HS.out K1.out).mono ?_;rintro e w1 ⟨rfl,hX⟩;have H1:=G hX;clear hX)|(go_at_call 135;refine(jX _ g src _ _ s H1.out.1 N2.out).mono ?_;rintro e w2 ⟨rfl,hX⟩;have H2:=G hX;clear hX)|(go_at_call 172;refine(E1.out _ _ H2.out.1).mono ?_;rintro e w3 ⟨rfl,s3,hX⟩;have H3:=G hX;clear hX;unfold iv)|fail);go_ret;exact⟨rfl,s3,H3.out.1,(H1.out.2.trans H2.out.2).trans H3.out.2⟩
 ·rw[jJ6 ht]at hk;injection hk with hk;subst hk;have K1:=G (show jn (sb src) 30 r=some (false,r)by rw[jn,jJ5 ht]);clear h ht;go_enter func169,ntmps169;go_wp2_with (first|(go_at_call 167;refine(jm _ g src _ _ s 30 _ HS.out K1.out).mono ?_;rintro e w1 ⟨rfl,hX⟩;have H1:=G hX;clear hX)|fail);go_ret;exact⟨rfl,s,H1.out⟩
theorem jFv(w:World)(g:Nat)(src:BA)(f:Nat)(r:Rdr)(s:Sl)(k:Int×Rdr)(h:St w g src r s)(hk:yU (sb src) f 30 r=some k):
  Calls prog 171 #[.pointer (some ⟨g,0,none⟩),.int .u8 30] w (Ex w g src s k.2 (iv k.1)):=by
 have HS:=G h;unfold yU at hk;obtain⟨q,hq,hk⟩:=jM2 hk;have G1:=G (jHD w g src f r s q h hq);by_cases h0:0<=q.1
 ·rw[jJ6 h0]at hk;obtain⟨r1,Fl,hk⟩:=jM2 hk;injection hk with hk;subst hk;have N1:=G Fl;have f1:(0:Int)<=q.1:=h0;clear h hq Fl h0;go_enter func171,ntmps171;go_wp2_with (first|(go_at_call 169;refine G1.out.mono ?_;rintro e w1 ⟨rfl,s1,hX⟩;have H1:=G hX;clear hX;unfold iv)|(go_at_call 135;refine(jX _ g src _ _ _ H1.out.1 N1.out).mono ?_;rintro e w2 ⟨rfl,hX⟩;have H2:=G hX;clear hX)|fail);go_ret;exact⟨rfl,s1,H2.out.1,H1.out.2.trans H2.out.2⟩
 ·rw[jJ5 h0]at hk;injection hk with hk;subst hk;clear h hq;go_enter func171,ntmps171;go_wp2_with (first|(go_at_call 169;refine G1.out.mono ?_;rintro e w1 ⟨rfl,s1,hX⟩;have H1:=G hX;clear hX;unfold iv)|fail);go_ret;exact⟨rfl,s1,H1.out⟩
theorem jHC(w:World)(g:Nat)(src:BA)(f:Nat)(r:Rdr)(s:Sl)(k:Int×Rdr)(h:St w g src r s)(hk:vQ (sb src) f 31 r=some k):
  Calls prog 169 #[.pointer (some ⟨g,0,none⟩),.int .u8 31] w (Ex w g src s k.2 (iv k.1)):=by
 have HS:=G h;unfold vQ at hk;by_cases ht:r.t=31
 ·rw[jJ5 (fun e=>e ht)]at hk;obtain⟨r1,Fl,hk⟩:=jM2 hk;rw[jJ5 (by decide)]at hk;obtain⟨r2,Fv,hk⟩:=jM2 hk;obtain⟨q,hq,e1,e2⟩:=yo hk;have K1:=G (show jn (sb src) 31 r=some (true,r1)by rw[jn,jJ6 ht,Fl];rfl);have N2:=G Fv;have E1:=G ((qC src f).ex · g r2 · q · hq);rw[e1,e2]at E1;clear h Fl Fv hk hq e1 e2 ht;go_enter func169,ntmps169;go_wp2_with (first|(go_at_call 167;refine(jm _ g src _ _ s 31 _ HS.out K1.out).mono ?_;rintro e w1 ⟨rfl,hX⟩;have H1:=G hX;clear hX)|(go_at_call 135;refine(jX _ g src _ _ s H1.out.1 N2.out).mono ?_;rintro e w2 ⟨rfl,hX⟩;have H2:=G hX;clear hX)|(go_at_call 172;refine(E1.out _ _ H2.out.1).mono ?_;rintro e w3 ⟨rfl,s3,hX⟩;have H3:=G hX;clear hX;unfold iv)|fail);go_ret;exact⟨rfl,s3,H3.out.1,(H1.out.2.trans H2.out.2).trans H3.out.2⟩
 ·rw[jJ6 ht]at hk;injection hk with hk;subst hk;have K1:=G (show jn (sb src) 31 r=some (false,r)by rw[jn,jJ5 ht]);clear h ht;go_enter func169,ntmps169;go_wp2_with (first|(go_at_call 167;refine(jm _ g src _ _ s 31 _ HS.out K1.out).mono ?_;rintro e w1 ⟨rfl,hX⟩;have H1:=G hX;clear hX)|fail);go_ret;exact⟨rfl,s,H1.out⟩
theorem jFu(w:World)(g:Nat)(src:BA)(f:Nat)(r:Rdr)(s:Sl)(k:Int×Rdr)(h:St w g src r s)(hk:yU (sb src) f 31 r=some k):
  Calls prog 171 #[.pointer (some ⟨g,0,none⟩),.int .u8 31] w (Ex w g src s k.2 (iv k.1)):=by
 have HS:=G h;unfold yU at hk;obtain⟨q,hq,hk⟩:=jM2 hk;have G1:=G (jHC w g src f r s q h hq);by_cases h0:0<=q.1
 ·rw[jJ6 h0]at hk;obtain⟨r1,Fl,hk⟩:=jM2 hk;injection hk with hk;subst hk;have N1:=G Fl;have f1:(0:Int)<=q.1:=h0;clear h hq Fl h0;go_enter func171,ntmps171;go_wp2_with (first|(go_at_call 169;refine G1.out.mono ?_;rintro e w1 ⟨rfl,s1,hX⟩;have H1:=G hX;clear hX;unfold iv)|(go_at_call 135;refine(jX _ g src _ _ _ H1.out.1 N1.out).mono ?_;rintro e w2 ⟨rfl,hX⟩;have H2:=G hX;clear hX)|fail);go_ret;exact⟨rfl,s1,H2.out.1,H1.out.2.trans H2.out.2⟩
 ·rw[jJ5 h0]at hk;injection hk with hk;subst hk;clear h hq;go_enter func171,ntmps171;go_wp2_with (first|(go_at_call 169;refine G1.out.mono ?_;rintro e w1 ⟨rfl,s1,hX⟩;have H1:=G hX;clear hX;unfold iv)|fail);go_ret;exact⟨rfl,s1,H1.out⟩
end Go.Proofs.YtmmjcbbogokmfaaGreatDoor

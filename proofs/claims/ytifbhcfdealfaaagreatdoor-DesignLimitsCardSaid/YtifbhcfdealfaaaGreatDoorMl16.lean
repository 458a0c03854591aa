import Derived.Test.YtifbhcfdealfaaaGreatDoorMl15
set_option maxRecDepth 100000
set_option maxHeartbeats 25600000
namespace Go.Proofs.YtifbhcfdealfaaaGreatDoor
open Go.Proofs.Tryz
open Go.RowKit
def Jx(src:BA)(w:World)(g:Nat)(level:Nat)(s:Sl)(k:Int×List Int×Rdr)(F n:Nat)(rv:Value)(W:World):Prop:=
 n<=F/\∃root r' s',rv=iv root/\St W g src r' s' /\Fr g s s' w W/\exN (sb src) n (.more level root) r' =some k
theorem jFc(src:BA)(f:Nat)(IH:∀m,m<=f->ExAll src m)(w:World)(g:Nat)(r:Rdr)(s:Sl)(k:Int×List Int×Rdr)(h:St w g src r s)(hk:exN (sb src) (f+1) (.row 43) r=some k):
  Calls prog 256 #[.pointer (some ⟨g,0,none⟩),.int .u8 43] w (Ex w g src s k.2.2 (iv k.1)):=by
 rw[exN,jJ5 (by decide),jJ6 (by decide)]at hk;have HS:=G h;have HI:=G IH;have Po:=G (IH f (jL3 f));obtain⟨q,hq,hk⟩:=jM2 hk;have E1:=G (show exN (sb src) f (.row 44) r=some q from hq);have EX:=G hk;clear h IH hq hk;go_enter func256,ntmps256;go_wp2_with (first|(go_at_call 256;refine(Po.out.row 44 (by decide) _ g _ _ _ HS.out E1.out).mono ?_;rintro e w1 ⟨rfl,s1,hX⟩;have H1:=G hX;clear hX)|fail);go_loopw [5] (fun rv wr=>∃n,Jx src w g 43 s k f n rv wr) (fun rv wr=>least (fun n=>Jx src w g 43 s k f n rv wr))
 case atStart=>exact⟨f,jL3 _,q.1,q.2.2,s1,rfl,H1.out.1,H1.out.2,EX.out⟩
 case round=>
  clear H1;obtain⟨n,⟨hn,root,r',s',rfl,F3,G0,F4⟩,Fj⟩:=yH hrel;have Fq:=F3.box.c3;have Fi:=G F3;have G3:=G G0;have FO:=G Fj;cases n with
  |zero=>exact absurd F4 (by simp[exN])
  |succ m=>
   rw[exN]at F4;by_cases ht:r'.t=43
   ·have FX:yS 43 r'.t=10:=by rw[ht];rfl
    rw[FX,jJ5 (by decide)]at F4;obtain⟨q2,Wh,F4⟩:=jM2 F4;have E2:=G (show exN (sb src) m (.two 10 root 44) r' =some q2 from Wh);have EX2:=G F4;have L5:=G (HI.out m (by omega));rw[ht]at Fq;clear F3 G0 Fj hrel F4 Wh ht FX;unfold iv;go_wp2_with (first|(go_at_call 288;refine(L5.out.two 10 root 44 (by decide) _ g _ _ _ Fi.out E2.out).mono ?_;rintro e w2 ⟨rfl,s2,hX⟩;have H2:=G hX;clear hX)|fail);have HL:Jx src w g 43 s k f m (iv q2.1) w2:=⟨by omega,q2.1,q2.2.2,s2,rfl,H2.out.1,G3.out.trans H2.out.2,EX2.out⟩;exact⟨⟨m,HL⟩,by rw[show Value.int .i64 root=iv root from rfl,FO.out];exact kj HL (Nat.lt_succ_self m)⟩
   ·have FX:yS 43 r'.t=0:=by unfold yS;simp[ht]
    rw[FX,jJ6 rfl]at F4;injection F4 with F4;have He:=G F4;have e1:((r'.t:Int)==43)=false:=jM3 (by omega);clear F3 G0 Fj hrel F4 ht FX;go_wp2;go_ret;rw[<-He.out];exact⟨rfl,s',Fi.out,G3.out⟩
theorem jFb(src:BA)(f:Nat)(IH:∀m,m<=f->ExAll src m)(w:World)(g:Nat)(r:Rdr)(s:Sl)(k:Int×List Int×Rdr)(h:St w g src r s)(hk:exN (sb src) (f+1) (.row 44) r=some k):
  Calls prog 256 #[.pointer (some ⟨g,0,none⟩),.int .u8 44] w (Ex w g src s k.2.2 (iv k.1)):=by
 rw[exN,jJ5 (by decide),jJ6 (by decide)]at hk;have HS:=G h;have HI:=G IH;have Po:=G (IH f (jL3 f));obtain⟨q,hq,hk⟩:=jM2 hk;have E1:=G (show exN (sb src) f (.row 45) r=some q from hq);have EX:=G hk;clear h IH hq hk;go_enter func256,ntmps256;go_wp2_with (first|(go_at_call 256;refine(Po.out.row 45 (by decide) _ g _ _ _ HS.out E1.out).mono ?_;rintro e w1 ⟨rfl,s1,hX⟩;have H1:=G hX;clear hX)|fail);go_loopw [5] (fun rv wr=>∃n,Jx src w g 44 s k f n rv wr) (fun rv wr=>least (fun n=>Jx src w g 44 s k f n rv wr))
 case atStart=>exact⟨f,jL3 _,q.1,q.2.2,s1,rfl,H1.out.1,H1.out.2,EX.out⟩
 case round=>
  clear H1;obtain⟨n,⟨hn,root,r',s',rfl,F3,G0,F4⟩,Fj⟩:=yH hrel;have Fq:=F3.box.c3;have Fi:=G F3;have G3:=G G0;have FO:=G Fj;cases n with
  |zero=>exact absurd F4 (by simp[exN])
  |succ m=>
   rw[exN]at F4;by_cases ht:r'.t=44
   ·have FX:yS 44 r'.t=9:=by rw[ht];rfl
    rw[FX,jJ5 (by decide)]at F4;obtain⟨q2,Wh,F4⟩:=jM2 F4;have E2:=G (show exN (sb src) m (.two 9 root 45) r' =some q2 from Wh);have EX2:=G F4;have L5:=G (HI.out m (by omega));rw[ht]at Fq;clear F3 G0 Fj hrel F4 Wh ht FX;unfold iv;go_wp2_with (first|(go_at_call 288;refine(L5.out.two 9 root 45 (by decide) _ g _ _ _ Fi.out E2.out).mono ?_;rintro e w2 ⟨rfl,s2,hX⟩;have H2:=G hX;clear hX)|fail);have HL:Jx src w g 44 s k f m (iv q2.1) w2:=⟨by omega,q2.1,q2.2.2,s2,rfl,H2.out.1,G3.out.trans H2.out.2,EX2.out⟩;exact⟨⟨m,HL⟩,by rw[show Value.int .i64 root=iv root from rfl,FO.out];exact kj HL (Nat.lt_succ_self m)⟩
   ·have FX:yS 44 r'.t=0:=by unfold yS;simp[ht]
    rw[FX,jJ6 rfl]at F4;injection F4 with F4;have He:=G F4;have e1:((r'.t:Int)==44)=false:=jM3 (by omega);clear F3 G0 Fj hrel F4 ht FX;go_wp2;go_ret;rw[<-He.out];exact⟨rfl,s',Fi.out,G3.out⟩
theorem jFe(src:BA)(f:Nat)(IH:ExAll src f)(w:World)(g:Nat)(r:Rdr)(s:Sl)(k:Int×List Int×Rdr)(h:St w g src r s)(hk:exN (sb src) (f+1) (.row 19) r=some k):
  Calls prog 256 #[.pointer (some ⟨g,0,none⟩),.int .u8 19] w (Ex w g src s k.2.2 (iv k.1)):=by
 rw[exN,jJ5 (by decide),jJ5 (by decide)]at hk;have HS:=G h;have HI:=G IH;have E1:=G hk;clear h IH hk;go_enter func256,ntmps256;go_wp2_with (first|(go_at_call 289;refine(HI.out.un _ g _ _ _ HS.out E1.out).mono ?_;rintro e w1 ⟨rfl,s1,hX⟩)|fail);go_ret;exact⟨rfl,s1,hX⟩
theorem jFf(src:BA)(f:Nat)(IH:∀m,m<=f->ExAll src m)(w:World)(g:Nat)(r:Rdr)(s:Sl)(k:Int×List Int×Rdr)(h:St w g src r s)(hk:exN (sb src) (f+1) (.row 18) r=some k):
  Calls prog 256 #[.pointer (some ⟨g,0,none⟩),.int .u8 18] w (Ex w g src s k.2.2 (iv k.1)):=by
 rw[exN,jJ5 (by decide),jJ6 (by decide)]at hk;have HS:=G h;have HI:=G IH;have Po:=G (IH f (jL3 f));obtain⟨q,hq,hk⟩:=jM2 hk;have E1:=G (show exN (sb src) f (.row 20) r=some q from hq);have EX:=G hk;clear h IH hq hk;go_enter func256,ntmps256;go_wp2_with (first|(go_at_call 256;refine(Po.out.row 20 (by decide) _ g _ _ _ HS.out E1.out).mono ?_;rintro e w1 ⟨rfl,s1,hX⟩;have H1:=G hX;clear hX)|fail);go_loopw [8] (fun rv wr=>∃n,Jx src w g 18 s k f n rv wr) (fun rv wr=>least (fun n=>Jx src w g 18 s k f n rv wr))
 case atStart=>exact⟨f,jL3 _,q.1,q.2.2,s1,rfl,H1.out.1,H1.out.2,EX.out⟩
 case round=>
  clear H1;obtain⟨n,⟨hn,root,r',s',rfl,F3,G0,F4⟩,Fj⟩:=yH hrel;have Fq:=F3.box.c3;have Fi:=G F3;have G3:=G G0;have FO:=G Fj;cases n with
  |zero=>exact absurd F4 (by simp[exN])
  |succ m=>
   rw[exN]at F4;by_cases ht:r'.t=18\/r'.t=19
   ·rcases ht with ht|ht
    all_goals
     have FX:yS 18 r'.t=(r'.t:Int):=by rw[ht];rfl
     rw[FX,ht,jJ5 (by decide)]at F4;obtain⟨q2,Wh,F4⟩:=jM2 F4;have E2:=G (show exN (sb src) m (.two _ root 20) r' =some q2 from Wh);have EX2:=G F4;have L5:=G (HI.out m (by omega));rw[ht]at Fq;clear F3 G0 Fj hrel F4 Wh ht FX;unfold iv;go_wp2_with (first|(go_at_call 288;refine(L5.out.two _ root 20 (by decide) _ g _ _ _ Fi.out E2.out).mono ?_;rintro e w2 ⟨rfl,s2,hX⟩;have H2:=G hX;clear hX)|fail);have HL:Jx src w g 18 s k f m (iv q2.1) w2:=⟨by omega,q2.1,q2.2.2,s2,rfl,H2.out.1,G3.out.trans H2.out.2,EX2.out⟩;exact⟨⟨m,HL⟩,by rw[show Value.int .i64 root=iv root from rfl,FO.out];exact kj HL (Nat.lt_succ_self m)⟩
   ·have FX:yS 18 r'.t=0:=by unfold yS;simp[ht]
    rw[FX,jJ6 rfl]at F4;injection F4 with F4;have He:=G F4;have e1:((r'.t:Int)==18)=false:=jM3 (by omega);have e2:((r'.t:Int)==19)=false:=jM3 (by omega);clear F3 G0 Fj hrel F4 ht FX;go_wp2;go_ret;rw[<-He.out];exact⟨rfl,s',Fi.out,G3.out⟩
theorem jFd(src:BA)(f:Nat)(IH:∀m,m<=f->ExAll src m)(w:World)(g:Nat)(r:Rdr)(s:Sl)(k:Int×List Int×Rdr)(h:St w g src r s)(hk:exN (sb src) (f+1) (.row 20) r=some k):
  Calls prog 256 #[.pointer (some ⟨g,0,none⟩),.int .u8 20] w (Ex w g src s k.2.2 (iv k.1)):=by
 rw[exN,jJ5 (by decide),jJ6 (by decide)]at hk;have HS:=G h;have HI:=G IH;obtain⟨q,hq,hk⟩:=jM2 hk;have E1:=G (show exN (sb src) f (.row 19) r=some q from hq);have EX:=G hk;cases f with
 |zero=>exact absurd E1.out (by simp[exN])
 |succ f1=>
 have E0:=G (show exN (sb src) f1 .unary r=some q by have h:=E1.out;rwa [exN,jJ5 (by decide),jJ5 (by decide)]at h);have Po:=G (IH f1 (Nat.le_succ f1));clear h IH hq hk E1;go_enter func256,ntmps256;go_wp2_with (first|(go_at_call 289;refine(Po.out.un _ g _ _ _ HS.out E0.out).mono ?_;rintro e w1 ⟨rfl,s1,hX⟩;have H1:=G hX;clear hX)|fail);go_loopw [9] (fun rv wr=>∃n,Jx src w g 20 s k (f1+1) n rv wr) (fun rv wr=>least (fun n=>Jx src w g 20 s k (f1+1) n rv wr))
 case atStart=>exact⟨f1+1,jL3 _,q.1,q.2.2,s1,rfl,H1.out.1,H1.out.2,EX.out⟩
 case round=>
  clear H1;obtain⟨n,⟨hn,root,r',s',rfl,F3,G0,F4⟩,Fj⟩:=yH hrel;have Fq:=F3.box.c3;have Fi:=G F3;have G3:=G G0;have FO:=G Fj;cases n with
  |zero=>exact absurd F4 (by simp[exN])
  |succ m=>
   rw[exN]at F4;by_cases ht:r'.t=20\/r'.t=21\/r'.t=22
   ·rcases ht with ht|ht|ht
    all_goals
     have FX:yS 20 r'.t=(r'.t:Int):=by rw[ht];rfl
     rw[FX,ht,jJ5 (by decide)]at F4;obtain⟨q2,Wh,F4⟩:=jM2 F4;have E2:=G (show exN (sb src) m (.two _ root 19) r' =some q2 from Wh);have EX2:=G F4;have L5:=G (HI.out m (by omega));rw[ht]at Fq;clear F3 G0 Fj hrel F4 Wh ht FX;unfold iv;go_wp2_with (first|(go_at_call 288;refine(L5.out.two _ root 19 (by decide) _ g _ _ _ Fi.out E2.out).mono ?_;rintro e w2 ⟨rfl,s2,hX⟩;have H2:=G hX;clear hX)|fail);have HL:Jx src w g 20 s k (f1+1) m (iv q2.1) w2:=⟨by omega,q2.1,q2.2.2,s2,rfl,H2.out.1,G3.out.trans H2.out.2,EX2.out⟩;exact⟨⟨m,HL⟩,by rw[show Value.int .i64 root=iv root from rfl,FO.out];exact kj HL (Nat.lt_succ_self m)⟩
   ·have FX:yS 20 r'.t=0:=by unfold yS;rw[jJ5 (by decide),jJ5 (by decide),jJ5 (by decide),jJ5 (by omega)]
    rw[FX,jJ6 rfl]at F4;injection F4 with F4;have He:=G F4;have e0:¬(20:Int)<=(r'.t:Int)\/(20:Int)<=(r'.t:Int)/\¬(r'.t:Int)<=22:=(by omega);clear F3 G0 Fj hrel F4 ht FX;rcases e0 with e1|⟨e1,e2⟩
    all_goals
     go_wp2;go_ret;rw[<-He.out];exact⟨rfl,s',Fi.out,G3.out⟩
theorem jER(src:BA)(f:Nat)(IH:ExAll src f)(w:World)(g:Nat)(r:Rdr)(s:Sl)(k:Int×List Int×Rdr)(h:St w g src r s)(ht:r.t=45)(hk:exN (sb src) (f+1) (.row 45) r=some k):
  Calls prog 256 #[.pointer (some ⟨g,0,none⟩),.int .u8 45] w (Ex w g src s k.2.2 (iv k.1)):=by
 rw[exN,jJ6 rfl,jJ6 ht]at hk;have Fm:=h.box.c2;have HS:=G h;have HI:=G IH;obtain⟨r1,Fp,hk⟩:=jM2 hk;obtain⟨q,hq,hk⟩:=jM2 hk;obtain⟨x,hx,hk⟩:=jM4 hk;subst hk;obtain⟨x,r'⟩:=x;have K1:=G (show jb (sb src) 45 r=some (true,r1)by rw[jb,jJ6 ht,Fp];rfl);have E1:=G hq;have NX:=G hx;clear h IH Fp hq hx ht;unfold iv;go_enter func256,ntmps256;go_wp2_with (first|(go_at_call 212;refine(jV _ g src _ _ s 45 _ HS.out K1.out).mono ?_;rintro e w1 ⟨rfl,hX⟩;have H1:=G hX;clear hX)|(go_at_call 256;refine(HI.out.row 45 (by decide) _ g _ _ _ H1.out.1 E1.out).mono ?_;rintro e w2 ⟨rfl,s2,hX⟩;have H2:=G hX;clear hX;unfold iv)|(go_at_call 257;refine(JM _ g src _ _ _ 8 _ _ [q.1] H2.out.1 NX.out).mono ?_;rintro e w3 ⟨rfl,s3,hX⟩;have H3:=G hX;clear hX;unfold iv)|fail);go_ret;exact⟨rfl,s3,H3.out.1,(H1.out.2.trans H2.out.2).trans H3.out.2⟩
theorem jBn(src:BA)(f:Nat)(IH:ExAll src f)(w:World)(g:Nat)(r:Rdr)(s:Sl)(k q:Int×List Int×Rdr)(h:St w g src r s)(ht:r.t≠45)(hq:exN (sb src) f (.row 18) r=some q)(op:Int)(Mr:q.2.2.t=12/\op=11\/q.2.2.t=13/\op=12\/q.2.2.t=14/\op=13\/q.2.2.t=15/\op=14\/q.2.2.t=16/\op=15\/q.2.2.t=17/\op=16\/q.2.2.t=28/\op=17)(hk:exN (sb src) f (.two op q.1 18) q.2.2=some k):
  Calls prog 256 #[.pointer (some ⟨g,0,none⟩),.int .u8 45] w (Ex w g src s k.2.2 (iv k.1)):=by
 rcases Mr with⟨Mr,rfl⟩|⟨Mr,rfl⟩|⟨Mr,rfl⟩|⟨Mr,rfl⟩|⟨Mr,rfl⟩|⟨Mr,rfl⟩|⟨Mr,rfl⟩
 all_goals
  have Fm:=h.box.c2;have HS:=G h;have HI:=G IH;have K1:=G (show jb (sb src) 45 r=some (false,r)by rw[jb,jJ5 ht]);have E1:=G hq;have E2:=G hk;have HT:=G Mr;clear h IH hq hk ht Mr;unfold iv;go_enter func256,ntmps256;go_wp2_with (first|(go_at_call 212;refine(jV _ g src _ _ s 45 _ HS.out K1.out).mono ?_;rintro e w1 ⟨rfl,hX⟩;have H1:=G hX;clear hX)|(go_at_call 256;refine(HI.out.row 18 (by decide) _ g _ _ _ H1.out.1 E1.out).mono ?_;rintro e w2 ⟨rfl,s2,hX⟩;have H2:=G hX;have Fq:=hX.1.box.c3;rw[HT.out]at Fq;clear hX;unfold iv)|(go_at_call 288;refine(HI.out.two _ q.1 18 (by decide) _ g _ _ _ H2.out.1 E2.out).mono ?_;rintro e w3 ⟨rfl,s3,hX⟩;have H3:=G hX;clear hX;unfold iv)|fail);go_ret;exact⟨rfl,s3,H3.out.1,(H1.out.2.trans H2.out.2).trans H3.out.2⟩
theorem jEQ(src:BA)(f:Nat)(IH:ExAll src f)(w:World)(g:Nat)(r:Rdr)(s:Sl)(q:Int×List Int×Rdr)(h:St w g src r s)(ht:r.t≠45)(hq:exN (sb src) f (.row 18) r=some q)(h1:¬(12<=q.2.2.t/\q.2.2.t<=17))(h2:¬q.2.2.t=28):
  Calls prog 256 #[.pointer (some ⟨g,0,none⟩),.int .u8 45] w (Ex w g src s q.2.2 (iv q.1)):=by
 have Fm:=h.box.c2;have HS:=G h;have HI:=G IH;have K1:=G (show jb (sb src) 45 r=some (false,r)by rw[jb,jJ5 ht]);have E1:=G hq;have e28:((q.2.2.t:Int)==28)=false:=jM3 (by omega);have:(12:Int)<=(q.2.2.t:Int)/\¬(q.2.2.t:Int)<=17\/¬(12:Int)<=(q.2.2.t:Int):=(by omega);clear h IH hq ht h1 h2;rcases this with⟨e1,e2⟩|e1
 all_goals
  unfold iv;go_enter func256,ntmps256;go_wp2_with (first|(go_at_call 212;refine(jV _ g src _ _ s 45 _ HS.out K1.out).mono ?_;rintro e w1 ⟨rfl,hX⟩;have H1:=G hX;clear hX)|(go_at_call 256;refine(HI.out.row 18 (by decide) _ g _ _ _ H1.out.1 E1.out).mono ?_;rintro e w2 ⟨rfl,s2,hX⟩;have H2:=G hX;have Fq:=hX.1.box.c3;clear hX;unfold iv)|fail);go_ret;exact⟨rfl,s2,H2.out.1,H1.out.2.trans H2.out.2⟩
theorem jFa(src:BA)(f:Nat)(IH:ExAll src f)(w:World)(g:Nat)(r:Rdr)(s:Sl)(k:Int×List Int×Rdr)(h:St w g src r s)(hk:exN (sb src) (f+1) (.row 45) r=some k):
  Calls prog 256 #[.pointer (some ⟨g,0,none⟩),.int .u8 45] w (Ex w g src s k.2.2 (iv k.1)):=by
 by_cases ht:r.t=45
 ·exact jER src f IH w g r s k h ht hk
 rw[exN,jJ6 rfl,jJ5 ht]at hk;obtain⟨q,hq,hk⟩:=jM2 hk;by_cases h1:12<=q.2.2.t/\q.2.2.t<=17
 ·rw[jJ6 h1]at hk;exact jBn src f IH w g r s k q h ht hq _ (by omega) hk
 rw[jJ5 h1]at hk;by_cases h2:q.2.2.t=28
 ·rw[jJ6 h2]at hk;exact jBn src f IH w g r s k q h ht hq _ (by omega) hk
 rw[jJ5 h2]at hk;injection hk with hk;subst hk;exact jEQ src f IH w g r s q h ht hq h1 h2
theorem Vj(src:BA)(f:Nat):ExAll src f:=by
 induction f using Nat.strongRecOn with
 |_ f ih=>
  cases f with
  |zero=>exact⟨fun _ _ _ _ _ _ h=>absurd h (by simp[exN]),fun _ _ _ _ _ _ _ _ h=>absurd h (by simp[exN]),fun _ _ _ _ _ _ _ _ _ _ h=>absurd h (by simp[exN]),fun _ _ _ _ _ _ h=>absurd h (by simp[exN]),fun _ _ _ _ _ _ _ h=>absurd h (by simp[exN])⟩
  |succ f=>
   have IH:∀m,m<=f->ExAll src m:=fun m hm=>ih m (by omega);have I0:=IH f (jL3 f);refine⟨jDZ src f I0,fun l hl w g r s k h hk=> ?_,Uw src f I0,jCG src f I0,Xc src f IH⟩;have:l=43\/l=44\/l=45\/l=18\/l=20\/l=19:=(by simpa [jFO]using hl);rcases this with rfl|rfl|rfl|rfl|rfl|rfl
   ·exact jFc src f IH w g r s k h hk
   ·exact jFb src f IH w g r s k h hk
   ·exact jFa src f I0 w g r s k h hk
   ·exact jFf src f IH w g r s k h hk
   ·exact jFd src f IH w g r s k h hk
   ·exact jFe src f I0 w g r s k h hk
end Go.Proofs.YtifbhcfdealfaaaGreatDoor

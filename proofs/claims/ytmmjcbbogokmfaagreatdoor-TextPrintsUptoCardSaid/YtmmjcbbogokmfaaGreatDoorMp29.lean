import Derived.Test.YtmmjcbbogokmfaaGreatDoorMp25
import Derived.Test.YtmmjcbbogokmfaaGreatDoorMp27
set_option maxRecDepth 100000
set_option maxHeartbeats 25600000
namespace Go.Proofs.YtmmjcbbogokmfaaGreatDoor
open Go.Proofs.Tryz
open Go.RowKit
def zL(s:Sl)(L:List Nat):Nat->Prop:=fun b=>s.z b\/b∈L
structure Ks(src:BA)(w:World)(g:Nat)(s:Sl)(r:Rdr)(L:List Nat)(s' :Sl)(W:World):Prop where
 st:St W g src r s'
 z:s'.z=zL s L
 new:∀b∈L,w.heap.size<=b
 kp:Kp (OX g s) w W
 ox:∀b,b<w.heap.size->OX g s' b->OX g s b
section
variable{src:BA}{w W W1 W2 W3:World}{g:Nat}{s s' s1:Sl}{r r1:Rdr}{L:List Nat}
theorem Ks.start(h:St w g src r s):Ks src w g s r [] {s with z:=zL s []} w:=
 ⟨h.zgrow (jQ0 NoX w) (fun _ e=>e.elim) _ (fun b hb=>hb.elim (fun e=>⟨.inl e,h.zlt b e⟩) (fun e=>by cases e)),rfl,fun _ e=>by(cases e),jQ0 _ _,fun _ _ e=>e⟩
theorem Ks.old(h:Ks src w g s r L s' W)(ho:Old W W1):Ks src w g s r L s' W1:=⟨h.st.old ho,h.z,h.new,h.kp.old ho,h.ox⟩
theorem Ks.inz(h:Ks src w g s r L s' W){b:Nat}(hb:b∈L):s'.z b:=by rw[h.z];exact .inr hb
theorem Ks.alloc(h:Ks src w g s r L s' W)(o:Obj):Ks src w g s r (W.heap.size::L) {s' with z:=zL s (W.heap.size::L)} (W.alloc o):=by
 have ho:=(jQ0 NoX W).alloc o;have Gl:(W.alloc o).heap.size=W.heap.size+1:=(by simp);refine⟨h.st.zgrow ho (fun _ e=>e.elim) _ (fun b hb=> ?_),rfl,fun b hb=> ?_,h.kp.old ho,h.ox⟩
 ·have key:s'.z b\/b=W.heap.size:=by
   rcases hb with e|e
   ·left;rw[h.z];exact .inl e
   ·rcases jN4 e with e|e
    ·exact .inr e
    ·exact .inl (h.inz e)
  rcases key with e|e
  ·exact⟨.inl e,by have:=h.st.zlt b e;omega⟩
  ·exact⟨.inr (by omega),by omega⟩
 ·rcases jN4 hb with e|e
  ·rw[e];exact h.kp.size
  ·exact h.new b e
theorem Ks.put(h:Ks src w g s r L s' W){b:Nat}(hb:b∈L)(i:Nat)(u:Value):Ks src w g s r L s' (W.setCell ⟨b,i,none⟩ u):=by
 have hk:Kp (fun k=>k=b) W (W.setCell ⟨b,i,none⟩ u):=(jQ0 (fun k=>k=b) W).setCell (p:=⟨b,i,none⟩) (fun _=>rfl) u;exact⟨h.st.zgrow hk (fun k e=>by rw[e];exact h.inz hb) s'.z (fun k e=>⟨.inl e,jL8 (h.st.zlt k e) hk.size⟩),h.z,h.new,h.kp.trans hk (fun k Ra e=>by have:=h.new b hb;omega),h.ox⟩
theorem Ks.step(h:Ks src w g s r L s' W)(h1:St W1 g src r1 s1)(f:Fr g s' s1 W W1):Ks src w g s r1 L s1 W1:=
 ⟨h1,f.z.trans h.z,h.new,h.kp.trans f.kp h.ox,fun b hb e=>h.ox b hb (f.own b (jL8 hb h.kp.size) e)⟩
theorem Ks.blk(h:Ks src w g s r L s' W){b:Nat}(hb:b∈L){T:TypeId}{cs:Array Value}(hB:Blk W b T cs)(f:Fr g s' s1 W W1):Blk W1 b T cs:=hB.kp f.kp (fun hx=>h.st.zno b hx (h.inz hb))
theorem Ks.own(h:Ks src w g s r L s' W){base:Nat}{e:TypeId}{z:Nat}{A:OA}{c n:Nat}{xs:List Value}(ho:W.ownsRow base e z (.slice A n c) n xs)(hA:∀b,A.map (·.block)=some b->b∈L)(f:Fr g s' s1 W W1):W1.ownsRow base e z (.slice A n c) n xs:=
 jV ho f.kp (fun b e hx=>h.st.zno b hx (h.inz (hA b (by rw[<-jC];exact e))))
theorem Ks.grow(h:Ks src w g s r L s' W)(ho:Old W W2){A A' :OA}(hA:∀b,A.map (·.block)=some b->b∈L)(hg:W2.grownBy W3 (A.map (·.block)))(ha:A'.map (·.block)=A.map (·.block)\/A'.map (·.block)=some W2.heap.size)
  {base:Nat} {e:TypeId} {z c n:Nat} {xs:List Value} (Hi:W3.ownsRow base e z (.slice A' n c) n xs):Ks src w g s r ((A'.map (·.block)).toList++L) {s' with z:=zL s ((A'.map (·.block)).toList++L)} W3:=by
 have hU:Kp (fun b=>A.map (·.block)=some b) W W3:=Kp.grown (ho.mono (fun _ _ e=>e.elim)) hg (fun _ e _=>e);have key:∀b,A'.map (·.block)=some b->b∈L\/W2.heap.size=b:=fun b e=>by
  rcases ha with ha|ha
  ·exact .inl (hA b (by rw[<-ha];exact e))
  ·rw[ha]at e;injection e with e;exact .inr e
 refine⟨h.st.zgrow hU (fun b e=>h.inz (hA b e)) _ (fun b hb=> ?_),rfl,fun b hb=> ?_,h.kp.trans hU (fun b hb e=>by have:=h.new b (hA b e);omega),h.ox⟩
 ·rcases hb with e|e
  ·have e2:s'.z b:=by rw[h.z];exact .inl e
   exact⟨.inl e2,jL8 (h.st.zlt b e2) hU.size⟩
  ·rcases jM6 e with e|e
   ·have e:=Option.mem_toList.1 e;refine⟨?_,(JL Hi e).2⟩;rcases key b e with e2|e2
    ·exact .inl (h.inz e2)
    ·right;rw[<-e2];exact ho.size
   ·exact⟨.inl (h.inz e),jL8 (h.st.zlt b (h.inz e)) hU.size⟩
 ·rcases jM6 hb with e|e
  ·have e:=Option.mem_toList.1 e;rcases key b e with e2|e2
   ·exact h.new b e2
   ·rw[<-e2];exact jL4 h.kp.size ho.size
  ·exact h.new b e
theorem Ks.done(h:Ks src w g s r L s' W)(h0:∀b,s.z b->b<w.heap.size):St W g src r {s' with z:=s.z}/\Fr g s {s' with z:=s.z} w W:=
 ⟨h.st.zgrow (jQ0 NoX W) (fun _ e=>e.elim) _ (fun b e=>⟨.inl (by rw[h.z];exact .inl e),jL8 (h0 b e) h.kp.size⟩),⟨h.kp,h.ox,rfl⟩⟩
end
theorem yi{src:LB}{f:Nat}{r:Rdr}{k:Int×Rdr}(h:jDZ src f r=some k):∃q,exN src f .expr r=some q/\q.1=k.1/\q.2.2=k.2:=by
 obtain⟨q,hq,e⟩:=jM4 h;exact⟨q,hq,by rw[<-e],by rw[<-e]⟩
theorem jFd(w:World)(g:Nat)(src:BA)(f:Nat)(r:Rdr)(s:Sl)(k:Int×Rdr)(h:St w g src r s)(hk:zG (sb src) f 12 r=some k):
  Calls prog 169 #[.pointer (some ⟨g,0,none⟩),.int .u8 12] w (Ex w g src s k.2 (iv k.1)):=by
 have HS:=G h;unfold zG at hk;by_cases ht:r.t=12
 ·rw[jJ5 (fun e=>e ht)]at hk;obtain⟨r1,Fq,hk⟩:=jM2 hk;rw[jJ6 (by decide)]at hk;obtain⟨q,hq,e1,e2⟩:=yi hk;have K1:=G (show kJ (sb src) 12 r=some (true,r1)by rw[kJ,jJ6 ht,Fq];rfl);have E1:=G ((ZM src f).ex · g r1 · q · hq);rw[e1,e2]at E1;clear h Fq hk hq e1 e2 ht;go_enter func169,ntmps169;go_wp2_with (first|(go_at_call 167;refine(jk _ g src _ _ s 12 _ HS.out K1.out).mono ?_;rintro e w1 ⟨rfl,hX⟩;have H1:=G hX;clear hX)|(go_at_call 172;refine(E1.out _ _ H1.out.1).mono ?_;rintro e w2 ⟨rfl,s2,hX⟩;have H2:=G hX;clear hX;unfold iv)|fail);go_ret;exact⟨rfl,s2,H2.out.1,H1.out.2.trans H2.out.2⟩
 ·rw[jJ6 ht]at hk;injection hk with hk;subst hk;have K1:=G (show kJ (sb src) 12 r=some (false,r)by rw[kJ,jJ5 ht]);clear h ht;go_enter func169,ntmps169;go_wp2_with (first|(go_at_call 167;refine(jk _ g src _ _ s 12 _ HS.out K1.out).mono ?_;rintro e w1 ⟨rfl,hX⟩;have H1:=G hX;clear hX)|fail);go_ret;exact⟨rfl,s,H1.out⟩
theorem jBR(w:World)(g:Nat)(src:BA)(f:Nat)(r:Rdr)(s:Sl)(k:Int×Rdr)(h:St w g src r s)(hk:zG (sb src) f 32 r=some k):
  Calls prog 169 #[.pointer (some ⟨g,0,none⟩),.int .u8 32] w (Ex w g src s k.2 (iv k.1)):=by
 have HS:=G h;unfold zG at hk;by_cases ht:r.t=32
 ·rw[jJ5 (fun e=>e ht)]at hk;obtain⟨r1,Fq,hk⟩:=jM2 hk;rw[jJ6 (by decide)]at hk;obtain⟨q,hq,e1,e2⟩:=yi hk;have K1:=G (show kJ (sb src) 32 r=some (true,r1)by rw[kJ,jJ6 ht,Fq];rfl);have E1:=G ((ZM src f).ex · g r1 · q · hq);rw[e1,e2]at E1;clear h Fq hk hq e1 e2 ht;go_enter func169,ntmps169;go_wp2_with (first|(go_at_call 167;refine(jk _ g src _ _ s 32 _ HS.out K1.out).mono ?_;rintro e w1 ⟨rfl,hX⟩;have H1:=G hX;clear hX)|(go_at_call 172;refine(E1.out _ _ H1.out.1).mono ?_;rintro e w2 ⟨rfl,s2,hX⟩;have H2:=G hX;clear hX;unfold iv)|fail);go_ret;exact⟨rfl,s2,H2.out.1,H1.out.2.trans H2.out.2⟩
 ·rw[jJ6 ht]at hk;injection hk with hk;subst hk;have K1:=G (show kJ (sb src) 32 r=some (false,r)by rw[kJ,jJ5 ht]);clear h ht;go_enter func169,ntmps169;go_wp2_with (first|(go_at_call 167;refine(jk _ g src _ _ s 32 _ HS.out K1.out).mono ?_;rintro e w1 ⟨rfl,hX⟩;have H1:=G hX;clear hX)|fail);go_ret;exact⟨rfl,s,H1.out⟩
theorem jFc(w:World)(g:Nat)(src:BA)(f:Nat)(r:Rdr)(s:Sl)(k:Int×Rdr)(h:St w g src r s)(hk:zG (sb src) f 29 r=some k):
  Calls prog 169 #[.pointer (some ⟨g,0,none⟩),.int .u8 29] w (Ex w g src s k.2 (iv k.1)):=by
 have HS:=G h;unfold zG at hk;by_cases ht:r.t=29
 ·rw[jJ5 (fun e=>e ht)]at hk;obtain⟨r1,Fq,hk⟩:=jM2 hk;rw[jJ5 (by decide)]at hk;obtain⟨r2,Fu,hk⟩:=jM2 hk;obtain⟨q,hq,e1,e2⟩:=yi hk;have K1:=G (show kJ (sb src) 29 r=some (true,r1)by rw[kJ,jJ6 ht,Fq];rfl);have N2:=G Fu;have E1:=G ((ZM src f).ex · g r2 · q · hq);rw[e1,e2]at E1;clear h Fq Fu hk hq e1 e2 ht;go_enter func169,ntmps169;go_wp2_with (first|(go_at_call 167;refine(jk _ g src _ _ s 29 _ HS.out K1.out).mono ?_;rintro e w1 ⟨rfl,hX⟩;have H1:=G hX;clear hX)|(go_at_call 135;refine(jZ _ g src _ _ s H1.out.1 N2.out).mono ?_;rintro e w2 ⟨rfl,hX⟩;have H2:=G hX;clear hX)|(go_at_call 172;refine(E1.out _ _ H2.out.1).mono ?_;rintro e w3 ⟨rfl,s3,hX⟩;have H3:=G hX;clear hX;unfold iv)|fail);go_ret;exact⟨rfl,s3,H3.out.1,(H1.out.2.trans H2.out.2).trans H3.out.2⟩
 ·rw[jJ6 ht]at hk;injection hk with hk;subst hk;have K1:=G (show kJ (sb src) 29 r=some (false,r)by rw[kJ,jJ5 ht]);clear h ht;go_enter func169,ntmps169;go_wp2_with (first|(go_at_call 167;refine(jk _ g src _ _ s 29 _ HS.out K1.out).mono ?_;rintro e w1 ⟨rfl,hX⟩;have H1:=G hX;clear hX)|fail);go_ret;exact⟨rfl,s,H1.out⟩
theorem jEh(w:World)(g:Nat)(src:BA)(f:Nat)(r:Rdr)(s:Sl)(k:Int×Rdr)(h:St w g src r s)(hk:KE (sb src) f 29 r=some k):
  Calls prog 171 #[.pointer (some ⟨g,0,none⟩),.int .u8 29] w (Ex w g src s k.2 (iv k.1)):=by
 have HS:=G h;unfold KE at hk;obtain⟨q,hq,hk⟩:=jM2 hk;have G1:=G (jFc w g src f r s q h hq);by_cases h0:0<=q.1
 ·rw[jJ6 h0]at hk;obtain⟨r1,Fq,hk⟩:=jM2 hk;injection hk with hk;subst hk;have N1:=G Fq;have f1:(0:Int)<=q.1:=h0;clear h hq Fq h0;go_enter func171,ntmps171;go_wp2_with (first|(go_at_call 169;refine G1.out.mono ?_;rintro e w1 ⟨rfl,s1,hX⟩;have H1:=G hX;clear hX;unfold iv)|(go_at_call 135;refine(jZ _ g src _ _ _ H1.out.1 N1.out).mono ?_;rintro e w2 ⟨rfl,hX⟩;have H2:=G hX;clear hX)|fail);go_ret;exact⟨rfl,s1,H2.out.1,H1.out.2.trans H2.out.2⟩
 ·rw[jJ5 h0]at hk;injection hk with hk;subst hk;clear h hq;go_enter func171,ntmps171;go_wp2_with (first|(go_at_call 169;refine G1.out.mono ?_;rintro e w1 ⟨rfl,s1,hX⟩;have H1:=G hX;clear hX;unfold iv)|fail);go_ret;exact⟨rfl,s1,H1.out⟩
theorem jFb(w:World)(g:Nat)(src:BA)(f:Nat)(r:Rdr)(s:Sl)(k:Int×Rdr)(h:St w g src r s)(hk:zG (sb src) f 30 r=some k):
  Calls prog 169 #[.pointer (some ⟨g,0,none⟩),.int .u8 30] w (Ex w g src s k.2 (iv k.1)):=by
 have HS:=G h;unfold zG at hk;by_cases ht:r.t=30
 ·rw[jJ5 (fun e=>e ht)]at hk;obtain⟨r1,Fq,hk⟩:=jM2 hk;rw[jJ5 (by decide)]at hk;obtain⟨r2,Fu,hk⟩:=jM2 hk;obtain⟨q,hq,e1,e2⟩:=yi hk;have K1:=G (show kJ (sb src) 30 r=some (true,r1)by rw[kJ,jJ6 ht,Fq];rfl);have N2:=G Fu;have E1:=G ((ZM src f).ex · g r2 · q · hq);rw[e1,e2]at E1;clear h Fq Fu hk hq e1 e2 ht;go_enter func169,ntmps169;go_wp2_with (first|(go_at_call 167;refine(jk _ g src _ _ s 30 _ HS.out K1.out).mono ?_;rintro e w1 ⟨rfl,hX⟩;have H1:=G hX;clear hX)|(go_at_call 135;refine(jZ _ g src _ _ s H1.out.1 N2.out).mono ?_;rintro e w2 ⟨rfl,hX⟩;have H2:=G hX;clear hX)|(go_at_call 172;refine(E1.out _ _ H2.out.1).mono ?_;rintro e w3 ⟨rfl,s3,hX⟩;have H3:=G hX;clear hX;unfold iv)|fail);go_ret;exact⟨rfl,s3,H3.out.1,(H1.out.2.trans H2.out.2).trans H3.out.2⟩
 ·rw[jJ6 ht]at hk;injection hk with hk;subst hk;have K1:=G (show kJ (sb src) 30 r=some (false,r)by rw[kJ,jJ5 ht]);clear h ht;go_enter func169,ntmps169;go_wp2_with (first|(go_at_call 167;refine(jk _ g src _ _ s 30 _ HS.out K1.out).mono ?_;rintro e w1 ⟨rfl,hX⟩;have H1:=G hX;clear hX)|fail);go_ret;exact⟨rfl,s,H1.out⟩
theorem jEg(w:World)(g:Nat)(src:BA)(f:Nat)(r:Rdr)(s:Sl)(k:Int×Rdr)(h:St w g src r s)(hk:KE (sb src) f 30 r=some k):
  Calls prog 171 #[.pointer (some ⟨g,0,none⟩),.int .u8 30] w (Ex w g src s k.2 (iv k.1)):=by
 have HS:=G h;unfold KE at hk;obtain⟨q,hq,hk⟩:=jM2 hk;have G1:=G (jFb w g src f r s q h hq);by_cases h0:0<=q.1
 ·rw[jJ6 h0]at hk;obtain⟨r1,Fq,hk⟩:=jM2 hk;injection hk with hk;subst hk;have N1:=G Fq;have f1:(0:Int)<=q.1:=h0;clear h hq Fq h0;go_enter func171,ntmps171;go_wp2_with (first|(go_at_call 169;refine G1.out.mono ?_;rintro e w1 ⟨rfl,s1,hX⟩;have H1:=G hX;clear hX;unfold iv)|(go_at_call 135;refine(jZ _ g src _ _ _ H1.out.1 N1.out).mono ?_;rintro e w2 ⟨rfl,hX⟩;have H2:=G hX;clear hX)|fail);go_ret;exact⟨rfl,s1,H2.out.1,H1.out.2.trans H2.out.2⟩
 ·rw[jJ5 h0]at hk;injection hk with hk;subst hk;clear h hq;go_enter func171,ntmps171;go_wp2_with (first|(go_at_call 169;refine G1.out.mono ?_;rintro e w1 ⟨rfl,s1,hX⟩;have H1:=G hX;clear hX;unfold iv)|fail);go_ret;exact⟨rfl,s1,H1.out⟩
theorem jFa(w:World)(g:Nat)(src:BA)(f:Nat)(r:Rdr)(s:Sl)(k:Int×Rdr)(h:St w g src r s)(hk:zG (sb src) f 31 r=some k):
  Calls prog 169 #[.pointer (some ⟨g,0,none⟩),.int .u8 31] w (Ex w g src s k.2 (iv k.1)):=by
 have HS:=G h;unfold zG at hk;by_cases ht:r.t=31
 ·rw[jJ5 (fun e=>e ht)]at hk;obtain⟨r1,Fq,hk⟩:=jM2 hk;rw[jJ5 (by decide)]at hk;obtain⟨r2,Fu,hk⟩:=jM2 hk;obtain⟨q,hq,e1,e2⟩:=yi hk;have K1:=G (show kJ (sb src) 31 r=some (true,r1)by rw[kJ,jJ6 ht,Fq];rfl);have N2:=G Fu;have E1:=G ((ZM src f).ex · g r2 · q · hq);rw[e1,e2]at E1;clear h Fq Fu hk hq e1 e2 ht;go_enter func169,ntmps169;go_wp2_with (first|(go_at_call 167;refine(jk _ g src _ _ s 31 _ HS.out K1.out).mono ?_;rintro e w1 ⟨rfl,hX⟩;have H1:=G hX;clear hX)|(go_at_call 135;refine(jZ _ g src _ _ s H1.out.1 N2.out).mono ?_;rintro e w2 ⟨rfl,hX⟩;have H2:=G hX;clear hX)|(go_at_call 172;refine(E1.out _ _ H2.out.1).mono ?_;rintro e w3 ⟨rfl,s3,hX⟩;have H3:=G hX;clear hX;unfold iv)|fail);go_ret;exact⟨rfl,s3,H3.out.1,(H1.out.2.trans H2.out.2).trans H3.out.2⟩
 ·rw[jJ6 ht]at hk;injection hk with hk;subst hk;have K1:=G (show kJ (sb src) 31 r=some (false,r)by rw[kJ,jJ5 ht]);clear h ht;go_enter func169,ntmps169;go_wp2_with (first|(go_at_call 167;refine(jk _ g src _ _ s 31 _ HS.out K1.out).mono ?_;rintro e w1 ⟨rfl,hX⟩;have H1:=G hX;clear hX)|fail);go_ret;exact⟨rfl,s,H1.out⟩
theorem jEf(w:World)(g:Nat)(src:BA)(f:Nat)(r:Rdr)(s:Sl)(k:Int×Rdr)(h:St w g src r s)(hk:KE (sb src) f 31 r=some k):
  Calls prog 171 #[.pointer (some ⟨g,0,none⟩),.int .u8 31] w (Ex w g src s k.2 (iv k.1)):=by
 have HS:=G h;unfold KE at hk;obtain⟨q,hq,hk⟩:=jM2 hk;have G1:=G (jFa w g src f r s q h hq);by_cases h0:0<=q.1
 ·rw[jJ6 h0]at hk;obtain⟨r1,Fq,hk⟩:=jM2 hk;injection hk with hk;subst hk;have N1:=G Fq;have f1:(0:Int)<=q.1:=h0;clear h hq Fq h0;go_enter func171,ntmps171;go_wp2_with (first|(go_at_call 169;refine G1.out.mono ?_;rintro e w1 ⟨rfl,s1,hX⟩;have H1:=G hX;clear hX;unfold iv)|(go_at_call 135;refine(jZ _ g src _ _ _ H1.out.1 N1.out).mono ?_;rintro e w2 ⟨rfl,hX⟩;have H2:=G hX;clear hX)|fail);go_ret;exact⟨rfl,s1,H2.out.1,H1.out.2.trans H2.out.2⟩
 ·rw[jJ5 h0]at hk;injection hk with hk;subst hk;clear h hq;go_enter func171,ntmps171;go_wp2_with (first|(go_at_call 169;refine G1.out.mono ?_;rintro e w1 ⟨rfl,s1,hX⟩;have H1:=G hX;clear hX;unfold iv)|fail);go_ret;exact⟨rfl,s1,H1.out⟩
theorem Blk.setL{w:World}{g:Nat}{t:TypeId}{cs:List Value}(h:Blk w g t cs.toArray)(i:Nat)(u:Value):Blk (w.setCell ⟨g,i,none⟩ u) g t (cs.set i u).toArray:=by
 have:=h.set_ i u
 rwa [jJ1]at this
theorem jCx(x:Atr):∀u∈atC x,u.oneCell' =true:=by
 intro u hu;simp only[atC,iv,List.mem_cons,List.mem_nil_iff,or_false]at hu;rcases hu with rfl|rfl|rfl|rfl|rfl|rfl|rfl<;>rfl
theorem qB(w:World)(g:Nat)(src:BA)(f:Nat)(r r' :Rdr)(s:Sl)(h:St w g src r s)(hk:jF5 (sb src) f r=some r'):
  Calls prog 137 #[.pointer (some ⟨g,0,none⟩)] w (Ex w g src s r' (.tuple #[])):=by
 unfold jF5 at hk;obtain⟨⟨nm,at_,od,r1⟩,hd,hk⟩:=jM2 hk;obtain⟨r2,Fq,hk⟩:=jM2 hk;obtain⟨⟨opt,r3⟩,ho,hk⟩:=jM2 hk;obtain⟨⟨kd,r4⟩,MM,hk⟩:=jM2 hk;obtain⟨⟨df,r5⟩,Nw,hk⟩:=jM2 hk;obtain⟨⟨wh,r6⟩,GJ,hk⟩:=jM2 hk;obtain⟨r7,Fu,hk⟩:=jM2 hk;split at hk
 case isFalse=>cases hk
 rename_i hlt;injection hk with hk;have HZ:=G h.zlt;have RS:=G hk;have LE:=G hlt;have D0:=G hd;have N1:=G Fq;have O1:=G ho;have KD:=G MM;have G1:=G Nw;have G2:=G GJ;have N2:=G Fu;have HA:=G ((Ks.start h).alloc (.cells [.string ⟨#[]⟩,iv 0,iv 0,iv 0,.bool false,iv 0,iv 0].toArray 114));have BA:=G (jQ2 w 114 [.string ⟨#[]⟩,iv 0,iv 0,iv 0,.bool false,iv 0,iv 0].toArray);clear h hk hlt hd Fq ho MM Nw GJ Fu;generalize ha:w.heap.size=a at*;have hm:a∈ [a]:=List.mem_singleton.2 rfl;go_enter func137,ntmps137;go_wp2_with (first|(go_at_call 166;refine(zK _ g src _ _ _ _ _ _ HA.out.st D0.out).mono ?_;rintro e w1 ⟨rfl,hX⟩;have K1:=G (HA.out.step hX.1 hX.2);have B1:=G (HA.out.blk hm BA.out hX.2);clear hX;have b0:=B1.out.at_ 0 rfl;have z0:=B1.out.frozen 0;have b1:=B1.out.at_ 1 rfl;have z1:=B1.out.frozen 1;have b2:=B1.out.at_ 2 rfl;have z2:=B1.out.frozen 2;have K2:=G (((K1.out.put hm 0 (.string nm)).put hm 1 (iv at_)).put hm 2 (iv od));have B2:=G (((B1.out.setL 0 (.string nm)).setL 1 (iv at_)).setL 2 (iv od));unfold iv at K2 B2;unfold iv)|(go_at_call 135;first|(refine(jZ _ g src _ _ _ K7.out.st N2.out).mono ?_;rintro e w8 ⟨rfl,hX⟩;have K8:=G (K7.out.step hX.1 hX.2);have B8:=G (K7.out.blk hm B7.out hX.2);clear hX)|(refine(jZ _ g src _ _ _ K2.out.st N1.out).mono ?_;rintro e w3 ⟨rfl,hX⟩;have K3:=G (K2.out.step hX.1 hX.2);have B3:=G (K2.out.blk hm B2.out hX.2);clear hX))|(go_at_call 167;refine(jk _ g src _ _ _ 39 _ K3.out.st O1.out).mono ?_;rintro e w4 ⟨rfl,hX⟩;have K4a:=G (K3.out.step hX.1 hX.2);have B4a:=G (K3.out.blk hm B3.out hX.2);clear hX;have b4:=B4a.out.at_ 4 rfl;have z4:=B4a.out.frozen 4;have K4:=G (K4a.out.put hm 4 (.bool opt));have B4:=G (B4a.out.setL 4 (.bool opt)))|(go_at_call 168;refine(Qk _ g src _ _ _ _ K4.out.st KD.out).mono ?_;rintro e w5 ⟨rfl,hX⟩;have K5a:=G (K4.out.step hX.1 hX.2);have B5a:=G (K4.out.blk hm B4.out hX.2);clear hX;have b3:=B5a.out.at_ 3 rfl;have z3:=B5a.out.frozen 3;have K5:=G (K5a.out.put hm 3 (.int .i64 kd));have B5:=G (B5a.out.setL 3 (.int .i64 kd));unfold iv)|(go_at_call 169;first|(refine(jBR _ g src f _ _ _ K6.out.st G2.out).mono ?_;rintro e w7 ⟨rfl,s7,hX⟩;have K7a:=G (K6.out.step hX.1 hX.2);have B7a:=G (K6.out.blk hm B6.out hX.2);clear hX;have b6:=B7a.out.at_ 6 rfl;have z6:=B7a.out.frozen 6;have K7:=G (K7a.out.put hm 6 (.int .i64 wh));have B7:=G (B7a.out.setL 6 (.int .i64 wh));unfold iv)|(refine(jFd _ g src f _ _ _ K5.out.st G1.out).mono ?_;rintro e w6 ⟨rfl,s6,hX⟩;have K6a:=G (K5.out.step hX.1 hX.2);have B6a:=G (K5.out.blk hm B5.out hX.2);clear hX;have b5:=B6a.out.at_ 5 rfl;have z5:=B6a.out.frozen 5;have K6:=G (K6a.out.put hm 5 (.int .i64 df));have B6:=G (B6a.out.setL 5 (.int .i64 df));unfold iv))|fail);clear K1 B1 K2 B2 K3 B3 K4a B4a K4 B4 K5a B5a K5 B5 K6a B6a K6 B6 K7a B7a K7 B7 HA BA b0 b1 b2 b3 b4 b5 b6 z0 z1 z2 z3 z4 z5 z6;have HX:=G (show Blk w8 a 114 (atC ⟨nm,at_,od,opt,kd,df,wh⟩).toArray from B8.out);clear B8;obtain⟨ns,ps,hR⟩:=K8.out.st.rows;have HR:=G hR;clear hR;obtain⟨i0,hi,Fm,Fi,Fl⟩:=info_parts jDS;have GA:=G (show r7.tree.attrs.length+1<=maxLen by have:=LE.out;unfold maxLen;omega);have GH:=G (show(r7.tree.attrs.length+1)*64<=140737488355328 by have:=LE.out;omega);have Tb:w8.cell? ⟨g,7,none⟩=some (.slice s7.aA r7.tree.attrs.length s7.ac):=Blk.at_ K8.out.st.box 7 rfl;have Sw:=K8.out.st.box.z 7;have FQ:=K8.out.st.lt;have WJ:=HX.out.lt;have c0:w8.cell? ⟨a,0,none⟩=some (.string nm):=HX.out.at_ 0 rfl;have c1:w8.cell? ⟨a,1,none⟩=some (.int .i64 at_):=HX.out.at_ 1 rfl;have c2:w8.cell? ⟨a,2,none⟩=some (.int .i64 od):=HX.out.at_ 2 rfl;have c3:w8.cell? ⟨a,3,none⟩=some (.int .i64 kd):=HX.out.at_ 3 rfl;have c4:w8.cell? ⟨a,4,none⟩=some (.bool opt):=HX.out.at_ 4 rfl;have c5:w8.cell? ⟨a,5,none⟩=some (.int .i64 df):=HX.out.at_ 5 rfl;have c6:w8.cell? ⟨a,6,none⟩=some (.int .i64 wh):=HX.out.at_ 6 rfl;have HO:=G ((jQ0 NoX w8).drew.alloc (.cells (atC ⟨nm,at_,od,opt,kd,df,wh⟩).toArray 114));go_region_law ((refine kX _ rfl (.tmp 33) (.tmp 35) 22 rfl 8 114 i0 _ 7 64 underlying22 hi Fm Fi Fl rfl (by decide) (.slice s7.aA r7.tree.attrs.length s7.ac) r7.tree.attrs.length (r7.tree.attrs.flatMap atC) rfl (jV HR.out.rA HO.out (fun _ _ e=>e)) _ 1 1 (atC ⟨nm,at_,od,opt,kd,df,wh⟩) rfl (Rd.row_new _ _ 7 1 _ rfl) (jCx _) GA.out GH.out (jL4 K8.out.st.eight HO.out.size) ?_;intro A1 c1 w9 Hi hgrow Fc;rw[jC]at hgrow Fc;have Fj:=K8.out.st.pastA HR.out HO.out hgrow;have HG:=G (K8.out.st.growA HR.out ⟨nm,at_,od,opt,kd,df,wh⟩ True.intro HO.out hgrow Fc Hi);have Tb:w9.cell? ⟨g,7,none⟩=some (.slice s7.aA r7.tree.attrs.length s7.ac):=Blk.at_ Fj 7 rfl;have Sw:=Fj.z 7;clear Hi hgrow Fc Fj))
 all_goals
  have HE:=G ((K8.out.step HG.out.1 HG.out.2).done (fun b e=>by rw[ha];exact HZ.out b e));go_wp2;go_end0;rw[<-RS.out];exact⟨rfl,_,HE.out.1,HE.out.2⟩
theorem jE1(x:Stg):∀u∈sgC x,u.oneCell' =true:=by
 intro u hu;simp only[sgC,iv,List.mem_cons,List.mem_nil_iff,or_false]at hu;rcases hu with rfl|rfl|rfl|rfl|rfl|rfl|rfl<;>rfl
theorem jE3(x:Mil):∀u∈miC x,u.oneCell' =true:=by
 intro u hu;simp only[miC,iv,List.mem_cons,List.mem_nil_iff,or_false]at hu;rcases hu with rfl|rfl|rfl|rfl|rfl|rfl<;>rfl
theorem UT(w:World)(g:Nat)(src:BA)(f:Nat)(r r' :Rdr)(s:Sl)(h:St w g src r s)(hk:UU (sb src) f r=some r'):
  Calls prog 138 #[.pointer (some ⟨g,0,none⟩)] w (Ex w g src s r' (.tuple #[])):=by
 unfold UU at hk;obtain⟨⟨nm,at_,od,r1⟩,hd,hk⟩:=jM2 hk;obtain⟨⟨inn,ia,r2⟩,Gc,hk⟩:=jM2 hk;obtain⟨r3,Fq,hk⟩:=jM2 hk;obtain⟨⟨op,r4⟩,Nw,hk⟩:=jM2 hk;obtain⟨⟨cl,r5⟩,GJ,hk⟩:=jM2 hk;obtain⟨r6,Fu,hk⟩:=jM2 hk;split at hk
 case isFalse=>cases hk
 rename_i hlt;injection hk with hk;have HZ:=G h.zlt;have RS:=G hk;have LE:=G hlt;have D0:=G hd;have I0:=G Gc;have N1:=G Fq;have G1:=G Nw;have G2:=G GJ;have N2:=G Fu;clear hd Gc Fq Nw GJ Fu;have K0:=G ((Ks.start h).alloc (.cells [.string ⟨#[]⟩,.int .i64 0,.int .i64 0,.string ⟨#[]⟩,.int .i64 0,.int .i64 0,.int .i64 0].toArray 117));have B0:=G (jQ2 w 117 [.string ⟨#[]⟩,.int .i64 0,.int .i64 0,.string ⟨#[]⟩,.int .i64 0,.int .i64 0,.int .i64 0].toArray);clear h hk hlt;generalize ha:w.heap.size=a at*;have hm:a∈ [a]:=List.mem_singleton.2 rfl;go_enter func138,ntmps138;go_wp2_with (first|(go_at_call 166;(refine(zK _ g src _ _ _ _ _ _ K0.out.st D0.out).mono ?_;rintro e w1 ⟨rfl,hX⟩;have K1a:=G (K0.out.step hX.1 hX.2);have B1a:=G (K0.out.blk hm B0.out hX.2);clear hX;have b0:=B1a.out.at_ 0 rfl;have z0:=B1a.out.frozen 0;have b1:=B1a.out.at_ 1 rfl;have z1:=B1a.out.frozen 1;have b2:=B1a.out.at_ 2 rfl;have z2:=B1a.out.frozen 2;have K1:=G (((K1a.out.put hm 0 (.string nm)).put hm 1 (.int .i64 at_)).put hm 2 (.int .i64 od));have B1:=G (((B1a.out.setL 0 (.string nm)).setL 1 (.int .i64 at_)).setL 2 (.int .i64 od));clear K1a B1a;(try unfold iv)))|(go_at_call 170;(refine(jBQ _ g src _ _ _ _ _ K1.out.st I0.out).mono ?_;rintro e w2 ⟨rfl,hX⟩;have K2a:=G (K1.out.step hX.1 hX.2);have B2a:=G (K1.out.blk hm B1.out hX.2);clear hX;have b3:=B2a.out.at_ 3 rfl;have z3:=B2a.out.frozen 3;have b4:=B2a.out.at_ 4 rfl;have z4:=B2a.out.frozen 4;have K2:=G ((K2a.out.put hm 3 (.string inn)).put hm 4 (.int .i64 ia));have B2:=G ((B2a.out.setL 3 (.string inn)).setL 4 (.int .i64 ia));clear K2a B2a;(try unfold iv)))|(go_at_call 135;first|(refine(jZ _ g src _ _ _ K5.out.st N2.out).mono ?_;rintro e w6 ⟨rfl,hX⟩;have K6a:=G (K5.out.step hX.1 hX.2);have B6a:=G (K5.out.blk hm B5.out hX.2);clear hX;have K6:=G K6a.out;have B6:=G B6a.out;clear K6a B6a;(try unfold iv))|(refine(jZ _ g src _ _ _ K2.out.st N1.out).mono ?_;rintro e w3 ⟨rfl,hX⟩;have K3a:=G (K2.out.step hX.1 hX.2);have B3a:=G (K2.out.blk hm B2.out hX.2);clear hX;have K3:=G K3a.out;have B3:=G B3a.out;clear K3a B3a;(try unfold iv)))|(go_at_call 171;first|(refine(jEg _ g src f _ _ _ K4.out.st G2.out).mono ?_;rintro e w5 ⟨rfl,s5,hX⟩;have K5a:=G (K4.out.step hX.1 hX.2);have B5a:=G (K4.out.blk hm B4.out hX.2);clear hX;have b6:=B5a.out.at_ 6 rfl;have z6:=B5a.out.frozen 6;have K5:=G (K5a.out.put hm 6 (.int .i64 cl));have B5:=G (B5a.out.setL 6 (.int .i64 cl));clear K5a B5a;(try unfold iv))|(refine(jEh _ g src f _ _ _ K3.out.st G1.out).mono ?_;rintro e w4 ⟨rfl,s4,hX⟩;have K4a:=G (K3.out.step hX.1 hX.2);have B4a:=G (K3.out.blk hm B3.out hX.2);clear hX;have b5:=B4a.out.at_ 5 rfl;have z5:=B4a.out.frozen 5;have K4:=G (K4a.out.put hm 5 (.int .i64 op));have B4:=G (B4a.out.setL 5 (.int .i64 op));clear K4a B4a;(try unfold iv)))|fail);clear K0 B0 K1 B1 K2 B2 K3 B3 K4 B4 K5 B5 b0 z0 b1 z1 b2 z2 b3 z3 b4 z4 b5 z5 b6 z6;have HX:=G (show Blk w6 a 117 (sgC ⟨nm,at_,od,inn,ia,op,cl⟩).toArray from B6.out);clear B6;obtain⟨ns,ps,hR⟩:=K6.out.st.rows;have HR:=G hR;clear hR;obtain⟨i0,hi,Fm,Fi,Fl⟩:=info_parts jBN;have GA:=G (show r6.tree.stages.length+1<=maxLen by have:=LE.out;unfold maxLen;omega);have GH:=G (show(r6.tree.stages.length+1)*72<=140737488355328 by have:=LE.out;omega);have Tb:w6.cell? ⟨g,8,none⟩=some (.slice s5.gA r6.tree.stages.length s5.gc):=Blk.at_ K6.out.st.box 8 rfl;have Sw:=K6.out.st.box.z 8;have FQ:=K6.out.st.lt;have WJ:=HX.out.lt;have c0:w6.cell? ⟨a,0,none⟩=some (.string nm):=HX.out.at_ 0 rfl;have c1:w6.cell? ⟨a,1,none⟩=some (.int .i64 at_):=HX.out.at_ 1 rfl;have c2:w6.cell? ⟨a,2,none⟩=some (.int .i64 od):=HX.out.at_ 2 rfl;have c3:w6.cell? ⟨a,3,none⟩=some (.string inn):=HX.out.at_ 3 rfl;have c4:w6.cell? ⟨a,4,none⟩=some (.int .i64 ia):=HX.out.at_ 4 rfl;have c5:w6.cell? ⟨a,5,none⟩=some (.int .i64 op):=HX.out.at_ 5 rfl;have c6:w6.cell? ⟨a,6,none⟩=some (.int .i64 cl):=HX.out.at_ 6 rfl;have HO:=G ((jQ0 NoX w6).drew.alloc (.cells (sgC ⟨nm,at_,od,inn,ia,op,cl⟩).toArray 117));go_region_law ((refine kX _ rfl (.tmp 34) (.tmp 36) 23 rfl 8 117 i0 _ 7 72 underlying23 hi Fm Fi Fl rfl (by decide) (.slice s5.gA r6.tree.stages.length s5.gc) r6.tree.stages.length (r6.tree.stages.flatMap sgC) rfl (jV HR.out.rG HO.out (fun _ _ e=>e)) _ 1 1 (sgC ⟨nm,at_,od,inn,ia,op,cl⟩) rfl (Rd.row_new _ _ 7 1 _ rfl) (jE1 _) GA.out GH.out (jL4 K6.out.st.eight HO.out.size) ?_;intro A1 c1 w9 Hi hgrow Fc;rw[jC]at hgrow Fc;have Fj:=K6.out.st.pastG HR.out HO.out hgrow;have HG:=G (K6.out.st.growG HR.out ⟨nm,at_,od,inn,ia,op,cl⟩ True.intro HO.out hgrow Fc Hi);have Tb:w9.cell? ⟨g,8,none⟩=some (.slice s5.gA r6.tree.stages.length s5.gc):=Blk.at_ Fj 8 rfl;have Sw:=Fj.z 8;clear Hi hgrow Fc Fj))
 all_goals
  have HE:=G ((K6.out.step HG.out.1 HG.out.2).done (fun b e=>by rw[ha];exact HZ.out b e));go_wp2;go_end0;rw[<-RS.out];exact⟨rfl,_,HE.out.1,HE.out.2⟩
theorem Zl(w:World)(g:Nat)(src:BA)(f:Nat)(r r' :Rdr)(s:Sl)(h:St w g src r s)(hk:jE5 (sb src) f r=some r'):
  Calls prog 139 #[.pointer (some ⟨g,0,none⟩)] w (Ex w g src s r' (.tuple #[])):=by
 unfold jE5 at hk;obtain⟨⟨nm,at_,od,r1⟩,hd,hk⟩:=jM2 hk;obtain⟨⟨inn,ia,r2⟩,Gc,hk⟩:=jM2 hk;obtain⟨⟨wh,r3⟩,Nw,hk⟩:=jM2 hk;split at hk
 case isFalse=>cases hk
 rename_i hlt;injection hk with hk;have HZ:=G h.zlt;have RS:=G hk;have LE:=G hlt;have D0:=G hd;have I0:=G Gc;have G1:=G Nw;clear hd Gc Nw;have K0:=G ((Ks.start h).alloc (.cells [.string ⟨#[]⟩,.int .i64 0,.int .i64 0,.string ⟨#[]⟩,.int .i64 0,.int .i64 0].toArray 64));have B0:=G (jQ2 w 64 [.string ⟨#[]⟩,.int .i64 0,.int .i64 0,.string ⟨#[]⟩,.int .i64 0,.int .i64 0].toArray);clear h hk hlt;generalize ha:w.heap.size=a at*;have hm:a∈ [a]:=List.mem_singleton.2 rfl;go_enter func139,ntmps139;go_wp2_with (first|(go_at_call 166;(refine(zK _ g src _ _ _ _ _ _ K0.out.st D0.out).mono ?_;rintro e w1 ⟨rfl,hX⟩;have K1a:=G (K0.out.step hX.1 hX.2);have B1a:=G (K0.out.blk hm B0.out hX.2);clear hX;have b0:=B1a.out.at_ 0 rfl;have z0:=B1a.out.frozen 0;have b1:=B1a.out.at_ 1 rfl;have z1:=B1a.out.frozen 1;have b2:=B1a.out.at_ 2 rfl;have z2:=B1a.out.frozen 2;have K1:=G (((K1a.out.put hm 0 (.string nm)).put hm 1 (.int .i64 at_)).put hm 2 (.int .i64 od));have B1:=G (((B1a.out.setL 0 (.string nm)).setL 1 (.int .i64 at_)).setL 2 (.int .i64 od));clear K1a B1a;(try unfold iv)))|(go_at_call 170;(refine(jBQ _ g src _ _ _ _ _ K1.out.st I0.out).mono ?_;rintro e w2 ⟨rfl,hX⟩;have K2a:=G (K1.out.step hX.1 hX.2);have B2a:=G (K1.out.blk hm B1.out hX.2);clear hX;have b3:=B2a.out.at_ 3 rfl;have z3:=B2a.out.frozen 3;have b4:=B2a.out.at_ 4 rfl;have z4:=B2a.out.frozen 4;have K2:=G ((K2a.out.put hm 3 (.string inn)).put hm 4 (.int .i64 ia));have B2:=G ((B2a.out.setL 3 (.string inn)).setL 4 (.int .i64 ia));clear K2a B2a;(try unfold iv)))|(go_at_call 171;(refine(jEf _ g src f _ _ _ K2.out.st G1.out).mono ?_;rintro e w3 ⟨rfl,s3,hX⟩;have K3a:=G (K2.out.step hX.1 hX.2);have B3a:=G (K2.out.blk hm B2.out hX.2);clear hX;have b5:=B3a.out.at_ 5 rfl;have z5:=B3a.out.frozen 5;have K3:=G (K3a.out.put hm 5 (.int .i64 wh));have B3:=G (B3a.out.setL 5 (.int .i64 wh));clear K3a B3a;(try unfold iv)))|fail);clear K0 B0 K1 B1 K2 B2 b0 z0 b1 z1 b2 z2 b3 z3 b4 z4 b5 z5;generalize w3.setCell ⟨a,5,none⟩ (.int .i64 wh)=w33 at*;have HX:=G (show Blk w33 a 64 (miC ⟨nm,at_,od,inn,ia,wh⟩).toArray from B3.out);clear B3;obtain⟨ns,ps,hR⟩:=K3.out.st.rows;have HR:=G hR;clear hR;obtain⟨i0,hi,Fm,Fi,Fl⟩:=info_parts jDR;have GA:=G (show r3.tree.miles.length+1<=maxLen by have:=LE.out;unfold maxLen;omega);have GH:=G (show(r3.tree.miles.length+1)*64<=140737488355328 by have:=LE.out;omega);have Tb:w33.cell? ⟨g,9,none⟩=some (.slice s3.mA r3.tree.miles.length s3.mc):=Blk.at_ K3.out.st.box 9 rfl;have Sw:=K3.out.st.box.z 9;have FQ:=K3.out.st.lt;have WJ:=HX.out.lt;have c0:w33.cell? ⟨a,0,none⟩=some (.string nm):=HX.out.at_ 0 rfl;have c1:w33.cell? ⟨a,1,none⟩=some (.int .i64 at_):=HX.out.at_ 1 rfl;have c2:w33.cell? ⟨a,2,none⟩=some (.int .i64 od):=HX.out.at_ 2 rfl;have c3:w33.cell? ⟨a,3,none⟩=some (.string inn):=HX.out.at_ 3 rfl;have c4:w33.cell? ⟨a,4,none⟩=some (.int .i64 ia):=HX.out.at_ 4 rfl;have c5:w33.cell? ⟨a,5,none⟩=some (.int .i64 wh):=HX.out.at_ 5 rfl;have HO:=G ((jQ0 NoX w33).drew.alloc (.cells (miC ⟨nm,at_,od,inn,ia,wh⟩).toArray 64));go_region_law ((refine kX _ rfl (.tmp 27) (.tmp 29) 24 rfl 8 64 i0 _ 6 64 underlying24 hi Fm Fi Fl rfl (by decide) (.slice s3.mA r3.tree.miles.length s3.mc) r3.tree.miles.length (r3.tree.miles.flatMap miC) rfl (jV HR.out.rM HO.out (fun _ _ e=>e)) _ 1 1 (miC ⟨nm,at_,od,inn,ia,wh⟩) rfl (Rd.row_new _ _ 6 1 _ rfl) (jE3 _) GA.out GH.out (jL4 K3.out.st.eight HO.out.size) ?_;intro A1 c1 w9 Hi hgrow Fc;rw[jC]at hgrow Fc;have Fj:=K3.out.st.pastM HR.out HO.out hgrow;have HG:=G (K3.out.st.growM HR.out ⟨nm,at_,od,inn,ia,wh⟩ True.intro HO.out hgrow Fc Hi);have Tb:w9.cell? ⟨g,9,none⟩=some (.slice s3.mA r3.tree.miles.length s3.mc):=Blk.at_ Fj 9 rfl;have Sw:=Fj.z 9;clear Hi hgrow Fc Fj))
 all_goals
  have HE:=G ((K3.out.step HG.out.1 HG.out.2).done (fun b e=>by rw[ha];exact HZ.out b e));go_wp2;go_end0;rw[<-RS.out];exact⟨rfl,_,HE.out.1,HE.out.2⟩
structure Rw(src:BA)(w:World)(g:Nat)(s:Sl)(a:Nat)(T:TypeId)(z:Nat)(pre post:List Value)(T2:TypeId)(z2:Nat)(A2:OA)(n2 c2:Nat)(xs2:List Value)
  (r:Rdr) (L:List Nat) (s' :Sl) (A:OA) (n c:Nat) (xs:List Value) (W:World):Prop where
 ks:Ks src w g s r L s' W
 ain:a∈L
 box:Blk W a 111 (pre++ .slice A n c::post).toArray
 own:W.ownsRow w.heap.size T z (.slice A n c) n xs
 inl:∀b,A.map (·.block)=some b->b∈L
 own2:W.ownsRow w.heap.size T2 z2 (.slice A2 n2 c2) n2 xs2
 inl2:∀b,A2.map (·.block)=some b->b∈L
section
variable{src:BA}{w W W1 W2 W3:World}{g:Nat}{s s' s1:Sl}{a:Nat}{T:TypeId}{z:Nat}{pre post:List Value}{T2:TypeId}{z2:Nat}{A2:OA}{n2 c2:Nat}{xs2:List Value}{r r1:Rdr}{L:List Nat}{A:OA}{n c:Nat}{xs:List Value}
theorem Rw.step(h:Rw src w g s a T z pre post T2 z2 A2 n2 c2 xs2 r L s' A n c xs W)(h1:St W1 g src r1 s1)(f:Fr g s' s1 W W1):Rw src w g s a T z pre post T2 z2 A2 n2 c2 xs2 r1 L s1 A n c xs W1:=
 ⟨h.ks.step h1 f,h.ain,h.ks.blk h.ain h.box f,h.ks.own h.own h.inl f,h.inl,h.ks.own h.own2 h.inl2 f,h.inl2⟩
theorem Rw.alloc(h:Rw src w g s a T z pre post T2 z2 A2 n2 c2 xs2 r L s' A n c xs W)(o:Obj):Rw src w g s a T z pre post T2 z2 A2 n2 c2 xs2 r (W.heap.size::L) {s' with z:=zL s (W.heap.size::L)} A n c xs (W.alloc o):=
 ⟨h.ks.alloc o,jN1 _ h.ain,h.box.alloc o,jV h.own ((jQ0 NoX W).alloc o) (fun _ _ e=>e),fun b e=>jN1 _ (h.inl b e),jV h.own2 ((jQ0 NoX W).alloc o) (fun _ _ e=>e),fun b e=>jN1 _ (h.inl2 b e)⟩
structure Off(a:Nat)(A A2:OA)(L:List Nat)(p:Nat):Prop where
 inl:p∈L
 box:p≠a
 own:A.map (·.block)≠some p
 own2:A2.map (·.block)≠some p
theorem Rw.off(h:Rw src w g s a T z pre post T2 z2 A2 n2 c2 xs2 r L s' A n c xs W):Off a A A2 (W.heap.size::L) W.heap.size:=
 ⟨List.mem_cons_self,fun e=>by have:=h.box.lt;omega,fun e=>by have:=(JL h.own e).2;omega,fun e=>by have:=(JL h.own2 e).2;omega⟩
theorem Rw.put(h:Rw src w g s a T z pre post T2 z2 A2 n2 c2 xs2 r L s' A n c xs W){p:Nat}(hp:Off a A A2 L p)(i:Nat)(u:Value):Rw src w g s a T z pre post T2 z2 A2 n2 c2 xs2 r L s' A n c xs (W.setCell ⟨p,i,none⟩ u):=by
 have hk:Kp (fun k=>k=p) W (W.setCell ⟨p,i,none⟩ u):=(jQ0 (fun k=>k=p) W).setCell (p:=⟨p,i,none⟩) (fun _=>rfl) u;exact⟨h.ks.put hp.inl i u,h.ain,h.box.kp hk (fun e=>hp.box e.symm),jV h.own hk (fun b e e2=>hp.own (by rw[<-jC,e];exact congrArg some e2)),h.inl,jV h.own2 hk (fun b e e2=>hp.own2 (by rw[<-jC,e];exact congrArg some e2)),h.inl2⟩
theorem Rw.grow(h:Rw src w g s a T z pre post T2 z2 A2 n2 c2 xs2 r L s' A n c xs W)(hT:T≠111)(Y5:T2≠T)(AW:T2≠111)(ho:Old W W2){A' :OA}{c' :Nat}{xs' :List Value}(hg:W2.grownBy W3 (A.map (·.block)))
  (ha:A'.map (·.block)=A.map (·.block)\/A'.map (·.block)=some W2.heap.size) (Hi:W3.ownsRow w.heap.size T z (.slice A' (n+1) c') (n+1) xs'):
  Blk W3 a 111 (pre++ .slice A n c::post).toArray/\Rw src w g s a T z pre post T2 z2 A2 n2 c2 xs2 r ((A'.map (·.block)).toList++L) {s' with z:=zL s ((A'.map (·.block)).toList++L)} A' (n+1) c' xs' (W3.setCell ⟨a,pre.length,none⟩ (.slice A' (n+1) c')):=by
 have Fh:A.map (·.block)≠some a:=by rw[<-jC];exact jY h.own h.box hT
 have hU:Kp (fun b=>A.map (·.block)=some b) W W3:=Kp.grown (ho.mono (fun _ _ e=>e.elim)) hg (fun _ e _=>e);have Nm:Blk W3 a 111 (pre++ .slice A n c::post).toArray:=h.box.kp hU Fh;have GO:Kp (fun k=>k=a) W3 (W3.setCell ⟨a,pre.length,none⟩ (.slice A' (n+1) c')):=(jQ0 (fun k=>k=a) W3).setCell (p:=⟨a,pre.length,none⟩) (fun _=>rfl) _;have Eb:=Nm.setL pre.length (.slice A' (n+1) c');rw[List.set_append_right _ _ (jL3 _),Nat.sub_self,jJ2]at Eb;have Mv:∀k,(Value.slice A2 n2 c2).ownBlock=some k->(Value.slice A n c).ownBlock≠some k:=Kr h.own2 h.own Y5;refine⟨Nm,(h.ks.grow ho h.inl hg ha Hi).put (List.mem_append.2 (.inr h.ain)) _ _,List.mem_append.2 (.inr h.ain),Eb,?_,fun b e=>List.mem_append.2 (.inl (Option.mem_toList.2 e)),?_,fun b e=>List.mem_append.2 (.inr (h.inl2 b e))⟩
 ·exact jV Hi GO (fun k e e2=>jY Hi Nm hT (by rw[e];exact congrArg some e2))
 ·refine jV (jV h.own2 hU (fun k e e2=>Mv k e (by rw[jC];exact e2))) GO (fun k e e2=>jY h.own2 h.box AW (by rw[e];exact congrArg some e2))
end
structure Md(src:BA)(w:World)(g:Nat)(s:Sl)(a:Nat)(T:TypeId)(z:Nat)(cs:List Value)(r:Rdr)(L:List Nat)(s' :Sl)(A:OA)(n c:Nat)(xs:List Value)(W:World):Prop where
 ks:Ks src w g s r L s' W
 ain:a∈L
 box:Blk W a 111 cs.toArray
 own:W.ownsRow w.heap.size T z (.slice A n c) n xs
 inl:∀b,A.map (·.block)=some b->b∈L
section
variable{src:BA}{w W W1:World}{g:Nat}{s s' s1:Sl}{a:Nat}{T:TypeId}{z:Nat}{pre post cs:List Value}{T2:TypeId}{z2:Nat}{A2:OA}{n2 c2:Nat}{xs2:List Value}{r r1:Rdr}{L:List Nat}{A:OA}{n c:Nat}{xs:List Value}
theorem Rw.md(h:Rw src w g s a T z pre post T2 z2 A2 n2 c2 xs2 r L s' A n c xs W):Md src w g s a T z (pre++ .slice A n c::post) r L s' A n c xs W:=⟨h.ks,h.ain,h.box,h.own,h.inl⟩
theorem Md.step(h:Md src w g s a T z cs r L s' A n c xs W)(h1:St W1 g src r1 s1)(f:Fr g s' s1 W W1):Md src w g s a T z cs r1 L s1 A n c xs W1:=⟨h.ks.step h1 f,h.ain,h.ks.blk h.ain h.box f,h.ks.own h.own h.inl f,h.inl⟩
theorem Md.put(h:Md src w g s a T z cs r L s' A n c xs W)(hT:T≠111)(i:Nat)(u:Value):Md src w g s a T z (cs.set i u) r L s' A n c xs (W.setCell ⟨a,i,none⟩ u):=by
 have hk:Kp (fun k=>k=a) W (W.setCell ⟨a,i,none⟩ u):=(jQ0 (fun k=>k=a) W).setCell (p:=⟨a,i,none⟩) (fun _=>rfl) u;exact⟨h.ks.put h.ain i u,h.ain,h.box.setL i u,jV h.own hk (fun k e e2=>jY h.own h.box hT (by rw[e];exact congrArg some e2)),h.inl⟩
theorem Md.rw(h:Md src w g s a T z (pre++[.slice none 0 0]) r L s' A n c xs W)(T' :TypeId)(z' :Nat):Rw src w g s a T' z' pre [] T z A n c xs r L s' none 0 0 [] W:=
 ⟨h.ks,h.ain,h.box,World.ownsRow_nil _ _ _ _,fun b e=>by(cases e),h.own,h.inl⟩
end
def lpC(p:Int×Int):List Value:=[iv p.1,iv p.2]
structure LyS(qr ql qa qk:Nat)(s:LayP)(W:World):Prop where
 row:Blk W qr 134 (s.l.flatMap lpC).toArray
 lb:Blk W ql 130 #[.slice (some ⟨qr,0,none⟩) s.l.length s.l.length]
 ab:Blk W qa 3 #[iv s.last]
 kb:Blk W qk 4 #[.bool s.ok]
def LyX(qr qa qk:Nat):Nat->Prop:=fun b=>b=qr\/b=qa\/b=qk
section
variable{qr ql qa qk:Nat}{s:LayP}{W W1:World}
theorem LyS.old(h:LyS qr ql qa qk s W)(ho:Old W W1):LyS qr ql qa qk s W1:=⟨h.row.old ho,h.lb.old ho,h.ab.old ho,h.kb.old ho⟩
theorem LyS.setA(h:LyS qr ql qa qk s W)(v:Int):LyS qr ql qa qk {s with last:=v} (W.setCell ⟨qa,0,none⟩ (.int .i64 v))/\Kp (LyX qr qa qk) W (W.setCell ⟨qa,0,none⟩ (.int .i64 v)):=
 ⟨⟨h.row.far (h.row.ne_ h.ab (by decide)) _,h.lb.far (h.lb.ne_ h.ab (by decide)) _,by simpa [iv]using h.ab.set_ 0 (.int .i64 v),h.kb.far (h.kb.ne_ h.ab (by decide)) _⟩,(jQ0 (LyX qr qa qk) W).setCell (p:=⟨qa,0,none⟩) (fun _=>.inr (.inl rfl)) _⟩
theorem LyS.setK(h:LyS qr ql qa qk s W)(v:Bool):LyS qr ql qa qk {s with ok:=v} (W.setCell ⟨qk,0,none⟩ (.bool v))/\Kp (LyX qr qa qk) W (W.setCell ⟨qk,0,none⟩ (.bool v)):=
 ⟨⟨h.row.far (h.row.ne_ h.kb (by decide)) _,h.lb.far (h.lb.ne_ h.kb (by decide)) _,h.ab.far (h.ab.ne_ h.kb (by decide)) _,by simpa using h.kb.set_ 0 (.bool v)⟩,(jQ0 (LyX qr qa qk) W).setCell (p:=⟨qk,0,none⟩) (fun _=>.inr (.inr rfl)) _⟩
theorem jEG:∀(l:List (Int×Int)) (k:Nat) (p:Int×Int),k<l.length->((l.flatMap lpC).set (k*2) (iv p.1)).set (k*2+1) (iv p.2)=(l.set k p).flatMap lpC
 |[],_,_,h=>by cases h
 |x::l,0,p,_=>rfl
 |x::l,k+1,p,h=>by
  have e:(k+1)*2=k*2+1+1:=(by omega);have e2:(x::l).flatMap lpC=iv x.1::iv x.2::l.flatMap lpC:=rfl;rw[jJ3,e,e2];simp only[jJ3];rw[jEG l k p (Nat.lt_of_succ_lt_succ h)];rfl
theorem LyS.setR(h:LyS qr ql qa qk s W){k:Nat}(hk:k<s.l.length)(a b:Int):LyS qr ql qa qk {s with l:=s.l.set k (a,b)} ((W.setCell ⟨qr,k*2,none⟩ (.int .i64 a)).setCell ⟨qr,k*2+1,none⟩ (.int .i64 b))/\Kp (LyX qr qa qk) W ((W.setCell ⟨qr,k*2,none⟩ (.int .i64 a)).setCell ⟨qr,k*2+1,none⟩ (.int .i64 b)):=by
 have h1:=Blk.setL (Blk.setL h.row (k*2) (.int .i64 a)) (k*2+1) (.int .i64 b);have e:((s.l.flatMap lpC).set (k*2) (.int .i64 a)).set (k*2+1) (.int .i64 b)=(s.l.set k (a,b)).flatMap lpC:=jEG s.l k (a,b) hk;rw[e]at h1;refine⟨⟨h1,?_,(h.ab.far (h.ab.ne_ h.row (by decide)) _).far (h.ab.ne_ h.row (by decide)) _,(h.kb.far (h.kb.ne_ h.row (by decide)) _).far (h.kb.ne_ h.row (by decide)) _⟩,((jQ0 (LyX qr qa qk) W).setCell (p:=⟨qr,k*2,none⟩) (fun _=>.inl rfl) _).setCell (p:=⟨qr,k*2+1,none⟩) (fun _=>.inl rfl) _⟩;have:=(h.lb.far (h.lb.ne_ h.row (by decide)) (p:=⟨qr,k*2,none⟩) (.int .i64 a)).far (h.lb.ne_ h.row (by decide)) (p:=⟨qr,k*2+1,none⟩) (.int .i64 b);show Blk _ ql _ #[.slice (some ⟨qr,0,none⟩) (s.l.set k (a,b)).length (s.l.set k (a,b)).length];rw[List.length_set];exact this
theorem LyS.at_(h:LyS qr ql qa qk s W){k:Nat}(hk:k<s.l.length):W.cell? ⟨qr,k*2,none⟩=some (.int .i64 (s.l.getD k (0,0)).1)/\W.cell? ⟨qr,k*2+1,none⟩=some (.int .i64 (s.l.getD k (0,0)).2):=by
 have hx:s.l[k]? =some (s.l.getD k (0,0)):=by rw[List.getD_eq_getElem?_getD,jJ9 hk];rfl
 have hf:=Ka lpC 2 (fun _=>rfl) s.l k _ hx;refine⟨h.row.at_ (k*2) ?_,h.row.at_ (k*2+1) ?_⟩
 ·have:=hf 0 (by decide);rw[jJ7];exact this
 ·have:=hf 1 (by decide);rw[jJ7];exact this
end
theorem jIA(w:World):(Op.equalIn 10000 134 (.agg #[.int .i64 0,.int .i64 0]) (.agg #[.int .i64 0,.int .i64 0])).run prog w=.ok true w:=by kernel_rfl
def LyR(qr ql qa qk:Nat)(s:LayP)(W:World)(e:Ending)(W' :World):Prop:=e=.returned (.tuple #[])/\LyS qr ql qa qk s W' /\Kp (LyX qr qa qk) W W'
theorem jA5(W:World)(qr ql qa qk:Nat)(s:LayP)(h:LyS qr ql qa qk s W)(fam:Int)(i:Nat)(order:Int)(hl:¬order<=(if i=0 then-1 else s.last))(hlen:order<(s.l.length:Int))(h0:0<=order)(hz:s.l.getD order.toNat (0,0)=(0,0)):
  Calls prog 113 #[iv fam,iv (i:Int),iv order,.pointer (some ⟨qa,0,none⟩),.pointer (some ⟨ql,0,none⟩),.pointer (some ⟨qk,0,none⟩)] W (LyR qr ql qa qk (JX fam i order s) W):=by
 have L4:JX fam i order s=⟨s.l.set order.toNat (fam,(i:Int)),order,s.ok⟩:=by
  unfold JX;simp only;rw[jJ5 (fun e=>e.elim hl (fun e=>e.elim (fun e=>by omega) (fun e=>e hz)))]
 rw[L4];obtain⟨k,rfl⟩:∃k:Nat,order=(k:Int):=⟨order.toNat,by omega⟩;have ek:(k:Int).toNat=k:=(by omega);have Ht:=jIA;rw[ek]at hz⊢;have hk:k<s.l.length:=(by omega);obtain⟨a0,a1⟩:=h.at_ hk;rw[hz]at a0 a1;have c0:=h.ab.at_ 0 (v:=.int .i64 s.last) rfl;have c1:=h.lb.at_ 0 (v:=.slice (some ⟨qr,0,none⟩) s.l.length s.l.length) rfl;have H:=G h;have zr:=h.row.frozen (k*2);have zr1:=h.row.frozen (k*2+1);have za:=h.ab.frozen 0;have b1:(0:Int)<=(k:Int):=(by omega);have b3:¬(s.l.length:Int)<=(k:Int):=(by omega);clear L4 h;by_cases hi:i=0
 ·rw[jJ6 hi]at hl;have d1:((i:Int)==0)=true:=by rw[hi];rfl
  have H1:=G (H.out.setA (-1)).1;have K1:=G (H.out.setA (-1)).2;have H2:=G (H1.out.setA (k:Int)).1;have K2:=G (K1.out.trans (H1.out.setA (k:Int)).2 (fun _ _ e=>e));have H3:=G (H2.out.setR hk fam (i:Int)).1;have K3:=G (K2.out.trans (H2.out.setR hk fam (i:Int)).2 (fun _ _ e=>e));obtain⟨e0,e1⟩:=H1.out.at_ hk;have Fi:s.l.getD k (0,0)=(0,0):=hz;rw[Fi]at e0 e1;have e2:=H1.out.ab.at_ 0 (v:=.int .i64 (-1)) rfl;have e3:=H1.out.lb.at_ 0 (v:=.slice (some ⟨qr,0,none⟩) s.l.length s.l.length) rfl;have z1:=H1.out.ab.frozen 0;have e4:=H2.out.lb.at_ 0 (v:=.slice (some ⟨qr,0,none⟩) s.l.length s.l.length) rfl;have z2:=H2.out.row.frozen (k*2);have z3:=H2.out.row.frozen (k*2+1);obtain⟨e5,e6⟩:=H2.out.at_ hk;have Fl:s.l.getD k (0,0)=(0,0):=hz;rw[Fl]at e5 e6;have Nm:=Blk.setL H2.out.row (k*2) (.int .i64 fam);have e7:(((W.setCell ⟨qa,0,none⟩ (.int .i64 (-1))).setCell ⟨qa,0,none⟩ (.int .i64 (k:Int))).setCell ⟨qr,k*2,none⟩ (.int .i64 fam)).cell? ⟨qr,k*2+1,none⟩=some (.int .i64 0):=by
   rw[Nm.cell,jJ7,List.getElem?_set_ne (by omega),<-jJ7,<-H2.out.row.cell];exact e6
  have z4:=Nm.frozen (k*2+1);clear hz Fi Fl Nm;clear hi;unfold iv at*;go_enter func113,ntmps113;go_wp2;go_end0;exact⟨rfl,H3.out,K3.out⟩
 ·rw[jJ5 hi]at hl;have d1:((i:Int)==0)=false:=jM3 (by omega);have H2:=G (H.out.setA (k:Int)).1;have K2:=G (H.out.setA (k:Int)).2;have H3:=G (H2.out.setR hk fam (i:Int)).1;have K3:=G (K2.out.trans (H2.out.setR hk fam (i:Int)).2 (fun _ _ e=>e));have e4:=H2.out.lb.at_ 0 (v:=.slice (some ⟨qr,0,none⟩) s.l.length s.l.length) rfl;have z2:=H2.out.row.frozen (k*2);have z3:=H2.out.row.frozen (k*2+1);obtain⟨e5,e6⟩:=H2.out.at_ hk;have Fl:s.l.getD k (0,0)=(0,0):=hz;rw[Fl]at e5 e6;have Nm:=Blk.setL H2.out.row (k*2) (.int .i64 fam);have e7:((W.setCell ⟨qa,0,none⟩ (.int .i64 (k:Int))).setCell ⟨qr,k*2,none⟩ (.int .i64 fam)).cell? ⟨qr,k*2+1,none⟩=some (.int .i64 0):=by
   rw[Nm.cell,jJ7,List.getElem?_set_ne (by omega),<-jJ7,<-H2.out.row.cell];exact e6
  have z4:=Nm.frozen (k*2+1);clear hz Fl Nm;clear hi;unfold iv at*;go_enter func113,ntmps113;go_wp2;go_end0;exact⟨rfl,H3.out,K3.out⟩
end Go.Proofs.YtmmjcbbogokmfaaGreatDoor

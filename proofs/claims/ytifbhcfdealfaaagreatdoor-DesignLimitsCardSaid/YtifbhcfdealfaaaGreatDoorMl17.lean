import Derived.Test.YtifbhcfdealfaaaGreatDoorMl16
set_option maxRecDepth 100000
set_option maxHeartbeats 25600000
namespace Go.Proofs.YtifbhcfdealfaaaGreatDoor
open Go.Proofs.Tryz
open Go.RowKit
def zL(s:Sl)(L:List Nat):Nat->Prop:=fun b=>s.z b\/b∈L
structure Ks(src:BA)(w:World)(g:Nat)(s:Sl)(r:Rdr)(L:List Nat)(s' :Sl)(W:World):Prop where
 st:St W g src r s'
 z:s'.z=zL s L
 new:∀b∈L,w.heap.size<=b
 kp:Kp (OX g s) w W
 ox:∀b,b<w.heap.size->OX g s' b->OX g s b
section
variable{src:BA}{w W W1 W2 W3:World}{g:Nat}{s s' s1:Sl}{r r1:Rdr}{L:List Nat}
theorem Ks.start(h:St w g src r s):Ks src w g s r [] {s with z:=zL s []} w:=
 ⟨h.zgrow (jQ0 NoX w) (fun _ e=>e.elim) _ (fun b hb=>hb.elim (fun e=>⟨.inl e,h.zlt b e⟩) (fun e=>by cases e)),rfl,fun _ e=>by(cases e),jQ0 _ _,fun _ _ e=>e⟩
theorem Ks.old(h:Ks src w g s r L s' W)(ho:Old W W1):Ks src w g s r L s' W1:=⟨h.st.old ho,h.z,h.new,h.kp.old ho,h.ox⟩
theorem Ks.inz(h:Ks src w g s r L s' W){b:Nat}(hb:b∈L):s'.z b:=by rw[h.z];exact .inr hb
theorem Ks.alloc(h:Ks src w g s r L s' W)(o:Obj):Ks src w g s r (W.heap.size::L) {s' with z:=zL s (W.heap.size::L)} (W.alloc o):=by
 have ho:=(jQ0 NoX W).alloc o;have FK:(W.alloc o).heap.size=W.heap.size+1:=(by simp);refine⟨h.st.zgrow ho (fun _ e=>e.elim) _ (fun b hb=> ?_),rfl,fun b hb=> ?_,h.kp.old ho,h.ox⟩
 ·have key:s'.z b\/b=W.heap.size:=by
   rcases hb with e|e
   ·left;rw[h.z];exact .inl e
   ·rcases jN4 e with e|e
    ·exact .inr e
    ·exact .inl (h.inz e)
  rcases key with e|e
  ·exact⟨.inl e,by have:=h.st.zlt b e;omega⟩
  ·exact⟨.inr (by omega),by omega⟩
 ·rcases jN4 hb with e|e
  ·rw[e];exact h.kp.size
  ·exact h.new b e
theorem Ks.put(h:Ks src w g s r L s' W){b:Nat}(hb:b∈L)(i:Nat)(u:Value):Ks src w g s r L s' (W.setCell ⟨b,i,none⟩ u):=by
 have hk:Kp (fun k=>k=b) W (W.setCell ⟨b,i,none⟩ u):=(jQ0 (fun k=>k=b) W).setCell (p:=⟨b,i,none⟩) (fun _=>rfl) u;exact⟨h.st.zgrow hk (fun k e=>by rw[e];exact h.inz hb) s'.z (fun k e=>⟨.inl e,jL8 (h.st.zlt k e) hk.size⟩),h.z,h.new,h.kp.trans hk (fun k MG e=>by have:=h.new b hb;omega),h.ox⟩
theorem Ks.step(h:Ks src w g s r L s' W)(h1:St W1 g src r1 s1)(f:Fr g s' s1 W W1):Ks src w g s r1 L s1 W1:=
 ⟨h1,f.z.trans h.z,h.new,h.kp.trans f.kp h.ox,fun b hb e=>h.ox b hb (f.own b (jL8 hb h.kp.size) e)⟩
theorem Ks.blk(h:Ks src w g s r L s' W){b:Nat}(hb:b∈L){T:TypeId}{cs:Array Value}(hB:Blk W b T cs)(f:Fr g s' s1 W W1):Blk W1 b T cs:=hB.kp f.kp (fun hx=>h.st.zno b hx (h.inz hb))
theorem Ks.own(h:Ks src w g s r L s' W){base:Nat}{e:TypeId}{z:Nat}{A:OA}{c n:Nat}{xs:List Value}(ho:W.ownsRow base e z (.slice A n c) n xs)(hA:∀b,A.map (·.block)=some b->b∈L)(f:Fr g s' s1 W W1):W1.ownsRow base e z (.slice A n c) n xs:=
 jJ ho f.kp (fun b e hx=>h.st.zno b hx (h.inz (hA b (by rw[<-jA];exact e))))
theorem Ks.grow(h:Ks src w g s r L s' W)(ho:Old W W2){A A' :OA}(hA:∀b,A.map (·.block)=some b->b∈L)(hg:W2.grownBy W3 (A.map (·.block)))(ha:A'.map (·.block)=A.map (·.block)\/A'.map (·.block)=some W2.heap.size)
  {base:Nat} {e:TypeId} {z c n:Nat} {xs:List Value} (hI:W3.ownsRow base e z (.slice A' n c) n xs):Ks src w g s r ((A'.map (·.block)).toList++L) {s' with z:=zL s ((A'.map (·.block)).toList++L)} W3:=by
 have Fu:Kp (fun b=>A.map (·.block)=some b) W W3:=Kp.grown (ho.mono (fun _ _ e=>e.elim)) hg (fun _ e _=>e);have key:∀b,A'.map (·.block)=some b->b∈L\/W2.heap.size=b:=fun b e=>by
  rcases ha with ha|ha
  ·exact .inl (hA b (by rw[<-ha];exact e))
  ·rw[ha]at e;injection e with e;exact .inr e
 refine⟨h.st.zgrow Fu (fun b e=>h.inz (hA b e)) _ (fun b hb=> ?_),rfl,fun b hb=> ?_,h.kp.trans Fu (fun b hb e=>by have:=h.new b (hA b e);omega),h.ox⟩
 ·rcases hb with e|e
  ·have e2:s'.z b:=by rw[h.z];exact .inl e
   exact⟨.inl e2,jL8 (h.st.zlt b e2) Fu.size⟩
  ·rcases jM6 e with e|e
   ·have e:=Option.mem_toList.1 e;refine⟨?_,(Ko hI e).2⟩;rcases key b e with e2|e2
    ·exact .inl (h.inz e2)
    ·right;rw[<-e2];exact ho.size
   ·exact⟨.inl (h.inz e),jL8 (h.st.zlt b (h.inz e)) Fu.size⟩
 ·rcases jM6 hb with e|e
  ·have e:=Option.mem_toList.1 e;rcases key b e with e2|e2
   ·exact h.new b e2
   ·rw[<-e2];exact jL4 h.kp.size ho.size
  ·exact h.new b e
theorem Ks.done(h:Ks src w g s r L s' W)(h0:∀b,s.z b->b<w.heap.size):St W g src r {s' with z:=s.z}/\Fr g s {s' with z:=s.z} w W:=
 ⟨h.st.zgrow (jQ0 NoX W) (fun _ e=>e.elim) _ (fun b e=>⟨.inl (by rw[h.z];exact .inl e),jL8 (h0 b e) h.kp.size⟩),⟨h.kp,h.ox,rfl⟩⟩
end
theorem vh{src:LB}{f:Nat}{r:Rdr}{k:Int×Rdr}(h:ZZ src f r=some k):∃q,exN src f .expr r=some q/\q.1=k.1/\q.2.2=k.2:=by
 obtain⟨q,hq,e⟩:=jM4 h;exact⟨q,hq,by rw[<-e],by rw[<-e]⟩
theorem jDX(w:World)(g:Nat)(src:BA)(f:Nat)(r:Rdr)(s:Sl)(k:Int×Rdr)(h:St w g src r s)(hk:kZ (sb src) f 12 r=some k):
  Calls prog 214 #[.pointer (some ⟨g,0,none⟩),.int .u8 12] w (Ex w g src s k.2 (iv k.1)):=by
 have HS:=G h;unfold kZ at hk;by_cases ht:r.t=12
 ·rw[jJ5 (fun e=>e ht)]at hk;obtain⟨r1,Fp,hk⟩:=jM2 hk;rw[jJ6 (by decide)]at hk;obtain⟨q,hq,e1,e2⟩:=vh hk;have K1:=G (show jb (sb src) 12 r=some (true,r1)by rw[jb,jJ6 ht,Fp];rfl);have E1:=G ((Vj src f).ex · g r1 · q · hq);rw[e1,e2]at E1;clear h Fp hk hq e1 e2 ht;go_enter func214,ntmps214;go_wp2_with (first|(go_at_call 212;refine(jV _ g src _ _ s 12 _ HS.out K1.out).mono ?_;rintro e w1 ⟨rfl,hX⟩;have H1:=G hX;clear hX)|(go_at_call 217;refine(E1.out _ _ H1.out.1).mono ?_;rintro e w2 ⟨rfl,s2,hX⟩;have H2:=G hX;clear hX;unfold iv)|fail);go_ret;exact⟨rfl,s2,H2.out.1,H1.out.2.trans H2.out.2⟩
 ·rw[jJ6 ht]at hk;injection hk with hk;subst hk;have K1:=G (show jb (sb src) 12 r=some (false,r)by rw[jb,jJ5 ht]);clear h ht;go_enter func214,ntmps214;go_wp2_with (first|(go_at_call 212;refine(jV _ g src _ _ s 12 _ HS.out K1.out).mono ?_;rintro e w1 ⟨rfl,hX⟩;have H1:=G hX;clear hX)|fail);go_ret;exact⟨rfl,s,H1.out⟩
theorem Xx(w:World)(g:Nat)(src:BA)(f:Nat)(r:Rdr)(s:Sl)(k:Int×Rdr)(h:St w g src r s)(hk:kZ (sb src) f 32 r=some k):
  Calls prog 214 #[.pointer (some ⟨g,0,none⟩),.int .u8 32] w (Ex w g src s k.2 (iv k.1)):=by
 have HS:=G h;unfold kZ at hk;by_cases ht:r.t=32
 ·rw[jJ5 (fun e=>e ht)]at hk;obtain⟨r1,Fp,hk⟩:=jM2 hk;rw[jJ6 (by decide)]at hk;obtain⟨q,hq,e1,e2⟩:=vh hk;have K1:=G (show jb (sb src) 32 r=some (true,r1)by rw[jb,jJ6 ht,Fp];rfl);have E1:=G ((Vj src f).ex · g r1 · q · hq);rw[e1,e2]at E1;clear h Fp hk hq e1 e2 ht;go_enter func214,ntmps214;go_wp2_with (first|(go_at_call 212;refine(jV _ g src _ _ s 32 _ HS.out K1.out).mono ?_;rintro e w1 ⟨rfl,hX⟩;have H1:=G hX;clear hX)|(go_at_call 217;refine(E1.out _ _ H1.out.1).mono ?_;rintro e w2 ⟨rfl,s2,hX⟩;have H2:=G hX;clear hX;unfold iv)|fail);go_ret;exact⟨rfl,s2,H2.out.1,H1.out.2.trans H2.out.2⟩
 ·rw[jJ6 ht]at hk;injection hk with hk;subst hk;have K1:=G (show jb (sb src) 32 r=some (false,r)by rw[jb,jJ5 ht]);clear h ht;go_enter func214,ntmps214;go_wp2_with (first|(go_at_call 212;refine(jV _ g src _ _ s 32 _ HS.out K1.out).mono ?_;rintro e w1 ⟨rfl,hX⟩;have H1:=G hX;clear hX)|fail);go_ret;exact⟨rfl,s,H1.out⟩
theorem jDW(w:World)(g:Nat)(src:BA)(f:Nat)(r:Rdr)(s:Sl)(k:Int×Rdr)(h:St w g src r s)(hk:kZ (sb src) f 29 r=some k):
  Calls prog 214 #[.pointer (some ⟨g,0,none⟩),.int .u8 29] w (Ex w g src s k.2 (iv k.1)):=by
 have HS:=G h;unfold kZ at hk;by_cases ht:r.t=29
 ·rw[jJ5 (fun e=>e ht)]at hk;obtain⟨r1,Fp,hk⟩:=jM2 hk;rw[jJ5 (by decide)]at hk;obtain⟨r2,FZ,hk⟩:=jM2 hk;obtain⟨q,hq,e1,e2⟩:=vh hk;have K1:=G (show jb (sb src) 29 r=some (true,r1)by rw[jb,jJ6 ht,Fp];rfl);have N2:=G FZ;have E1:=G ((Vj src f).ex · g r2 · q · hq);rw[e1,e2]at E1;clear h Fp FZ hk hq e1 e2 ht;go_enter func214,ntmps214;go_wp2_with (first|(go_at_call 212;refine(jV _ g src _ _ s 29 _ HS.out K1.out).mono ?_;rintro e w1 ⟨rfl,hX⟩;have H1:=G hX;clear hX)|(go_at_call 150;refine(jN _ g src _ _ s H1.out.1 N2.out).mono ?_;rintro e w2 ⟨rfl,hX⟩;have H2:=G hX;clear hX)|(go_at_call 217;refine(E1.out _ _ H2.out.1).mono ?_;rintro e w3 ⟨rfl,s3,hX⟩;have H3:=G hX;clear hX;unfold iv)|fail);go_ret;exact⟨rfl,s3,H3.out.1,(H1.out.2.trans H2.out.2).trans H3.out.2⟩
 ·rw[jJ6 ht]at hk;injection hk with hk;subst hk;have K1:=G (show jb (sb src) 29 r=some (false,r)by rw[jb,jJ5 ht]);clear h ht;go_enter func214,ntmps214;go_wp2_with (first|(go_at_call 212;refine(jV _ g src _ _ s 29 _ HS.out K1.out).mono ?_;rintro e w1 ⟨rfl,hX⟩;have H1:=G hX;clear hX)|fail);go_ret;exact⟨rfl,s,H1.out⟩
theorem jCc(w:World)(g:Nat)(src:BA)(f:Nat)(r:Rdr)(s:Sl)(k:Int×Rdr)(h:St w g src r s)(hk:vp (sb src) f 29 r=some k):
  Calls prog 216 #[.pointer (some ⟨g,0,none⟩),.int .u8 29] w (Ex w g src s k.2 (iv k.1)):=by
 have HS:=G h;unfold vp at hk;obtain⟨q,hq,hk⟩:=jM2 hk;have G1:=G (jDW w g src f r s q h hq);by_cases h0:0<=q.1
 ·rw[jJ6 h0]at hk;obtain⟨r1,Fp,hk⟩:=jM2 hk;injection hk with hk;subst hk;have N1:=G Fp;have f1:(0:Int)<=q.1:=h0;clear h hq Fp h0;go_enter func216,ntmps216;go_wp2_with (first|(go_at_call 214;refine G1.out.mono ?_;rintro e w1 ⟨rfl,s1,hX⟩;have H1:=G hX;clear hX;unfold iv)|(go_at_call 150;refine(jN _ g src _ _ _ H1.out.1 N1.out).mono ?_;rintro e w2 ⟨rfl,hX⟩;have H2:=G hX;clear hX)|fail);go_ret;exact⟨rfl,s1,H2.out.1,H1.out.2.trans H2.out.2⟩
 ·rw[jJ5 h0]at hk;injection hk with hk;subst hk;clear h hq;go_enter func216,ntmps216;go_wp2_with (first|(go_at_call 214;refine G1.out.mono ?_;rintro e w1 ⟨rfl,s1,hX⟩;have H1:=G hX;clear hX;unfold iv)|fail);go_ret;exact⟨rfl,s1,H1.out⟩
theorem jDV(w:World)(g:Nat)(src:BA)(f:Nat)(r:Rdr)(s:Sl)(k:Int×Rdr)(h:St w g src r s)(hk:kZ (sb src) f 30 r=some k):
  Calls prog 214 #[.pointer (some ⟨g,0,none⟩),.int .u8 30] w (Ex w g src s k.2 (iv k.1)):=by
 have HS:=G h;unfold kZ at hk;by_cases ht:r.t=30
 ·rw[jJ5 (fun e=>e ht)]at hk;obtain⟨r1,Fp,hk⟩:=jM2 hk;rw[jJ5 (by decide)]at hk;obtain⟨r2,FZ,hk⟩:=jM2 hk;obtain⟨q,hq,e1,e2⟩:=vh hk;have K1:=G (show jb (sb src) 30 r=some (true,r1)by rw[jb,jJ6 ht,Fp];rfl);have N2:=G FZ;have E1:=G ((Vj src f).ex · g r2 · q · hq);rw[e1,e2]at E1;clear h Fp FZ hk hq e1 e2 ht;go_enter func214,ntmps214;go_wp2_with (first|(go_at_call 212;refine(jV _ g src _ _ s 30 _ HS.out K1.out).mono ?_;rintro e w1 ⟨rfl,hX⟩;have H1:=G hX;clear hX)|(go_at_call 150;refine(jN _ g src _ _ s H1.out.1 N2.out).mono ?_;rintro e w2 ⟨rfl,hX⟩;have H2:=G hX;clear hX)|(go_at_call 217;refine(E1.out _ _ H2.out.1).mono ?_;rintro e w3 ⟨rfl,s3,hX⟩;have H3:=G hX;clear hX;unfold iv)|fail);go_ret;exact⟨rfl,s3,H3.out.1,(H1.out.2.trans H2.out.2).trans H3.out.2⟩
 ·rw[jJ6 ht]at hk;injection hk with hk;subst hk;have K1:=G (show jb (sb src) 30 r=some (false,r)by rw[jb,jJ5 ht]);clear h ht;go_enter func214,ntmps214;go_wp2_with (first|(go_at_call 212;refine(jV _ g src _ _ s 30 _ HS.out K1.out).mono ?_;rintro e w1 ⟨rfl,hX⟩;have H1:=G hX;clear hX)|fail);go_ret;exact⟨rfl,s,H1.out⟩
theorem jCb(w:World)(g:Nat)(src:BA)(f:Nat)(r:Rdr)(s:Sl)(k:Int×Rdr)(h:St w g src r s)(hk:vp (sb src) f 30 r=some k):
  Calls prog 216 #[.pointer (some ⟨g,0,none⟩),.int .u8 30] w (Ex w g src s k.2 (iv k.1)):=by
 have HS:=G h;unfold vp at hk;obtain⟨q,hq,hk⟩:=jM2 hk;have G1:=G (jDV w g src f r s q h hq);by_cases h0:0<=q.1
 ·rw[jJ6 h0]at hk;obtain⟨r1,Fp,hk⟩:=jM2 hk;injection hk with hk;subst hk;have N1:=G Fp;have f1:(0:Int)<=q.1:=h0;clear h hq Fp h0;go_enter func216,ntmps216;go_wp2_with (first|(go_at_call 214;refine G1.out.mono ?_;rintro e w1 ⟨rfl,s1,hX⟩;have H1:=G hX;clear hX;unfold iv)|(go_at_call 150;refine(jN _ g src _ _ _ H1.out.1 N1.out).mono ?_;rintro e w2 ⟨rfl,hX⟩;have H2:=G hX;clear hX)|fail);go_ret;exact⟨rfl,s1,H2.out.1,H1.out.2.trans H2.out.2⟩
 ·rw[jJ5 h0]at hk;injection hk with hk;subst hk;clear h hq;go_enter func216,ntmps216;go_wp2_with (first|(go_at_call 214;refine G1.out.mono ?_;rintro e w1 ⟨rfl,s1,hX⟩;have H1:=G hX;clear hX;unfold iv)|fail);go_ret;exact⟨rfl,s1,H1.out⟩
theorem jDU(w:World)(g:Nat)(src:BA)(f:Nat)(r:Rdr)(s:Sl)(k:Int×Rdr)(h:St w g src r s)(hk:kZ (sb src) f 31 r=some k):
  Calls prog 214 #[.pointer (some ⟨g,0,none⟩),.int .u8 31] w (Ex w g src s k.2 (iv k.1)):=by
 have HS:=G h;unfold kZ at hk;by_cases ht:r.t=31
 ·rw[jJ5 (fun e=>e ht)]at hk;obtain⟨r1,Fp,hk⟩:=jM2 hk;rw[jJ5 (by decide)]at hk;obtain⟨r2,FZ,hk⟩:=jM2 hk;obtain⟨q,hq,e1,e2⟩:=vh hk;have K1:=G (show jb (sb src) 31 r=some (true,r1)by rw[jb,jJ6 ht,Fp];rfl);have N2:=G FZ;have E1:=G ((Vj src f).ex · g r2 · q · hq);rw[e1,e2]at E1;clear h Fp FZ hk hq e1 e2 ht;go_enter func214,ntmps214;go_wp2_with (first|(go_at_call 212;refine(jV _ g src _ _ s 31 _ HS.out K1.out).mono ?_;rintro e w1 ⟨rfl,hX⟩;have H1:=G hX;clear hX)|(go_at_call 150;refine(jN _ g src _ _ s H1.out.1 N2.out).mono ?_;rintro e w2 ⟨rfl,hX⟩;have H2:=G hX;clear hX)|(go_at_call 217;refine(E1.out _ _ H2.out.1).mono ?_;rintro e w3 ⟨rfl,s3,hX⟩;have H3:=G hX;clear hX;unfold iv)|fail);go_ret;exact⟨rfl,s3,H3.out.1,(H1.out.2.trans H2.out.2).trans H3.out.2⟩
 ·rw[jJ6 ht]at hk;injection hk with hk;subst hk;have K1:=G (show jb (sb src) 31 r=some (false,r)by rw[jb,jJ5 ht]);clear h ht;go_enter func214,ntmps214;go_wp2_with (first|(go_at_call 212;refine(jV _ g src _ _ s 31 _ HS.out K1.out).mono ?_;rintro e w1 ⟨rfl,hX⟩;have H1:=G hX;clear hX)|fail);go_ret;exact⟨rfl,s,H1.out⟩
theorem jCa(w:World)(g:Nat)(src:BA)(f:Nat)(r:Rdr)(s:Sl)(k:Int×Rdr)(h:St w g src r s)(hk:vp (sb src) f 31 r=some k):
  Calls prog 216 #[.pointer (some ⟨g,0,none⟩),.int .u8 31] w (Ex w g src s k.2 (iv k.1)):=by
 have HS:=G h;unfold vp at hk;obtain⟨q,hq,hk⟩:=jM2 hk;have G1:=G (jDU w g src f r s q h hq);by_cases h0:0<=q.1
 ·rw[jJ6 h0]at hk;obtain⟨r1,Fp,hk⟩:=jM2 hk;injection hk with hk;subst hk;have N1:=G Fp;have f1:(0:Int)<=q.1:=h0;clear h hq Fp h0;go_enter func216,ntmps216;go_wp2_with (first|(go_at_call 214;refine G1.out.mono ?_;rintro e w1 ⟨rfl,s1,hX⟩;have H1:=G hX;clear hX;unfold iv)|(go_at_call 150;refine(jN _ g src _ _ _ H1.out.1 N1.out).mono ?_;rintro e w2 ⟨rfl,hX⟩;have H2:=G hX;clear hX)|fail);go_ret;exact⟨rfl,s1,H2.out.1,H1.out.2.trans H2.out.2⟩
 ·rw[jJ5 h0]at hk;injection hk with hk;subst hk;clear h hq;go_enter func216,ntmps216;go_wp2_with (first|(go_at_call 214;refine G1.out.mono ?_;rintro e w1 ⟨rfl,s1,hX⟩;have H1:=G hX;clear hX;unfold iv)|fail);go_ret;exact⟨rfl,s1,H1.out⟩
theorem Blk.setL{w:World}{g:Nat}{t:TypeId}{cs:List Value}(h:Blk w g t cs.toArray)(i:Nat)(u:Value):Blk (w.setCell ⟨g,i,none⟩ u) g t (cs.set i u).toArray:=by
 have:=h.set_ i u
 rwa [jJ1]at this
theorem jAU(x:Atr):∀u∈atC x,u.oneCell' =true:=by
 intro u hu;simp only[atC,iv,List.mem_cons,List.mem_nil_iff,or_false]at hu;rcases hu with rfl|rfl|rfl|rfl|rfl|rfl|rfl<;>rfl
theorem YZ(w:World)(g:Nat)(src:BA)(f:Nat)(r r' :Rdr)(s:Sl)(h:St w g src r s)(hk:qr (sb src) f r=some r'):
  Calls prog 152 #[.pointer (some ⟨g,0,none⟩)] w (Ex w g src s r' (.tuple #[])):=by
 unfold qr at hk;obtain⟨⟨nm,at_,od,r1⟩,hd,hk⟩:=jM2 hk;obtain⟨r2,Fp,hk⟩:=jM2 hk;obtain⟨⟨opt,r3⟩,ho,hk⟩:=jM2 hk;obtain⟨⟨kd,r4⟩,Ry,hk⟩:=jM2 hk;obtain⟨⟨df,r5⟩,GP,hk⟩:=jM2 hk;obtain⟨⟨wh,r6⟩,RE,hk⟩:=jM2 hk;obtain⟨r7,FZ,hk⟩:=jM2 hk;split at hk
 case isFalse=>cases hk
 rename_i hlt;injection hk with hk;have HZ:=G h.zlt;have Pl:=G hk;have GL:=G hlt;have D0:=G hd;have N1:=G Fp;have O1:=G ho;have KD:=G Ry;have G1:=G GP;have G2:=G RE;have N2:=G FZ;have HA:=G ((Ks.start h).alloc (.cells [.string ⟨#[]⟩,iv 0,iv 0,iv 0,.bool false,iv 0,iv 0].toArray 60));have BA:=G (jQ2 w 60 [.string ⟨#[]⟩,iv 0,iv 0,iv 0,.bool false,iv 0,iv 0].toArray);clear h hk hlt hd Fp ho Ry GP RE FZ;generalize ha:w.heap.size=a at*;have hm:a∈ [a]:=List.mem_singleton.2 rfl;go_enter func152,ntmps152;go_wp2_with (first|(go_at_call 211;refine(yK _ g src _ _ _ _ _ _ HA.out.st D0.out).mono ?_;rintro e w1 ⟨rfl,hX⟩;have K1:=G (HA.out.step hX.1 hX.2);have B1:=G (HA.out.blk hm BA.out hX.2);clear hX;have b0:=B1.out.at_ 0 rfl;have z0:=B1.out.frozen 0;have b1:=B1.out.at_ 1 rfl;have z1:=B1.out.frozen 1;have b2:=B1.out.at_ 2 rfl;have z2:=B1.out.frozen 2;have K2:=G (((K1.out.put hm 0 (.string nm)).put hm 1 (iv at_)).put hm 2 (iv od));have B2:=G (((B1.out.setL 0 (.string nm)).setL 1 (iv at_)).setL 2 (iv od));unfold iv at K2 B2;unfold iv)|(go_at_call 150;first|(refine(jN _ g src _ _ _ K7.out.st N2.out).mono ?_;rintro e w8 ⟨rfl,hX⟩;have K8:=G (K7.out.step hX.1 hX.2);have B8:=G (K7.out.blk hm B7.out hX.2);clear hX)|(refine(jN _ g src _ _ _ K2.out.st N1.out).mono ?_;rintro e w3 ⟨rfl,hX⟩;have K3:=G (K2.out.step hX.1 hX.2);have B3:=G (K2.out.blk hm B2.out hX.2);clear hX))|(go_at_call 212;refine(jV _ g src _ _ _ 39 _ K3.out.st O1.out).mono ?_;rintro e w4 ⟨rfl,hX⟩;have K4a:=G (K3.out.step hX.1 hX.2);have B4a:=G (K3.out.blk hm B3.out hX.2);clear hX;have b4:=B4a.out.at_ 4 rfl;have z4:=B4a.out.frozen 4;have K4:=G (K4a.out.put hm 4 (.bool opt));have B4:=G (B4a.out.setL 4 (.bool opt)))|(go_at_call 213;refine(xZ _ g src _ _ _ _ K4.out.st KD.out).mono ?_;rintro e w5 ⟨rfl,hX⟩;have K5a:=G (K4.out.step hX.1 hX.2);have B5a:=G (K4.out.blk hm B4.out hX.2);clear hX;have b3:=B5a.out.at_ 3 rfl;have z3:=B5a.out.frozen 3;have K5:=G (K5a.out.put hm 3 (.int .i64 kd));have B5:=G (B5a.out.setL 3 (.int .i64 kd));unfold iv)|(go_at_call 214;first|(refine(Xx _ g src f _ _ _ K6.out.st G2.out).mono ?_;rintro e w7 ⟨rfl,s7,hX⟩;have K7a:=G (K6.out.step hX.1 hX.2);have B7a:=G (K6.out.blk hm B6.out hX.2);clear hX;have b6:=B7a.out.at_ 6 rfl;have z6:=B7a.out.frozen 6;have K7:=G (K7a.out.put hm 6 (.int .i64 wh));have B7:=G (B7a.out.setL 6 (.int .i64 wh));unfold iv)|(refine(jDX _ g src f _ _ _ K5.out.st G1.out).mono ?_;rintro e w6 ⟨rfl,s6,hX⟩;have K6a:=G (K5.out.step hX.1 hX.2);have B6a:=G (K5.out.blk hm B5.out hX.2);clear hX;have b5:=B6a.out.at_ 5 rfl;have z5:=B6a.out.frozen 5;have K6:=G (K6a.out.put hm 5 (.int .i64 df));have B6:=G (B6a.out.setL 5 (.int .i64 df));unfold iv))|fail);clear K1 B1 K2 B2 K3 B3 K4a B4a K4 B4 K5a B5a K5 B5 K6a B6a K6 B6 K7a B7a K7 B7 HA BA b0 b1 b2 b3 b4 b5 b6 z0 z1 z2 z3 z4 z5 z6;have HX:=G (show Blk w8 a 60 (atC ⟨nm,at_,od,opt,kd,df,wh⟩).toArray from B8.out);clear B8;obtain⟨ns,ps,hR⟩:=K8.out.st.rows;have HR:=G hR;clear hR;obtain⟨i0,hi,FJ,Fv,FU⟩:=info_parts jA9;have FM:=G (show r7.tree.attrs.length+1<=maxLen by have:=GL.out;unfold maxLen;omega);have FN:=G (show(r7.tree.attrs.length+1)*64<=140737488355328 by have:=GL.out;omega);have RQ:w8.cell? ⟨g,7,none⟩=some (.slice s7.aA r7.tree.attrs.length s7.ac):=Blk.at_ K8.out.st.box 7 rfl;have PV:=K8.out.st.box.z 7;have Gq:=K8.out.st.lt;have Mu:=HX.out.lt;have c0:w8.cell? ⟨a,0,none⟩=some (.string nm):=HX.out.at_ 0 rfl;have c1:w8.cell? ⟨a,1,none⟩=some (.int .i64 at_):=HX.out.at_ 1 rfl;have c2:w8.cell? ⟨a,2,none⟩=some (.int .i64 od):=HX.out.at_ 2 rfl;have c3:w8.cell? ⟨a,3,none⟩=some (.int .i64 kd):=HX.out.at_ 3 rfl;have c4:w8.cell? ⟨a,4,none⟩=some (.bool opt):=HX.out.at_ 4 rfl;have c5:w8.cell? ⟨a,5,none⟩=some (.int .i64 df):=HX.out.at_ 5 rfl;have c6:w8.cell? ⟨a,6,none⟩=some (.int .i64 wh):=HX.out.at_ 6 rfl;have HO:=G ((jQ0 NoX w8).drew.alloc (.cells (atC ⟨nm,at_,od,opt,kd,df,wh⟩).toArray 60));go_region_law ((refine jl _ rfl (.tmp 33) (.tmp 35) 32 rfl 8 60 i0 _ 7 64 underlying32 hi FJ Fv FU rfl (by decide) (.slice s7.aA r7.tree.attrs.length s7.ac) r7.tree.attrs.length (r7.tree.attrs.flatMap atC) rfl (jJ HR.out.rA HO.out (fun _ _ e=>e)) _ 1 1 (atC ⟨nm,at_,od,opt,kd,df,wh⟩) rfl (Rd.row_new _ _ 7 1 _ rfl) (jAU _) FM.out FN.out (jL4 K8.out.st.eight HO.out.size) ?_;intro A1 c1 w9 hI hgrow F1;rw[jA]at hgrow F1;have FY:=K8.out.st.pastA HR.out HO.out hgrow;have HG:=G (K8.out.st.growA HR.out ⟨nm,at_,od,opt,kd,df,wh⟩ True.intro HO.out hgrow F1 hI);have RQ:w9.cell? ⟨g,7,none⟩=some (.slice s7.aA r7.tree.attrs.length s7.ac):=Blk.at_ FY 7 rfl;have PV:=FY.z 7;clear hI hgrow F1 FY))
 all_goals
  have HE:=G ((K8.out.step HG.out.1 HG.out.2).done (fun b e=>by rw[ha];exact HZ.out b e));go_wp2;go_end0;rw[<-Pl.out];exact⟨rfl,_,HE.out.1,HE.out.2⟩
end Go.Proofs.YtifbhcfdealfaaaGreatDoor

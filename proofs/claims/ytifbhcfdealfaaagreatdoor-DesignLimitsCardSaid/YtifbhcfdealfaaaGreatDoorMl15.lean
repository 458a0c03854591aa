import Derived.Test.YtifbhcfdealfaaaGreatDoorMl14
set_option maxRecDepth 100000
set_option maxHeartbeats 25600000
namespace Go.Proofs.YtifbhcfdealfaaaGreatDoor
open Go.Proofs.Tryz
open Go.RowKit
theorem Uw(src:BA)(f:Nat)(IH:ExAll src f)(op root:Int)(l:Nat)(hl:l∈jFO)(w:World)(g:Nat)(r:Rdr)(s:Sl)(k:Int×List Int×Rdr)(h:St w g src r s)(hk:exN (sb src) (f+1) (.two op root l) r=some k):
  Calls prog 288 #[.pointer (some ⟨g,0,none⟩),iv op,iv root,.int .u8 (l:Int)] w (Ex w g src s k.2.2 (iv k.1)):=by
 rw[exN]at hk;have Fm:=h.box.c2;have HS:=G h;have HI:=G IH;have HL:=G hl;obtain⟨r1,Fp,hk⟩:=jM2 hk;obtain⟨q,hq,hk⟩:=jM2 hk;obtain⟨x,hx,hk⟩:=jM4 hk;subst hk;obtain⟨x,r'⟩:=x;have N1:=G Fp;have E1:=G hq;have NX:=G hx;clear h IH Fp hq hx hl;unfold iv;go_enter func288,ntmps288;go_wp2_with (first|(go_at_call 150;refine(jN _ g src _ _ s HS.out N1.out).mono ?_;rintro e w1 ⟨rfl,hX⟩;have H1:=G hX;clear hX)|(go_at_call 256;refine(HI.out.row _ HL.out _ g _ _ _ H1.out.1 E1.out).mono ?_;rintro e w2 ⟨rfl,s2,hX⟩;have H2:=G hX;clear hX;unfold iv)|(go_at_call 257;refine(JM _ g src _ _ _ op _ _ [root,q.1] H2.out.1 NX.out).mono ?_;rintro e w3 ⟨rfl,s3,hX⟩;have H3:=G hX;clear hX;unfold iv)|fail);go_ret;exact⟨rfl,s3,H3.out.1,(H1.out.2.trans H2.out.2).trans H3.out.2⟩
theorem Ua(v:Int)(hv:v=49\/v=52\/v=31\/v=50\/v=51\/v=53\/v=54\/v=55\/v=56\/v=57)(w:World):Calls prog 306 #[.int .u8 v] w fun e w' =>e=.returned (iv (QB v.toNat))/\w=w' :=by
 rcases hv with rfl|rfl|rfl|rfl|rfl|rfl|rfl|rfl|rfl|rfl
 all_goals
  go_enter func306,ntmps306;go_wp2;go_ret;exact⟨rfl,rfl⟩
def zA(s:Sl)(A:OA):Nat->Prop:=fun b=>s.z b\/A.map (·.block)=some b
structure LsSt(src:BA)(w:World)(g:Nat)(last:Nat)(s:Sl)(k:Int×List Int×Rdr)(f:Nat)(A:OA)(c:Nat)(kids:List Int)(r:Rdr)(s' :Sl)(W:World):Prop where
 st:St W g src r s'
 z:s'.z=zA s A
 kp:Kp (OX g s) w W
 ox:∀b,b<w.heap.size->OX g s' b->OX g s b
 own:W.ownsRow w.heap.size 3 1 (.slice A kids.length c) kids.length (kids.map iv)
 ex:exN (sb src) f (.list last kids) r=some k
theorem LsSt.start{src:BA}{w:World}{g last:Nat}{s:Sl}{k:Int×List Int×Rdr}{f:Nat}{r:Rdr}(h:St w g src r s)(he:exN (sb src) f (.list last []) r=some k):LsSt src w g last s k f none 0 [] r {s with z:=zA s none} w:=
 ⟨h.zgrow (jQ0 NoX w) (fun _ e=>e.elim) _ (fun b hb=>hb.elim (fun e=>⟨.inl e,h.zlt b e⟩) (fun e=>by cases e)),rfl,jQ0 _ _,fun _ _ e=>e,World.ownsRow_nil _ _ _ _,he⟩
theorem LsSt.grow{src:BA}{w W W1 W2 W3:World}{g last:Nat}{s s' :Sl}{k:Int×List Int×Rdr}{f f' :Nat}{A A' :OA}{c c' :Nat}{kids:List Int}{r r1:Rdr}{x:Int}{s1:Sl}(h:LsSt src w g last s k f A c kids r s' W)
  (h1:St W1 g src r1 s1) (f1:Fr g s' s1 W W1) (he:exN (sb src) f' (.list last (kids++[x])) r1=some k) (ho:Old W1 W2) (hg:W2.grownBy W3 (A.map (·.block))) (ha:A'.map (·.block)=A.map (·.block)\/A'.map (·.block)=some W2.heap.size)
  (hI:W3.ownsRow w.heap.size 3 1 (.slice A' (kids.length+1) c') (kids.length+1) (kids.map iv++[iv x])):LsSt src w g last s k f' A' c' (kids++[x]) r1 {s1 with z:=zA s A'} W3:=by
 have Fu:Kp (fun b=>A.map (·.block)=some b) W1 W3:=Kp.grown (ho.mono (fun _ _ e=>e.elim)) hg (fun _ e _=>e);have Fv:s1.z=zA s A:=f1.z.trans h.z;have hw:w.heap.size<=W1.heap.size:=jL4 h.kp.size f1.kp.size;refine⟨h1.zgrow Fu (fun b e=>by rw[Fv];exact .inr e) _ (fun b hb=> ?_),rfl,(h.kp.trans f1.kp h.ox).trans Fu (fun b hb e=> ?_),fun b hb e=>h.ox b hb (f1.own b (jL8 hb h.kp.size) e),by rw[jJ4,jN3];exact hI,he⟩
 ·rcases hb with e|e
  ·have e2:s1.z b:=by rw[Fv];exact .inl e
   exact⟨.inl e2,jL8 (h1.zlt b e2) Fu.size⟩
  ·refine⟨?_,(Ko hI e).2⟩;rcases ha with ha|ha
   ·left;rw[Fv];right;rw[<-ha];exact e
   ·right;rw[ha]at e;injection e with e;rw[<-e];exact ho.size
 ·have:=(Ko h.own e).1;omega
theorem LsSt.done{src:BA}{w W W' :World}{g last:Nat}{s s' :Sl}{k:Int×List Int×Rdr}{f:Nat}{A:OA}{c:Nat}{kids:List Int}{r r1:Rdr}(h:LsSt src w g last s k f A c kids r s' W)(h0:∀b,s.z b->b<w.heap.size)
  (h1:St W' g src r1 s') (f1:Fr g s' s' W W'):ExL w g src s r1 kids (.returned (.slice A kids.length c)) W' :=by
 have ho:=jJ h.own f1.kp (fun b e hx=>h.st.zno b hx (by rw[h.z];right;rw[<-jA];exact e));have hw:w.heap.size<=W'.heap.size:=jL4 h.kp.size f1.kp.size;refine⟨A,c,{s' with z:=s.z},rfl,Rd.of_own ho,fun hn ad ea hx=> ?_,h1.zgrow (jQ0 NoX W') (fun _ e=>e.elim) _ (fun b e=>⟨.inl (by rw[h.z];exact .inl e),jL8 (h0 b e) hw⟩),⟨h.kp.trans f1.kp h.ox,fun b hb e=>h.ox b hb e,rfl⟩⟩;have hb:A.map (·.block)=some ad.block:=by rw[ea];rfl
 rcases hx with hx|hx
 ·exact h.st.zno _ hx (by rw[h.z];exact .inr hb)
 ·have:=(Ko h.own hb).1;have:=h0 _ hx;omega
def jBY(src:BA)(w:World)(g:Nat)(last:Nat)(s:Sl)(k:Int×List Int×Rdr)(F f:Nat)(kv:Value)(W:World):Prop:=f<=F/\∃A c kids r' s',kv=.slice A kids.length c/\LsSt src w g last s k f A c kids r' s' W
theorem Xc(src:BA)(f:Nat)(IH:∀m,m<=f->ExAll src m)(last:Nat)(w:World)(g:Nat)(r:Rdr)(s:Sl)(k:Int×List Int×Rdr)(h:St w g src r s)(hk:exN (sb src) (f+1) (.list last []) r=some k):
  Calls prog 305 #[.pointer (some ⟨g,0,none⟩),.int .u8 (last:Int)] w (ExL w g src s k.2.2 k.2.1):=by
 have H0:=G (show jBY src w g last s k (f+1) (f+1) (.slice none 0 0) w from⟨jL3 _,none,0,[],r,_,rfl,LsSt.start h hk⟩);have HI:=G IH;have HZ:=G h.zlt;obtain⟨i1,hj,TJ,TI,TH⟩:=info_parts Xr;clear h hk IH;go_enter func305,ntmps305;go_wp2;go_loopw [5] (fun kv wr=>∃n,jBY src w g last s k (f+1) n kv wr) (fun kv wr=>least (fun n=>jBY src w g last s k (f+1) n kv wr))
 case atStart=>exact⟨_,H0.out⟩
 case round=>
  clear H0;obtain⟨n,⟨hn,A,c,kids,r',s',rfl,F3⟩,Fj⟩:=yH hrel;have Fq:=F3.st.box.c3;have Fi:=G F3;have FO:=G Fj;cases n with
  |zero=>exact absurd F3.ex (by simp[exN])
  |succ m=>
   have F4:=F3.ex;rw[exN]at F4;by_cases ht:r'.t=last
   ·rw[jJ6 ht]at F4;obtain⟨r1,Fp,he⟩:=jM2 F4;injection he with he;have N1:=G Fp;have He:=G he;have e1:((r'.t:Int) !=(last:Int))=false:=by rw[bne,beq_iff_eq.2 (show(r'.t:Int)=(last:Int)by omega)];rfl
    clear F3 Fj hrel F4 Fp he ht;go_wp2_with (first|(go_at_call 150;refine(jN _ g src _ _ _ Fi.out.st N1.out).mono ?_;rintro e w1 ⟨rfl,hX⟩;have H1:=G hX;clear hX)|fail);go_ret;rw[<-He.out];exact Fi.out.done HZ.out H1.out.1 H1.out.2
   ·rw[jJ5 ht]at F4;split at F4
    case isFalse=>cases F4
    rename_i hlt;obtain⟨⟨b,r2⟩,Fu,F4⟩:=jM2 F4;obtain⟨q,hq,F4⟩:=jM2 F4;have K1:=G Fu;have E1:=G hq;have EX:=G F4;have L5:=G (HI.out m (by omega));have FM:=G (show kids.length+1<=maxLen by unfold maxLen;omega);have FN:=G (show(kids.length+1)*8<=140737488355328 by omega);have e1:((r'.t:Int) !=(last:Int))=true:=by rw[bne,jM3 (show(r'.t:Int)≠(last:Int)by omega)];rfl
    clear F3 Fj hrel F4 Fu hq ht hlt;go_wp2_with (first|(go_at_call 212;refine(jV _ g src _ _ _ 8 _ Fi.out.st K1.out).mono ?_;rintro e w1 ⟨rfl,hX⟩;have H1:=G hX;clear hX)|(go_at_call 217;refine(L5.out.ex _ g _ _ _ H1.out.1 E1.out).mono ?_;rintro e w2 ⟨rfl,s2,hX⟩;have H2:=G hX;clear hX;unfold iv)|(at_builtin;refine jG _ rfl (.tmp 14) (.tmp 17) 37 rfl w.heap.size 3 i1 _ 1 8 underlying37 hj TJ TI TH rfl (by decide) (.slice A kids.length c) kids.length (kids.map iv) rfl (jJ (jJ (jJ Fi.out.own H1.out.2.kp (fun b e hx=>Fi.out.st.zno b hx (by rw[Fi.out.z];right;rw[<-jA];exact e))) H2.out.2.kp (fun b e hx=>H1.out.1.zno b hx (by rw[Fi.out.z];right;rw[<-jA];exact e))) ((jQ0 NoX _).alloc _) (fun _ _ e=>e)) _ 1 1 [iv q.1] rfl (Rd.one_new _ _ _) (kI _ rfl) FM.out FN.out (jL4 (jL4 (jL4 Fi.out.kp.size H1.out.2.kp.size) H2.out.2.kp.size) ((jQ0 NoX _).alloc _).size) ?_;intro A1 c1 w3 hI hgrow F1;rw[jA]at hgrow F1;have HG:=G (Fi.out.grow H2.out.1 (H1.out.2.trans H2.out.2) EX.out ((jQ0 NoX _).alloc _) hgrow F1 hI);clear hI hgrow F1)|fail);have HL:jBY src w g last s k (f+1) m (.slice A1 (kids.length+1) c1) w3:=⟨by omega,A1,c1,kids++[q.1],_,_,by rw[jJ4];rfl,HG.out⟩;exact⟨⟨m,HL⟩,by rw[FO.out];exact kj HL (Nat.lt_succ_self m)⟩
theorem Uv(src:BA)(f:Nat)(IH:ExAll src f)(w:World)(g:Nat)(r:Rdr)(s:Sl)(k:Int×List Int×Rdr)(h:St w g src r s)(ht:r.t=19)(hk:exN (sb src) (f+1) .unary r=some k):
  Calls prog 289 #[.pointer (some ⟨g,0,none⟩)] w (Ex w g src s k.2.2 (iv k.1)):=by
 rw[exN,jJ6 ht]at hk;have Fm:=h.box.c2;have HS:=G h;have HI:=G IH;obtain⟨r1,Fp,hk⟩:=jM2 hk;obtain⟨q,hq,hk⟩:=jM2 hk;obtain⟨x,hx,hk⟩:=jM4 hk;subst hk;obtain⟨x,r'⟩:=x;have K1:=G (show jb (sb src) 19 r=some (true,r1)by rw[jb,jJ6 ht,Fp];rfl);have E1:=G hq;have NX:=G hx;clear h IH Fp hq hx ht;unfold iv;go_enter func289,ntmps289;go_wp2_with (first|(go_at_call 212;refine(jV _ g src _ _ s 19 _ HS.out K1.out).mono ?_;rintro e w1 ⟨rfl,hX⟩;have H1:=G hX;clear hX)|(go_at_call 289;refine(HI.out.un _ g _ _ _ H1.out.1 E1.out).mono ?_;rintro e w2 ⟨rfl,s2,hX⟩;have H2:=G hX;clear hX;unfold iv)|(go_at_call 257;refine(JM _ g src _ _ _ 7 _ _ [q.1] H2.out.1 NX.out).mono ?_;rintro e w3 ⟨rfl,s3,hX⟩;have H3:=G hX;clear hX;unfold iv)|fail);go_ret;exact⟨rfl,s3,H3.out.1,(H1.out.2.trans H2.out.2).trans H3.out.2⟩
theorem jD3(src:BA)(f:Nat)(w:World)(g:Nat)(r:Rdr)(s:Sl)(k:Int×List Int×Rdr)(h:St w g src r s)(NT:Uo r.t=true)(hk:exN (sb src) (f+1) .unary r=some k):
  Calls prog 289 #[.pointer (some ⟨g,0,none⟩)] w (Ex w g src s k.2.2 (iv k.1)):=by
 have ht:=jM8 NT;rcases ht with ht|ht|ht|ht|ht|ht
 all_goals
  rw[exN,jJ5 (by rw[ht];decide),jJ6 NT]at hk;have Fm:=h.box.c2;have HS:=G h;obtain⟨n,X5,hk⟩:=jM2 hk;obtain⟨r1,Fp,hk⟩:=jM2 hk;obtain⟨x,hx,hk⟩:=jM4 hk;subst hk;obtain⟨x,r'⟩:=x;have K1:=G (show jb (sb src) 19 r=some (false,r)by rw[jb,jJ5 (by rw[ht];decide)]);have HT:=G ht;have HL:=G (fun W s2 (hS:St W g src r s2)=>qY W g src r r1 r' s2 n x r.from_ hS NT X5 Fp hx);clear h Fp X5 hx ht NT;unfold iv at*;go_enter func289,ntmps289;go_wp2_with (first|(go_at_call 212;refine(jV _ g src _ _ s 19 _ HS.out K1.out).mono ?_;rintro e w1 ⟨rfl,hX⟩;have H1:=G hX;have Fm:=hX.1.box.c2;have Fq:=hX.1.box.c3;rw[HT.out]at Fq;clear hX)|fail);go_quiet (fail);go_wp2_with (first|(go_at_call 304;refine(HL.out _ _ (H1.out.1.drewN _)).mono ?_;rintro e w2 ⟨rfl,s2,hX⟩;have H2:=G hX;clear hX)|fail);go_ret;exact⟨rfl,s2,H2.out.1,(H1.out.2.trans (Fr.of_old s ((jQ0 _ _).drewN _))).trans H2.out.2⟩
theorem jCI(src:BA)(f:Nat)(IH:ExAll src f)(w:World)(g:Nat)(r:Rdr)(s:Sl)(k:Int×List Int×Rdr)(h:St w g src r s)(ht:r.t=6)(hk:exN (sb src) (f+1) .unary r=some k):
  Calls prog 289 #[.pointer (some ⟨g,0,none⟩)] w (Ex w g src s k.2.2 (iv k.1)):=by
 rw[exN,jJ5 (by rw[ht];decide),jJ5 (by rw[ht];decide),jJ6 ht]at hk;have Fm:=h.box.c2;have HS:=G h;have HI:=G IH;obtain⟨r1,Fp,hk⟩:=jM2 hk;obtain⟨q,hq,hk⟩:=jM2 hk;obtain⟨r2,FZ,hk⟩:=jM2 hk;injection hk with hk;subst hk;have K1:=G (show jb (sb src) 19 r=some (false,r)by rw[jb,jJ5 (by rw[ht];decide)]);have HT:=G ht;have N1:=G Fp;have N2:=G FZ;have E1:=G hq;clear h IH Fp hq FZ ht;unfold iv;go_enter func289,ntmps289;go_wp2_with (first|(go_at_call 212;refine(jV _ g src _ _ s 19 _ HS.out K1.out).mono ?_;rintro e w1 ⟨rfl,hX⟩;have H1:=G hX;have Fm:=hX.1.box.c2;have Fq:=hX.1.box.c3;rw[HT.out]at Fq;clear hX)|fail);go_quiet (fail);go_wp2_with (first|(go_at_call 150;first|(refine(jN _ g src _ _ s (H1.out.1.drewN _) N1.out).mono ?_;rintro e w2 ⟨rfl,hX⟩;have H2:=G hX;clear hX)|(refine(jN _ g src _ _ _ H3.out.1 N2.out).mono ?_;rintro e w4 ⟨rfl,hX⟩;have H4:=G hX;clear hX))|(go_at_call 217;refine(HI.out.ex _ g _ _ _ H2.out.1 E1.out).mono ?_;rintro e w3 ⟨rfl,s3,hX⟩;have H3:=G hX;clear hX;unfold iv)|fail);go_ret;exact⟨rfl,s3,H4.out.1,(((H1.out.2.trans (Fr.of_old s ((jQ0 _ _).drewN _))).trans H2.out.2).trans H3.out.2).trans H4.out.2⟩
theorem jCH(src:BA)(f:Nat)(IH:ExAll src f)(w:World)(g:Nat)(r:Rdr)(s:Sl)(k:Int×List Int×Rdr)(h:St w g src r s)(ht:r.t=4)(hk:exN (sb src) (f+1) .unary r=some k):
  Calls prog 289 #[.pointer (some ⟨g,0,none⟩)] w (Ex w g src s k.2.2 (iv k.1)):=by
 rw[exN,jJ5 (by rw[ht];decide),jJ5 (by rw[ht];decide),jJ5 (by rw[ht];decide),jJ6 ht]at hk;have Fm:=h.box.c2;have HS:=G h;have HI:=G IH;obtain⟨r1,Fp,hk⟩:=jM2 hk;obtain⟨q,hq,hk⟩:=jM2 hk;obtain⟨x,hx,hk⟩:=jM4 hk;subst hk;obtain⟨x,r'⟩:=x;have K1:=G (show jb (sb src) 19 r=some (false,r)by rw[jb,jJ5 (by rw[ht];decide)]);have HT:=G ht;have N1:=G Fp;have E1:=G hq;have NX:=G hx;clear h IH Fp hq hx ht;unfold iv;go_enter func289,ntmps289;go_wp2_with (first|(go_at_call 212;refine(jV _ g src _ _ s 19 _ HS.out K1.out).mono ?_;rintro e w1 ⟨rfl,hX⟩;have H1:=G hX;have Fm:=hX.1.box.c2;have Fq:=hX.1.box.c3;rw[HT.out]at Fq;clear hX)|fail);go_quiet (fail);go_wp2_with (first|(go_at_call 150;refine(jN _ g src _ _ s (H1.out.1.drewN _) N1.out).mono ?_;rintro e w2 ⟨rfl,hX⟩;have H2:=G hX;clear hX)|(go_at_call 305;refine(HI.out.ls 5 _ g _ _ _ H2.out.1 E1.out).mono ?_;rintro e w3 ⟨A3,c3,s3,rfl,hX⟩;have H3:=G hX;clear hX)|(go_at_call 257;refine(vR _ g src _ _ _ 6 _ _ A3 c3 q.2.1 H3.out.2.2.1 H3.out.1 H3.out.2.1 NX.out).mono ?_;rintro e w4 ⟨rfl,s4,hX⟩;have H4:=G hX;clear hX;unfold iv)|fail);go_ret;exact⟨rfl,s4,H4.out.1,(((H1.out.2.trans (Fr.of_old s ((jQ0 _ _).drewN _))).trans H2.out.2).trans H3.out.2.2.2).trans H4.out.2⟩
theorem qU{n:Nd}{at_:Nat}{r r' :Rdr}{x:Int}(op:Int)(h:vJ n at_ r=some (x,r')):vJ (jn op []) at_ r=some (x,{r' with tree:={r'.tree with nodes:=r.tree.nodes++[jn op []]}})/\r'.tree.nodes=r.tree.nodes++[n]/\x=(r.tree.nodes.length:Int)/\r.tree.nodes.length<1000000:=by
 unfold vJ at h⊢;split at h
 case isFalse=>cases h
 rename_i hlt;injection h with h;injection h with h1 h2;rw[jJ6 hlt];subst h1 h2;exact⟨rfl,rfl,rfl,hlt.1⟩
theorem jD4(src:BA)(f:Nat)(w:World)(g:Nat)(r:Rdr)(s:Sl)(k:Int×List Int×Rdr)(h:St w g src r s)(ht:r.t=49\/r.t=52\/r.t=31)(hk:exN (sb src) (f+1) .unary r=some k):
  Calls prog 289 #[.pointer (some ⟨g,0,none⟩)] w (Ex w g src s k.2.2 (iv k.1)):=by
 rcases ht with ht|ht|ht
 all_goals
  rw[exN,jJ5 (by rw[ht];decide),jJ5 (by rw[ht];decide),jJ5 (by rw[ht];decide),jJ5 (by rw[ht];decide),jJ5 (by rw[ht];decide)]at hk;have Fm:=h.box.c2;have HS:=G h;obtain⟨r1,Fp,hk⟩:=jM2 hk;obtain⟨r2,FZ,hk⟩:=jM2 hk;rw[jJ6 (by rw[ht];decide)]at hk;obtain⟨⟨nm,na,r3⟩,hm,hk⟩:=jM2 hk;obtain⟨r4,MD,hk⟩:=jM2 hk;obtain⟨x,hx,hk⟩:=jM4 hk;subst hk;obtain⟨x,r'⟩:=x;obtain⟨h1,h2,h3,h4⟩:=qU (QB r.t) hx;rw[ht]at h1 h2;have K1:=G (show jb (sb src) 19 r=some (false,r)by rw[jb,jJ5 (by rw[ht];decide)]);have HT:=G ht;have N1:=G Fp;have N2:=G FZ;have NM:=G hm;have N4:=G MD;have HB:=G h1;have HN:=G h2;generalize hq:r4.tree.nodes.length=q at*;subst h3;clear h Fp FZ hm MD hx ht h1 h2;have f1:(0:Int)<=(q:Int):=(by omega);have f2:(q:Int).toNat=q:=(by omega);have f3:(q:Int)<(q:Int)+1:=(by omega);unfold iv;go_enter func289,ntmps289;go_wp2_with (first|(go_at_call 212;refine(jV _ g src _ _ s 19 _ HS.out K1.out).mono ?_;rintro e w1 ⟨rfl,hX⟩;have H1:=G hX;have Fm:=hX.1.box.c2;have Fq:=hX.1.box.c3;rw[HT.out]at Fq;clear hX)|fail);go_quiet (fail);go_wp2_with (first|(go_at_call 150;first|(refine(jN _ g src _ _ s (H1.out.1.drewN _) N1.out).mono ?_;rintro e w2 ⟨rfl,hX⟩;have H2:=G hX;clear hX)|(refine(jN _ g src _ _ _ H2.out.1 N2.out).mono ?_;rintro e w3 ⟨rfl,hX⟩;have H3:=G hX;clear hX)|(refine(jN _ g src _ _ _ H4.out.1 N4.out).mono ?_;rintro e w5 ⟨rfl,hX⟩;have H5:=G hX;clear hX))|(go_at_call 151;refine(yh _ g src _ _ _ _ _ H3.out.1 NM.out).mono ?_;rintro e w4 ⟨rfl,hX⟩;have H4:=G hX;clear hX;unfold iv)|(go_at_call 306;refine(Ua _ (by decide) _).mono ?_;rintro e w5 ⟨rfl,rfl⟩;unfold iv)|(go_at_call 257;refine(vR _ g src _ _ s _ _ _ none 0 [] H5.out.1 Rd.none_ (fun h0=>absurd h0 (Nat.lt_irrefl 0)) HB.out).mono ?_;rintro e w6 ⟨rfl,s6,hY,N9⟩;obtain⟨kk,ns,xx,ps,NL,GO,Fk,GS⟩:=hY.lastC rfl hq;have d1:=(Fk.cell 1 rfl).1;have z1:=(Fk.cell 1 rfl).2;have Wu:=G Fk;have HF:=G N9;clear Fk hY N9;unfold iv)|fail);go_ret;have HD:=G ((Wu.out.set_ 1 (.string nm)).lit GO HN.out rfl rfl xx.vA xx.vc (by simp only[ndC,NL];rfl));exact⟨rfl,s6,HD.out.1,((((((H1.out.2.trans (Fr.of_old s ((jQ0 _ _).drewN _))).trans H2.out.2).trans H3.out.2).trans H4.out.2).trans H5.out.2).trans HF.out).trans HD.out.2⟩
theorem jCJ(src:BA)(f:Nat)(IH:ExAll src f)(w:World)(g:Nat)(r:Rdr)(s:Sl)(k:Int×List Int×Rdr)(h:St w g src r s)(ht:r.t=50\/r.t=51\/r.t=53\/r.t=54\/r.t=55\/r.t=56\/r.t=57)(hk:exN (sb src) (f+1) .unary r=some k):
  Calls prog 289 #[.pointer (some ⟨g,0,none⟩)] w (Ex w g src s k.2.2 (iv k.1)):=by
 rcases ht with ht|ht|ht|ht|ht|ht|ht
 all_goals
  rw[exN,jJ5 (by rw[ht];decide),jJ5 (by rw[ht];decide),jJ5 (by rw[ht];decide),jJ5 (by rw[ht];decide),jJ5 (by rw[ht];decide)]at hk;have Fm:=h.box.c2;have HS:=G h;have HI:=G IH;obtain⟨r1,Fp,hk⟩:=jM2 hk;obtain⟨r2,FZ,hk⟩:=jM2 hk;rw[jJ5 (by rw[ht];decide)]at hk;obtain⟨q,hq,hk⟩:=jM2 hk;obtain⟨x,hx,hk⟩:=jM4 hk;subst hk;obtain⟨x,r'⟩:=x;rw[ht]at hx;have K1:=G (show jb (sb src) 19 r=some (false,r)by rw[jb,jJ5 (by rw[ht];decide)]);have HT:=G ht;have N1:=G Fp;have N2:=G FZ;have E1:=G hq;have NX:=G hx;clear h IH Fp FZ hq hx ht;unfold iv;go_enter func289,ntmps289;go_wp2_with (first|(go_at_call 212;refine(jV _ g src _ _ s 19 _ HS.out K1.out).mono ?_;rintro e w1 ⟨rfl,hX⟩;have H1:=G hX;have Fm:=hX.1.box.c2;have Fq:=hX.1.box.c3;rw[HT.out]at Fq;clear hX)|fail);go_quiet (fail);go_wp2_with (first|(go_at_call 150;first|(refine(jN _ g src _ _ s (H1.out.1.drewN _) N1.out).mono ?_;rintro e w2 ⟨rfl,hX⟩;have H2:=G hX;clear hX)|(refine(jN _ g src _ _ _ H2.out.1 N2.out).mono ?_;rintro e w3 ⟨rfl,hX⟩;have H3:=G hX;clear hX))|(go_at_call 305;refine(HI.out.ls 7 _ g _ _ _ H3.out.1 E1.out).mono ?_;rintro e w4 ⟨A4,c4,s4,rfl,hX⟩;have H4:=G hX;clear hX)|(go_at_call 306;refine(Ua _ (by decide) _).mono ?_;rintro e w5 ⟨rfl,rfl⟩;unfold iv)|(go_at_call 257;refine(vR _ g src _ _ _ _ _ _ A4 c4 q.2.1 H4.out.2.2.1 H4.out.1 H4.out.2.1 NX.out).mono ?_;rintro e w6 ⟨rfl,s6,hX⟩;have H6:=G hX;clear hX;unfold iv)|fail);go_ret;exact⟨rfl,s6,H6.out.1,((((H1.out.2.trans (Fr.of_old s ((jQ0 _ _).drewN _))).trans H2.out.2).trans H3.out.2).trans H4.out.2.2.2).trans H6.out.2⟩
theorem jCG(src:BA)(f:Nat)(IH:ExAll src f)(w:World)(g:Nat)(r:Rdr)(s:Sl)(k:Int×List Int×Rdr)(h:St w g src r s)(hk:exN (sb src) (f+1) .unary r=some k):
  Calls prog 289 #[.pointer (some ⟨g,0,none⟩)] w (Ex w g src s k.2.2 (iv k.1)):=by
 by_cases G6:r.t=19
 ·exact Uv src f IH w g r s k h G6 hk
 by_cases hl:Uo r.t=true
 ·exact jD3 src f w g r s k h hl hk
 by_cases h6:r.t=6
 ·exact jCI src f IH w g r s k h h6 hk
 by_cases h4:r.t=4
 ·exact jCH src f IH w g r s k h h4 hk
 have Fu:=hk;rw[exN,jJ5 G6,jJ5 hl,jJ5 h6,jJ5 h4]at Fu;split at Fu
 ·cases Fu
 rename_i hc;have hc:=Classical.not_not.1 hc;have:(r.t=49\/r.t=52\/r.t=31)\/r.t=50\/r.t=51\/r.t=53\/r.t=54\/r.t=55\/r.t=56\/r.t=57:=(by omega);exact this.elim (fun e=>jD4 src f w g r s k h e hk) (fun e=>jCJ src f IH w g r s k h e hk)
end Go.Proofs.YtifbhcfdealfaaaGreatDoor

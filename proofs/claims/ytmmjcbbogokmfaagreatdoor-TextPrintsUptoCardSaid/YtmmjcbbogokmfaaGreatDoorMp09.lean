import Derived.Test.YtmmjcbbogokmfaaGreatDoorMp08
set_option maxRecDepth 100000
set_option maxHeartbeats 25600000
namespace Go.Proofs.YtmmjcbbogokmfaaGreatDoor
open Go.Proofs.Tryz
open Go.RowKit
theorem Vw:∀(l:LB) (k:Nat),strLen l=some k->k<=l.length
 |[],k,h=>by rw[strLen]at h;cases h
 |[c],k,h=>by
  rw[strLen]at h;split at h
  ·injection h with h;simp only[jK6,jN2];omega
  ·split at h
   ·cases h
   ·obtain⟨q,hq,rfl⟩:=jM4 h;rw[strLen]at hq;cases hq
 |c::d::l,k,h=>by
  rw[strLen]at h;split at h
  ·injection h with h;simp only[jK6];omega
  ·split at h
   ·obtain⟨q,hq,rfl⟩:=jM4 h;have:=Vw l q hq;simp only[jK6];omega
   ·obtain⟨q,hq,rfl⟩:=jM4 h;have:=Vw (d::l) q hq;simp only[jK6]at this⊢;omega
theorem jDE(l:LB)(n t:Nat)(h:jGm l=some (n,t)):n<=l.length/\t<58:=by
 cases l with
 |nil=>cases h
 |cons c l=>
  rw[jGm]at h;split at h
  ·injection h with h;injection h with h1 h2;rw[<-h1,<-h2];exact⟨vX _ _,KP _⟩
  ·split at h
   ·obtain⟨q,hq,e⟩:=jM4 h;injection e with e1 e2;have:=Vw l q hq;rw[<-e1,<-e2];exact⟨by simp only[jK6];omega,by decide⟩
   ·split at h
    ·rename_i hh;injection h with h;injection h with h1 h2;rw[<-h1,<-h2];refine⟨?_,vh _⟩;cases l with
     |nil=>exact absurd hh.1 (by decide)
     |cons d l=>simp only[jK6];omega
    ·injection h with h;injection h with h1 h2;rw[<-h1,<-h2];exact⟨by simp only[jK6];omega,vh _⟩
theorem jAv(src:LB)(r r' :Rdr)(h:kA src r=some r')(ha:r.at_ <=src.length)(ht:r.t<58):r'.from_ <=r'.at_ /\r'.at_ <=src.length/\r'.t<58/\r'.tree=r.tree/\r'.order=r.order:=by
 have hK:=Km false (src.drop r.at_);rw[jK8]at hK;unfold kA at h;have hk:r.at_ +kD false (src.drop r.at_)<=src.length:=(by omega);generalize r.at_ +kD false (src.drop r.at_)=K at*;simp only at h;split at h
 ·injection h with h;rw[<-h];exact⟨jL3 _,hk,ht,rfl,rfl⟩
 ·obtain⟨x,hx,e⟩:=jM4 h;obtain⟨n,t⟩:=x;have:=jDE _ n t hx;rw[jK8]at this;rw[<-e];exact⟨by simp only;omega,by simp only;omega,this.2,rfl,rfl⟩
def Sc(w:World)(g:Nat)(src:BA)(s:Sl)(r' :Rdr)(v:Value)(e:Ending)(w' :World):Prop:=e=.returned v/\St w' g src r' s/\Fr g s s w w'
theorem jZ(w:World)(g:Nat)(src:BA)(r r' :Rdr)(s:Sl)(h:St w g src r s)(hn:kA (sb src) r=some r'):
  Calls prog 135 #[.pointer (some ⟨g,0,none⟩)] w (Sc w g src s r' (.tuple #[])):=by
 refine(jC2 w h.sg g h.g8 src r r' _ h.box h.at_ h.small hn).mono ?_;rintro e w' ⟨rfl,hb,hk⟩;have hf:=jAv (sb src) r r' hn (by rw[jB];exact h.at_) h.t58;rw[jB]at hf;exact⟨rfl,h.scan hb hf.2.2.2.1 hk hf.1 hf.2.1 hf.2.2.1⟩
theorem yo(w:World)(g:Nat)(src:BA)(r:Rdr)(s:Sl)(h:St w g src r s):
  Calls prog 165 #[.pointer (some ⟨g,0,none⟩)] w fun e w' =>e=.returned (.string ⟨(kn (sb src) r).toArray⟩)/\∃n,w' =w.drewN n:=by
 have:=Kx w g src r _ h.box h.from_ h.at_
 rwa [<-jAx (src.extract r.from_ r.at_),jAB]at this
noncomputable def least (p:Nat->Prop):Nat:=Classical.epsilon fun n=>p n/\∀m,p m->n<=m
theorem ZH{p:Nat->Prop}(h:∃n,p n):p (least p)/\∀m,p m->least p<=m:=by
 refine Classical.epsilon_spec (p:=fun n=>p n/\∀m,p m->n<=m) ?_;obtain⟨n,hn⟩:=h
 induction n using Nat.strongRecOn with
 |_ n ih=>
  rcases Classical.em (∃m,m<n/\p m)with⟨m,hm,hp⟩|S3
  ·exact ih m hm hp
  ·exact⟨n,hn,fun m hm=>Nat.le_of_not_lt fun hlt=>S3 ⟨m,hlt,hm⟩⟩
theorem zF{p:Nat->Prop}(h:∃n,p n):∃n,p n/\least p=n:=⟨_,(ZH h).1,rfl⟩
theorem vP{p:Nat->Prop}{n m:Nat}(h:p n)(k:n<m):least p<m:=Nat.lt_of_le_of_lt ((ZH ⟨n,h⟩).2 n h) k
theorem St.setOrder{w:World}{g:Nat}{src:BA}{r:Rdr}{s:Sl}(h:St w g src r s)(k:Nat):
  St (w.setCell ⟨g,4,none⟩ (.int .i64 (k:Int))) g src {r with order:=k} s/\Fr g s s w (w.setCell ⟨g,4,none⟩ (.int .i64 (k:Int))):=
 h.scan (h.box.setOrder k).1 rfl (h.box.setOrder k).2 h.from_ h.at_ h.t58
theorem jk(w:World)(g:Nat)(src:BA)(r r' :Rdr)(s:Sl)(t:Nat)(b:Bool)(h:St w g src r s)(hk:kJ (sb src) t r=some (b,r')):
  Calls prog 167 #[.pointer (some ⟨g,0,none⟩),.int .u8 (t:Int)] w (Sc w g src s r' (.bool b)):=by
 have Fo:=h.box.c3;have HS:=G h;unfold kJ at hk;by_cases ht:r.t=t
 ·rw[jJ6 ht]at hk;obtain⟨r1,hn,he⟩:=jM4 hk;injection he with e1 e2;subst e1 e2;have HN:=G hn;have e1:((r.t:Int)==(t:Int))=true:=beq_iff_eq.2 (by omega);clear h hk hn ht;go_enter func167,ntmps167;go_wp2_with (go_at_call 135;refine(jZ _ g src _ _ s HS.out HN.out).mono ?_;rintro e w1 ⟨rfl,hX⟩);go_ret;exact⟨rfl,hX⟩
 ·rw[jJ5 ht]at hk;injection hk with hk;injection hk with e1 e2;subst e1 e2;have e1:((r.t:Int)==(t:Int))=false:=jM3 (by omega);clear h ht;go_enter func167,ntmps167;go_wp2;go_ret;exact⟨rfl,HS.out,Fr.refl _ _ _⟩
theorem zj(w:World)(g:Nat)(src:BA)(r r' :Rdr)(s:Sl)(x:BA)(at_:Int)(h:St w g src r s)(hk:xB (sb src) r=some (x,at_,r')):
  Calls prog 136 #[.pointer (some ⟨g,0,none⟩)] w (Sc w g src s r' (.tuple #[.string x,iv at_])):=by
 have FE:=h.box.c2;have HS:=G h;unfold xB at hk;obtain⟨r1,hn,he⟩:=jM4 hk;injection he with e1 e2;injection e2 with e2 e3;subst e1 e2 e3;have HN:=G hn;have HL:=G (fun n=>yo (w.drewN n) g src r s (h.drewN n));generalize kn (sb src) r=lx at*;clear h hk hn;go_enter func136,ntmps136;go_wp2;go_quiet ((go_at_call 165;exact Calls.quiet_of (HL.out _)));go_wp2_with (go_at_call 135;refine(jZ _ g src _ _ s (HS.out.drewN _) HN.out).mono ?_;rintro e w1 ⟨rfl,hX⟩)
 go_ret2
 exact⟨rfl,hX.1,(Fr.of_old s ((jQ0 _ _).drewN _)).trans hX.2⟩
theorem zK(w:World)(g:Nat)(src:BA)(r r' :Rdr)(s:Sl)(x:BA)(at_ o:Int)(h:St w g src r s)(hk:Xt (sb src) r=some (x,at_,o,r')):
  Calls prog 166 #[.pointer (some ⟨g,0,none⟩)] w (Sc w g src s r' (.tuple #[.string x,iv at_,iv o])):=by
 have HS:=G h;unfold Xt at hk;obtain⟨r1,hn,hk⟩:=jM2 hk;obtain⟨y,hm,hk⟩:=jM2 hk;obtain⟨x1,a1,r2⟩:=y;simp only at hk;split at hk
 case isFalse=>cases hk
 rename_i ho;injection hk with he;injection he with e1 e2;injection e2 with e2 e3;injection e3 with e3 e4;subst e1 e2 e3 e4;have HN:=G hn;have HM:=G hm;have q0:IntKind.i64.wrap ((r2.order:Int)+1)=(r2.order:Int)+1:=jQ3 _ (by omega);have q1:RowKit.wrap64 (r2.order:Int)=(r2.order:Int):=IntWalk.wrap64_in _ (by omega);clear h hn hm ho hk;go_enter func166,ntmps166;go_wp2_with (first|(go_at_call 135;refine(jZ _ g src _ _ s HS.out HN.out).mono ?_;rintro e w1 ⟨rfl,hX⟩;have HX:=G hX;clear hX)|(go_at_call 136;refine(zj _ g src _ _ s _ _ HX.out.1 HM.out).mono ?_;rintro e w2 ⟨rfl,hY⟩;have Li:=hY.1.box.c4;have Sx:=hY.1.box.z 4;have HZ:=hY.1.setOrder (r2.order+1);rw[show((r2.order+1:Nat):Int)=(r2.order:Int)+1 by omega]at HZ;have HZ:=G HZ;have HF:=G (HX.out.2.trans hY.2);clear hY));generalize hW:World.setCell _ _ _=W at*;have Li:=HZ.out.1.box.c4;simp only[show((r2.order+1:Nat):Int)=(r2.order:Int)+1 by omega]at Li;clear hW;go_quiet (fail);go_wp2
 go_ret3
 exact⟨by rw[q1];rfl,HZ.out.1.drewN _,HF.out.trans (HZ.out.2.trans (Fr.of_old s ((jQ0 _ _).drewN _)))⟩
theorem jBQ(w:World)(g:Nat)(src:BA)(r r' :Rdr)(s:Sl)(x:BA)(at_:Int)(h:St w g src r s)(hk:inN (sb src) r=some (x,at_,r')):
  Calls prog 170 #[.pointer (some ⟨g,0,none⟩)] w (Sc w g src s r' (.tuple #[.string x,iv at_])):=by
 have HS:=G h;unfold inN at hk;by_cases h28:r.t=28
 ·rw[jJ6 h28]at hk;obtain⟨r1,hn,hm⟩:=jM2 hk;have HK:=G (show kJ (sb src) 28 r=some (true,r1)by rw[kJ,jJ6 h28,hn];rfl);have HM:=G hm;clear h hn hm hk h28;go_enter func170,ntmps170;go_wp2_with (first|(go_at_call 167;refine(jk _ g src _ _ s 28 _ HS.out HK.out).mono ?_;rintro e w1 ⟨rfl,hX⟩;have HX:=G hX;clear hX)|(go_at_call 136;refine(zj _ g src _ _ s _ _ HX.out.1 HM.out).mono ?_;rintro e w2 ⟨rfl,hY⟩))
  go_ret2
  exact⟨rfl,hY.1,HX.out.2.trans hY.2⟩
 ·rw[jJ5 h28]at hk;injection hk with hk;injection hk with e1 e2;injection e2 with e2 e3;subst e1 e2 e3;have HK:=G (show kJ (sb src) 28 r=some (false,r)by rw[kJ,jJ5 h28]);clear h h28;go_enter func170,ntmps170;go_wp2_with (first|(go_at_call 167;refine(jk _ g src _ _ s 28 _ HS.out HK.out).mono ?_;rintro e w1 ⟨rfl,hX⟩))
  go_ret2
  exact⟨rfl,hX⟩
theorem Qk(w:World)(g:Nat)(src:BA)(r r' :Rdr)(s:Sl)(k:Int)(h:St w g src r s)(hk:jDK (sb src) r=some (k,r')):
  Calls prog 168 #[.pointer (some ⟨g,0,none⟩)] w (Sc w g src s r' (iv k)):=by
 have HS:=G h;have Fo:=h.box.c3;unfold jDK at hk;split at hk
 case isFalse=>cases hk
 rename_i ht;obtain⟨r1,hn,he⟩:=jM2 hk;injection he with he;injection he with e1 e2;subst e1 e2;have HN:=G hn;obtain⟨q,hq,Iq⟩:∃q,r.t=q+34/\q<=4:=⟨r.t-34,by omega,by omega⟩;clear h hn hk ht;go_enter func168,ntmps168;go_wp2_with (first|(go_at_call 135;refine(jZ _ g src _ _ s HS.out HN.out).mono ?_;rintro e w1 ⟨rfl,hX⟩));go_ret;exact⟨congrArg Ending.returned (congrArg (Value.int .i64) (show 1+(q:Int)=(r.t:Int)-33 by omega)),hX⟩
def Ex(w:World)(g:Nat)(src:BA)(s:Sl)(r' :Rdr)(v:Value)(e:Ending)(w' :World):Prop:=e=.returned v/\∃s',St w' g src r' s' /\Fr g s s' w w'
theorem Ex.of{w w1 w' :World}{g:Nat}{src:BA}{s s1:Sl}{r' :Rdr}{v:Value}{e:Ending}(f:Fr g s s1 w w1)(h:Ex w1 g src s1 r' v e w'):Ex w g src s r' v e w' :=
 ⟨h.1,h.2.elim fun s' hs=>⟨s',hs.1,f.trans hs.2⟩⟩
theorem Sc.ex{w w' :World}{g:Nat}{src:BA}{s:Sl}{r' :Rdr}{v:Value}{e:Ending}(h:Sc w g src s r' v e w'):Ex w g src s r' v e w' :=⟨h.1,s,h.2⟩
theorem St.last{w:World}{g:Nat}{src:BA}{r:Rdr}{s:Sl}(h:St w g src r s){L:List Nd}{m:Nd}(hl:r.tree.nodes=L++[m]):
  ∃ns x ps,x.n=m/\ns.map (·.n)=L/\TRows w (AX g s) r.tree s (ns++[x]) ps:=by
 obtain⟨ns,ps,hR⟩:=h.rows;have hn:=hR.ne;rw[hl]at hn;obtain⟨n1,n2,rfl,h1,h2⟩:=List.map_eq_append_iff.1 hn;obtain⟨x,l,rfl,h3,h4⟩:=List.map_eq_cons_iff.1 h2;rw[List.map_eq_nil_iff.1 h4]at hR;exact⟨n1,x,ps,h3,h1,hR⟩
theorem St.turn{w w' :World}{g:Nat}{src:BA}{r:Rdr}{s:Sl}(h:St w g src r s){ns:List MNd}{x x' :MNd}{ps:List MSt}(hR:TRows w (AX g s) r.tree s (ns++[x]) ps)
  (hk:Kp (fun b=>s.nA.map (·.block)=some b) w w') (ho:w'.ownsRow 8 46 7 (.slice s.nA r.tree.nodes.length s.nc) r.tree.nodes.length (ns.flatMap ndC++ndC x')) (hx:OkN w (AX g s) x'):
  St w' g src {r with tree:={r.tree with nodes:=ns.map (·.n)++[x'.n]}} s/\Fr g s s w w' :=by
 have hf:Fr g s s w w' :=⟨hk.mono (fun b _ e=>by first|exact .inl e|exact .inr (.inl e)|exact .inr (.inr (.inl e))|exact .inr (.inr (.inr (.inl e)))|exact .inr (.inr (.inr (.inr (.inl e))))|exact .inr (.inr (.inr (.inr (.inr (.inl e)))))|exact .inr (.inr (.inr (.inr (.inr (.inr (e))))))),fun _ _ e=>e,rfl⟩;have hlen:(ns.map (·.n)++[x'.n]).length=r.tree.nodes.length:=by rw[<-hR.ne];simp
 have Rf:s.nA.map (·.block)≠some g:=by rw[<-jC];exact jY hR.rN h.box (by decide)
 have K:∀{e:TypeId} {z:Nat} {v:Value} {n:Nat} {xs:List Value},w.ownsRow 8 e z v n xs->e≠46->w'.ownsRow 8 e z v n xs:=fun ho Fh=>
  jV ho hk (fun k e e' =>Kr ho hR.rN Fh k e (by rw[jC];exact e'))
 refine⟨⟨h.sgf hf,h.g8,h.small,?_,⟨ns++[x'],ps,?_⟩,h.from_,h.at_,h.t58,fun b hz=>jL8 (h.zlt b hz) hk.size,h.z8,h.zno⟩,hf⟩
 ·have hb:=h.box.kp hk Rf;unfold Rb at hb⊢;simp only[rdC,jF,hlen]at hb⊢;exact hb
 ·constructor
  case rA=>exact K hR.rA (by decide)
  case rG=>exact K hR.rG (by decide)
  case rM=>exact K hR.rM (by decide)
  case rP=>exact K hR.rP (by decide)
  case rO=>exact K hR.rO (by decide)
  case rN=>
   simp only[hlen,jN5,List.flatMap_singleton];exact ho
  case pe=>exact hR.pe
  case ne=>simp
  case po=>exact fun y hy=>(hR.po y hy).fr hf
  case no=>exact fun y hy=>(jM6 hy).elim (fun hy=>(hR.no y (List.mem_append.2 (.inl hy))).fr hf) (fun hy=>by rw[jM7 hy];exact hx.fr hf)
theorem jCv(x:MNd):∀u∈ndC x,u.oneCell' =true:=by
 intro u hu;simp only[ndC,iv,List.mem_cons,List.mem_nil_iff,or_false]at hu;rcases hu with rfl|rfl|rfl|rfl|rfl|rfl|rfl<;>rfl
theorem Rd.one_at(w:World)(t:TypeId)(u:Value){n:Nat}(hn:n=w.heap.size):Rd (w.alloc (.cells #[u] t)) 1 (some ⟨n,0,none⟩) 1 [u]:=hn▸Rd.one_new w t u
theorem St.eight{w:World}{g:Nat}{src:BA}{r:Rdr}{s:Sl}(h:St w g src r s):8<=w.heap.size:=by have:=h.lt;have:=h.g8;omega
theorem St.pastA{w w1 w2:World}{g:Nat}{src:BA}{r:Rdr}{s:Sl}{ns:List MNd}{ps:List MSt}(hs:St w g src r s)(h:TRows w (AX g s) r.tree s ns ps)(h1:Old w w1)(Ns:w1.grownBy w2 (s.aA.map (·.block))):Rb w2 g src r (jF r.tree s):=
 (hs.box.old h1).kp (ZI Ns) (by rw[<-jC];exact jY h.rA hs.box (by decide))
theorem St.pastG{w w1 w2:World}{g:Nat}{src:BA}{r:Rdr}{s:Sl}{ns:List MNd}{ps:List MSt}(hs:St w g src r s)(h:TRows w (AX g s) r.tree s ns ps)(h1:Old w w1)(Ns:w1.grownBy w2 (s.gA.map (·.block))):Rb w2 g src r (jF r.tree s):=
 (hs.box.old h1).kp (ZI Ns) (by rw[<-jC];exact jY h.rG hs.box (by decide))
theorem St.pastM{w w1 w2:World}{g:Nat}{src:BA}{r:Rdr}{s:Sl}{ns:List MNd}{ps:List MSt}(hs:St w g src r s)(h:TRows w (AX g s) r.tree s ns ps)(h1:Old w w1)(Ns:w1.grownBy w2 (s.mA.map (·.block))):Rb w2 g src r (jF r.tree s):=
 (hs.box.old h1).kp (ZI Ns) (by rw[<-jC];exact jY h.rM hs.box (by decide))
theorem St.pastP{w w1 w2:World}{g:Nat}{src:BA}{r:Rdr}{s:Sl}{ns:List MNd}{ps:List MSt}(hs:St w g src r s)(h:TRows w (AX g s) r.tree s ns ps)(h1:Old w w1)(Ns:w1.grownBy w2 (s.pA.map (·.block))):Rb w2 g src r (jF r.tree s):=
 (hs.box.old h1).kp (ZI Ns) (by rw[<-jC];exact jY h.rP hs.box (by decide))
theorem St.pastN{w w1 w2:World}{g:Nat}{src:BA}{r:Rdr}{s:Sl}{ns:List MNd}{ps:List MSt}(hs:St w g src r s)(h:TRows w (AX g s) r.tree s ns ps)(h1:Old w w1)(Ns:w1.grownBy w2 (s.nA.map (·.block))):Rb w2 g src r (jF r.tree s):=
 (hs.box.old h1).kp (ZI Ns) (by rw[<-jC];exact jY h.rN hs.box (by decide))
theorem St.pastO{w w1 w2:World}{g:Nat}{src:BA}{r:Rdr}{s:Sl}{ns:List MNd}{ps:List MSt}(hs:St w g src r s)(h:TRows w (AX g s) r.tree s ns ps)(h1:Old w w1)(Ns:w1.grownBy w2 (s.oA.map (·.block))):Rb w2 g src r (jF r.tree s):=
 (hs.box.old h1).kp (ZI Ns) (by rw[<-jC];exact jY h.rO hs.box (by decide))
def jB3(op:Int)(kids:List Int)(A:OA)(c:Nat):MNd:=⟨yw op kids,A,c,none,0⟩
theorem yK(w:World)(g:Nat)(src:BA)(r r' :Rdr)(s:Sl)(op x:Int)(at_:Nat)(A:OA)(c:Nat)(kids:List Int)(h:St w g src r s)(hr:Rd w 1 A kids.length (kids.map iv))(ha:Av (AX g s) kids.length A)
  (hn:ye (yw op kids) at_ r=some (x,r')):
  Calls prog 201 #[.pointer (some ⟨g,0,none⟩),iv op,iv (at_:Int),.slice A kids.length c] w (Ex w g src s r' (iv x)):=by
 unfold ye at hn;split at hn
 case isFalse=>cases hn
 rename_i hlt;injection hn with hn;injection hn with e1 e2;subst e1 e2;obtain⟨ns,ps,hR⟩:=h.rows;have HS:=G h;have HR:=G hR;have Wh:=G (show OkN w (AX g s) (jB3 op kids A c)from⟨hr,ha,Rd.none_,fun h0=>absurd h0 (Nat.lt_irrefl 0)⟩);have NS:w.cell? ⟨g,11,none⟩=some (.slice s.nA r.tree.nodes.length s.nc):=Blk.at_ h.box 11 rfl;have HO:=G ((jQ0 NoX w).alloc (.cells (ndC (jB3 op kids A c)).toArray 46));have H8:=G (show 8<=w.heap.size by have:=h.lt;have:=h.g8;omega);obtain⟨i0,hi,Fm,Fi,Fl⟩:=info_parts jDQ;obtain⟨i1,hj,Ca,C9,C8⟩:=info_parts jBP;have GA:=G (show r.tree.nodes.length+1<=maxLen by unfold maxLen;omega);have GH:=G (show(r.tree.nodes.length+1)*104<=140737488355328 by omega);have J63:=G (show r.tree.ats.length+1<=maxLen by unfold maxLen;omega);have J47:=G (show(r.tree.ats.length+1)*8<=140737488355328 by omega);have q1:IntKind.i64.wrap ((r.tree.nodes.length:Int)+1-1)=(r.tree.nodes.length:Int):=by rw[show(r.tree.nodes.length:Int)+1-1=(r.tree.nodes.length:Int)by omega];exact jQ3 _ (by omega)
 have q2:RowKit.wrap64 (r.tree.nodes.length:Int)=(r.tree.nodes.length:Int):=IntWalk.wrap64_in _ (by omega);clear h hR hr ha hlt;unfold iv;go_enter func201,ntmps201;go_wp2_with (first|(at_builtin;refine jE _ rfl (.tmp 14) (.tmp 18) 26 rfl 8 46 i0 _ 7 104 underlying26 hi Fm Fi Fl rfl (by decide) (.slice s.nA r.tree.nodes.length s.nc) r.tree.nodes.length (ns.flatMap ndC) rfl (jV HR.out.rN HO.out (fun _ _ e=>e)) _ 1 1 (ndC (jB3 op kids A c)) rfl (Rd.row_new _ _ 7 1 _ rfl) (jCv _) GA.out GH.out (jL4 H8.out HO.out.size) ?_;intro A1 c1 w2 Hi hgrow Fc;rw[jC]at hgrow Fc;have Fj:=HS.out.pastN HR.out HO.out hgrow;have NS:w2.cell? ⟨g,11,none⟩=some (.slice s.nA r.tree.nodes.length s.nc):=Blk.at_ Fj 11 rfl;have Af:=Fj.z 11;have CB:w2.cell? ⟨g,12,none⟩=some (.slice s.oA r.tree.ats.length s.oc):=Blk.at_ Fj 12 rfl;have C7:=Fj.z 12;have H1:=G (HS.out.growN HR.out (jB3 op kids A c) Wh.out HO.out hgrow Fc Hi);obtain⟨ns2,ps2,My⟩:=H1.out.1.rows;have GU:=G My;clear Fj Hi hgrow Fc My)|(at_builtin;refine jE _ rfl (.tmp 28) (.tmp 30) 27 rfl 8 3 i1 _ 1 8 underlying27 hj Ca C9 C8 rfl (by decide) (.slice s.oA r.tree.ats.length s.oc) r.tree.ats.length (r.tree.ats.flatMap oC) rfl (jV GU.out.rO ((jQ0 NoX _).alloc _) (fun _ _ e=>e)) _ 1 1 _ rfl (Rd.one_at _ _ _ (by simp[World.setCell])) (ji _ rfl) J63.out J47.out (jL4 H1.out.1.eight ((jQ0 NoX _).alloc _).size) ?_;intro A2 c2 w5 Hi hgrow Fc;rw[jC]at hgrow Fc;have Y4:=H1.out.1.pastO GU.out ((jQ0 NoX _).alloc _) hgrow;have NS:=Blk.at_ Y4 11 (v:=.slice A1 (r.tree.nodes++[(jB3 op kids A c).n]).length c1) rfl;rw[jJ4,List.length_singleton]at NS;have CB:w5.cell? ⟨g,12,none⟩=some (.slice s.oA r.tree.ats.length s.oc):=Blk.at_ Y4 12 rfl;have C7:=Y4.z 12;have H2:=G (H1.out.1.growO GU.out (at_:Int) True.intro ((jQ0 NoX _).alloc _) hgrow Fc Hi);clear Y4 Hi hgrow Fc)|fail);go_ret;exact⟨rfl,_,H2.out.1,H1.out.2.trans H2.out.2⟩
structure LastN(w:World)(g:Nat)(src:BA)(r:Rdr)(s:Sl)(k q:Nat)(ns:List MNd)(x:MNd)(ps:List MSt)(W:World)(L:List Value):Prop where
 st:St w g src r s
 at_:s.nA=some ⟨k,0,none⟩
 len:ns.length=q
 cnt:r.tree.nodes.length=q+1
 rows:TRows w (AX g s) r.tree s (ns++[x]) ps
 kp:Kp (fun b=>s.nA.map (·.block)=some b) w W
 own:W.ownsRow 8 46 7 (.slice s.nA r.tree.nodes.length s.nc) r.tree.nodes.length (ns.flatMap ndC++L)
theorem Qp(ns:List MNd):(ns.flatMap ndC).length=ns.length*7:=by
 induction ns with
 |nil=>rfl
 |cons x l ih=>rw[jL9,jJ4,ih,jK6];simp only[ndC,jK6,jN2];omega
theorem St.lastN{w:World}{g:Nat}{src:BA}{r:Rdr}{s:Sl}(h:St w g src r s){L:List Nd}{m:Nd}(hl:r.tree.nodes=L++[m]):
  ∃k ns x ps,x.n=m/\ns.map (·.n)=L/\LastN w g src r s k L.length ns x ps w (ndC x):=by
 obtain⟨ns,x,ps,h1,h2,h3⟩:=h.last hl;have hlen:r.tree.nodes.length=L.length+1:=by rw[hl,jJ4];rfl
 obtain⟨k,hk⟩:=jCt h3.rN (by omega);refine⟨k,ns,x,ps,h1,h2,h,hk,by rw[<-h2,jK7],hlen,h3,jQ0 _ _,?_⟩;have:=h3.rN
 rwa [jN5,List.flatMap_singleton]at this
section
variable{w:World}{g:Nat}{src:BA}{r:Rdr}{s:Sl}{k q:Nat}{ns:List MNd}{x:MNd}{ps:List MSt}{W:World}{L:List Value}
theorem LastN.cell(h:LastN w g src r s k q ns x ps W L)(i:Nat){u:Value}(hu:L[i]? =some u):W.cell? ⟨k,q*7+i,none⟩=some u/\W.frozen? ⟨k,q*7+i,none⟩=false:=by
 have ho:=h.own;rw[h.at_]at ho;refine jCu ho (q*7+i) ?_;have hl:=Qp ns;rw[h.len]at hl;rw[<-hl,List.getElem?_append_right (by omega),Nat.add_sub_cancel_left];exact hu
theorem LastN.set_(h:LastN w g src r s k q ns x ps W L)(i:Nat)(u:Value):LastN w g src r s k q ns x ps (W.setCell ⟨k,q*7+i,none⟩ u) (L.set i u):=by
 have ho:=h.own;rw[h.at_]at ho;have R7:=jEy ho (q*7+i) u;have hl:=Qp ns;rw[h.len]at hl;rw[List.set_append_right _ _ (by omega),hl,Nat.add_sub_cancel_left]at R7;exact⟨h.st,h.at_,h.len,h.cnt,h.rows,h.kp.setCell (p:=⟨k,q*7+i,none⟩) (fun _=>by rw[h.at_];rfl) u,by rw[h.at_];exact R7⟩
theorem LastN.old{W' :World}(h:LastN w g src r s k q ns x ps W L)(ho:Old W W'):LastN w g src r s k q ns x ps W' L:=
 ⟨h.st,h.at_,h.len,h.cnt,h.rows,h.kp.old ho,jV h.own ho (fun _ _ e=>e)⟩
theorem LastN.done(h:LastN w g src r s k q ns x ps W L)(x' :MNd)(hL:L=ndC x')(hx:OkN w (AX g s) x'):St W g src {r with tree:={r.tree with nodes:=ns.map (·.n)++[x'.n]}} s/\Fr g s s w W:=by
 have ho:=h.own;rw[hL]at ho;exact h.st.turn h.rows h.kp ho hx
theorem jE4(w:World)(X:Nat->Prop)(m:Nd)(A:OA)(c:Nat)(vA:OA)(vc:Nat)(hm:m.kids=[])(hv:m.vs=[]):OkN w X ⟨m,A,c,vA,vc⟩:=by
 refine⟨?_,?_,?_,?_⟩
 ·simp only[hm];exact⟨rfl,fun h=>absurd h (Nat.lt_irrefl 0)⟩
 ·simp only[hm];exact fun h0=>absurd h0 (Nat.lt_irrefl 0)
 ·simp only[hv];exact⟨rfl,fun h=>absurd h (Nat.lt_irrefl 0)⟩
 ·simp only[hv];exact fun h0=>absurd h0 (Nat.lt_irrefl 0)
theorem LastN.lit{r' :Rdr}{Ln:List Nd}{b:Nd}(h:LastN w g src {r' with tree:={r'.tree with nodes:=Ln++[b]}} s k q ns x ps W L)(WQ:ns.map (·.n)=Ln){m:Nd}(hT:r'.tree.nodes=Ln++[m])
  (hk:m.kids=[]) (hv:m.vs=[]) (vA:OA) (vc:Nat) (hL:L=ndC ⟨m,x.A,x.c,vA,vc⟩):St W g src r' s/\Fr g s s w W:=by
 have h1:=h.done ⟨m,x.A,x.c,vA,vc⟩ hL (jE4 _ _ _ _ _ _ _ hk hv);simp only[WQ,<-hT]at h1;exact h1
end
theorem St.lastC{w:World}{g:Nat}{src:BA}{r:Rdr}{s:Sl}(h:St w g src r s){L:List Nd}{m:Nd}{q:Nat}(hl:r.tree.nodes=L++[m])(hq:L.length=q):
  ∃k ns x ps,x.n=m/\ns.map (·.n)=L/\LastN w g src r s k q ns x ps w (ndC x)/\w.cell? ⟨g,11,none⟩=some (.slice (some ⟨k,0,none⟩) (q+1) s.nc):=by
 obtain⟨k,ns,x,ps,h1,h2,h3⟩:=h.lastN hl;subst hq;have hc:w.cell? ⟨g,11,none⟩=some (.slice s.nA r.tree.nodes.length s.nc):=Blk.at_ h.box 11 rfl;rw[h3.at_,h3.cnt]at hc;exact⟨k,ns,x,ps,h1,h2,h3,hc⟩
theorem yh{n:Nd}{at_:Nat}{r r' :Rdr}{x:Int}(h:ye n at_ r=some (x,r')):ye (yw 4 []) at_ r=some (x,{r' with tree:={r'.tree with nodes:=r.tree.nodes++[yw 4 []]}})/\r'.tree.nodes=r.tree.nodes++[n]/\x=(r.tree.nodes.length:Int)/\r.tree.nodes.length<1000000:=by
 unfold ye at h⊢;split at h
 case isFalse=>cases h
 rename_i hlt;injection h with h;injection h with h1 h2;rw[jJ6 hlt];subst h1 h2;exact⟨rfl,rfl,rfl,hlt.1⟩
theorem jDD(w:World)(g:Nat)(src:BA)(r r1 r' :Rdr)(s:Sl)(x:Int)(at_:Nat)(h:St w g src r s)(ht:r.t=1)(hn:kA (sb src) r=some r1)
  (hx:ye ⟨5,⟨(kn (sb src) r).toArray⟩,0,0,⟨#[]⟩,[],[]⟩ at_ r1=some (x,r')):
  Calls prog 236 #[.pointer (some ⟨g,0,none⟩),iv (at_:Int)] w (Ex w g src s r' (iv x)):=by
 have Fo:=h.box.c3;rw[ht]at Fo;have HS:=G h;have HN:=G hn;have HL:=G (fun n=>yo (w.drewN n) g src r s (h.drewN n));obtain⟨h1,h2,h3,h4⟩:=yh hx;generalize kn (sb src) r=lx at*;have HB:=G h1;have HT:=G h2;generalize hq:r1.tree.nodes.length=q at*;subst h3;clear h hn hx h1 h2 ht;unfold iv;have f1:(0:Int)<=(q:Int):=(by omega);have f2:(q:Int).toNat=q:=(by omega);have f3:(q:Int)<(q:Int)+1:=(by omega);go_enter func236,ntmps236;go_wp2;go_quiet ((go_at_call 165;exact Calls.quiet_of (HL.out _)));go_wp2_with (first|(go_at_call 135;refine(jZ _ g src _ _ s (HS.out.drewN _) HN.out).mono ?_;rintro e w1 ⟨rfl,hX⟩;have HX:=G hX;clear hX)|(go_at_call 201;refine(yK _ g src _ _ s 4 _ _ none 0 [] HX.out.1 Rd.none_ (fun h0=>absurd h0 (Nat.lt_irrefl 0)) HB.out).mono ?_;rintro e w2 ⟨rfl,s2,hY,NY⟩;obtain⟨k,ns,xx,ps,WE,WQ,Fz,NS⟩:=hY.lastC rfl hq;have d0:w2.cell? ⟨k,q*7,none⟩=_:=(Fz.cell 0 rfl).1;have z0:w2.frozen? ⟨k,q*7,none⟩=false:=(Fz.cell 0 rfl).2;have d1:=(Fz.cell 1 rfl).1;have z1:=(Fz.cell 1 rfl).2;have MI:=G Fz;have HF:=G NY;clear Fz hY NY;unfold iv)|fail);go_ret;have HD:=G (((MI.out.set_ 0 (.int .i64 5)).set_ 1 (.string ⟨lx.toArray⟩)).lit WQ HT.out rfl rfl xx.vA xx.vc (by simp only[ndC,WE];rfl));exact⟨rfl,s2,HD.out.1,(((Fr.of_old s ((jQ0 _ _).drewN _)).trans HX.out.2).trans HF.out).trans HD.out.2⟩
theorem Xn(w:World)(g:Nat)(src:BA)(r r1 r' :Rdr)(s:Sl)(x:Int)(at_:Nat)(h:St w g src r s)(ht:r.t=46)(hn:kA (sb src) r=some r1)
  (hx:ye ⟨2,⟨#[]⟩,2,1,⟨#[]⟩,[],[]⟩ at_ r1=some (x,r')):
  Calls prog 236 #[.pointer (some ⟨g,0,none⟩),iv (at_:Int)] w (Ex w g src s r' (iv x)):=by
 have Fo:=h.box.c3;rw[ht]at Fo;have HS:=G h;have HN:=G hn;have HL:=G (fun n=>yo (w.drewN n) g src r s (h.drewN n));obtain⟨h1,h2,h3,h4⟩:=yh hx;generalize kn (sb src) r=lx at*;have HB:=G h1;have HT:=G h2;generalize hq:r1.tree.nodes.length=q at*;subst h3;clear h hn hx h1 h2 ht;unfold iv;have f1:(0:Int)<=(q:Int):=(by omega);have f2:(q:Int).toNat=q:=(by omega);have f3:(q:Int)<(q:Int)+1:=(by omega);go_enter func236,ntmps236;go_wp2;go_quiet ((go_at_call 165;exact Calls.quiet_of (HL.out _)));go_wp2_with (first|(go_at_call 135;refine(jZ _ g src _ _ s (HS.out.drewN _) HN.out).mono ?_;rintro e w1 ⟨rfl,hX⟩;have HX:=G hX;clear hX)|(go_at_call 201;refine(yK _ g src _ _ s 4 _ _ none 0 [] HX.out.1 Rd.none_ (fun h0=>absurd h0 (Nat.lt_irrefl 0)) HB.out).mono ?_;rintro e w2 ⟨rfl,s2,hY,NY⟩;obtain⟨k,ns,xx,ps,WE,WQ,Fz,NS⟩:=hY.lastC rfl hq;have d0:w2.cell? ⟨k,q*7,none⟩=_:=(Fz.cell 0 rfl).1;have z0:w2.frozen? ⟨k,q*7,none⟩=false:=(Fz.cell 0 rfl).2;have d2:=(Fz.cell 2 rfl).1;have z2:=(Fz.cell 2 rfl).2;have d3:=(Fz.cell 3 rfl).1;have z3:=(Fz.cell 3 rfl).2;have d4:=(Fz.cell 4 rfl).1;have z4:=(Fz.cell 4 rfl).2;have d5:=(Fz.cell 5 rfl).1;have z5:=(Fz.cell 5 rfl).2;have MI:=G Fz;have HF:=G NY;clear Fz hY NY;unfold iv)|fail);go_ret;have HD:=G ((((((MI.out.set_ 0 (.int .i64 2)).set_ 2 (.int .i64 2)).set_ 3 (.int .i64 1)).set_ 4 (.string ⟨#[]⟩)).set_ 5 (.slice none 0 0)).lit WQ HT.out rfl rfl none 0 (by simp only[ndC,WE];rfl));exact⟨rfl,s2,HD.out.1,(((Fr.of_old s ((jQ0 _ _).drewN _)).trans HX.out.2).trans HF.out).trans HD.out.2⟩
theorem Xm(w:World)(g:Nat)(src:BA)(r r1 r' :Rdr)(s:Sl)(x:Int)(at_:Nat)(h:St w g src r s)(ht:r.t=47)(hn:kA (sb src) r=some r1)
  (hx:ye ⟨2,⟨#[]⟩,2,0,⟨#[]⟩,[],[]⟩ at_ r1=some (x,r')):
  Calls prog 236 #[.pointer (some ⟨g,0,none⟩),iv (at_:Int)] w (Ex w g src s r' (iv x)):=by
 have Fo:=h.box.c3;rw[ht]at Fo;have HS:=G h;have HN:=G hn;have HL:=G (fun n=>yo (w.drewN n) g src r s (h.drewN n));obtain⟨h1,h2,h3,h4⟩:=yh hx;generalize kn (sb src) r=lx at*;have HB:=G h1;have HT:=G h2;generalize hq:r1.tree.nodes.length=q at*;subst h3;clear h hn hx h1 h2 ht;unfold iv;have f1:(0:Int)<=(q:Int):=(by omega);have f2:(q:Int).toNat=q:=(by omega);have f3:(q:Int)<(q:Int)+1:=(by omega);go_enter func236,ntmps236;go_wp2;go_quiet ((go_at_call 165;exact Calls.quiet_of (HL.out _)));go_wp2_with (first|(go_at_call 135;refine(jZ _ g src _ _ s (HS.out.drewN _) HN.out).mono ?_;rintro e w1 ⟨rfl,hX⟩;have HX:=G hX;clear hX)|(go_at_call 201;refine(yK _ g src _ _ s 4 _ _ none 0 [] HX.out.1 Rd.none_ (fun h0=>absurd h0 (Nat.lt_irrefl 0)) HB.out).mono ?_;rintro e w2 ⟨rfl,s2,hY,NY⟩;obtain⟨k,ns,xx,ps,WE,WQ,Fz,NS⟩:=hY.lastC rfl hq;have d0:w2.cell? ⟨k,q*7,none⟩=_:=(Fz.cell 0 rfl).1;have z0:w2.frozen? ⟨k,q*7,none⟩=false:=(Fz.cell 0 rfl).2;have d2:=(Fz.cell 2 rfl).1;have z2:=(Fz.cell 2 rfl).2;have d3:=(Fz.cell 3 rfl).1;have z3:=(Fz.cell 3 rfl).2;have d4:=(Fz.cell 4 rfl).1;have z4:=(Fz.cell 4 rfl).2;have d5:=(Fz.cell 5 rfl).1;have z5:=(Fz.cell 5 rfl).2;have MI:=G Fz;have HF:=G NY;clear Fz hY NY;unfold iv)|fail);go_ret;have HD:=G ((((((MI.out.set_ 0 (.int .i64 2)).set_ 2 (.int .i64 2)).set_ 3 (.int .i64 0)).set_ 4 (.string ⟨#[]⟩)).set_ 5 (.slice none 0 0)).lit WQ HT.out rfl rfl none 0 (by simp only[ndC,WE];rfl));exact⟨rfl,s2,HD.out.1,(((Fr.of_old s ((jQ0 _ _).drewN _)).trans HX.out.2).trans HF.out).trans HD.out.2⟩
end Go.Proofs.YtmmjcbbogokmfaaGreatDoor

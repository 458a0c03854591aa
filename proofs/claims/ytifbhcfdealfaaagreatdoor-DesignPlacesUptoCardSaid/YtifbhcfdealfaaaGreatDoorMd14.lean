import Derived.Test.YtifbhcfdealfaaaGreatDoorMd12
import Derived.Test.YtifbhcfdealfaaaGreatDoorMd13
set_option maxRecDepth 100000
set_option maxHeartbeats 25600000
namespace Go.Proofs.YtifbhcfdealfaaaGreatDoor
open Go.Proofs.Tryz
open Go.RowKit
noncomputable def least (p:Nat->Prop):Nat:=Classical.epsilon fun n=>p n/\∀m,p m->n<=m
theorem Vg{p:Nat->Prop}(h:∃n,p n):p (least p)/\∀m,p m->least p<=m:=by
 refine Classical.epsilon_spec (p:=fun n=>p n/\∀m,p m->n<=m) ?_;obtain⟨n,hn⟩:=h
 induction n using Nat.strongRecOn with
 |_ n ih=>
  rcases Classical.em (∃m,m<n/\p m)with⟨m,hm,hp⟩|WR
  ·exact ih m hm hp
  ·exact⟨n,hn,fun m hm=>Nat.le_of_not_lt fun hlt=>WR ⟨m,hlt,hm⟩⟩
theorem yH{p:Nat->Prop}(h:∃n,p n):∃n,p n/\least p=n:=⟨_,(Vg h).1,rfl⟩
theorem kj{p:Nat->Prop}{n m:Nat}(h:p n)(k:n<m):least p<m:=Nat.lt_of_le_of_lt ((Vg ⟨n,h⟩).2 n h) k
theorem St.setOrder{w:World}{g:Nat}{src:BA}{r:Rdr}{s:Sl}(h:St w g src r s)(k:Nat):
  St (w.setCell ⟨g,4,none⟩ (.int .i64 (k:Int))) g src {r with order:=k} s/\Fr g s s w (w.setCell ⟨g,4,none⟩ (.int .i64 (k:Int))):=
 h.scan (h.box.setOrder k).1 rfl (h.box.setOrder k).2 h.from_ h.at_ h.t58
theorem jV(w:World)(g:Nat)(src:BA)(r r' :Rdr)(s:Sl)(t:Nat)(b:Bool)(h:St w g src r s)(hk:jb (sb src) t r=some (b,r')):
  Calls prog 212 #[.pointer (some ⟨g,0,none⟩),.int .u8 (t:Int)] w (Sc w g src s r' (.bool b)):=by
 have Fq:=h.box.c3;have HS:=G h;unfold jb at hk;by_cases ht:r.t=t
 ·rw[jJ6 ht]at hk;obtain⟨r1,hn,he⟩:=jM4 hk;injection he with e1 e2;subst e1 e2;have HN:=G hn;have e1:((r.t:Int)==(t:Int))=true:=beq_iff_eq.2 (by omega);clear h hk hn ht;go_enter func212,ntmps212;go_wp2_with (go_at_call 150;refine(jN _ g src _ _ s HS.out HN.out).mono ?_;rintro e w1 ⟨rfl,hX⟩);go_ret;exact⟨rfl,hX⟩
 ·rw[jJ5 ht]at hk;injection hk with hk;injection hk with e1 e2;subst e1 e2;have e1:((r.t:Int)==(t:Int))=false:=jM3 (by omega);clear h ht;go_enter func212,ntmps212;go_wp2;go_ret;exact⟨rfl,HS.out,Fr.refl _ _ _⟩
theorem yh(w:World)(g:Nat)(src:BA)(r r' :Rdr)(s:Sl)(x:BA)(at_:Int)(h:St w g src r s)(hk:zC (sb src) r=some (x,at_,r')):
  Calls prog 151 #[.pointer (some ⟨g,0,none⟩)] w (Sc w g src s r' (.tuple #[.string x,iv at_])):=by
 have Fm:=h.box.c2;have HS:=G h;unfold zC at hk;obtain⟨r1,hn,he⟩:=jM4 hk;injection he with e1 e2;injection e2 with e2 e3;subst e1 e2 e3;have HN:=G hn;have HL:=G (fun n=>vr (w.drewN n) g src r s (h.drewN n));generalize jh (sb src) r=lx at*;clear h hk hn;go_enter func151,ntmps151;go_wp2;go_quiet ((go_at_call 209;exact Calls.quiet_of (HL.out _)));go_wp2_with (go_at_call 150;refine(jN _ g src _ _ s (HS.out.drewN _) HN.out).mono ?_;rintro e w1 ⟨rfl,hX⟩)
 go_ret2
 exact⟨rfl,hX.1,(Fr.of_old s ((jQ0 _ _).drewN _)).trans hX.2⟩
theorem yK(w:World)(g:Nat)(src:BA)(r r' :Rdr)(s:Sl)(x:BA)(at_ o:Int)(h:St w g src r s)(hk:VQ (sb src) r=some (x,at_,o,r')):
  Calls prog 211 #[.pointer (some ⟨g,0,none⟩)] w (Sc w g src s r' (.tuple #[.string x,iv at_,iv o])):=by
 have HS:=G h;unfold VQ at hk;obtain⟨r1,hn,hk⟩:=jM2 hk;obtain⟨y,hm,hk⟩:=jM2 hk;obtain⟨x1,a1,r2⟩:=y;simp only at hk;split at hk
 case isFalse=>cases hk
 rename_i ho;injection hk with he;injection he with e1 e2;injection e2 with e2 e3;injection e3 with e3 e4;subst e1 e2 e3 e4;have HN:=G hn;have HM:=G hm;have q0:IntKind.i64.wrap ((r2.order:Int)+1)=(r2.order:Int)+1:=jQ3 _ (by omega);have q1:RowKit.wrap64 (r2.order:Int)=(r2.order:Int):=IntWalk.wrap64_in _ (by omega);clear h hn hm ho hk;go_enter func211,ntmps211;go_wp2_with (first|(go_at_call 150;refine(jN _ g src _ _ s HS.out HN.out).mono ?_;rintro e w1 ⟨rfl,hX⟩;have HX:=G hX;clear hX)|(go_at_call 151;refine(yh _ g src _ _ s _ _ HX.out.1 HM.out).mono ?_;rintro e w2 ⟨rfl,hY⟩;have MN:=hY.1.box.c4;have PW:=hY.1.box.z 4;have HZ:=hY.1.setOrder (r2.order+1);rw[show((r2.order+1:Nat):Int)=(r2.order:Int)+1 by omega]at HZ;have HZ:=G HZ;have HF:=G (HX.out.2.trans hY.2);clear hY));generalize hW:World.setCell _ _ _=W at*;have MN:=HZ.out.1.box.c4;simp only[show((r2.order+1:Nat):Int)=(r2.order:Int)+1 by omega]at MN;clear hW;go_quiet (fail);go_wp2
 go_ret3
 exact⟨by rw[q1];rfl,HZ.out.1.drewN _,HF.out.trans (HZ.out.2.trans (Fr.of_old s ((jQ0 _ _).drewN _)))⟩
theorem Xv(w:World)(g:Nat)(src:BA)(r r' :Rdr)(s:Sl)(x:BA)(at_:Int)(h:St w g src r s)(hk:inN (sb src) r=some (x,at_,r')):
  Calls prog 215 #[.pointer (some ⟨g,0,none⟩)] w (Sc w g src s r' (.tuple #[.string x,iv at_])):=by
 have HS:=G h;unfold inN at hk;by_cases h28:r.t=28
 ·rw[jJ6 h28]at hk;obtain⟨r1,hn,hm⟩:=jM2 hk;have HK:=G (show jb (sb src) 28 r=some (true,r1)by rw[jb,jJ6 h28,hn];rfl);have HM:=G hm;clear h hn hm hk h28;go_enter func215,ntmps215;go_wp2_with (first|(go_at_call 212;refine(jV _ g src _ _ s 28 _ HS.out HK.out).mono ?_;rintro e w1 ⟨rfl,hX⟩;have HX:=G hX;clear hX)|(go_at_call 151;refine(yh _ g src _ _ s _ _ HX.out.1 HM.out).mono ?_;rintro e w2 ⟨rfl,hY⟩))
  go_ret2
  exact⟨rfl,hY.1,HX.out.2.trans hY.2⟩
 ·rw[jJ5 h28]at hk;injection hk with hk;injection hk with e1 e2;injection e2 with e2 e3;subst e1 e2 e3;have HK:=G (show jb (sb src) 28 r=some (false,r)by rw[jb,jJ5 h28]);clear h h28;go_enter func215,ntmps215;go_wp2_with (first|(go_at_call 212;refine(jV _ g src _ _ s 28 _ HS.out HK.out).mono ?_;rintro e w1 ⟨rfl,hX⟩))
  go_ret2
  exact⟨rfl,hX⟩
theorem xZ(w:World)(g:Nat)(src:BA)(r r' :Rdr)(s:Sl)(k:Int)(h:St w g src r s)(hk:ZO (sb src) r=some (k,r')):
  Calls prog 213 #[.pointer (some ⟨g,0,none⟩)] w (Sc w g src s r' (iv k)):=by
 have HS:=G h;have Fq:=h.box.c3;unfold ZO at hk;split at hk
 case isFalse=>cases hk
 rename_i ht;obtain⟨r1,hn,he⟩:=jM2 hk;injection he with he;injection he with e1 e2;subst e1 e2;have HN:=G hn;obtain⟨q,hq,Dd⟩:∃q,r.t=q+34/\q<=4:=⟨r.t-34,by omega,by omega⟩;clear h hn hk ht;go_enter func213,ntmps213;go_wp2_with (first|(go_at_call 150;refine(jN _ g src _ _ s HS.out HN.out).mono ?_;rintro e w1 ⟨rfl,hX⟩));go_ret;exact⟨congrArg Ending.returned (congrArg (Value.int .i64) (show 1+(q:Int)=(r.t:Int)-33 by omega)),hX⟩
def Ex(w:World)(g:Nat)(src:BA)(s:Sl)(r' :Rdr)(v:Value)(e:Ending)(w' :World):Prop:=e=.returned v/\∃s',St w' g src r' s' /\Fr g s s' w w'
theorem Ex.of{w w1 w' :World}{g:Nat}{src:BA}{s s1:Sl}{r' :Rdr}{v:Value}{e:Ending}(f:Fr g s s1 w w1)(h:Ex w1 g src s1 r' v e w'):Ex w g src s r' v e w' :=
 ⟨h.1,h.2.elim fun s' hs=>⟨s',hs.1,f.trans hs.2⟩⟩
theorem Sc.ex{w w' :World}{g:Nat}{src:BA}{s:Sl}{r' :Rdr}{v:Value}{e:Ending}(h:Sc w g src s r' v e w'):Ex w g src s r' v e w' :=⟨h.1,s,h.2⟩
theorem St.last{w:World}{g:Nat}{src:BA}{r:Rdr}{s:Sl}(h:St w g src r s){L:List Nd}{m:Nd}(hl:r.tree.nodes=L++[m]):
  ∃ns x ps,x.n=m/\ns.map (·.n)=L/\TRows w (AX g s) r.tree s (ns++[x]) ps:=by
 obtain⟨ns,ps,hR⟩:=h.rows;have hn:=hR.ne;rw[hl]at hn;obtain⟨n1,n2,rfl,h1,h2⟩:=List.map_eq_append_iff.1 hn;obtain⟨x,l,rfl,h3,h4⟩:=List.map_eq_cons_iff.1 h2;rw[List.map_eq_nil_iff.1 h4]at hR;exact⟨n1,x,ps,h3,h1,hR⟩
theorem St.turn{w w' :World}{g:Nat}{src:BA}{r:Rdr}{s:Sl}(h:St w g src r s){ns:List MNd}{x x' :MNd}{ps:List MSt}(hR:TRows w (AX g s) r.tree s (ns++[x]) ps)
  (hk:Kp (fun b=>s.nA.map (·.block)=some b) w w') (ho:w'.ownsRow 8 146 7 (.slice s.nA r.tree.nodes.length s.nc) r.tree.nodes.length (ns.flatMap ndC++ndC x')) (hx:OkN w (AX g s) x'):
  St w' g src {r with tree:={r.tree with nodes:=ns.map (·.n)++[x'.n]}} s/\Fr g s s w w' :=by
 have hf:Fr g s s w w' :=⟨hk.mono (fun b _ e=>by first|exact .inl e|exact .inr (.inl e)|exact .inr (.inr (.inl e))|exact .inr (.inr (.inr (.inl e)))|exact .inr (.inr (.inr (.inr (.inl e))))|exact .inr (.inr (.inr (.inr (.inr (.inl e)))))|exact .inr (.inr (.inr (.inr (.inr (.inr (e))))))),fun _ _ e=>e,rfl⟩;have hlen:(ns.map (·.n)++[x'.n]).length=r.tree.nodes.length:=by rw[<-hR.ne];simp
 have LN:s.nA.map (·.block)≠some g:=by rw[<-jA];exact jH hR.rN h.box (by decide)
 have K:∀{e:TypeId} {z:Nat} {v:Value} {n:Nat} {xs:List Value},w.ownsRow 8 e z v n xs->e≠146->w'.ownsRow 8 e z v n xs:=fun ho Fe=>
  jJ ho hk (fun k e e' =>zS ho hR.rN Fe k e (by rw[jA];exact e'))
 refine⟨⟨h.sgf hf,h.g8,h.small,?_,⟨ns++[x'],ps,?_⟩,h.from_,h.at_,h.t58,fun b hz=>jL8 (h.zlt b hz) hk.size,h.z8,h.zno⟩,hf⟩
 ·have hb:=h.box.kp hk LN;unfold Rb at hb⊢;simp only[rdC,jr,hlen]at hb⊢;exact hb
 ·constructor
  case rA=>exact K hR.rA (by decide)
  case rG=>exact K hR.rG (by decide)
  case rM=>exact K hR.rM (by decide)
  case rP=>exact K hR.rP (by decide)
  case rO=>exact K hR.rO (by decide)
  case rN=>
   simp only[hlen,jN5,List.flatMap_singleton];exact ho
  case pe=>exact hR.pe
  case ne=>simp
  case po=>exact fun y hy=>(hR.po y hy).fr hf
  case no=>exact fun y hy=>(jM6 hy).elim (fun hy=>(hR.no y (List.mem_append.2 (.inl hy))).fr hf) (fun hy=>by rw[jM7 hy];exact hx.fr hf)
theorem jAT(x:MNd):∀u∈ndC x,u.oneCell' =true:=by
 intro u hu;simp only[ndC,iv,List.mem_cons,List.mem_nil_iff,or_false]at hu;rcases hu with rfl|rfl|rfl|rfl|rfl|rfl|rfl<;>rfl
theorem Rd.one_at(w:World)(t:TypeId)(u:Value){n:Nat}(hn:n=w.heap.size):Rd (w.alloc (.cells #[u] t)) 1 (some ⟨n,0,none⟩) 1 [u]:=hn▸Rd.one_new w t u
theorem St.eight{w:World}{g:Nat}{src:BA}{r:Rdr}{s:Sl}(h:St w g src r s):8<=w.heap.size:=by have:=h.lt;have:=h.g8;omega
theorem St.pastA{w w1 w2:World}{g:Nat}{src:BA}{r:Rdr}{s:Sl}{ns:List MNd}{ps:List MSt}(hs:St w g src r s)(h:TRows w (AX g s) r.tree s ns ps)(h1:Old w w1)(Gg:w1.grownBy w2 (s.aA.map (·.block))):Rb w2 g src r (jr r.tree s):=
 (hs.box.old h1).kp (vL Gg) (by rw[<-jA];exact jH h.rA hs.box (by decide))
theorem St.pastG{w w1 w2:World}{g:Nat}{src:BA}{r:Rdr}{s:Sl}{ns:List MNd}{ps:List MSt}(hs:St w g src r s)(h:TRows w (AX g s) r.tree s ns ps)(h1:Old w w1)(Gg:w1.grownBy w2 (s.gA.map (·.block))):Rb w2 g src r (jr r.tree s):=
 (hs.box.old h1).kp (vL Gg) (by rw[<-jA];exact jH h.rG hs.box (by decide))
theorem St.pastM{w w1 w2:World}{g:Nat}{src:BA}{r:Rdr}{s:Sl}{ns:List MNd}{ps:List MSt}(hs:St w g src r s)(h:TRows w (AX g s) r.tree s ns ps)(h1:Old w w1)(Gg:w1.grownBy w2 (s.mA.map (·.block))):Rb w2 g src r (jr r.tree s):=
 (hs.box.old h1).kp (vL Gg) (by rw[<-jA];exact jH h.rM hs.box (by decide))
theorem St.pastP{w w1 w2:World}{g:Nat}{src:BA}{r:Rdr}{s:Sl}{ns:List MNd}{ps:List MSt}(hs:St w g src r s)(h:TRows w (AX g s) r.tree s ns ps)(h1:Old w w1)(Gg:w1.grownBy w2 (s.pA.map (·.block))):Rb w2 g src r (jr r.tree s):=
 (hs.box.old h1).kp (vL Gg) (by rw[<-jA];exact jH h.rP hs.box (by decide))
theorem St.pastN{w w1 w2:World}{g:Nat}{src:BA}{r:Rdr}{s:Sl}{ns:List MNd}{ps:List MSt}(hs:St w g src r s)(h:TRows w (AX g s) r.tree s ns ps)(h1:Old w w1)(Gg:w1.grownBy w2 (s.nA.map (·.block))):Rb w2 g src r (jr r.tree s):=
 (hs.box.old h1).kp (vL Gg) (by rw[<-jA];exact jH h.rN hs.box (by decide))
theorem St.pastO{w w1 w2:World}{g:Nat}{src:BA}{r:Rdr}{s:Sl}{ns:List MNd}{ps:List MSt}(hs:St w g src r s)(h:TRows w (AX g s) r.tree s ns ps)(h1:Old w w1)(Gg:w1.grownBy w2 (s.oA.map (·.block))):Rb w2 g src r (jr r.tree s):=
 (hs.box.old h1).kp (vL Gg) (by rw[<-jA];exact jH h.rO hs.box (by decide))
def Ue(op:Int)(kids:List Int)(A:OA)(c:Nat):MNd:=⟨jn op kids,A,c,none,0⟩
theorem vR(w:World)(g:Nat)(src:BA)(r r' :Rdr)(s:Sl)(op x:Int)(at_:Nat)(A:OA)(c:Nat)(kids:List Int)(h:St w g src r s)(hr:Rd w 1 A kids.length (kids.map iv))(ha:Av (AX g s) kids.length A)
  (hn:vJ (jn op kids) at_ r=some (x,r')):
  Calls prog 257 #[.pointer (some ⟨g,0,none⟩),iv op,iv (at_:Int),.slice A kids.length c] w (Ex w g src s r' (iv x)):=by
 unfold vJ at hn;split at hn
 case isFalse=>cases hn
 rename_i hlt;injection hn with hn;injection hn with e1 e2;subst e1 e2;obtain⟨ns,ps,hR⟩:=h.rows;have HS:=G h;have HR:=G hR;have Cy:=G (show OkN w (AX g s) (Ue op kids A c)from⟨hr,ha,Rd.none_,fun h0=>absurd h0 (Nat.lt_irrefl 0)⟩);have GS:w.cell? ⟨g,11,none⟩=some (.slice s.nA r.tree.nodes.length s.nc):=Blk.at_ h.box 11 rfl;have HO:=G ((jQ0 NoX w).alloc (.cells (ndC (Ue op kids A c)).toArray 146));have H8:=G (show 8<=w.heap.size by have:=h.lt;have:=h.g8;omega);obtain⟨i0,hi,FJ,Fv,FU⟩:=info_parts jA5;obtain⟨i1,hj,TJ,TI,TH⟩:=info_parts Xr;have FM:=G (show r.tree.nodes.length+1<=maxLen by unfold maxLen;omega);have FN:=G (show(r.tree.nodes.length+1)*104<=140737488355328 by omega);have J63:=G (show r.tree.ats.length+1<=maxLen by unfold maxLen;omega);have J47:=G (show(r.tree.ats.length+1)*8<=140737488355328 by omega);have q1:IntKind.i64.wrap ((r.tree.nodes.length:Int)+1-1)=(r.tree.nodes.length:Int):=by rw[show(r.tree.nodes.length:Int)+1-1=(r.tree.nodes.length:Int)by omega];exact jQ3 _ (by omega)
 have q2:RowKit.wrap64 (r.tree.nodes.length:Int)=(r.tree.nodes.length:Int):=IntWalk.wrap64_in _ (by omega);clear h hR hr ha hlt;unfold iv;go_enter func257,ntmps257;go_wp2_with (first|(at_builtin;refine jG _ rfl (.tmp 14) (.tmp 18) 36 rfl 8 146 i0 _ 7 104 underlying36 hi FJ Fv FU rfl (by decide) (.slice s.nA r.tree.nodes.length s.nc) r.tree.nodes.length (ns.flatMap ndC) rfl (jJ HR.out.rN HO.out (fun _ _ e=>e)) _ 1 1 (ndC (Ue op kids A c)) rfl (Rd.row_new _ _ 7 1 _ rfl) (jAT _) FM.out FN.out (jL4 H8.out HO.out.size) ?_;intro A1 c1 w2 hI hgrow F1;rw[jA]at hgrow F1;have FY:=HS.out.pastN HR.out HO.out hgrow;have GS:w2.cell? ⟨g,11,none⟩=some (.slice s.nA r.tree.nodes.length s.nc):=Blk.at_ FY 11 rfl;have EU:=FY.z 11;have Y7:w2.cell? ⟨g,12,none⟩=some (.slice s.oA r.tree.ats.length s.oc):=Blk.at_ FY 12 rfl;have TE:=FY.z 12;have H1:=G (HS.out.growN HR.out (Ue op kids A c) Cy.out HO.out hgrow F1 hI);obtain⟨ns2,ps2,NY⟩:=H1.out.1.rows;have Ws:=G NY;clear FY hI hgrow F1 NY)|(at_builtin;refine jG _ rfl (.tmp 28) (.tmp 30) 37 rfl 8 3 i1 _ 1 8 underlying37 hj TJ TI TH rfl (by decide) (.slice s.oA r.tree.ats.length s.oc) r.tree.ats.length (r.tree.ats.flatMap oC) rfl (jJ Ws.out.rO ((jQ0 NoX _).alloc _) (fun _ _ e=>e)) _ 1 1 _ rfl (Rd.one_at _ _ _ (by simp[World.setCell])) (kI _ rfl) J63.out J47.out (jL4 H1.out.1.eight ((jQ0 NoX _).alloc _).size) ?_;intro A2 c2 w5 hI hgrow F1;rw[jA]at hgrow F1;have SV:=H1.out.1.pastO Ws.out ((jQ0 NoX _).alloc _) hgrow;have GS:=Blk.at_ SV 11 (v:=.slice A1 (r.tree.nodes++[(Ue op kids A c).n]).length c1) rfl;rw[jJ4,List.length_singleton]at GS;have Y7:w5.cell? ⟨g,12,none⟩=some (.slice s.oA r.tree.ats.length s.oc):=Blk.at_ SV 12 rfl;have TE:=SV.z 12;have H2:=G (H1.out.1.growO Ws.out (at_:Int) True.intro ((jQ0 NoX _).alloc _) hgrow F1 hI);clear SV hI hgrow F1)|fail);go_ret;exact⟨rfl,_,H2.out.1,H1.out.2.trans H2.out.2⟩
structure LastN(w:World)(g:Nat)(src:BA)(r:Rdr)(s:Sl)(k q:Nat)(ns:List MNd)(x:MNd)(ps:List MSt)(W:World)(L:List Value):Prop where
 st:St w g src r s
 at_:s.nA=some ⟨k,0,none⟩
 len:ns.length=q
 cnt:r.tree.nodes.length=q+1
 rows:TRows w (AX g s) r.tree s (ns++[x]) ps
 kp:Kp (fun b=>s.nA.map (·.block)=some b) w W
 own:W.ownsRow 8 146 7 (.slice s.nA r.tree.nodes.length s.nc) r.tree.nodes.length (ns.flatMap ndC++L)
theorem xg(ns:List MNd):(ns.flatMap ndC).length=ns.length*7:=by
 induction ns with
 |nil=>rfl
 |cons x l ih=>rw[jL9,jJ4,ih,jK6];simp only[ndC,jK6,jN2];omega
theorem St.lastN{w:World}{g:Nat}{src:BA}{r:Rdr}{s:Sl}(h:St w g src r s){L:List Nd}{m:Nd}(hl:r.tree.nodes=L++[m]):
  ∃k ns x ps,x.n=m/\ns.map (·.n)=L/\LastN w g src r s k L.length ns x ps w (ndC x):=by
 obtain⟨ns,x,ps,h1,h2,h3⟩:=h.last hl;have hlen:r.tree.nodes.length=L.length+1:=by rw[hl,jJ4];rfl
 obtain⟨k,hk⟩:=jAR h3.rN (by omega);refine⟨k,ns,x,ps,h1,h2,h,hk,by rw[<-h2,jK7],hlen,h3,jQ0 _ _,?_⟩;have:=h3.rN
 rwa [jN5,List.flatMap_singleton]at this
section
variable{w:World}{g:Nat}{src:BA}{r:Rdr}{s:Sl}{k q:Nat}{ns:List MNd}{x:MNd}{ps:List MSt}{W:World}{L:List Value}
theorem LastN.cell(h:LastN w g src r s k q ns x ps W L)(i:Nat){u:Value}(hu:L[i]? =some u):W.cell? ⟨k,q*7+i,none⟩=some u/\W.frozen? ⟨k,q*7+i,none⟩=false:=by
 have ho:=h.own;rw[h.at_]at ho;refine YC ho (q*7+i) ?_;have hl:=xg ns;rw[h.len]at hl;rw[<-hl,List.getElem?_append_right (by omega),Nat.add_sub_cancel_left];exact hu
theorem LastN.set_(h:LastN w g src r s k q ns x ps W L)(i:Nat)(u:Value):LastN w g src r s k q ns x ps (W.setCell ⟨k,q*7+i,none⟩ u) (L.set i u):=by
 have ho:=h.own;rw[h.at_]at ho;have Pw:=qQ ho (q*7+i) u;have hl:=xg ns;rw[h.len]at hl;rw[List.set_append_right _ _ (by omega),hl,Nat.add_sub_cancel_left]at Pw;exact⟨h.st,h.at_,h.len,h.cnt,h.rows,h.kp.setCell (p:=⟨k,q*7+i,none⟩) (fun _=>by rw[h.at_];rfl) u,by rw[h.at_];exact Pw⟩
theorem LastN.old{W' :World}(h:LastN w g src r s k q ns x ps W L)(ho:Old W W'):LastN w g src r s k q ns x ps W' L:=
 ⟨h.st,h.at_,h.len,h.cnt,h.rows,h.kp.old ho,jJ h.own ho (fun _ _ e=>e)⟩
theorem LastN.done(h:LastN w g src r s k q ns x ps W L)(x' :MNd)(hL:L=ndC x')(hx:OkN w (AX g s) x'):St W g src {r with tree:={r.tree with nodes:=ns.map (·.n)++[x'.n]}} s/\Fr g s s w W:=by
 have ho:=h.own;rw[hL]at ho;exact h.st.turn h.rows h.kp ho hx
theorem jC6(w:World)(X:Nat->Prop)(m:Nd)(A:OA)(c:Nat)(vA:OA)(vc:Nat)(hm:m.kids=[])(hv:m.vs=[]):OkN w X ⟨m,A,c,vA,vc⟩:=by
 refine⟨?_,?_,?_,?_⟩
 ·simp only[hm];exact⟨rfl,fun h=>absurd h (Nat.lt_irrefl 0)⟩
 ·simp only[hm];exact fun h0=>absurd h0 (Nat.lt_irrefl 0)
 ·simp only[hv];exact⟨rfl,fun h=>absurd h (Nat.lt_irrefl 0)⟩
 ·simp only[hv];exact fun h0=>absurd h0 (Nat.lt_irrefl 0)
theorem LastN.lit{r' :Rdr}{Ln:List Nd}{b:Nd}(h:LastN w g src {r' with tree:={r'.tree with nodes:=Ln++[b]}} s k q ns x ps W L)(GO:ns.map (·.n)=Ln){m:Nd}(hT:r'.tree.nodes=Ln++[m])
  (hk:m.kids=[]) (hv:m.vs=[]) (vA:OA) (vc:Nat) (hL:L=ndC ⟨m,x.A,x.c,vA,vc⟩):St W g src r' s/\Fr g s s w W:=by
 have h1:=h.done ⟨m,x.A,x.c,vA,vc⟩ hL (jC6 _ _ _ _ _ _ _ hk hv);simp only[GO,<-hT]at h1;exact h1
end
theorem St.lastC{w:World}{g:Nat}{src:BA}{r:Rdr}{s:Sl}(h:St w g src r s){L:List Nd}{m:Nd}{q:Nat}(hl:r.tree.nodes=L++[m])(hq:L.length=q):
  ∃k ns x ps,x.n=m/\ns.map (·.n)=L/\LastN w g src r s k q ns x ps w (ndC x)/\w.cell? ⟨g,11,none⟩=some (.slice (some ⟨k,0,none⟩) (q+1) s.nc):=by
 obtain⟨k,ns,x,ps,h1,h2,h3⟩:=h.lastN hl;subst hq;have hc:w.cell? ⟨g,11,none⟩=some (.slice s.nA r.tree.nodes.length s.nc):=Blk.at_ h.box 11 rfl;rw[h3.at_,h3.cnt]at hc;exact⟨k,ns,x,ps,h1,h2,h3,hc⟩
theorem vf{n:Nd}{at_:Nat}{r r' :Rdr}{x:Int}(h:vJ n at_ r=some (x,r')):vJ (jn 4 []) at_ r=some (x,{r' with tree:={r'.tree with nodes:=r.tree.nodes++[jn 4 []]}})/\r'.tree.nodes=r.tree.nodes++[n]/\x=(r.tree.nodes.length:Int)/\r.tree.nodes.length<1000000:=by
 unfold vJ at h⊢;split at h
 case isFalse=>cases h
 rename_i hlt;injection h with h;injection h with h1 h2;rw[jJ6 hlt];subst h1 h2;exact⟨rfl,rfl,rfl,hlt.1⟩
theorem jAk(w:World)(g:Nat)(src:BA)(r r1 r' :Rdr)(s:Sl)(x:Int)(at_:Nat)(h:St w g src r s)(ht:r.t=1)(hn:jc (sb src) r=some r1)
  (hx:vJ ⟨5,⟨(jh (sb src) r).toArray⟩,0,0,⟨#[]⟩,[],[]⟩ at_ r1=some (x,r')):
  Calls prog 304 #[.pointer (some ⟨g,0,none⟩),iv (at_:Int)] w (Ex w g src s r' (iv x)):=by
 have Fq:=h.box.c3;rw[ht]at Fq;have HS:=G h;have HN:=G hn;have HL:=G (fun n=>vr (w.drewN n) g src r s (h.drewN n));obtain⟨h1,h2,h3,h4⟩:=vf hx;generalize jh (sb src) r=lx at*;have HB:=G h1;have HT:=G h2;generalize hq:r1.tree.nodes.length=q at*;subst h3;clear h hn hx h1 h2 ht;unfold iv;have f1:(0:Int)<=(q:Int):=(by omega);have f2:(q:Int).toNat=q:=(by omega);have f3:(q:Int)<(q:Int)+1:=(by omega);go_enter func304,ntmps304;go_wp2;go_quiet ((go_at_call 209;exact Calls.quiet_of (HL.out _)));go_wp2_with (first|(go_at_call 150;refine(jN _ g src _ _ s (HS.out.drewN _) HN.out).mono ?_;rintro e w1 ⟨rfl,hX⟩;have HX:=G hX;clear hX)|(go_at_call 257;refine(vR _ g src _ _ s 4 _ _ none 0 [] HX.out.1 Rd.none_ (fun h0=>absurd h0 (Nat.lt_irrefl 0)) HB.out).mono ?_;rintro e w2 ⟨rfl,s2,hY,N9⟩;obtain⟨k,ns,xx,ps,NL,GO,Fk,GS⟩:=hY.lastC rfl hq;have d0:w2.cell? ⟨k,q*7,none⟩=_:=(Fk.cell 0 rfl).1;have z0:w2.frozen? ⟨k,q*7,none⟩=false:=(Fk.cell 0 rfl).2;have d1:=(Fk.cell 1 rfl).1;have z1:=(Fk.cell 1 rfl).2;have Wu:=G Fk;have HF:=G N9;clear Fk hY N9;unfold iv)|fail);go_ret;have HD:=G (((Wu.out.set_ 0 (.int .i64 5)).set_ 1 (.string ⟨lx.toArray⟩)).lit GO HT.out rfl rfl xx.vA xx.vc (by simp only[ndC,NL];rfl));exact⟨rfl,s2,HD.out.1,(((Fr.of_old s ((jQ0 _ _).drewN _)).trans HX.out.2).trans HF.out).trans HD.out.2⟩
theorem ua(w:World)(g:Nat)(src:BA)(r r1 r' :Rdr)(s:Sl)(x:Int)(at_:Nat)(h:St w g src r s)(ht:r.t=46)(hn:jc (sb src) r=some r1)
  (hx:vJ ⟨2,⟨#[]⟩,2,1,⟨#[]⟩,[],[]⟩ at_ r1=some (x,r')):
  Calls prog 304 #[.pointer (some ⟨g,0,none⟩),iv (at_:Int)] w (Ex w g src s r' (iv x)):=by
 have Fq:=h.box.c3;rw[ht]at Fq;have HS:=G h;have HN:=G hn;have HL:=G (fun n=>vr (w.drewN n) g src r s (h.drewN n));obtain⟨h1,h2,h3,h4⟩:=vf hx;generalize jh (sb src) r=lx at*;have HB:=G h1;have HT:=G h2;generalize hq:r1.tree.nodes.length=q at*;subst h3;clear h hn hx h1 h2 ht;unfold iv;have f1:(0:Int)<=(q:Int):=(by omega);have f2:(q:Int).toNat=q:=(by omega);have f3:(q:Int)<(q:Int)+1:=(by omega);go_enter func304,ntmps304;go_wp2;go_quiet ((go_at_call 209;exact Calls.quiet_of (HL.out _)));go_wp2_with (first|(go_at_call 150;refine(jN _ g src _ _ s (HS.out.drewN _) HN.out).mono ?_;rintro e w1 ⟨rfl,hX⟩;have HX:=G hX;clear hX)|(go_at_call 257;refine(vR _ g src _ _ s 4 _ _ none 0 [] HX.out.1 Rd.none_ (fun h0=>absurd h0 (Nat.lt_irrefl 0)) HB.out).mono ?_;rintro e w2 ⟨rfl,s2,hY,N9⟩;obtain⟨k,ns,xx,ps,NL,GO,Fk,GS⟩:=hY.lastC rfl hq;have d0:w2.cell? ⟨k,q*7,none⟩=_:=(Fk.cell 0 rfl).1;have z0:w2.frozen? ⟨k,q*7,none⟩=false:=(Fk.cell 0 rfl).2;have d2:=(Fk.cell 2 rfl).1;have z2:=(Fk.cell 2 rfl).2;have d3:=(Fk.cell 3 rfl).1;have z3:=(Fk.cell 3 rfl).2;have d4:=(Fk.cell 4 rfl).1;have z4:=(Fk.cell 4 rfl).2;have d5:=(Fk.cell 5 rfl).1;have z5:=(Fk.cell 5 rfl).2;have Wu:=G Fk;have HF:=G N9;clear Fk hY N9;unfold iv)|fail);go_ret;have HD:=G ((((((Wu.out.set_ 0 (.int .i64 2)).set_ 2 (.int .i64 2)).set_ 3 (.int .i64 1)).set_ 4 (.string ⟨#[]⟩)).set_ 5 (.slice none 0 0)).lit GO HT.out rfl rfl none 0 (by simp only[ndC,NL];rfl));exact⟨rfl,s2,HD.out.1,(((Fr.of_old s ((jQ0 _ _).drewN _)).trans HX.out.2).trans HF.out).trans HD.out.2⟩
theorem uZ(w:World)(g:Nat)(src:BA)(r r1 r' :Rdr)(s:Sl)(x:Int)(at_:Nat)(h:St w g src r s)(ht:r.t=47)(hn:jc (sb src) r=some r1)
  (hx:vJ ⟨2,⟨#[]⟩,2,0,⟨#[]⟩,[],[]⟩ at_ r1=some (x,r')):
  Calls prog 304 #[.pointer (some ⟨g,0,none⟩),iv (at_:Int)] w (Ex w g src s r' (iv x)):=by
 have Fq:=h.box.c3;rw[ht]at Fq;have HS:=G h;have HN:=G hn;have HL:=G (fun n=>vr (w.drewN n) g src r s (h.drewN n));obtain⟨h1,h2,h3,h4⟩:=vf hx;generalize jh (sb src) r=lx at*;have HB:=G h1;have HT:=G h2;generalize hq:r1.tree.nodes.length=q at*;subst h3;clear h hn hx h1 h2 ht;unfold iv;have f1:(0:Int)<=(q:Int):=(by omega);have f2:(q:Int).toNat=q:=(by omega);have f3:(q:Int)<(q:Int)+1:=(by omega);go_enter func304,ntmps304;go_wp2;go_quiet ((go_at_call 209;exact Calls.quiet_of (HL.out _)));go_wp2_with (first|(go_at_call 150;refine(jN _ g src _ _ s (HS.out.drewN _) HN.out).mono ?_;rintro e w1 ⟨rfl,hX⟩;have HX:=G hX;clear hX)|(go_at_call 257;refine(vR _ g src _ _ s 4 _ _ none 0 [] HX.out.1 Rd.none_ (fun h0=>absurd h0 (Nat.lt_irrefl 0)) HB.out).mono ?_;rintro e w2 ⟨rfl,s2,hY,N9⟩;obtain⟨k,ns,xx,ps,NL,GO,Fk,GS⟩:=hY.lastC rfl hq;have d0:w2.cell? ⟨k,q*7,none⟩=_:=(Fk.cell 0 rfl).1;have z0:w2.frozen? ⟨k,q*7,none⟩=false:=(Fk.cell 0 rfl).2;have d2:=(Fk.cell 2 rfl).1;have z2:=(Fk.cell 2 rfl).2;have d3:=(Fk.cell 3 rfl).1;have z3:=(Fk.cell 3 rfl).2;have d4:=(Fk.cell 4 rfl).1;have z4:=(Fk.cell 4 rfl).2;have d5:=(Fk.cell 5 rfl).1;have z5:=(Fk.cell 5 rfl).2;have Wu:=G Fk;have HF:=G N9;clear Fk hY N9;unfold iv)|fail);go_ret;have HD:=G ((((((Wu.out.set_ 0 (.int .i64 2)).set_ 2 (.int .i64 2)).set_ 3 (.int .i64 0)).set_ 4 (.string ⟨#[]⟩)).set_ 5 (.slice none 0 0)).lit GO HT.out rfl rfl none 0 (by simp only[ndC,NL];rfl));exact⟨rfl,s2,HD.out.1,(((Fr.of_old s ((jQ0 _ _).drewN _)).trans HX.out.2).trans HF.out).trans HD.out.2⟩
theorem yz{a b c:World}(h:Old a b)(k:Old b c):Old a c:=h.trans k (fun _ _ e=>e)
structure TrF(w:World)(t:Tre)(s:Sl)(ns:List MNd)(ps:List MSt):Prop where
 rA:Rd w 7 s.aA t.attrs.length (t.attrs.flatMap atC)
 rG:Rd w 7 s.gA t.stages.length (t.stages.flatMap sgC)
 rM:Rd w 6 s.mA t.miles.length (t.miles.flatMap miC)
 rP:Rd w 8 s.pA t.steps.length (ps.flatMap stC)
 rN:Rd w 7 s.nA t.nodes.length (ns.flatMap ndC)
 rO:Rd w 1 s.oA t.ats.length (t.ats.map iv)
 pe:ps.map (·.s)=t.steps
 ne:ns.map (·.n)=t.nodes
 po:∀x∈ps,Rd w 3 x.pA x.s.params.length (x.s.params.flatMap prC)/\Rd w 3 x.eA x.s.effects.length (x.s.effects.flatMap efC)
 no:∀x∈ns,Rd w 1 x.A x.n.kids.length (x.n.kids.map iv)/\Rd w 1 x.vA x.n.vs.length (x.n.vs.map sv)
theorem TrF.old{w w' :World}{t:Tre}{s:Sl}{ns:List MNd}{ps:List MSt}(h:TrF w t s ns ps)(ho:Old w w'):TrF w' t s ns ps:=
 ⟨h.rA.old ho,h.rG.old ho,h.rM.old ho,h.rP.old ho,h.rN.old ho,h.rO.old ho,h.pe,h.ne,fun x hx=>⟨(h.po x hx).1.old ho,(h.po x hx).2.old ho⟩,fun x hx=>⟨(h.no x hx).1.old ho,(h.no x hx).2.old ho⟩⟩
theorem Got.zero{src:LB}{st:List Nat}{r r' :Rdr}{ts ts' :List Tk}(h:Got src st r ts r' ts'):Got0 src st r ts r' ts' :=⟨h.look,h.acc,Nat.le_of_lt h.len,h.big⟩
section
variable{src:LB}{f:Nat}
theorem qS(r:Rdr)(ts:List Tk)(st:List Nat)(hl:Look src r ts)(hb:big r+2*ts.length<=kF)(hf:10*ts.length+8<=f)(ha:Acc (69::st) ts):∃x r' ts',ZZ src f r=some (x,r')/\0<=x/\Got src st r ts r' ts' :=by
 obtain⟨x,r',ts',e,p,g⟩:=(Kq src f).ex r ts st hl hb hf ha;refine⟨x,r',ts',?_,p,g⟩;unfold ZZ;rw[e];rfl
theorem YE(first sym:Nat)(h:(first=12/\sym=61)\/(first=32/\sym=62))(r:Rdr)(ts:List Tk)(st:List Nat)(hl:Look src r ts)(hb:big r+2*ts.length<=kF)(hf:10*ts.length+8<=f)(ha:Acc (sym::st) ts):
  ∃x r' ts',kZ src f first r=some (x,r')/\Got0 src st r ts r' ts' :=by
 have hs:58<=sym/\∀t,(jE sym t=true->t=first/\jX sym t=[t,69])/\(jE sym t=false->t≠first):=by
  rcases h with⟨rfl,rfl⟩|⟨rfl,rfl⟩
  ·refine⟨by decide,fun t=>⟨fun e=> ?_,fun e e2=> ?_⟩⟩
   ·have h1:t=12:=(by simpa [jE]using e);subst h1;exact⟨rfl,rfl⟩
   ·subst e2;cases e
  ·refine⟨by decide,fun t=>⟨fun e=> ?_,fun e e2=> ?_⟩⟩
   ·have h1:t=32:=(by simpa [jE]using e);subst h1;exact⟨rfl,rfl⟩
   ·subst e2;cases e
 obtain⟨k,ts2,rfl,Fx,⟨FF,ha⟩|⟨FF,ha⟩⟩:=kL hs.1 ha
 ·obtain⟨h1,h2⟩:=(hs.2 k.t).1 FF;rw[h2]at ha;obtain⟨-,a1⟩:=jT Fx ha;obtain⟨r1,e1,b1,-,-,l1⟩:=jI hl;unfold kF at hb;rw[jK6]at hb hf;obtain⟨x,r',ts',e2,p,l2,a2,n2,b2⟩:=qS (f:=f) r1 ts2 st l1 (by unfold kF;omega) (by omega) a1;refine⟨x,r',ts',?_,l2,a2,by rw[jK6];omega,by rw[jK6];omega⟩;unfold kZ;rw[jJ5 (by rw[hl.1,h1];exact fun e=>e rfl),e1,jL2,jJ6 (by omega)];exact e2
 ·refine⟨-1,r,_,?_,hl,ha,jL3 _,jL3 _⟩;unfold kZ;rw[jJ6 (by rw[hl.1];exact(hs.2 k.t).2 FF)]
theorem ZF(t:Nat)(ht:t=29\/t=30\/t=31)(r:Rdr)(k:Tk)(ts:List Tk)(st:List Nat)(hk:k.t=t)(hl:Look src r (k::ts))(hb:big r+2*(k::ts).length<=kF)(hf:10*(k::ts).length+8<=f)(ha:Acc (32::69::9::st) ts):
  ∃x r' ts',vp src f t r=some (x,r')/\Got src st r (k::ts) r' ts' :=by
 unfold kF at hb;rw[jK6]at hb hf;obtain⟨r1,e1,b1,-,-,l1⟩:=jI hl;obtain⟨k2,t2,rfl,-,a2⟩:=jO (by decide) ha;obtain⟨r2,e2,b2,-,-,l2⟩:=jI l1;rw[jK6]at hb hf;obtain⟨x3,r3,t3,e3,p3,l3,a3,n3,b3⟩:=qS (f:=f) r2 t2 _ l2 (by unfold kF;omega) (by omega) a2;obtain⟨k4,t4,rfl,-,a4⟩:=jO (by decide) a3;rw[jK6]at n3 b3;obtain⟨r4,e4,b4,-,-,l4⟩:=jI l3;refine⟨x3,r4,t4,?_,l4,a4,by simp only[jK6];omega,by simp only[jK6];omega⟩;unfold vp kZ;rw[jJ5 (by rw[hl.1,hk];exact fun e=>e rfl),e1,jL2,jJ5 (by omega),e2,jL2,e3,jL2,jJ6 p3,e4,jL2]
theorem xR(t sym:Nat)(h:(t=29/\sym=64)\/(t=30/\sym=65))(r:Rdr)(ts:List Tk)(st:List Nat)(hl:Look src r ts)(hb:big r+2*ts.length<=kF)(hf:10*ts.length+8<=f)(ha:Acc (sym::st) ts):
  ∃x r' ts',vp src f t r=some (x,r')/\Got0 src st r ts r' ts' :=by
 have hs:58<=sym/\∀u,(jE sym u=true->u=t/\jX sym u=[u,32,69,9])/\(jE sym u=false->u≠t):=by
  rcases h with⟨rfl,rfl⟩|⟨rfl,rfl⟩
  ·refine⟨by decide,fun u=>⟨fun e=> ?_,fun e e2=> ?_⟩⟩
   ·have h1:u=29:=(by simpa [jE]using e);subst h1;exact⟨rfl,rfl⟩
   ·subst e2;cases e
  ·refine⟨by decide,fun u=>⟨fun e=> ?_,fun e e2=> ?_⟩⟩
   ·have h1:u=30:=(by simpa [jE]using e);subst h1;exact⟨rfl,rfl⟩
   ·subst e2;cases e
 obtain⟨k,ts2,rfl,Fx,⟨FF,ha⟩|⟨FF,ha⟩⟩:=kL hs.1 ha
 ·obtain⟨h1,h2⟩:=(hs.2 k.t).1 FF;rw[h2]at ha;obtain⟨-,a1⟩:=jT Fx ha;obtain⟨x,r',ts',e,g⟩:=ZF t (by omega) r k ts2 st h1 hl hb hf a1;exact⟨x,r',ts',e,g.zero⟩
 ·refine⟨-1,r,_,?_,hl,ha,jL3 _,jL3 _⟩;unfold vp kZ;rw[jJ6 (by rw[hl.1];exact(hs.2 k.t).2 FF),jL2,jJ5 (show¬(0:Int)<= -1 by decide)]
theorem YF(t0:Nat)(ht:t0<58)(r:Rdr)(ts:List Tk)(st:List Nat)(hl:Look src r ts)(hb:big r+2*ts.length<=kF)(ha:Acc (t0::1::st) ts):
  ∃w a o r' ts',VQ src r=some (w,a,o,r')/\Look src r' ts' /\Acc st ts' /\ts'.length+2=ts.length/\big r' =big r+1:=by
 obtain⟨k1,t1,rfl,-,a1⟩:=jO ht ha;obtain⟨r1,e1,b1,-,-,l1⟩:=jI hl;obtain⟨k2,t2,rfl,-,a2⟩:=jO (by decide) a1;obtain⟨r2,e2,b2,-,-,l2⟩:=jI l1;unfold kF at hb;have ho:r2.order<=big r2:=by unfold big;omega
 refine⟨⟨(jh src r1).toArray⟩,(r1.from_:Int),(r2.order:Int),{r2 with order:=r2.order+1},t2,?_,?_,a2,rfl,?_⟩
 ·unfold VQ zC;rw[e1,jL2,e2];simp only[Option.map_some,jL2];rw[jJ6 (by omega)]
 ·cases t2 with
  |nil=>trivial
  |cons k t2=>exact l2
 ·rw[<-b1,<-b2];unfold big;simp only;omega
theorem jC4(r:Rdr)(ts:List Tk)(st:List Nat)(hl:Look src r ts)(ha:Acc (63::st) ts):∃w a r' ts',inN src r=some (w,a,r')/\Got0 src st r ts r' ts' :=by
 obtain⟨k,ts2,rfl,Fx,⟨FF,ha⟩|⟨FF,ha⟩⟩:=kL (by decide) ha
 ·have h1:k.t=28:=(by simpa [jE]using FF);rw[show jX 63 k.t=[28,1]by rw[h1];rfl]at ha;obtain⟨-,a1⟩:=jT (by decide) ha;obtain⟨r1,e1,b1,-,-,l1⟩:=jI hl;obtain⟨k2,t2,rfl,-,a2⟩:=jO (by decide) a1;obtain⟨r2,e2,b2,-,-,l2⟩:=jI l1;refine⟨⟨(jh src r1).toArray⟩,(r1.from_:Int),r2,t2,?_,l2,a2,by simp only[jK6];omega,by simp only[jK6];omega⟩;unfold inN zC;rw[jJ6 (by rw[hl.1];exact h1),e1,jL2,e2];rfl
 ·have h1:k.t≠28:=fun e=>by rw[e]at FF;cases FF
  refine⟨⟨#[]⟩,0,r,_,?_,hl,ha,jL3 _,jL3 _⟩;unfold inN;rw[jJ5 (by rw[hl.1];exact h1)]
theorem XG(r:Rdr)(ts:List Tk)(st:List Nat)(hl:Look src r ts)(ha:Acc (60::st) ts):∃x r' ts',ZO src r=some (x,r')/\Got src st r ts r' ts' :=by
 obtain⟨k,ts2,rfl,Fx,FF,ha⟩:=yO (by decide) (by decide) ha;have h1:34<=k.t/\k.t<=38:=(by simpa [jE]using FF);have h2:jX 60 k.t=[k.t]:=by
  unfold jX;rw[jJ5 (by rw[FF];decide)];rfl
 rw[h2]at ha;obtain⟨-,a1⟩:=jT Fx ha;obtain⟨r1,e1,b1,-,-,l1⟩:=jI hl;refine⟨(r.t:Int)-33,r1,ts2,?_,l1,a1,by simp only[jK6];omega,by simp only[jK6];omega⟩;unfold ZO;rw[jJ6 (by rw[hl.1];exact h1),e1];rfl
theorem qR(r:Rdr)(ts:List Tk)(st:List Nat)(hl:Look src r ts)(ha:Acc (59::st) ts):∃b r' ts',jb src 39 r=some (b,r')/\Got0 src st r ts r' ts' :=by
 obtain⟨k,ts2,rfl,Fx,⟨FF,ha⟩|⟨FF,ha⟩⟩:=kL (by decide) ha
 ·have h1:k.t=39:=(by simpa [jE]using FF);rw[show jX 59 k.t=[39]by rw[h1];rfl]at ha;obtain⟨-,a1⟩:=jT (by decide) ha;obtain⟨r1,e1,b1,-,-,l1⟩:=jI hl;refine⟨true,r1,ts2,?_,l1,a1,by simp only[jK6];omega,by simp only[jK6];omega⟩;unfold jb;rw[jJ6 (by rw[hl.1];exact h1),e1];rfl
 ·have h1:k.t≠39:=fun e=>by rw[e]at FF;cases FF
  refine⟨false,r,_,?_,hl,ha,jL3 _,jL3 _⟩;unfold jb;rw[jJ5 (by rw[hl.1];exact h1)]
theorem jC5(r:Rdr)(ts:List Tk)(st:List Nat)(hl:Look src r ts)(hb:big r+2*ts.length<=kF)(hf:10*ts.length+8<=f)(ha:Acc (24::1::10::59::60::61::62::9::st) ts):∃r' ts',qr src f r=some r' /\Got src st r ts r' ts' :=by
 obtain⟨w,a,o,r1,t1,e1,l1,a1,n1,b1⟩:=YF 24 (by decide) r ts _ hl hb ha;unfold kF at hb;obtain⟨k2,t2,rfl,-,a2⟩:=jO (by decide) a1;obtain⟨r2,e2,b2,-,-,l2⟩:=jI l1;rw[jK6]at n1;obtain⟨x3,r3,t3,e3,l3,a3,n3,b3⟩:=qR r2 t2 _ l2 a2;obtain⟨x4,r4,t4,e4,l4,a4,n4,b4⟩:=XG r3 t3 _ l3 a3;obtain⟨x5,r5,t5,e5,l5,a5,n5,b5⟩:=YE (f:=f) 12 61 (.inl ⟨rfl,rfl⟩) r4 t4 _ l4 (by unfold kF;omega) (by omega) a4;obtain⟨x6,r6,t6,e6,l6,a6,n6,b6⟩:=YE (f:=f) 32 62 (.inr ⟨rfl,rfl⟩) r5 t5 _ l5 (by unfold kF;omega) (by omega) a5;obtain⟨k7,t7,rfl,-,a7⟩:=jO (by decide) a6;obtain⟨r7,e7,b7,-,-,l7⟩:=jI l6;rw[jK6]at n6 b6;have GC:r7.tree.attrs.length<=big r7:=by unfold big;omega
 refine⟨{r7 with tree:={r7.tree with attrs:=r7.tree.attrs++[⟨w,a,o,x3,x4,x5,x6⟩]}},t7,?_,?_,a7,by omega,?_⟩
 ·unfold qr;simp only[e1,e2,e3,e4,e5,e6,e7,jL2];rw[jJ6 (by omega)]
 ·cases t7 with
  |nil=>trivial
  |cons k t7=>exact l7
 ·have:big {r7 with tree:={r7.tree with attrs:=r7.tree.attrs++[⟨w,a,o,x3,x4,x5,x6⟩]}}=big r7+1:=by
   unfold big;simp only[jJ4,jK6,jN2];omega
  omega
theorem jAV(r:Rdr)(ts:List Tk)(st:List Nat)(hl:Look src r ts)(hb:big r+2*ts.length<=kF)(hf:10*ts.length+8<=f)(ha:Acc (25::1::63::4::64::65::5::st) ts):∃r' ts',KY src f r=some r' /\Got src st r ts r' ts' :=by
 obtain⟨w,a,o,r1,t1,e1,l1,a1,n1,b1⟩:=YF 25 (by decide) r ts _ hl hb ha;unfold kF at hb;obtain⟨x2,y2,r2,t2,e2,l2,a2,n2,b2⟩:=jC4 r1 t1 _ l1 a1;obtain⟨k3,t3,rfl,-,a3⟩:=jO (by decide) a2;obtain⟨r3,e3,b3,-,-,l3⟩:=jI l2;rw[jK6]at n2 b2;obtain⟨x4,r4,t4,e4,l4,a4,n4,b4⟩:=xR (f:=f) 29 64 (.inl ⟨rfl,rfl⟩) r3 t3 _ l3 (by unfold kF;omega) (by omega) a3;obtain⟨x5,r5,t5,e5,l5,a5,n5,b5⟩:=xR (f:=f) 30 65 (.inr ⟨rfl,rfl⟩) r4 t4 _ l4 (by unfold kF;omega) (by omega) a4;obtain⟨k7,t7,rfl,-,a7⟩:=jO (by decide) a5;obtain⟨r7,e7,b7,-,-,l7⟩:=jI l5;rw[jK6]at n5 b5;have GC:r7.tree.stages.length<=big r7:=by unfold big;omega
 refine⟨{r7 with tree:={r7.tree with stages:=r7.tree.stages++[⟨w,a,o,x2,y2,x4,x5⟩]}},t7,?_,?_,a7,by omega,?_⟩
 ·unfold KY;simp only[e1,e2,e3,e4,e5,e7,jL2];rw[jJ6 (by omega)]
 ·cases t7 with
  |nil=>trivial
  |cons k t7=>exact l7
 ·have:big {r7 with tree:={r7.tree with stages:=r7.tree.stages++[⟨w,a,o,x2,y2,x4,x5⟩]}}=big r7+1:=by
   unfold big;simp only[jJ4,jK6,jN2];omega
  omega
theorem jC3(r:Rdr)(ts:List Tk)(st:List Nat)(hl:Look src r ts)(hb:big r+2*ts.length<=kF)(hf:10*ts.length+8<=f)(ha:Acc (26::1::63::31::32::69::9::st) ts):∃r' ts',qX src f r=some r' /\Got src st r ts r' ts' :=by
 obtain⟨w,a,o,r1,t1,e1,l1,a1,n1,b1⟩:=YF 26 (by decide) r ts _ hl hb ha;unfold kF at hb;obtain⟨x2,y2,r2,t2,e2,l2,a2,n2,b2⟩:=jC4 r1 t1 _ l1 a1;obtain⟨k3,t3,rfl,Lj,a3⟩:=jO (by decide) a2;obtain⟨x4,r4,t4,e4,l4,a4,n4,b4⟩:=ZF (f:=f) 31 (.inr (.inr rfl)) r2 k3 t3 _ Lj l2 (by unfold kF;omega) (by omega) a3;have GC:r4.tree.miles.length<=big r4:=by unfold big;omega
 refine⟨{r4 with tree:={r4.tree with miles:=r4.tree.miles++[⟨w,a,o,x2,y2,x4⟩]}},t4,?_,?_,a4,by omega,?_⟩
 ·unfold qX;simp only[e1,e2,e4,jL2];rw[jJ6 (by omega)]
 ·cases t4 with
  |nil=>trivial
  |cons k t7=>exact l4
 ·have:big {r4 with tree:={r4.tree with miles:=r4.tree.miles++[⟨w,a,o,x2,y2,x4⟩]}}=big r4+1:=by
   unfold big;simp only[jJ4,jK6,jN2];omega
  omega
theorem ZG:∀(f:Nat) (n:Nat) (ps:List Prm) (r:Rdr) (ts:List Tk) (st:List Nat),(n=66\/n=67)->ps.length+ts.length<=900000->Look src r ts->ts.length+1<=f->Acc (n::7::st) ts->
  ∃qs r' ts',yT src f ps r=some (qs,r')/\Got0 src (7::st) r ts r' ts'
 |0,n,ps,r,ts,st,hn,hp,hl,hf,ha=>by omega
 |f+1,n,ps,r,ts,st,hn,hp,hl,hf,ha=>by
  have key:(∃k t2,ts=k::t2/\k.t=7/\Acc (7::st) ts)\/(∃k t2,ts=k::t2/\k.t≠7/\∃b r1 t1,jb src 8 r=some (b,r1)/\Look src r1 t1/\t1.length<=ts.length/\big r1=big r/\Acc (1::10::60::67::7::st) t1):=by
   rcases hn with rfl|rfl
   ·obtain⟨k,ts2,rfl,Fx,⟨FF,ha⟩|⟨FF,ha⟩⟩:=kL (by decide) ha
    ·have h1:k.t=1:=(by simpa [jE]using FF);rw[show jX 66 k.t=[1,10,60,67]by rw[h1];rfl]at ha;refine .inr ⟨k,ts2,rfl,by omega,false,r,k::ts2,?_,hl,jL3 _,rfl,ha⟩;unfold jb;rw[jJ5 (by rw[hl.1];omega)]
    ·obtain⟨h1,-⟩:=jT (by decide) ha;exact .inl ⟨k,ts2,rfl,h1,ha⟩
   ·obtain⟨k,ts2,rfl,Fx,⟨FF,ha⟩|⟨FF,ha⟩⟩:=kL (by decide) ha
    ·have h1:k.t=8:=(by simpa [jE]using FF);rw[show jX 67 k.t=[8,1,10,60,67]by rw[h1];rfl]at ha;obtain⟨-,a1⟩:=jT (by decide) ha;obtain⟨r1,e1,b1,-,-,l1⟩:=jI hl;refine .inr ⟨k,ts2,rfl,by omega,true,r1,ts2,?_,l1,by simp,b1,a1⟩;unfold jb;rw[jJ6 (by rw[hl.1];exact h1),e1];rfl
    ·obtain⟨h1,-⟩:=jT (by decide) ha;exact .inl ⟨k,ts2,rfl,h1,ha⟩
  rcases key with⟨k,t2,rfl,h7,ha⟩|⟨k,t2,rfl,h7,b,r1,t1,e1,l1,n1,b1,a1⟩
  ·refine⟨ps,r,_,?_,hl,ha,jL3 _,jL3 _⟩;rw[yT,jJ6 (by rw[hl.1];exact h7)]
  ·obtain⟨k2,t2',rfl,-,a2⟩:=jO (by decide) a1;obtain⟨r2,e2,b2,-,-,l2⟩:=jI l1;obtain⟨k3,t3,rfl,-,a3⟩:=jO (by decide) a2;obtain⟨r3,e3,b3,-,-,l3⟩:=jI l2;obtain⟨x4,r4,t4,e4,l4,a4,n4,b4⟩:=XG r3 t3 _ l3 a3;simp only[jK6]at n1 hp hf;obtain⟨qs,r5,t5,e5,l5,a5,n5,b5⟩:=ZG f 67 (ps++[⟨⟨(jh src r1).toArray⟩,(r1.from_:Int),x4⟩]) r4 t4 st (.inr rfl) (by rw[jJ4,List.length_singleton];omega) l4 (by omega) a4;refine⟨qs,r5,t5,?_,l5,a5,by simp only[jK6];omega,by simp only[jK6];omega⟩;rw[yT,jJ5 (by rw[hl.1];exact h7),jJ6 (by omega),e1];simp only[zC,e2,e3,e4,e5,jL2,Option.map_some]
theorem Jf(src:LB):∀(f:Nat) (es:List Eff) (r:Rdr) (ts:List Tk) (st:List Nat),es.length+ts.length<=900000->Look src r ts->big r+2*ts.length<=kF->10*ts.length+10<=f->Acc (68::5::st) ts->
  ∃qs r' ts',vH src f es r=some (qs,r')/\Got0 src (5::st) r ts r' ts'
 |0,es,r,ts,st,hp,hl,hb,hf,ha=>by omega
 |f+1,es,r,ts,st,hp,hl,hb,hf,ha=>by
  obtain⟨k,ts2,rfl,Fx,⟨FF,ha⟩|⟨FF,ha⟩⟩:=kL (by decide) ha
  ·unfold kF at hb;simp only[jK6]at hb hp hf;have h1:k.t=1\/k.t=33:=(by simpa [jE]using FF);rcases h1 with h1|h1
   ·rw[show jX 68 k.t=[1,11,69,9,68]by rw[h1];rfl]at ha;obtain⟨-,a1⟩:=jT (by decide) ha;obtain⟨r1,e1,b1,-,-,l1⟩:=jI hl;obtain⟨k2,t2,rfl,-,a2⟩:=jO (by decide) a1;obtain⟨r2,e2,b2,-,-,l2⟩:=jI l1;simp only[jK6]at hb hp hf;obtain⟨x3,r3,t3,e3,p3,l3,a3,n3,b3⟩:=qS (f:=f) r2 t2 _ l2 (by unfold kF;omega) (by omega) a2;obtain⟨k4,t4,rfl,-,a4⟩:=jO (by decide) a3;obtain⟨r4,e4,b4,-,-,l4⟩:=jI l3;rw[jK6]at n3 b3;obtain⟨qs,r5,t5,e5,l5,a5,n5,b5⟩:=Jf src f (es++[⟨⟨(jh src r).toArray⟩,(r.from_:Int),x3⟩]) r4 t4 st (by rw[jJ4,List.length_singleton];omega) l4 (by unfold kF;omega) (by omega) a4;refine⟨qs,r5,t5,?_,l5,a5,by simp only[jK6];omega,by simp only[jK6];omega⟩;rw[vH,jJ5 (by rw[hl.1,h1];decide),jJ6 (by omega),jb,jJ5 (by rw[hl.1,h1];decide)];simp only[zC,e1,e2,e3,e4,e5,jL2,Option.map_some,Bool.false_eq_true,if_false]
   ·rw[show jX 68 k.t=[33,1,9,68]by rw[h1];rfl]at ha;obtain⟨-,a1⟩:=jT (by decide) ha;obtain⟨r1,e1,b1,-,-,l1⟩:=jI hl;obtain⟨k2,t2,rfl,-,a2⟩:=jO (by decide) a1;obtain⟨r2,e2,b2,-,-,l2⟩:=jI l1;obtain⟨k4,t4,rfl,-,a4⟩:=jO (by decide) a2;obtain⟨r4,e4,b4,-,-,l4⟩:=jI l2;simp only[jK6]at hb hp hf;obtain⟨qs,r5,t5,e5,l5,a5,n5,b5⟩:=Jf src f (es++[⟨⟨(jh src r1).toArray⟩,(r1.from_:Int),-1⟩]) r4 t4 st (by rw[jJ4,List.length_singleton];omega) l4 (by unfold kF;omega) (by omega) a4;refine⟨qs,r5,t5,?_,l5,a5,by simp only[jK6];omega,by simp only[jK6];omega⟩;rw[vH,jJ5 (by rw[hl.1,h1];decide),jJ6 (by omega),jb,jJ6 (by rw[hl.1,h1])];simp only[zC,e1,e2,e4,e5,jL2,Option.map_some,if_true]
  ·obtain⟨h1,-⟩:=jT (by decide) ha;refine⟨es,r,_,?_,hl,ha,jL3 _,jL3 _⟩;rw[vH,jJ6 (by rw[hl.1];exact h1)]
theorem jC1(r:Rdr)(ts:List Tk)(st:List Nat)(hl:Look src r ts)(hb:big r+2*ts.length<=kF)(hf:10*ts.length+10<=f)(ha:Acc (27::1::6::66::7::63::62::4::68::5::st) ts):∃r' ts',qB src f r=some r' /\Got src st r ts r' ts' :=by
 obtain⟨w,a,o,r1,t1,e1,l1,a1,n1,b1⟩:=YF 27 (by decide) r ts _ hl hb ha;unfold kF at hb;obtain⟨k2,t2,rfl,-,a2⟩:=jO (by decide) a1;obtain⟨r2,e2,b2,-,-,l2⟩:=jI l1;rw[jK6]at n1;obtain⟨ps,r3,t3,e3,l3,a3,n3,b3⟩:=ZG f 66 [] r2 t2 _ (.inl rfl) (by rw[jN2];omega) l2 (by omega) a2;obtain⟨k4,t4,rfl,-,a4⟩:=jO (by decide) a3;obtain⟨r4,e4,b4,-,-,l4⟩:=jI l3;rw[jK6]at n3 b3;obtain⟨x5,y5,r5,t5,e5,l5,a5,n5,b5⟩:=jC4 r4 t4 _ l4 a4;obtain⟨x6,r6,t6,e6,l6,a6,n6,b6⟩:=YE (f:=f) 32 62 (.inr ⟨rfl,rfl⟩) r5 t5 _ l5 (by unfold kF;omega) (by omega) a5;obtain⟨k7,t7,rfl,-,a7⟩:=jO (by decide) a6;obtain⟨r7,e7,b7,-,-,l7⟩:=jI l6;rw[jK6]at n6 b6;obtain⟨es,r8,t8,e8,l8,a8,n8,b8⟩:=Jf src f [] r7 t7 _ (by rw[jN2];omega) l7 (by unfold kF;omega) (by omega) a7;obtain⟨k9,t9,rfl,-,a9⟩:=jO (by decide) a8;obtain⟨r9,e9,b9,-,-,l9⟩:=jI l8;rw[jK6]at n8 b8;have GC:r9.tree.steps.length<=big r9:=by unfold big;omega
 refine⟨{r9 with tree:={r9.tree with steps:=r9.tree.steps++[⟨w,a,o,ps,x5,y5,x6,es⟩]}},t9,?_,?_,a9,by omega,?_⟩
 ·unfold qB;simp only[e1,e2,e3,e4,e5,e6,e7,e8,e9,jL2];rw[jJ6 (by omega)]
 ·cases t9 with
  |nil=>trivial
  |cons k t9=>exact l9
 ·have:big {r9 with tree:={r9.tree with steps:=r9.tree.steps++[⟨w,a,o,ps,x5,y5,x6,es⟩]}}=big r9+1:=by
   unfold big;simp only[jJ4,jK6,jN2];omega
  omega
theorem JK(src:LB):∀(f:Nat) (r:Rdr) (ts:List Tk),Look src r ts->big r+2*ts.length<=kF->10*ts.length+11<=f->Acc [58,5] ts->∃r',ya src f r=some r'
 |0,r,ts,hl,hb,hf,ha=>by omega
 |f+1,r,ts,hl,hb,hf,ha=>by
  obtain⟨k,ts2,rfl,Fx,⟨FF,ha⟩|⟨FF,ha⟩⟩:=kL (by decide) ha
  ·have h1:24<=k.t/\k.t<=27:=(by simpa [jE]using FF);rw[ya];have hc:k.t=24\/k.t=25\/k.t=26\/k.t=27:=(by omega);rcases hc with h|h|h|h
   ·rw[show jX 58 k.t=[24,1,10,59,60,61,62,9,58]by rw[h];rfl]at ha;obtain⟨r1,t1,e1,l1,a1,n1,b1⟩:=jC5 (f:=f) r _ [58,5] hl hb (by omega) ha;unfold kF at hb;obtain⟨r2,e2⟩:=JK src f r1 t1 l1 (by unfold kF;omega) (by omega) a1;refine⟨r2,?_⟩;rw[jJ6 (by rw[hl.1];exact h),e1];exact e2
   ·rw[show jX 58 k.t=[25,1,63,4,64,65,5,58]by rw[h];rfl]at ha;obtain⟨r1,t1,e1,l1,a1,n1,b1⟩:=jAV (f:=f) r _ [58,5] hl hb (by omega) ha;unfold kF at hb;obtain⟨r2,e2⟩:=JK src f r1 t1 l1 (by unfold kF;omega) (by omega) a1;refine⟨r2,?_⟩;rw[jJ5 (by rw[hl.1];omega),jJ6 (by rw[hl.1];exact h),e1];exact e2
   ·rw[show jX 58 k.t=[26,1,63,31,32,69,9,58]by rw[h];rfl]at ha;obtain⟨r1,t1,e1,l1,a1,n1,b1⟩:=jC3 (f:=f) r _ [58,5] hl hb (by omega) ha;unfold kF at hb;obtain⟨r2,e2⟩:=JK src f r1 t1 l1 (by unfold kF;omega) (by omega) a1;refine⟨r2,?_⟩;rw[jJ5 (by rw[hl.1];omega),jJ5 (by rw[hl.1];omega),jJ6 (by rw[hl.1];exact h),e1];exact e2
   ·rw[show jX 58 k.t=[27,1,6,66,7,63,62,4,68,5,58]by rw[h];rfl]at ha;obtain⟨r1,t1,e1,l1,a1,n1,b1⟩:=jC1 (f:=f) r _ [58,5] hl hb (by omega) ha;unfold kF at hb;obtain⟨r2,e2⟩:=JK src f r1 t1 l1 (by unfold kF;omega) (by omega) a1;refine⟨r2,?_⟩;rw[jJ5 (by rw[hl.1];omega),jJ5 (by rw[hl.1];omega),jJ5 (by rw[hl.1];omega),jJ6 (by rw[hl.1];exact h),e1];exact e2
  ·obtain⟨h1,-⟩:=jT (by decide) ha;refine⟨r,?_⟩;rw[ya,jJ5 (by rw[hl.1];omega),jJ5 (by rw[hl.1];omega),jJ5 (by rw[hl.1];omega),jJ5 (by rw[hl.1];omega)]
theorem jAO{src:LB}{ts:List Tk}(ht:Toks src 0 ts)(ha:Acc [23,1,4,58,5] ts)(hn:ts.length<=400000)(f:Nat)(hf:10*ts.length+11<=f):∃r,Jb src f=some r:=by
 obtain⟨r1,e1,b1,-,-,l1⟩:=ZI (r:=⟨0,0,0,0,Tre.none_⟩) ht;obtain⟨k1,t1,rfl,-,a1⟩:=jO (by decide) ha;obtain⟨r2,e2,b2,-,-,l2⟩:=jI l1;obtain⟨k2,t2,rfl,-,a2⟩:=jO (by decide) a1;obtain⟨r3,e3,b3,-,-,l3⟩:=jI l2;obtain⟨k3,t3,rfl,-,a3⟩:=jO (by decide) a2;obtain⟨r4,e4,b4,-,-,l4⟩:=jI l3;simp only[jK6]at hn hf;have h0:big ⟨0,0,0,0,Tre.none_⟩=0:=rfl;obtain⟨r',e'⟩:=JK src f {r4 with tree:={r4.tree with name:=⟨(jh src r2).toArray⟩,at_:=(r2.from_:Int)}} t3 (by
  cases t3 with
  |nil=>trivial
  |cons k t=>exact l4) (by
  have:big {r4 with tree:={r4.tree with name:=⟨(jh src r2).toArray⟩,at_:=(r2.from_:Int)}}=big r4:=rfl;unfold kF;omega) (by omega) a3
 refine⟨r',?_⟩;unfold Jb zC;simp only[e1,e2,e3,e4,jL2,Option.map_some];exact e'
end
end Go.Proofs.YtifbhcfdealfaaaGreatDoor

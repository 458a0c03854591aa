import Derived.Test.YtmmjcbbogokmfaaGreatDoorMb32
import Derived.DeepKeys
import Derived.Laws.StructEq
set_option maxRecDepth 100000
set_option maxHeartbeats 25600000
namespace Go.Proofs.YtmmjcbbogokmfaaGreatDoor
open Go.Proofs.Tryz
open Go.RowKit
theorem Blk.setL{w:World}{g:Nat}{t:TypeId}{cs:List Value}(h:Blk w g t cs.toArray)(i:Nat)(u:Value):Blk (w.setCell ⟨g,i,none⟩ u) g t (cs.set i u).toArray:=by
 have:=h.set_ i u
 rwa [jJ1]at this
theorem jDz(x:Atr):∀u∈atC x,u.oneCell' =true:=by
 intro u hu;simp only[atC,iv,List.mem_cons,List.mem_nil_iff,or_false]at hu;rcases hu with rfl|rfl|rfl|rfl|rfl|rfl|rfl<;>rfl
theorem xN(w:World)(g:Nat)(src:BA)(f:Nat)(r r' :Rdr)(s:Sl)(h:St w g src r s)(hk:Qx (sb src) f r=some r'):
  Calls prog 137 #[.pointer (some ⟨g,0,none⟩)] w (Ex w g src s r' (.tuple #[])):=by
 unfold Qx at hk;obtain⟨⟨nm,at_,od,r1⟩,hd,hk⟩:=jM2 hk;obtain⟨r2,Fl,hk⟩:=jM2 hk;obtain⟨⟨opt,r3⟩,ho,hk⟩:=jM2 hk;obtain⟨⟨kd,r4⟩,Nq,hk⟩:=jM2 hk;obtain⟨⟨df,r5⟩,ND,hk⟩:=jM2 hk;obtain⟨⟨wh,r6⟩,Gz,hk⟩:=jM2 hk;obtain⟨r7,Fv,hk⟩:=jM2 hk;split at hk
 case isFalse=>cases hk
 rename_i hlt;injection hk with hk;have HZ:=G h.zlt;have Py:=G hk;have MG:=G hlt;have D0:=G hd;have N1:=G Fl;have O1:=G ho;have KD:=G Nq;have G1:=G ND;have G2:=G Gz;have N2:=G Fv;have HA:=G ((Ks.start h).alloc (.cells [.string ⟨#[]⟩,iv 0,iv 0,iv 0,.bool false,iv 0,iv 0].toArray 114));have BA:=G (jQ2 w 114 [.string ⟨#[]⟩,iv 0,iv 0,iv 0,.bool false,iv 0,iv 0].toArray);clear h hk hlt hd Fl ho Nq ND Gz Fv;generalize ha:w.heap.size=a at*;have hm:a∈ [a]:=List.mem_singleton.2 rfl;go_enter func137,ntmps137;go_wp2_with (first|(go_at_call 166;refine(zK _ g src _ _ _ _ _ _ HA.out.st D0.out).mono ?_;rintro e w1 ⟨rfl,hX⟩;have K1:=G (HA.out.step hX.1 hX.2);have B1:=G (HA.out.blk hm BA.out hX.2);clear hX;have b0:=B1.out.at_ 0 rfl;have z0:=B1.out.frozen 0;have b1:=B1.out.at_ 1 rfl;have z1:=B1.out.frozen 1;have b2:=B1.out.at_ 2 rfl;have z2:=B1.out.frozen 2;have K2:=G (((K1.out.put hm 0 (.string nm)).put hm 1 (iv at_)).put hm 2 (iv od));have B2:=G (((B1.out.setL 0 (.string nm)).setL 1 (iv at_)).setL 2 (iv od));unfold iv at K2 B2;unfold iv)|(go_at_call 135;first|(refine(jX _ g src _ _ _ K7.out.st N2.out).mono ?_;rintro e w8 ⟨rfl,hX⟩;have K8:=G (K7.out.step hX.1 hX.2);have B8:=G (K7.out.blk hm B7.out hX.2);clear hX)|(refine(jX _ g src _ _ _ K2.out.st N1.out).mono ?_;rintro e w3 ⟨rfl,hX⟩;have K3:=G (K2.out.step hX.1 hX.2);have B3:=G (K2.out.blk hm B2.out hX.2);clear hX))|(go_at_call 167;refine(jm _ g src _ _ _ 39 _ K3.out.st O1.out).mono ?_;rintro e w4 ⟨rfl,hX⟩;have K4a:=G (K3.out.step hX.1 hX.2);have B4a:=G (K3.out.blk hm B3.out hX.2);clear hX;have b4:=B4a.out.at_ 4 rfl;have z4:=B4a.out.frozen 4;have K4:=G (K4a.out.put hm 4 (.bool opt));have B4:=G (B4a.out.setL 4 (.bool opt)))|(go_at_call 168;refine(Xu _ g src _ _ _ _ K4.out.st KD.out).mono ?_;rintro e w5 ⟨rfl,hX⟩;have K5a:=G (K4.out.step hX.1 hX.2);have B5a:=G (K4.out.blk hm B4.out hX.2);clear hX;have b3:=B5a.out.at_ 3 rfl;have z3:=B5a.out.frozen 3;have K5:=G (K5a.out.put hm 3 (.int .i64 kd));have B5:=G (B5a.out.setL 3 (.int .i64 kd));unfold iv)|(go_at_call 169;first|(refine(jCP _ g src f _ _ _ K6.out.st G2.out).mono ?_;rintro e w7 ⟨rfl,s7,hX⟩;have K7a:=G (K6.out.step hX.1 hX.2);have B7a:=G (K6.out.blk hm B6.out hX.2);clear hX;have b6:=B7a.out.at_ 6 rfl;have z6:=B7a.out.frozen 6;have K7:=G (K7a.out.put hm 6 (.int .i64 wh));have B7:=G (B7a.out.setL 6 (.int .i64 wh));unfold iv)|(refine(jHF _ g src f _ _ _ K5.out.st G1.out).mono ?_;rintro e w6 ⟨rfl,s6,hX⟩;have K6a:=G (K5.out.step hX.1 hX.2);have B6a:=G (K5.out.blk hm B5.out hX.2);clear hX;have b5:=B6a.out.at_ 5 rfl;have z5:=B6a.out.frozen 5;have K6:=G (K6a.out.put hm 5 (.int .i64 df));have B6:=G (B6a.out.setL 5 (.int .i64 df));unfold iv))|fail);clear K1 B1 K2 B2 K3 B3 K4a B4a K4 B4 K5a B5a K5 B5 K6a B6a K6 B6 K7a B7a K7 B7 HA BA b0 b1 b2 b3 b4 b5 b6 z0 z1 z2 z3 z4 z5 z6;have HX:=G (show Blk w8 a 114 (atC ⟨nm,at_,od,opt,kd,df,wh⟩).toArray from B8.out);clear B8;obtain⟨ns,ps,hR⟩:=K8.out.st.rows;have HR:=G hR;clear hR;obtain⟨i0,hi,FF,Ft,FM⟩:=info_parts Xz;have GB:=G (show r7.tree.attrs.length+1<=maxLen by have:=MG.out;unfold maxLen;omega);have GH:=G (show(r7.tree.attrs.length+1)*64<=140737488355328 by have:=MG.out;omega);have RE:w8.cell? ⟨g,7,none⟩=some (.slice s7.aA r7.tree.attrs.length s7.ac):=Blk.at_ K8.out.st.box 7 rfl;have V2:=K8.out.st.box.z 7;have NV:=K8.out.st.lt;have N5:=HX.out.lt;have c0:w8.cell? ⟨a,0,none⟩=some (.string nm):=HX.out.at_ 0 rfl;have c1:w8.cell? ⟨a,1,none⟩=some (.int .i64 at_):=HX.out.at_ 1 rfl;have c2:w8.cell? ⟨a,2,none⟩=some (.int .i64 od):=HX.out.at_ 2 rfl;have c3:w8.cell? ⟨a,3,none⟩=some (.int .i64 kd):=HX.out.at_ 3 rfl;have c4:w8.cell? ⟨a,4,none⟩=some (.bool opt):=HX.out.at_ 4 rfl;have c5:w8.cell? ⟨a,5,none⟩=some (.int .i64 df):=HX.out.at_ 5 rfl;have c6:w8.cell? ⟨a,6,none⟩=some (.int .i64 wh):=HX.out.at_ 6 rfl;have HO:=G ((jQ0 NoX w8).drew.alloc (.cells (atC ⟨nm,at_,od,opt,kd,df,wh⟩).toArray 114));go_region_law ((refine kR _ rfl (.tmp 33) (.tmp 35) 22 rfl 8 114 i0 _ 7 64 underlying22 hi FF Ft FM rfl (by decide) (.slice s7.aA r7.tree.attrs.length s7.ac) r7.tree.attrs.length (r7.tree.attrs.flatMap atC) rfl (jW HR.out.rA HO.out (fun _ _ e=>e)) _ 1 1 (atC ⟨nm,at_,od,opt,kd,df,wh⟩) rfl (Rd.row_new _ _ 7 1 _ rfl) (jDz _) GB.out GH.out (jL4 K8.out.st.eight HO.out.size) ?_;intro A1 c1 w9 Hh hgrow Ff;rw[jC]at hgrow Ff;have Fk:=K8.out.st.pastA HR.out HO.out hgrow;have HG:=G (K8.out.st.growA HR.out ⟨nm,at_,od,opt,kd,df,wh⟩ True.intro HO.out hgrow Ff Hh);have RE:w9.cell? ⟨g,7,none⟩=some (.slice s7.aA r7.tree.attrs.length s7.ac):=Blk.at_ Fk 7 rfl;have V2:=Fk.z 7;clear Hh hgrow Ff Fk))
 all_goals
  have HE:=G ((K8.out.step HG.out.1 HG.out.2).done (fun b e=>by rw[ha];exact HZ.out b e));go_wp2;go_end0;rw[<-Py.out];exact⟨rfl,_,HE.out.1,HE.out.2⟩
def lpC(p:Int×Int):List Value:=[iv p.1,iv p.2]
structure LyS(qr ql qa qk:Nat)(s:LayP)(W:World):Prop where
 row:Blk W qr 134 (s.l.flatMap lpC).toArray
 lb:Blk W ql 130 #[.slice (some ⟨qr,0,none⟩) s.l.length s.l.length]
 ab:Blk W qa 3 #[iv s.last]
 kb:Blk W qk 4 #[.bool s.ok]
def LyX(qr qa qk:Nat):Nat->Prop:=fun b=>b=qr\/b=qa\/b=qk
section
variable{qr ql qa qk:Nat}{s:LayP}{W W1:World}
theorem LyS.old(h:LyS qr ql qa qk s W)(ho:Old W W1):LyS qr ql qa qk s W1:=⟨h.row.old ho,h.lb.old ho,h.ab.old ho,h.kb.old ho⟩
theorem LyS.setA(h:LyS qr ql qa qk s W)(v:Int):LyS qr ql qa qk {s with last:=v} (W.setCell ⟨qa,0,none⟩ (.int .i64 v))/\Kp (LyX qr qa qk) W (W.setCell ⟨qa,0,none⟩ (.int .i64 v)):=
 ⟨⟨h.row.far (h.row.ne_ h.ab (by decide)) _,h.lb.far (h.lb.ne_ h.ab (by decide)) _,by simpa [iv]using h.ab.set_ 0 (.int .i64 v),h.kb.far (h.kb.ne_ h.ab (by decide)) _⟩,(jQ0 (LyX qr qa qk) W).setCell (p:=⟨qa,0,none⟩) (fun _=>.inr (.inl rfl)) _⟩
theorem LyS.setK(h:LyS qr ql qa qk s W)(v:Bool):LyS qr ql qa qk {s with ok:=v} (W.setCell ⟨qk,0,none⟩ (.bool v))/\Kp (LyX qr qa qk) W (W.setCell ⟨qk,0,none⟩ (.bool v)):=
 ⟨⟨h.row.far (h.row.ne_ h.kb (by decide)) _,h.lb.far (h.lb.ne_ h.kb (by decide)) _,h.ab.far (h.ab.ne_ h.kb (by decide)) _,by simpa using h.kb.set_ 0 (.bool v)⟩,(jQ0 (LyX qr qa qk) W).setCell (p:=⟨qk,0,none⟩) (fun _=>.inr (.inr rfl)) _⟩
theorem jFR:∀(l:List (Int×Int)) (k:Nat) (p:Int×Int),k<l.length->((l.flatMap lpC).set (k*2) (iv p.1)).set (k*2+1) (iv p.2)=(l.set k p).flatMap lpC
 |[],_,_,h=>by cases h
 |x::l,0,p,_=>rfl
 |x::l,k+1,p,h=>by
  have e:(k+1)*2=k*2+1+1:=(by omega);have e2:(x::l).flatMap lpC=iv x.1::iv x.2::l.flatMap lpC:=rfl;rw[jJ3,e,e2];simp only[jJ3];rw[jFR l k p (Nat.lt_of_succ_lt_succ h)];rfl
theorem LyS.setR(h:LyS qr ql qa qk s W){k:Nat}(hk:k<s.l.length)(a b:Int):LyS qr ql qa qk {s with l:=s.l.set k (a,b)} ((W.setCell ⟨qr,k*2,none⟩ (.int .i64 a)).setCell ⟨qr,k*2+1,none⟩ (.int .i64 b))/\Kp (LyX qr qa qk) W ((W.setCell ⟨qr,k*2,none⟩ (.int .i64 a)).setCell ⟨qr,k*2+1,none⟩ (.int .i64 b)):=by
 have h1:=Blk.setL (Blk.setL h.row (k*2) (.int .i64 a)) (k*2+1) (.int .i64 b);have e:((s.l.flatMap lpC).set (k*2) (.int .i64 a)).set (k*2+1) (.int .i64 b)=(s.l.set k (a,b)).flatMap lpC:=jFR s.l k (a,b) hk;rw[e]at h1;refine⟨⟨h1,?_,(h.ab.far (h.ab.ne_ h.row (by decide)) _).far (h.ab.ne_ h.row (by decide)) _,(h.kb.far (h.kb.ne_ h.row (by decide)) _).far (h.kb.ne_ h.row (by decide)) _⟩,((jQ0 (LyX qr qa qk) W).setCell (p:=⟨qr,k*2,none⟩) (fun _=>.inl rfl) _).setCell (p:=⟨qr,k*2+1,none⟩) (fun _=>.inl rfl) _⟩;have:=(h.lb.far (h.lb.ne_ h.row (by decide)) (p:=⟨qr,k*2,none⟩) (.int .i64 a)).far (h.lb.ne_ h.row (by decide)) (p:=⟨qr,k*2+1,none⟩) (.int .i64 b);show Blk _ ql _ #[.slice (some ⟨qr,0,none⟩) (s.l.set k (a,b)).length (s.l.set k (a,b)).length];rw[List.length_set];exact this
theorem LyS.at_(h:LyS qr ql qa qk s W){k:Nat}(hk:k<s.l.length):W.cell? ⟨qr,k*2,none⟩=some (.int .i64 (s.l.getD k (0,0)).1)/\W.cell? ⟨qr,k*2+1,none⟩=some (.int .i64 (s.l.getD k (0,0)).2):=by
 have hx:s.l[k]? =some (s.l.getD k (0,0)):=by rw[List.getD_eq_getElem?_getD,jJ9 hk];rfl
 have hf:=UD lpC 2 (fun _=>rfl) s.l k _ hx;refine⟨h.row.at_ (k*2) ?_,h.row.at_ (k*2+1) ?_⟩
 ·have:=hf 0 (by decide);rw[jJ7];exact this
 ·have:=hf 1 (by decide);rw[jJ7];exact this
end
theorem jKN(w:World):(Op.equalIn 10000 134 (.agg #[.int .i64 0,.int .i64 0]) (.agg #[.int .i64 0,.int .i64 0])).run prog w=.ok true w:=by kernel_rfl
def LyR(qr ql qa qk:Nat)(s:LayP)(W:World)(e:Ending)(W' :World):Prop:=e=.returned (.tuple #[])/\LyS qr ql qa qk s W' /\Kp (LyX qr qa qk) W W'
theorem jB6(W:World)(qr ql qa qk:Nat)(s:LayP)(h:LyS qr ql qa qk s W)(fam:Int)(i:Nat)(order:Int)(hl:¬order<=(if i=0 then-1 else s.last))(hlen:order<(s.l.length:Int))(h0:0<=order)(hz:s.l.getD order.toNat (0,0)=(0,0)):
  Calls prog 113 #[iv fam,iv (i:Int),iv order,.pointer (some ⟨qa,0,none⟩),.pointer (some ⟨ql,0,none⟩),.pointer (some ⟨qk,0,none⟩)] W (LyR qr ql qa qk (Jp fam i order s) W):=by
 have Mf:Jp fam i order s=⟨s.l.set order.toNat (fam,(i:Int)),order,s.ok⟩:=by
  unfold Jp;simp only;rw[jJ5 (fun e=>e.elim hl (fun e=>e.elim (fun e=>by omega) (fun e=>e hz)))]
 rw[Mf];obtain⟨k,rfl⟩:∃k:Nat,order=(k:Int):=⟨order.toNat,by omega⟩;have ek:(k:Int).toNat=k:=(by omega);have Fi:=jKN;rw[ek]at hz⊢;have hk:k<s.l.length:=(by omega);obtain⟨a0,a1⟩:=h.at_ hk;rw[hz]at a0 a1;have c0:=h.ab.at_ 0 (v:=.int .i64 s.last) rfl;have c1:=h.lb.at_ 0 (v:=.slice (some ⟨qr,0,none⟩) s.l.length s.l.length) rfl;have H:=G h;have zr:=h.row.frozen (k*2);have zr1:=h.row.frozen (k*2+1);have za:=h.ab.frozen 0;have b1:(0:Int)<=(k:Int):=(by omega);have b3:¬(s.l.length:Int)<=(k:Int):=(by omega);clear Mf h;by_cases hi:i=0
 ·rw[jJ6 hi]at hl;have d1:((i:Int)==0)=true:=by rw[hi];rfl
  have H1:=G (H.out.setA (-1)).1;have K1:=G (H.out.setA (-1)).2;have H2:=G (H1.out.setA (k:Int)).1;have K2:=G (K1.out.trans (H1.out.setA (k:Int)).2 (fun _ _ e=>e));have H3:=G (H2.out.setR hk fam (i:Int)).1;have K3:=G (K2.out.trans (H2.out.setR hk fam (i:Int)).2 (fun _ _ e=>e));obtain⟨e0,e1⟩:=H1.out.at_ hk;have Ft:s.l.getD k (0,0)=(0,0):=hz;rw[Ft]at e0 e1;have e2:=H1.out.ab.at_ 0 (v:=.int .i64 (-1)) rfl;have e3:=H1.out.lb.at_ 0 (v:=.slice (some ⟨qr,0,none⟩) s.l.length s.l.length) rfl;have z1:=H1.out.ab.frozen 0;have e4:=H2.out.lb.at_ 0 (v:=.slice (some ⟨qr,0,none⟩) s.l.length s.l.length) rfl;have z2:=H2.out.row.frozen (k*2);have z3:=H2.out.row.frozen (k*2+1);obtain⟨e5,e6⟩:=H2.out.at_ hk;have FM:s.l.getD k (0,0)=(0,0):=hz;rw[FM]at e5 e6;have Na:=Blk.setL H2.out.row (k*2) (.int .i64 fam);have e7:(((W.setCell ⟨qa,0,none⟩ (.int .i64 (-1))).setCell ⟨qa,0,none⟩ (.int .i64 (k:Int))).setCell ⟨qr,k*2,none⟩ (.int .i64 fam)).cell? ⟨qr,k*2+1,none⟩=some (.int .i64 0):=by
   rw[Na.cell,jJ7,List.getElem?_set_ne (by omega),<-jJ7,<-H2.out.row.cell];exact e6
  have z4:=Na.frozen (k*2+1);clear hz Ft FM Na;clear hi;unfold iv at*;go_enter func113,ntmps113;go_wp2;go_end0;exact⟨rfl,H3.out,K3.out⟩
 ·rw[jJ5 hi]at hl;have d1:((i:Int)==0)=false:=jM3 (by omega);have H2:=G (H.out.setA (k:Int)).1;have K2:=G (H.out.setA (k:Int)).2;have H3:=G (H2.out.setR hk fam (i:Int)).1;have K3:=G (K2.out.trans (H2.out.setR hk fam (i:Int)).2 (fun _ _ e=>e));have e4:=H2.out.lb.at_ 0 (v:=.slice (some ⟨qr,0,none⟩) s.l.length s.l.length) rfl;have z2:=H2.out.row.frozen (k*2);have z3:=H2.out.row.frozen (k*2+1);obtain⟨e5,e6⟩:=H2.out.at_ hk;have FM:s.l.getD k (0,0)=(0,0):=hz;rw[FM]at e5 e6;have Na:=Blk.setL H2.out.row (k*2) (.int .i64 fam);have e7:((W.setCell ⟨qa,0,none⟩ (.int .i64 (k:Int))).setCell ⟨qr,k*2,none⟩ (.int .i64 fam)).cell? ⟨qr,k*2+1,none⟩=some (.int .i64 0):=by
   rw[Na.cell,jJ7,List.getElem?_set_ne (by omega),<-jJ7,<-H2.out.row.cell];exact e6
  have z4:=Na.frozen (k*2+1);clear hz FM Na;clear hi;unfold iv at*;go_enter func113,ntmps113;go_wp2;go_end0;exact⟨rfl,H3.out,K3.out⟩
theorem jB1(n:Int)(h: -9223372036854775808<=n/\n<=9223372036854775807):(Lit.int .i64 n).wf=true:=by
 simp[Lit.wf,IntKind.min,IntKind.max,IntKind.signed,IntKind.bits];omega
theorem ZF(D:Nat)(n:Int)(hw:(Lit.int .i64 n).wf=true):prog.keyLits (D+1) 3 [.int .i64 n]=some [.int .i64 n]:=by
 unfold Program.keyLits;rw[underlying3];simp[hw]
theorem jIy:prog.cellsOf 3=1:=by kernel_rfl
theorem jIz:prog.cellsOf 134=2:=by kernel_rfl
theorem ZE(a b:Int)(ha: -9223372036854775808<=a/\a<=9223372036854775807)(hb: -9223372036854775808<=b/\b<=9223372036854775807):prog.keyLits 2 134 [.int .i64 a,.int .i64 b]=some [.int .i64 a,.int .i64 b]:=by
 unfold Program.keyLits;rw[underlying134];have h1:=ZF 0 a (jB1 a ha);have h2:=ZF 0 b (jB1 b hb);simp[jIy,jIz,h1,h2,List.range_succ]
theorem jCd(a b:Int)(ha: -9223372036854775808<=a/\a<=9223372036854775807)(hb: -9223372036854775808<=b/\b<=9223372036854775807)(Fa:(a,b)≠(0,0))(w:World):(Op.equalIn 10000 134 (.agg #[.int .i64 a,.int .i64 b]) (.agg #[.int .i64 0,.int .i64 0])).run prog w=.ok false w:=by
 obtain⟨r,h1,h2⟩:=run_equalIn_deep (P:=prog) 9998 2 134 (by kernel_rfl) w 2 2 (.agg #[.int .i64 a,.int .i64 b]) (.agg #[.int .i64 0,.int .i64 0]) _ _ (by kernel_rfl) (by kernel_rfl) (ZE a b ha hb) (ZE 0 0 (by decide) (by decide));have e:r=false:=by
  cases r with
  |false=>rfl
  |true=>
   exfalso;have:=h2.1 rfl;simp only[List.cons.injEq,Lit.int.injEq,true_and,and_true]at this;exact Fa (by rw[this.1,this.2])
 rw[e]at h1;exact h1
structure LyI(s:LayP):Prop where
 last: -1<=s.last
 len:s.l.length<=4000000
 all:∀p∈s.l,0<=p.1/\p.1<=4/\0<=p.2/\p.2<=1000000
theorem LyI.next{s:LayP}(h:LyI s)(fam:Int)(i:Nat)(order:Int)(hf:0<=fam/\fam<=4)(hi:i<=1000000):LyI (Jp fam i order s):=by
 unfold Jp;simp only;have hl: -1<=(if i=0 then-1 else s.last):=by
  split
  ·omega
  ·exact h.last
 generalize (if i=0 then(-1:Int)else s.last)=L at*;by_cases hc:order<=L\/(s.l.length:Int)<=order\/s.l.getD order.toNat (0,0)≠(0,0)
 ·rw[jJ6 hc];exact⟨hl,h.len,h.all⟩
 ·rw[jJ5 hc];refine⟨by show-1<=order;omega,by rw[List.length_set];exact h.len,fun p hp=> ?_⟩;rcases List.mem_or_eq_of_mem_set hp with e|e
  ·exact h.all p e
  ·rw[e];exact⟨hf.1,hf.2,by show(0:Int)<=(i:Int);omega,by show(i:Int)<=1000000;omega⟩
theorem YK(fam:Int)(i:Nat)(order:Int)(s:LayP):(Jp fam i order s).l.length=s.l.length:=by
 unfold Jp;simp only;generalize (if i=0 then(-1:Int)else s.last)=L;by_cases hc:order<=L\/(s.l.length:Int)<=order\/s.l.getD order.toNat (0,0)≠(0,0)
 ·rw[jJ6 hc]
 ·rw[jJ5 hc];exact List.length_set ..
theorem jCC(W:World)(qr ql qa qk:Nat)(s:LayP)(h:LyS qr ql qa qk s W)(fam:Int)(i:Nat)(order:Int)(hi:i=0)(hb:order<= -1):
  Calls prog 113 #[iv fam,iv (i:Int),iv order,.pointer (some ⟨qa,0,none⟩),.pointer (some ⟨ql,0,none⟩),.pointer (some ⟨qk,0,none⟩)] W (LyR qr ql qa qk ⟨s.l,-1,false⟩ W):=by
 have c0:=h.ab.at_ 0 (v:=.int .i64 s.last) rfl;have c1:=h.lb.at_ 0 (v:=.slice (some ⟨qr,0,none⟩) s.l.length s.l.length) rfl;have za:=h.ab.frozen 0;have zk:=h.kb.frozen 0;have ck:=h.kb.at_ 0 (v:=.bool s.ok) rfl;have H1:=G (h.setA (-1)).1;have K1:=G (h.setA (-1)).2;have d1:((i:Int)==0)=true:=by rw[hi];rfl
 have H2:=G (H1.out.setK false).1;have K2:=G (K1.out.trans (H1.out.setK false).2 (fun _ _ e=>e));have e2:=H1.out.ab.at_ 0 (v:=.int .i64 (-1)) rfl;have e3:=H1.out.lb.at_ 0 (v:=.slice (some ⟨qr,0,none⟩) s.l.length s.l.length) rfl;have e5:=H1.out.kb.at_ 0 (v:=.bool s.ok) rfl;have z1:=H1.out.kb.frozen 0;clear h hi;unfold iv at*;go_enter func113,ntmps113;go_wp2;go_end0;exact⟨rfl,H2.out,K2.out⟩
theorem jCB(W:World)(qr ql qa qk:Nat)(s:LayP)(h:LyS qr ql qa qk s W)(fam:Int)(i:Nat)(order:Int)(hi:i=0)(ha:¬order<= -1)(hb:(s.l.length:Int)<=order):
  Calls prog 113 #[iv fam,iv (i:Int),iv order,.pointer (some ⟨qa,0,none⟩),.pointer (some ⟨ql,0,none⟩),.pointer (some ⟨qk,0,none⟩)] W (LyR qr ql qa qk ⟨s.l,-1,false⟩ W):=by
 have c0:=h.ab.at_ 0 (v:=.int .i64 s.last) rfl;have c1:=h.lb.at_ 0 (v:=.slice (some ⟨qr,0,none⟩) s.l.length s.l.length) rfl;have za:=h.ab.frozen 0;have zk:=h.kb.frozen 0;have ck:=h.kb.at_ 0 (v:=.bool s.ok) rfl;have H1:=G (h.setA (-1)).1;have K1:=G (h.setA (-1)).2;have d1:((i:Int)==0)=true:=by rw[hi];rfl
 have H2:=G (H1.out.setK false).1;have K2:=G (K1.out.trans (H1.out.setK false).2 (fun _ _ e=>e));have e2:=H1.out.ab.at_ 0 (v:=.int .i64 (-1)) rfl;have e3:=H1.out.lb.at_ 0 (v:=.slice (some ⟨qr,0,none⟩) s.l.length s.l.length) rfl;have e5:=H1.out.kb.at_ 0 (v:=.bool s.ok) rfl;have z1:=H1.out.kb.frozen 0;clear h hi;unfold iv at*;go_enter func113,ntmps113;go_wp2;go_end0;exact⟨rfl,H2.out,K2.out⟩
theorem jCA(W:World)(qr ql qa qk:Nat)(s:LayP)(h:LyS qr ql qa qk s W)(I:LyI s)(fam:Int)(i:Nat)(order:Int)(hi:i=0)(ha:¬order<= -1)(hlen:order<(s.l.length:Int))(Fa:s.l.getD order.toNat (0,0)≠(0,0)):
  Calls prog 113 #[iv fam,iv (i:Int),iv order,.pointer (some ⟨qa,0,none⟩),.pointer (some ⟨ql,0,none⟩),.pointer (some ⟨qk,0,none⟩)] W (LyR qr ql qa qk ⟨s.l,-1,false⟩ W):=by
 obtain⟨k,rfl⟩:∃k:Nat,order=(k:Int):=⟨order.toNat,by have:=I.last;omega⟩;have ek:(k:Int).toNat=k:=(by omega);rw[ek]at Fa;have hk:k<s.l.length:=(by omega);have b1:(0:Int)<=(k:Int):=(by omega);have b3:¬(s.l.length:Int)<=(k:Int):=(by omega);have NL:s.l.getD k (0,0)∈s.l:=by rw[List.getD_eq_getElem?_getD,jJ9 hk];exact jL6 _
 have N5:=I.all _ NL;have c0:=h.ab.at_ 0 (v:=.int .i64 s.last) rfl;have c1:=h.lb.at_ 0 (v:=.slice (some ⟨qr,0,none⟩) s.l.length s.l.length) rfl;have za:=h.ab.frozen 0;have zk:=h.kb.frozen 0;have ck:=h.kb.at_ 0 (v:=.bool s.ok) rfl;have H1:=G (h.setA (-1)).1;have K1:=G (h.setA (-1)).2;have d1:((i:Int)==0)=true:=by rw[hi];rfl
 have H2:=G (H1.out.setK false).1;have K2:=G (K1.out.trans (H1.out.setK false).2 (fun _ _ e=>e));have e2:=H1.out.ab.at_ 0 (v:=.int .i64 (-1)) rfl;have e3:=H1.out.lb.at_ 0 (v:=.slice (some ⟨qr,0,none⟩) s.l.length s.l.length) rfl;have e5:=H1.out.kb.at_ 0 (v:=.bool s.ok) rfl;have z1:=H1.out.kb.frozen 0;obtain⟨e0,e1⟩:=H1.out.at_ hk;generalize hp:s.l.getD k (0,0)=p at*;obtain⟨p1,p2⟩:=p;simp only at e0 e1 N5;have e0' :_=some (Value.int .i64 p1):=e0;have e1' :_=some (Value.int .i64 p2):=e1;have Fi:=jCd p1 p2 (by omega) (by omega) Fa;clear Fa N5 NL I hp e0 e1;clear h hi;unfold iv at*;go_enter func113,ntmps113;go_wp2;go_end0;exact⟨rfl,H2.out,K2.out⟩
theorem jB9(W:World)(qr ql qa qk:Nat)(s:LayP)(h:LyS qr ql qa qk s W)(fam:Int)(i:Nat)(order:Int)(hi:¬i=0)(hb:order<=s.last):
  Calls prog 113 #[iv fam,iv (i:Int),iv order,.pointer (some ⟨qa,0,none⟩),.pointer (some ⟨ql,0,none⟩),.pointer (some ⟨qk,0,none⟩)] W (LyR qr ql qa qk ⟨s.l,s.last,false⟩ W):=by
 have c0:=h.ab.at_ 0 (v:=.int .i64 s.last) rfl;have c1:=h.lb.at_ 0 (v:=.slice (some ⟨qr,0,none⟩) s.l.length s.l.length) rfl;have za:=h.ab.frozen 0;have zk:=h.kb.frozen 0;have ck:=h.kb.at_ 0 (v:=.bool s.ok) rfl;have H1:=G h;have K1:=G (jQ0 (LyX qr qa qk) W);have d1:((i:Int)==0)=false:=jM3 (by omega);have H2:=G (H1.out.setK false).1;have K2:=G (K1.out.trans (H1.out.setK false).2 (fun _ _ e=>e));have e2:=H1.out.ab.at_ 0 (v:=.int .i64 (s.last)) rfl;have e3:=H1.out.lb.at_ 0 (v:=.slice (some ⟨qr,0,none⟩) s.l.length s.l.length) rfl;have e5:=H1.out.kb.at_ 0 (v:=.bool s.ok) rfl;have z1:=H1.out.kb.frozen 0;clear h hi;unfold iv at*;go_enter func113,ntmps113;go_wp2;go_end0;exact⟨rfl,H2.out,K2.out⟩
theorem jB8(W:World)(qr ql qa qk:Nat)(s:LayP)(h:LyS qr ql qa qk s W)(fam:Int)(i:Nat)(order:Int)(hi:¬i=0)(ha:¬order<=s.last)(hb:(s.l.length:Int)<=order):
  Calls prog 113 #[iv fam,iv (i:Int),iv order,.pointer (some ⟨qa,0,none⟩),.pointer (some ⟨ql,0,none⟩),.pointer (some ⟨qk,0,none⟩)] W (LyR qr ql qa qk ⟨s.l,s.last,false⟩ W):=by
 have c0:=h.ab.at_ 0 (v:=.int .i64 s.last) rfl;have c1:=h.lb.at_ 0 (v:=.slice (some ⟨qr,0,none⟩) s.l.length s.l.length) rfl;have za:=h.ab.frozen 0;have zk:=h.kb.frozen 0;have ck:=h.kb.at_ 0 (v:=.bool s.ok) rfl;have H1:=G h;have K1:=G (jQ0 (LyX qr qa qk) W);have d1:((i:Int)==0)=false:=jM3 (by omega);have H2:=G (H1.out.setK false).1;have K2:=G (K1.out.trans (H1.out.setK false).2 (fun _ _ e=>e));have e2:=H1.out.ab.at_ 0 (v:=.int .i64 (s.last)) rfl;have e3:=H1.out.lb.at_ 0 (v:=.slice (some ⟨qr,0,none⟩) s.l.length s.l.length) rfl;have e5:=H1.out.kb.at_ 0 (v:=.bool s.ok) rfl;have z1:=H1.out.kb.frozen 0;clear h hi;unfold iv at*;go_enter func113,ntmps113;go_wp2;go_end0;exact⟨rfl,H2.out,K2.out⟩
theorem jB7(W:World)(qr ql qa qk:Nat)(s:LayP)(h:LyS qr ql qa qk s W)(I:LyI s)(fam:Int)(i:Nat)(order:Int)(hi:¬i=0)(ha:¬order<=s.last)(hlen:order<(s.l.length:Int))(Fa:s.l.getD order.toNat (0,0)≠(0,0)):
  Calls prog 113 #[iv fam,iv (i:Int),iv order,.pointer (some ⟨qa,0,none⟩),.pointer (some ⟨ql,0,none⟩),.pointer (some ⟨qk,0,none⟩)] W (LyR qr ql qa qk ⟨s.l,s.last,false⟩ W):=by
 obtain⟨k,rfl⟩:∃k:Nat,order=(k:Int):=⟨order.toNat,by have:=I.last;omega⟩;have ek:(k:Int).toNat=k:=(by omega);rw[ek]at Fa;have hk:k<s.l.length:=(by omega);have b1:(0:Int)<=(k:Int):=(by omega);have b3:¬(s.l.length:Int)<=(k:Int):=(by omega);have NL:s.l.getD k (0,0)∈s.l:=by rw[List.getD_eq_getElem?_getD,jJ9 hk];exact jL6 _
 have N5:=I.all _ NL;have c0:=h.ab.at_ 0 (v:=.int .i64 s.last) rfl;have c1:=h.lb.at_ 0 (v:=.slice (some ⟨qr,0,none⟩) s.l.length s.l.length) rfl;have za:=h.ab.frozen 0;have zk:=h.kb.frozen 0;have ck:=h.kb.at_ 0 (v:=.bool s.ok) rfl;have H1:=G h;have K1:=G (jQ0 (LyX qr qa qk) W);have d1:((i:Int)==0)=false:=jM3 (by omega);have H2:=G (H1.out.setK false).1;have K2:=G (K1.out.trans (H1.out.setK false).2 (fun _ _ e=>e));have e2:=H1.out.ab.at_ 0 (v:=.int .i64 (s.last)) rfl;have e3:=H1.out.lb.at_ 0 (v:=.slice (some ⟨qr,0,none⟩) s.l.length s.l.length) rfl;have e5:=H1.out.kb.at_ 0 (v:=.bool s.ok) rfl;have z1:=H1.out.kb.frozen 0;obtain⟨e0,e1⟩:=H1.out.at_ hk;generalize hp:s.l.getD k (0,0)=p at*;obtain⟨p1,p2⟩:=p;simp only at e0 e1 N5;have e0' :_=some (Value.int .i64 p1):=e0;have e1' :_=some (Value.int .i64 p2):=e1;have Fi:=jCd p1 p2 (by omega) (by omega) Fa;clear Fa N5 NL I hp e0 e1;clear h hi;unfold iv at*;go_enter func113,ntmps113;go_wp2;go_end0;exact⟨rfl,H2.out,K2.out⟩
theorem qv(W:World)(qr ql qa qk:Nat)(s:LayP)(h:LyS qr ql qa qk s W)(I:LyI s)(fam:Int)(i:Nat)(order:Int):
  Calls prog 113 #[iv fam,iv (i:Int),iv order,.pointer (some ⟨qa,0,none⟩),.pointer (some ⟨ql,0,none⟩),.pointer (some ⟨qk,0,none⟩)] W (LyR qr ql qa qk (Jp fam i order s) W):=by
 by_cases h1:order<=(if i=0 then-1 else s.last)
 ·have e:Jp fam i order s=⟨s.l,if i=0 then-1 else s.last,false⟩:=by unfold Jp;simp only;rw[jJ6 (.inl h1)]
  rw[e];by_cases hi:i=0
  ·rw[jJ6 hi]at h1⊢;exact jCC W qr ql qa qk s h fam i order hi h1
  ·rw[jJ5 hi]at h1⊢;exact jB9 W qr ql qa qk s h fam i order hi h1
 by_cases h2:(s.l.length:Int)<=order
 ·have e:Jp fam i order s=⟨s.l,if i=0 then-1 else s.last,false⟩:=by unfold Jp;simp only;rw[jJ6 (.inr (.inl h2))]
  rw[e];by_cases hi:i=0
  ·rw[jJ6 hi]at h1⊢;exact jCB W qr ql qa qk s h fam i order hi h1 h2
  ·rw[jJ5 hi]at h1⊢;exact jB8 W qr ql qa qk s h fam i order hi h1 h2
 by_cases h3:s.l.getD order.toNat (0,0)=(0,0)
 ·have hl: -1<=(if i=0 then-1 else s.last):=by
   split
   ·omega
   ·exact I.last
  exact jB6 W qr ql qa qk s h fam i order h1 (by omega) (by omega) h3
 ·have e:Jp fam i order s=⟨s.l,if i=0 then-1 else s.last,false⟩:=by unfold Jp;simp only;rw[jJ6 (.inr (.inr h3))]
  rw[e];by_cases hi:i=0
  ·rw[jJ6 hi]at h1⊢;exact jCA W qr ql qa qk s h I fam i order hi h1 (by omega) h3
  ·rw[jJ5 hi]at h1⊢;exact jB7 W qr ql qa qk s h I fam i order hi h1 (by omega) h3
end Go.Proofs.YtmmjcbbogokmfaaGreatDoor

import Derived.Test.YtmmjcbbogokmfaaGreatDoorMp29
import Derived.DeepKeys
import Derived.Laws.StructEq
set_option maxRecDepth 100000
set_option maxHeartbeats 25600000
namespace Go.Proofs.YtmmjcbbogokmfaaGreatDoor
open Go.Proofs.Tryz
open Go.RowKit
theorem Rd.row_at(w:World)(t:TypeId)(s n:Nat)(l:List Value){k:Nat}(hk:k=w.heap.size)(hl:l.length=n*s):Rd (w.alloc (.cells l.toArray t)) s (some ⟨k,0,none⟩) n l:=hk▸Rd.row_new w t s n l hl
theorem jE2(x:Prm):∀u∈prC x,u.oneCell' =true:=by
 intro u hu;simp only[prC,iv,List.mem_cons,List.mem_nil_iff,or_false]at hu;rcases hu with rfl|rfl|rfl<;>rfl
theorem jAq(x:Eff):∀u∈efC x,u.oneCell' =true:=by
 intro u hu;simp only[efC,iv,List.mem_cons,List.mem_nil_iff,or_false]at hu;rcases hu with rfl|rfl|rfl<;>rfl
theorem jE0(x:MSt):∀u∈stC x,u.oneCell' =true:=by
 intro u hu;simp only[stC,iv,List.mem_cons,List.mem_nil_iff,or_false]at hu;rcases hu with rfl|rfl|rfl|rfl|rfl|rfl|rfl|rfl<;>rfl
def jD9(src:BA)(w:World)(g:Nat)(s:Sl)(a:Nat)(pre:List Value)(pres:List Prm×Rdr)(F n:Nat)(W:World):Prop:=
 n<=F/\∃ps A c r' s' L,Rw src w g s a 122 3 pre [.string ⟨#[]⟩,.int .i64 0,.int .i64 0,.slice none 0 0] 125 3 none 0 0 [] r' L s' A ps.length c (ps.flatMap prC) W/\YN (sb src) n ps r' =some pres
def jCE(src:BA)(w:World)(g:Nat)(s:Sl)(a:Nat)(pre:List Value)(f:Nat)(A2:OA)(c2:Nat)(ps:List Prm)(eres:List Eff×Rdr)(F n:Nat)(W:World):Prop:=
 n<=F/\∃es A c r' s' L,Rw src w g s a 125 3 pre [] 122 3 A2 ps.length c2 (ps.flatMap prC) r' L s' A es.length c (es.flatMap efC) W/\Kf (sb src) n es r' =some eres/\n<=f
theorem jCY(w:World)(g:Nat)(src:BA)(f:Nat)(r r' :Rdr)(s:Sl)(h:St w g src r s)(hk:jEY (sb src) f r=some r'):
  Calls prog 140 #[.pointer (some ⟨g,0,none⟩)] w (Ex w g src s r' (.tuple #[])):=by
 unfold jEY at hk;obtain⟨⟨nm,at_,od,r1⟩,hd,hk⟩:=jM2 hk;obtain⟨r2,Fq,hk⟩:=jM2 hk;obtain⟨pres,R6,hk⟩:=jM2 hk;obtain⟨r3,Fu,hk⟩:=jM2 hk;obtain⟨⟨inn,ia,r4⟩,Gc,hk⟩:=jM2 hk;obtain⟨⟨wh,r5⟩,Nw,hk⟩:=jM2 hk;obtain⟨r6,Wa,hk⟩:=jM2 hk;obtain⟨eres,SY,hk⟩:=jM2 hk;obtain⟨r7,WR,hk⟩:=jM2 hk;split at hk
 case isFalse=>cases hk
 rename_i hlt;injection hk with hk;have HZ:=G h.zlt;have RS:=G hk;have LE:=G hlt;have D0:=G hd;have N1:=G Fq;have PS:=G R6;have N2:=G Fu;have I0:=G Gc;have G1:=G Nw;have N3:=G Wa;have ES:=G SY;have N4:=G WR;have K0:=G ((Ks.start h).alloc (.cells [.string ⟨#[]⟩,.int .i64 0,.int .i64 0,.slice none 0 0,.string ⟨#[]⟩,.int .i64 0,.int .i64 0,.slice none 0 0].toArray 111));have B0:=G (jQ2 w 111 [.string ⟨#[]⟩,.int .i64 0,.int .i64 0,.slice none 0 0,.string ⟨#[]⟩,.int .i64 0,.int .i64 0,.slice none 0 0].toArray);obtain⟨iP,hp,Cm,SL,WP⟩:=info_parts jBO;obtain⟨iE,he,E5,DZ,Y2⟩:=info_parts Xq;obtain⟨iS,hi,Fm,Fi,Fl⟩:=info_parts jDP;clear h hk hlt hd Fq R6 Fu Gc Nw Wa SY WR;generalize ha:w.heap.size=a at*;have hm:a∈ [a]:=List.mem_singleton.2 rfl;go_enter func140,ntmps140;go_wp2_with (first|(go_at_call 166;(refine(zK _ g src _ _ _ _ _ _ K0.out.st D0.out).mono ?_;rintro e w1 ⟨rfl,hX⟩;have K1a:=G (K0.out.step hX.1 hX.2);have B1a:=G (K0.out.blk hm B0.out hX.2);clear hX;have b0:=B1a.out.at_ 0 rfl;have z0:=B1a.out.frozen 0;have b1:=B1a.out.at_ 1 rfl;have z1:=B1a.out.frozen 1;have b2:=B1a.out.at_ 2 rfl;have z2:=B1a.out.frozen 2;have K1:=G (((K1a.out.put hm 0 (.string nm)).put hm 1 (.int .i64 at_)).put hm 2 (.int .i64 od));have B1:=G (((B1a.out.setL 0 (.string nm)).setL 1 (.int .i64 at_)).setL 2 (.int .i64 od));clear K1a B1a;(try unfold iv)))|(go_at_call 135;(refine(jZ _ g src _ _ _ K1.out.st N1.out).mono ?_;rintro e w2 ⟨rfl,hX⟩;have K2:=G (K1.out.step hX.1 hX.2);have B2:=G (K1.out.blk hm B1.out hX.2);clear hX))|fail);clear K0 B0 K1 B1 b0 b1 b2 z0 z1 z2;have H1:=G (show jD9 src w g s a [.string nm,.int .i64 at_,.int .i64 od] pres f f w2 from⟨jL3 _,[],none,0,r2,_,[a],⟨K2.out,hm,B2.out,World.ownsRow_nil _ _ _ _,fun b e=>by(cases e),World.ownsRow_nil _ _ _ _,fun b e=>by(cases e)⟩,PS.out⟩);clear K2 B2 PS;go_loopw [] (fun wr=>∃n,jD9 src w g s a [.string nm,.int .i64 at_,.int .i64 od] pres f n wr) (fun wr=>least (fun n=>jD9 src w g s a [.string nm,.int .i64 at_,.int .i64 od] pres f n wr))
 case atStart=>exact⟨_,H1.out⟩
 case round=>
  clear H1;obtain⟨n,⟨hn,ps,A,c,rr,s',L,Hv,hD⟩,Fv⟩:=zF hrel;have Fo:=Hv.ks.st.box.c3;have Gw:=G Hv;have Gp:=G Fv;cases n with
  |zero=>exact absurd hD (by simp[YN])
  |succ m=>
   rw[YN]at hD;by_cases ht:rr.t=7
   ·rw[jJ6 ht]at hD;injection hD with hD;subst hD;rw[ht]at Fo;have M0:=G Gw.out.md;clear Hv Fv hrel Gw Gp ht;go_wp2_with (first|(go_at_call 135;first|(refine(jZ _ g src _ _ _ M3.out.ks.st N3.out).mono ?_;rintro e w6 ⟨rfl,hX⟩;have M4:=G (M3.out.step hX.1 hX.2);clear hX)|(refine(jZ _ g src _ _ _ M0.out.ks.st N2.out).mono ?_;rintro e w3 ⟨rfl,hX⟩;have M1:=G (M0.out.step hX.1 hX.2);clear hX))|(go_at_call 170;refine(jBQ _ g src _ _ _ _ _ M1.out.ks.st I0.out).mono ?_;rintro e w4 ⟨rfl,hX⟩;have M2a:=G (M1.out.step hX.1 hX.2);clear hX;have b4:=M2a.out.box.at_ 4 rfl;have z4:=M2a.out.box.frozen 4;have b5:=M2a.out.box.at_ 5 rfl;have z5:=M2a.out.box.frozen 5;have M2:=G ((M2a.out.put (by decide) 4 (.string inn)).put (by decide) 5 (.int .i64 ia));clear M2a;unfold iv)|(go_at_call 169;refine(jBR _ g src f _ _ _ M2.out.ks.st G1.out).mono ?_;rintro e w5 ⟨rfl,s5,hX⟩;have M3a:=G (M2.out.step hX.1 hX.2);clear hX;have b6:=M3a.out.box.at_ 6 rfl;have z6:=M3a.out.box.frozen 6;have M3:=G (M3a.out.put (by decide) 6 (.int .i64 wh));clear M3a;unfold iv)|fail);clear M0 M1 M2 M3 b4 b5 b6 z4 z5 z6;have H2:=G (show jCE src w g s a [.string nm,.int .i64 at_,.int .i64 od,.slice A ps.length c,.string inn,.int .i64 ia,.int .i64 wh] f A c ps eres f f w6 from⟨jL3 _,[],none,0,r6,s5,L,Md.rw (pre:=[.string nm,.int .i64 at_,.int .i64 od,.slice A ps.length c,.string inn,.int .i64 ia,.int .i64 wh]) M4.out 125 3,ES.out,jL3 _⟩);clear M4 ES;go_loopw [] (fun wr=>∃n,jCE src w g s a [.string nm,.int .i64 at_,.int .i64 od,.slice A ps.length c,.string inn,.int .i64 ia,.int .i64 wh] f A c ps eres f n wr) (fun wr=>least (fun n=>jCE src w g s a [.string nm,.int .i64 at_,.int .i64 od,.slice A ps.length c,.string inn,.int .i64 ia,.int .i64 wh] f A c ps eres f n wr))
    case atStart=>exact⟨_,H2.out⟩
    case round=>
     clear H2;obtain⟨n2,⟨Fu,es,A2,c2,rr,s',L,Hv,hD,Is⟩,Fv⟩:=zF hrel;have Fo:=Hv.ks.st.box.c3;have Gw:=G Hv;have Gp:=G Fv;cases n2 with
     |zero=>exact absurd hD (by simp[Kf])
     |succ m2=>
      rw[Kf]at hD;by_cases ht:rr.t=5
      ·rw[jJ6 ht]at hD;injection hD with hD;subst hD;rw[ht]at Fo;have M0:=G Hv;clear Hv Fv hrel Gw Gp ht;go_wp2_with (first|(go_at_call 135;refine(jZ _ g src _ _ _ M0.out.ks.st N4.out).mono ?_;rintro e w9 ⟨rfl,hX⟩;have R8:=G (M0.out.step hX.1 hX.2);clear hX)|fail);clear M0;have HD:=G (R8.out.ks.done (fun b e=>by rw[ha];exact HZ.out b e));have Wh:=G (show OkP w9 (AX g {s' with z:=s.z}) ⟨⟨nm,at_,od,ps,inn,ia,wh,es⟩,A,c,A2,c2⟩from by
        have key:∀{A0:OA} {n0:Nat},(∀b,A0.map (·.block)=some b->b∈L)->Av (AX g {s' with z:=s.z}) n0 A0:=fun hi _ ad e hx=>by
         have hb:=hi ad.block (by rw[e];rfl);rcases hx with hx|hx
         ·exact R8.out.ks.st.zno _ hx (R8.out.ks.inz hb)
         ·have h1:=R8.out.ks.new _ hb;have h2:=HZ.out _ hx;omega
        exact⟨Rd.of_own R8.out.own2,key R8.out.inl2,Rd.of_own R8.out.own,key R8.out.inl⟩)
       have HX:=G (show Blk w9 a 111 (stC ⟨⟨nm,at_,od,ps,inn,ia,wh,es⟩,A,c,A2,c2⟩).toArray from R8.out.box);obtain⟨ns,pp,hR⟩:=HD.out.1.rows;have HR:=G hR;clear hR;have GA:=G (show r7.tree.steps.length+1<=maxLen by have:=LE.out;unfold maxLen;omega);have GH:=G (show(r7.tree.steps.length+1)*112<=140737488355328 by have:=LE.out;omega);have FR:w9.cell? ⟨g,10,none⟩=some (.slice s'.pA r7.tree.steps.length s'.pc):=Blk.at_ HD.out.1.box 10 rfl;have FW:=HD.out.1.box.z 10;have FQ:=HD.out.1.lt;have WJ:=HX.out.lt;have c0:w9.cell? ⟨a,0,none⟩=some (.string nm):=HX.out.at_ 0 rfl;have c1:w9.cell? ⟨a,1,none⟩=some (.int .i64 at_):=HX.out.at_ 1 rfl;have d2:w9.cell? ⟨a,2,none⟩=some (.int .i64 od):=HX.out.at_ 2 rfl;have c3:w9.cell? ⟨a,3,none⟩=some (.slice A ps.length c):=HX.out.at_ 3 rfl;have c4:w9.cell? ⟨a,4,none⟩=some (.string inn):=HX.out.at_ 4 rfl;have c5:w9.cell? ⟨a,5,none⟩=some (.int .i64 ia):=HX.out.at_ 5 rfl;have c6:w9.cell? ⟨a,6,none⟩=some (.int .i64 wh):=HX.out.at_ 6 rfl;have c7:w9.cell? ⟨a,7,none⟩=some (.slice A2 es.length c2):=HX.out.at_ 7 rfl;have HO:=G ((jQ0 NoX w9).drew.alloc (.cells (stC ⟨⟨nm,at_,od,ps,inn,ia,wh,es⟩,A,c,A2,c2⟩).toArray 111));go_region_law ((refine kX _ rfl (.tmp 93) (.tmp 95) 25 rfl 8 111 iS _ 8 112 underlying25 hi Fm Fi Fl rfl (by decide) (.slice s'.pA r7.tree.steps.length s'.pc) r7.tree.steps.length (pp.flatMap stC) rfl (jV HR.out.rP HO.out (fun _ _ e=>e)) _ 1 1 (stC ⟨⟨nm,at_,od,ps,inn,ia,wh,es⟩,A,c,A2,c2⟩) rfl (Rd.row_new _ _ 8 1 _ rfl) (jE0 _) GA.out GH.out (jL4 HD.out.1.eight HO.out.size) ?_;intro A9 c9 w10 Hi hgrow Fc;rw[jC]at hgrow Fc;have Fj:=HD.out.1.pastP HR.out HO.out hgrow;have HG:=G (HD.out.1.growP HR.out ⟨⟨nm,at_,od,ps,inn,ia,wh,es⟩,A,c,A2,c2⟩ Wh.out HO.out hgrow Fc Hi);have FR:w10.cell? ⟨g,10,none⟩=some (.slice s'.pA r7.tree.steps.length s'.pc):=Blk.at_ Fj 10 rfl;have FW:=Fj.z 10;clear Hi hgrow Fc Fj))
       all_goals
        go_wp2;go_end0;rw[<-RS.out];exact⟨rfl,_,HG.out.1,HD.out.2.trans HG.out.2⟩
      ·rw[jJ5 ht]at hD;split at hD
       case isFalse=>cases hD
       rename_i hl;obtain⟨⟨b,q1⟩,GF,hD⟩:=jM2 hD;obtain⟨⟨en,ea,q2⟩,Sa,hD⟩:=jM2 hD;obtain⟨⟨wo,q4⟩,hx,hD⟩:=jM2 hD;obtain⟨q5,S9,hD⟩:=jM2 hD;have S1:=G GF;have M1:=G Sa;have X2:=G S9;have EX:=G hD;have GA:=G (show es.length+1<=maxLen by unfold maxLen;omega);have GH:=G (show(es.length+1)*32<=140737488355328 by omega);have e5:((rr.t:Int) !=5)=true:=by rw[bne,jM3 (show(rr.t:Int)≠5 by omega)];rfl
       have OF:=G Hv.off;have R1:=G (Hv.alloc (.cells [.string ⟨#[]⟩,.int .i64 0,.int .i64 (-1)].toArray 125));have P1:=G (jQ2 wr 125 [.string ⟨#[]⟩,.int .i64 0,.int .i64 (-1)].toArray);cases b with
       |true=>
        rw[jJ6 rfl]at hx;injection hx with hx;injection hx with hx1 L1;subst hx1 L1;clear Hv Fv hrel hD GF Sa S9 ht hl;go_wp2_with (first|(go_at_call 167;refine(jk _ g src _ _ _ 33 _ R1.out.ks.st S1.out).mono ?_;rintro e w4 ⟨rfl,hX⟩;have R2:=G (R1.out.step hX.1 hX.2);have P2:=G (R1.out.ks.blk OF.out.inl P1.out hX.2);clear hX)|(go_at_call 136;refine(zj _ g src _ _ _ _ _ R2.out.ks.st M1.out).mono ?_;rintro e w5 ⟨rfl,hX⟩;have R3a:=G (R2.out.step hX.1 hX.2);have P3a:=G (R2.out.ks.blk OF.out.inl P2.out hX.2);clear hX;have p0:=P3a.out.at_ 0 rfl;have y0:=P3a.out.frozen 0;have p1:=P3a.out.at_ 1 rfl;have y1:=P3a.out.frozen 1;have p2:=P3a.out.at_ 2 (v:=.int .i64 (-1)) rfl;have a7:=R3a.out.box.at_ 7 (v:=.slice A2 es.length c2) rfl;have R3:=G ((R3a.out.put OF.out 0 (.string en)).put OF.out 1 (.int .i64 ea));have P3:=G ((P3a.out.setL 0 (.string en)).setL 1 (.int .i64 ea));clear R3a P3a;unfold iv)|(at_builtin;refine jE _ rfl (.tmp 81) (.tmp 83) 109 rfl w.heap.size 125 iE _ 3 32 underlying109 he E5 DZ Y2 rfl (by decide) (.slice A2 es.length c2) es.length (es.flatMap efC) rfl (jV R3.out.own ((jQ0 NoX _).alloc _) (fun _ _ e=>e)) _ 1 1 (efC ⟨en,ea,-1⟩) rfl (Rd.row_at _ _ 3 1 _ (by simp[World.setCell]) rfl) (jAq _) GA.out GH.out (jL4 R3.out.ks.kp.size ((jQ0 NoX _).alloc _).size) ?_;intro A3 c3 w7 Hi hgrow Fc;rw[jC]at hgrow Fc;have HG:=R3.out.grow (by decide) (by decide) (by decide) ((jQ0 NoX _).alloc _) hgrow Fc Hi;have a7:=HG.1.at_ 7 (v:=.slice A2 es.length c2) rfl;have z7:=HG.1.frozen 7;have RG:=G HG.2;clear Hi hgrow Fc HG)|(go_at_call 135;(refine(jZ _ g src _ _ _ RG.out.ks.st X2.out).mono ?_;rintro e w9 ⟨rfl,hX⟩;have RH:=G (RG.out.step hX.1 hX.2);clear hX))|fail);have HL:jCE src w g s a [.string nm,.int .i64 at_,.int .i64 od,.slice A ps.length c,.string inn,.int .i64 ia,.int .i64 wh] f A c ps eres f m2 w9:=by
         have h1:=RH.out;rw[show es.flatMap efC++efC ⟨en,ea,-1⟩=(es++[(⟨en,ea,(-1)⟩:Eff)]).flatMap efC by rw[jN5,List.flatMap_singleton],show es.length+1=(es++[(⟨en,ea,(-1)⟩:Eff)]).length by rw[jJ4];rfl]at h1;exact⟨by omega,_,_,_,_,_,_,h1,EX.out,by omega⟩
        exact⟨⟨m2,HL⟩,by rw[Gp.out];exact vP HL (Nat.lt_succ_self m2)⟩
       |false=>
        rw[jJ5 (show¬(false,q1).1=true from Bool.false_ne_true)]at hx;obtain⟨q3,Wa,hx⟩:=jM2 hx;obtain⟨q,hq,e1,e2⟩:=yi hx;have X1:=G Wa;have E1:=G ((ZM src m2).ex · g q3 · q · hq);rw[e1,e2]at E1;clear Hv Fv hrel hD GF Sa S9 ht hl Wa hx hq e1 e2;go_wp2_with (first|(go_at_call 167;refine(jk _ g src _ _ _ 33 _ R1.out.ks.st S1.out).mono ?_;rintro e w4 ⟨rfl,hX⟩;have R2:=G (R1.out.step hX.1 hX.2);have P2:=G (R1.out.ks.blk OF.out.inl P1.out hX.2);clear hX)|(go_at_call 136;refine(zj _ g src _ _ _ _ _ R2.out.ks.st M1.out).mono ?_;rintro e w5 ⟨rfl,hX⟩;have R3a:=G (R2.out.step hX.1 hX.2);have P3a:=G (R2.out.ks.blk OF.out.inl P2.out hX.2);clear hX;have p0:=P3a.out.at_ 0 rfl;have y0:=P3a.out.frozen 0;have p1:=P3a.out.at_ 1 rfl;have y1:=P3a.out.frozen 1;have p2:=P3a.out.at_ 2 (v:=.int .i64 (-1)) rfl;have a7:=R3a.out.box.at_ 7 (v:=.slice A2 es.length c2) rfl;have R3:=G ((R3a.out.put OF.out 0 (.string en)).put OF.out 1 (.int .i64 ea));have P3:=G ((P3a.out.setL 0 (.string en)).setL 1 (.int .i64 ea));clear R3a P3a;unfold iv)|(go_at_call 172;refine(E1.out _ _ R4.out.ks.st).mono ?_;rintro e w7 ⟨rfl,s7,hX⟩;have R5a:=G (R4.out.step hX.1 hX.2);have P5a:=G (R4.out.ks.blk OF.out.inl P4.out hX.2);clear hX;have p0:=P5a.out.at_ 0 (v:=.string en) rfl;have p1:=P5a.out.at_ 1 (v:=.int .i64 ea) rfl;have p2:=P5a.out.at_ 2 rfl;have y2:=P5a.out.frozen 2;have a7:=R5a.out.box.at_ 7 (v:=.slice A2 es.length c2) rfl;have R5:=G (R5a.out.put OF.out 2 (.int .i64 wo));clear R5a P5a;unfold iv)|(at_builtin;refine jE _ rfl (.tmp 81) (.tmp 83) 109 rfl w.heap.size 125 iE _ 3 32 underlying109 he E5 DZ Y2 rfl (by decide) (.slice A2 es.length c2) es.length (es.flatMap efC) rfl (jV R5.out.own ((jQ0 NoX _).alloc _) (fun _ _ e=>e)) _ 1 1 (efC ⟨en,ea,wo⟩) rfl (Rd.row_at _ _ 3 1 _ (by simp[World.setCell]) rfl) (jAq _) GA.out GH.out (jL4 R5.out.ks.kp.size ((jQ0 NoX _).alloc _).size) ?_;intro A3 c3 w7 Hi hgrow Fc;rw[jC]at hgrow Fc;have HG:=R5.out.grow (by decide) (by decide) (by decide) ((jQ0 NoX _).alloc _) hgrow Fc Hi;have a7:=HG.1.at_ 7 (v:=.slice A2 es.length c2) rfl;have z7:=HG.1.frozen 7;have RG:=G HG.2;clear Hi hgrow Fc HG)|(go_at_call 135;first|(refine(jZ _ g src _ _ _ RG.out.ks.st X2.out).mono ?_;rintro e w9 ⟨rfl,hX⟩;have RH:=G (RG.out.step hX.1 hX.2);clear hX)|(refine(jZ _ g src _ _ _ R3.out.ks.st X1.out).mono ?_;rintro e w6 ⟨rfl,hX⟩;have R4:=G (R3.out.step hX.1 hX.2);have P4:=G (R3.out.ks.blk OF.out.inl P3.out hX.2);clear hX))|fail);have HL:jCE src w g s a [.string nm,.int .i64 at_,.int .i64 od,.slice A ps.length c,.string inn,.int .i64 ia,.int .i64 wh] f A c ps eres f m2 w9:=by
         have h1:=RH.out;rw[show es.flatMap efC++efC ⟨en,ea,wo⟩=(es++[(⟨en,ea,wo⟩:Eff)]).flatMap efC by rw[jN5,List.flatMap_singleton],show es.length+1=(es++[(⟨en,ea,wo⟩:Eff)]).length by rw[jJ4];rfl]at h1;exact⟨by omega,_,_,_,_,_,_,h1,EX.out,by omega⟩
        exact⟨⟨m2,HL⟩,by rw[Gp.out];exact vP HL (Nat.lt_succ_self m2)⟩
   ·rw[jJ5 ht]at hD;split at hD
    case isFalse=>cases hD
    rename_i hl;obtain⟨⟨b,q1⟩,GF,hD⟩:=jM2 hD;obtain⟨⟨pn,pa,q2⟩,Sa,hD⟩:=jM2 hD;obtain⟨q3,Wa,hD⟩:=jM2 hD;obtain⟨⟨kd,q4⟩,MM,hD⟩:=jM2 hD;have S1:=G GF;have M1:=G Sa;have X1:=G Wa;have KD:=G MM;have EX:=G hD;have GA:=G (show ps.length+1<=maxLen by unfold maxLen;omega);have GH:=G (show(ps.length+1)*32<=140737488355328 by omega);have e7:((rr.t:Int) !=7)=true:=by rw[bne,jM3 (show(rr.t:Int)≠7 by omega)];rfl
    clear Hv Fv hrel hD GF Sa Wa MM ht hl;go_wp2_with (first|(go_at_call 167;refine(jk _ g src _ _ _ 8 _ Gw.out.ks.st S1.out).mono ?_;rintro e w3 ⟨rfl,hX⟩;have R1:=G (Gw.out.step hX.1 hX.2);clear hX;have OF:=G R1.out.off;have R2:=G (R1.out.alloc (.cells [.string ⟨#[]⟩,.int .i64 0,.int .i64 0].toArray 122));have P2:=G (jQ2 w3 122 [.string ⟨#[]⟩,.int .i64 0,.int .i64 0].toArray))|(go_at_call 136;refine(zj _ g src _ _ _ _ _ R2.out.ks.st M1.out).mono ?_;rintro e w4 ⟨rfl,hX⟩;have R3a:=G (R2.out.step hX.1 hX.2);have P3a:=G (R2.out.ks.blk OF.out.inl P2.out hX.2);clear hX;have p0:=P3a.out.at_ 0 rfl;have y0:=P3a.out.frozen 0;have p1:=P3a.out.at_ 1 rfl;have y1:=P3a.out.frozen 1;have R3:=G ((R3a.out.put OF.out 0 (.string pn)).put OF.out 1 (.int .i64 pa));have P3:=G ((P3a.out.setL 0 (.string pn)).setL 1 (.int .i64 pa));clear R3a P3a;unfold iv)|(go_at_call 135;refine(jZ _ g src _ _ _ R3.out.ks.st X1.out).mono ?_;rintro e w5 ⟨rfl,hX⟩;have R4:=G (R3.out.step hX.1 hX.2);have P4:=G (R3.out.ks.blk OF.out.inl P3.out hX.2);clear hX)|(go_at_call 168;refine(Qk _ g src _ _ _ _ R4.out.ks.st KD.out).mono ?_;rintro e w6 ⟨rfl,hX⟩;have R5a:=G (R4.out.step hX.1 hX.2);have P5a:=G (R4.out.ks.blk OF.out.inl P4.out hX.2);clear hX;have p0:=P5a.out.at_ 0 (v:=.string pn) rfl;have p1:=P5a.out.at_ 1 (v:=.int .i64 pa) rfl;have p2:=P5a.out.at_ 2 rfl;have y2:=P5a.out.frozen 2;have a3:=R5a.out.box.at_ 3 (v:=.slice A ps.length c) rfl;have R5:=G (R5a.out.put OF.out 2 (.int .i64 kd));clear R5a P5a;unfold iv)|(at_builtin;refine jE _ rfl (.tmp 37) (.tmp 39) 108 rfl w.heap.size 122 iP _ 3 32 underlying108 hp Cm SL WP rfl (by decide) (.slice A ps.length c) ps.length (ps.flatMap prC) rfl (jV R5.out.own ((jQ0 NoX _).alloc _) (fun _ _ e=>e)) _ 1 1 (prC ⟨pn,pa,kd⟩) rfl (Rd.row_at _ _ 3 1 _ (by simp[World.setCell]) rfl) (jE2 _) GA.out GH.out (jL4 R5.out.ks.kp.size ((jQ0 NoX _).alloc _).size) ?_;intro A1 c1 w7 Hi hgrow Fc;rw[jC]at hgrow Fc;have HG:=R5.out.grow (by decide) (by decide) (by decide) ((jQ0 NoX _).alloc _) hgrow Fc Hi;have a3:=HG.1.at_ 3 (v:=.slice A ps.length c) rfl;have z3:=HG.1.frozen 3;have RG:=G HG.2;clear Hi hgrow Fc HG)|fail);have HL:jD9 src w g s a [.string nm,.int .i64 at_,.int .i64 od] pres f m (w7.setCell ⟨a,3,none⟩ (.slice A1 (ps.length+1) c1)):=by
     have h1:=RG.out;rw[show ps.flatMap prC++prC ⟨pn,pa,kd⟩=(ps++[(⟨pn,pa,kd⟩:Prm)]).flatMap prC by rw[jN5,List.flatMap_singleton],show ps.length+1=(ps++[(⟨pn,pa,kd⟩:Prm)]).length by rw[jJ4];rfl]at h1;rw[show ps.length+1=(ps++[(⟨pn,pa,kd⟩:Prm)]).length by rw[jJ4];rfl];exact⟨by omega,_,_,_,_,_,_,h1,EX.out⟩
    exact⟨⟨m,HL⟩,by rw[Gp.out];exact vP HL (Nat.lt_succ_self m)⟩
theorem jA1(n:Int)(h: -9223372036854775808<=n/\n<=9223372036854775807):(Lit.int .i64 n).wf=true:=by
 simp[Lit.wf,IntKind.min,IntKind.max,IntKind.signed,IntKind.bits];omega
theorem YZ(D:Nat)(n:Int)(hw:(Lit.int .i64 n).wf=true):prog.keyLits (D+1) 3 [.int .i64 n]=some [.int .i64 n]:=by
 unfold Program.keyLits;rw[underlying3];simp[hw]
theorem jHF:prog.cellsOf 3=1:=by kernel_rfl
theorem jHG:prog.cellsOf 134=2:=by kernel_rfl
theorem YY(a b:Int)(ha: -9223372036854775808<=a/\a<=9223372036854775807)(hb: -9223372036854775808<=b/\b<=9223372036854775807):prog.keyLits 2 134 [.int .i64 a,.int .i64 b]=some [.int .i64 a,.int .i64 b]:=by
 unfold Program.keyLits;rw[underlying134];have h1:=YZ 0 a (jA1 a ha);have h2:=YZ 0 b (jA1 b hb);simp[jHF,jHG,h1,h2,List.range_succ]
theorem jBc(a b:Int)(ha: -9223372036854775808<=a/\a<=9223372036854775807)(hb: -9223372036854775808<=b/\b<=9223372036854775807)(Fh:(a,b)≠(0,0))(w:World):(Op.equalIn 10000 134 (.agg #[.int .i64 a,.int .i64 b]) (.agg #[.int .i64 0,.int .i64 0])).run prog w=.ok false w:=by
 obtain⟨r,h1,h2⟩:=run_equalIn_deep (P:=prog) 9998 2 134 (by kernel_rfl) w 2 2 (.agg #[.int .i64 a,.int .i64 b]) (.agg #[.int .i64 0,.int .i64 0]) _ _ (by kernel_rfl) (by kernel_rfl) (YY a b ha hb) (YY 0 0 (by decide) (by decide));have e:r=false:=by
  cases r with
  |false=>rfl
  |true=>
   exfalso;have:=h2.1 rfl;simp only[List.cons.injEq,Lit.int.injEq,true_and,and_true]at this;exact Fh (by rw[this.1,this.2])
 rw[e]at h1;exact h1
structure LyI(s:LayP):Prop where
 last: -1<=s.last
 len:s.l.length<=4000000
 all:∀p∈s.l,0<=p.1/\p.1<=4/\0<=p.2/\p.2<=1000000
theorem LyI.next{s:LayP}(h:LyI s)(fam:Int)(i:Nat)(order:Int)(hf:0<=fam/\fam<=4)(hi:i<=1000000):LyI (JX fam i order s):=by
 unfold JX;simp only;have hl: -1<=(if i=0 then-1 else s.last):=by
  split
  ·omega
  ·exact h.last
 generalize (if i=0 then(-1:Int)else s.last)=L at*;by_cases hc:order<=L\/(s.l.length:Int)<=order\/s.l.getD order.toNat (0,0)≠(0,0)
 ·rw[jJ6 hc];exact⟨hl,h.len,h.all⟩
 ·rw[jJ5 hc];refine⟨by show-1<=order;omega,by rw[List.length_set];exact h.len,fun p hp=> ?_⟩;rcases List.mem_or_eq_of_mem_set hp with e|e
  ·exact h.all p e
  ·rw[e];exact⟨hf.1,hf.2,by show(0:Int)<=(i:Int);omega,by show(i:Int)<=1000000;omega⟩
theorem Vh(fam:Int)(i:Nat)(order:Int)(s:LayP):(JX fam i order s).l.length=s.l.length:=by
 unfold JX;simp only;generalize (if i=0 then(-1:Int)else s.last)=L;by_cases hc:order<=L\/(s.l.length:Int)<=order\/s.l.getD order.toNat (0,0)≠(0,0)
 ·rw[jJ6 hc]
 ·rw[jJ5 hc];exact List.length_set ..
theorem jBB(W:World)(qr ql qa qk:Nat)(s:LayP)(h:LyS qr ql qa qk s W)(fam:Int)(i:Nat)(order:Int)(hi:i=0)(hb:order<= -1):
  Calls prog 113 #[iv fam,iv (i:Int),iv order,.pointer (some ⟨qa,0,none⟩),.pointer (some ⟨ql,0,none⟩),.pointer (some ⟨qk,0,none⟩)] W (LyR qr ql qa qk ⟨s.l,-1,false⟩ W):=by
 have c0:=h.ab.at_ 0 (v:=.int .i64 s.last) rfl;have c1:=h.lb.at_ 0 (v:=.slice (some ⟨qr,0,none⟩) s.l.length s.l.length) rfl;have za:=h.ab.frozen 0;have zk:=h.kb.frozen 0;have ck:=h.kb.at_ 0 (v:=.bool s.ok) rfl;have H1:=G (h.setA (-1)).1;have K1:=G (h.setA (-1)).2;have d1:((i:Int)==0)=true:=by rw[hi];rfl
 have H2:=G (H1.out.setK false).1;have K2:=G (K1.out.trans (H1.out.setK false).2 (fun _ _ e=>e));have e2:=H1.out.ab.at_ 0 (v:=.int .i64 (-1)) rfl;have e3:=H1.out.lb.at_ 0 (v:=.slice (some ⟨qr,0,none⟩) s.l.length s.l.length) rfl;have e5:=H1.out.kb.at_ 0 (v:=.bool s.ok) rfl;have z1:=H1.out.kb.frozen 0;clear h hi;unfold iv at*;go_enter func113,ntmps113;go_wp2;go_end0;exact⟨rfl,H2.out,K2.out⟩
theorem jBA(W:World)(qr ql qa qk:Nat)(s:LayP)(h:LyS qr ql qa qk s W)(fam:Int)(i:Nat)(order:Int)(hi:i=0)(ha:¬order<= -1)(hb:(s.l.length:Int)<=order):
  Calls prog 113 #[iv fam,iv (i:Int),iv order,.pointer (some ⟨qa,0,none⟩),.pointer (some ⟨ql,0,none⟩),.pointer (some ⟨qk,0,none⟩)] W (LyR qr ql qa qk ⟨s.l,-1,false⟩ W):=by
 have c0:=h.ab.at_ 0 (v:=.int .i64 s.last) rfl;have c1:=h.lb.at_ 0 (v:=.slice (some ⟨qr,0,none⟩) s.l.length s.l.length) rfl;have za:=h.ab.frozen 0;have zk:=h.kb.frozen 0;have ck:=h.kb.at_ 0 (v:=.bool s.ok) rfl;have H1:=G (h.setA (-1)).1;have K1:=G (h.setA (-1)).2;have d1:((i:Int)==0)=true:=by rw[hi];rfl
 have H2:=G (H1.out.setK false).1;have K2:=G (K1.out.trans (H1.out.setK false).2 (fun _ _ e=>e));have e2:=H1.out.ab.at_ 0 (v:=.int .i64 (-1)) rfl;have e3:=H1.out.lb.at_ 0 (v:=.slice (some ⟨qr,0,none⟩) s.l.length s.l.length) rfl;have e5:=H1.out.kb.at_ 0 (v:=.bool s.ok) rfl;have z1:=H1.out.kb.frozen 0;clear h hi;unfold iv at*;go_enter func113,ntmps113;go_wp2;go_end0;exact⟨rfl,H2.out,K2.out⟩
theorem jA9(W:World)(qr ql qa qk:Nat)(s:LayP)(h:LyS qr ql qa qk s W)(I:LyI s)(fam:Int)(i:Nat)(order:Int)(hi:i=0)(ha:¬order<= -1)(hlen:order<(s.l.length:Int))(Fh:s.l.getD order.toNat (0,0)≠(0,0)):
  Calls prog 113 #[iv fam,iv (i:Int),iv order,.pointer (some ⟨qa,0,none⟩),.pointer (some ⟨ql,0,none⟩),.pointer (some ⟨qk,0,none⟩)] W (LyR qr ql qa qk ⟨s.l,-1,false⟩ W):=by
 obtain⟨k,rfl⟩:∃k:Nat,order=(k:Int):=⟨order.toNat,by have:=I.last;omega⟩;have ek:(k:Int).toNat=k:=(by omega);rw[ek]at Fh;have hk:k<s.l.length:=(by omega);have b1:(0:Int)<=(k:Int):=(by omega);have b3:¬(s.l.length:Int)<=(k:Int):=(by omega);have Nh:s.l.getD k (0,0)∈s.l:=by rw[List.getD_eq_getElem?_getD,jJ9 hk];exact jL6 _
 have WJ:=I.all _ Nh;have c0:=h.ab.at_ 0 (v:=.int .i64 s.last) rfl;have c1:=h.lb.at_ 0 (v:=.slice (some ⟨qr,0,none⟩) s.l.length s.l.length) rfl;have za:=h.ab.frozen 0;have zk:=h.kb.frozen 0;have ck:=h.kb.at_ 0 (v:=.bool s.ok) rfl;have H1:=G (h.setA (-1)).1;have K1:=G (h.setA (-1)).2;have d1:((i:Int)==0)=true:=by rw[hi];rfl
 have H2:=G (H1.out.setK false).1;have K2:=G (K1.out.trans (H1.out.setK false).2 (fun _ _ e=>e));have e2:=H1.out.ab.at_ 0 (v:=.int .i64 (-1)) rfl;have e3:=H1.out.lb.at_ 0 (v:=.slice (some ⟨qr,0,none⟩) s.l.length s.l.length) rfl;have e5:=H1.out.kb.at_ 0 (v:=.bool s.ok) rfl;have z1:=H1.out.kb.frozen 0;obtain⟨e0,e1⟩:=H1.out.at_ hk;generalize hp:s.l.getD k (0,0)=p at*;obtain⟨p1,p2⟩:=p;simp only at e0 e1 WJ;have e0' :_=some (Value.int .i64 p1):=e0;have e1' :_=some (Value.int .i64 p2):=e1;have Ht:=jBc p1 p2 (by omega) (by omega) Fh;clear Fh WJ Nh I hp e0 e1;clear h hi;unfold iv at*;go_enter func113,ntmps113;go_wp2;go_end0;exact⟨rfl,H2.out,K2.out⟩
theorem jA8(W:World)(qr ql qa qk:Nat)(s:LayP)(h:LyS qr ql qa qk s W)(fam:Int)(i:Nat)(order:Int)(hi:¬i=0)(hb:order<=s.last):
  Calls prog 113 #[iv fam,iv (i:Int),iv order,.pointer (some ⟨qa,0,none⟩),.pointer (some ⟨ql,0,none⟩),.pointer (some ⟨qk,0,none⟩)] W (LyR qr ql qa qk ⟨s.l,s.last,false⟩ W):=by
 have c0:=h.ab.at_ 0 (v:=.int .i64 s.last) rfl;have c1:=h.lb.at_ 0 (v:=.slice (some ⟨qr,0,none⟩) s.l.length s.l.length) rfl;have za:=h.ab.frozen 0;have zk:=h.kb.frozen 0;have ck:=h.kb.at_ 0 (v:=.bool s.ok) rfl;have H1:=G h;have K1:=G (jQ0 (LyX qr qa qk) W);have d1:((i:Int)==0)=false:=jM3 (by omega);have H2:=G (H1.out.setK false).1;have K2:=G (K1.out.trans (H1.out.setK false).2 (fun _ _ e=>e));have e2:=H1.out.ab.at_ 0 (v:=.int .i64 (s.last)) rfl;have e3:=H1.out.lb.at_ 0 (v:=.slice (some ⟨qr,0,none⟩) s.l.length s.l.length) rfl;have e5:=H1.out.kb.at_ 0 (v:=.bool s.ok) rfl;have z1:=H1.out.kb.frozen 0;clear h hi;unfold iv at*;go_enter func113,ntmps113;go_wp2;go_end0;exact⟨rfl,H2.out,K2.out⟩
theorem jA7(W:World)(qr ql qa qk:Nat)(s:LayP)(h:LyS qr ql qa qk s W)(fam:Int)(i:Nat)(order:Int)(hi:¬i=0)(ha:¬order<=s.last)(hb:(s.l.length:Int)<=order):
  Calls prog 113 #[iv fam,iv (i:Int),iv order,.pointer (some ⟨qa,0,none⟩),.pointer (some ⟨ql,0,none⟩),.pointer (some ⟨qk,0,none⟩)] W (LyR qr ql qa qk ⟨s.l,s.last,false⟩ W):=by
 have c0:=h.ab.at_ 0 (v:=.int .i64 s.last) rfl;have c1:=h.lb.at_ 0 (v:=.slice (some ⟨qr,0,none⟩) s.l.length s.l.length) rfl;have za:=h.ab.frozen 0;have zk:=h.kb.frozen 0;have ck:=h.kb.at_ 0 (v:=.bool s.ok) rfl;have H1:=G h;have K1:=G (jQ0 (LyX qr qa qk) W);have d1:((i:Int)==0)=false:=jM3 (by omega);have H2:=G (H1.out.setK false).1;have K2:=G (K1.out.trans (H1.out.setK false).2 (fun _ _ e=>e));have e2:=H1.out.ab.at_ 0 (v:=.int .i64 (s.last)) rfl;have e3:=H1.out.lb.at_ 0 (v:=.slice (some ⟨qr,0,none⟩) s.l.length s.l.length) rfl;have e5:=H1.out.kb.at_ 0 (v:=.bool s.ok) rfl;have z1:=H1.out.kb.frozen 0;clear h hi;unfold iv at*;go_enter func113,ntmps113;go_wp2;go_end0;exact⟨rfl,H2.out,K2.out⟩
theorem jA6(W:World)(qr ql qa qk:Nat)(s:LayP)(h:LyS qr ql qa qk s W)(I:LyI s)(fam:Int)(i:Nat)(order:Int)(hi:¬i=0)(ha:¬order<=s.last)(hlen:order<(s.l.length:Int))(Fh:s.l.getD order.toNat (0,0)≠(0,0)):
  Calls prog 113 #[iv fam,iv (i:Int),iv order,.pointer (some ⟨qa,0,none⟩),.pointer (some ⟨ql,0,none⟩),.pointer (some ⟨qk,0,none⟩)] W (LyR qr ql qa qk ⟨s.l,s.last,false⟩ W):=by
 obtain⟨k,rfl⟩:∃k:Nat,order=(k:Int):=⟨order.toNat,by have:=I.last;omega⟩;have ek:(k:Int).toNat=k:=(by omega);rw[ek]at Fh;have hk:k<s.l.length:=(by omega);have b1:(0:Int)<=(k:Int):=(by omega);have b3:¬(s.l.length:Int)<=(k:Int):=(by omega);have Nh:s.l.getD k (0,0)∈s.l:=by rw[List.getD_eq_getElem?_getD,jJ9 hk];exact jL6 _
 have WJ:=I.all _ Nh;have c0:=h.ab.at_ 0 (v:=.int .i64 s.last) rfl;have c1:=h.lb.at_ 0 (v:=.slice (some ⟨qr,0,none⟩) s.l.length s.l.length) rfl;have za:=h.ab.frozen 0;have zk:=h.kb.frozen 0;have ck:=h.kb.at_ 0 (v:=.bool s.ok) rfl;have H1:=G h;have K1:=G (jQ0 (LyX qr qa qk) W);have d1:((i:Int)==0)=false:=jM3 (by omega);have H2:=G (H1.out.setK false).1;have K2:=G (K1.out.trans (H1.out.setK false).2 (fun _ _ e=>e));have e2:=H1.out.ab.at_ 0 (v:=.int .i64 (s.last)) rfl;have e3:=H1.out.lb.at_ 0 (v:=.slice (some ⟨qr,0,none⟩) s.l.length s.l.length) rfl;have e5:=H1.out.kb.at_ 0 (v:=.bool s.ok) rfl;have z1:=H1.out.kb.frozen 0;obtain⟨e0,e1⟩:=H1.out.at_ hk;generalize hp:s.l.getD k (0,0)=p at*;obtain⟨p1,p2⟩:=p;simp only at e0 e1 WJ;have e0' :_=some (Value.int .i64 p1):=e0;have e1' :_=some (Value.int .i64 p2):=e1;have Ht:=jBc p1 p2 (by omega) (by omega) Fh;clear Fh WJ Nh I hp e0 e1;clear h hi;unfold iv at*;go_enter func113,ntmps113;go_wp2;go_end0;exact⟨rfl,H2.out,K2.out⟩
theorem Zm(W:World)(qr ql qa qk:Nat)(s:LayP)(h:LyS qr ql qa qk s W)(I:LyI s)(fam:Int)(i:Nat)(order:Int):
  Calls prog 113 #[iv fam,iv (i:Int),iv order,.pointer (some ⟨qa,0,none⟩),.pointer (some ⟨ql,0,none⟩),.pointer (some ⟨qk,0,none⟩)] W (LyR qr ql qa qk (JX fam i order s) W):=by
 by_cases h1:order<=(if i=0 then-1 else s.last)
 ·have e:JX fam i order s=⟨s.l,if i=0 then-1 else s.last,false⟩:=by unfold JX;simp only;rw[jJ6 (.inl h1)]
  rw[e];by_cases hi:i=0
  ·rw[jJ6 hi]at h1⊢;exact jBB W qr ql qa qk s h fam i order hi h1
  ·rw[jJ5 hi]at h1⊢;exact jA8 W qr ql qa qk s h fam i order hi h1
 by_cases h2:(s.l.length:Int)<=order
 ·have e:JX fam i order s=⟨s.l,if i=0 then-1 else s.last,false⟩:=by unfold JX;simp only;rw[jJ6 (.inr (.inl h2))]
  rw[e];by_cases hi:i=0
  ·rw[jJ6 hi]at h1⊢;exact jBA W qr ql qa qk s h fam i order hi h1 h2
  ·rw[jJ5 hi]at h1⊢;exact jA7 W qr ql qa qk s h fam i order hi h1 h2
 by_cases h3:s.l.getD order.toNat (0,0)=(0,0)
 ·have hl: -1<=(if i=0 then-1 else s.last):=by
   split
   ·omega
   ·exact I.last
  exact jA5 W qr ql qa qk s h fam i order h1 (by omega) (by omega) h3
 ·have e:JX fam i order s=⟨s.l,if i=0 then-1 else s.last,false⟩:=by unfold JX;simp only;rw[jJ6 (.inr (.inr h3))]
  rw[e];by_cases hi:i=0
  ·rw[jJ6 hi]at h1⊢;exact jA9 W qr ql qa qk s h I fam i order hi h1 (by omega) h3
  ·rw[jJ5 hi]at h1⊢;exact jA6 W qr ql qa qk s h I fam i order hi h1 (by omega) h3
theorem Xi{src:LB}{r r1:Rdr}(t:Tre)(h:kA src r=some r1):kA src {r with tree:=t}=some {r1 with tree:=t}:=by
 unfold kA at h⊢;simp only at h⊢;split at h
 ·rename_i h1;rw[jJ6 h1];injection h with h;rw[<-h]
 ·rename_i h1;rw[jJ5 h1];obtain⟨x,hx,e⟩:=jM4 h;rw[hx,<-e];rfl
theorem St.setName{w:World}{g:Nat}{src:BA}{r:Rdr}{s:Sl}(h:St w g src r s)(x:BA)(y:Int):
  St ((w.setCell ⟨g,5,none⟩ (.string x)).setCell ⟨g,6,none⟩ (.int .i64 y)) g src {r with tree:={r.tree with name:=x,at_:=y}} s/\Fr g s s w ((w.setCell ⟨g,5,none⟩ (.string x)).setCell ⟨g,6,none⟩ (.int .i64 y)):=by
 obtain⟨ns,ps,hR⟩:=h.rows;have hk:Kp (GX g) w ((w.setCell ⟨g,5,none⟩ (.string x)).setCell ⟨g,6,none⟩ (.int .i64 y)):=((jQ0 (GX g) w).setCell (p:=⟨g,5,none⟩) (fun _=>rfl) _).setCell (p:=⟨g,6,none⟩) (fun _=>rfl) _;have My:=hR.keep h.box hk;have hb:=(Blk.setL h.box 5 (.string x)).setL 6 (.int .i64 y);refine⟨⟨h.sgf (Fr.of_g s hk),h.g8,h.small,hb,⟨ns,ps,My.rA,My.rG,My.rM,My.rP,My.rN,My.rO,My.pe,My.ne,My.po,My.no⟩,h.from_,h.at_,h.t58,fun b hz=>jL8 (h.zlt b hz) hk.size,h.z8,h.zno⟩,Fr.of_g s hk⟩
def ut(src:BA)(w:World)(g:Nat)(s:Sl)(rr:Rdr)(F n:Nat)(W:World):Prop:=n<=F/\∃r' s',St W g src r' s' /\Fr g s s' w W/\VS (sb src) n r' =some rr
theorem jCp(w:World)(g:Nat)(src:BA)(f:Nat)(r' :Rdr)(s:Sl)(h:St w g src ⟨0,0,0,0,Tre.none_⟩ s)(hk:Jj (sb src) f=some r'):
  Calls prog 78 #[.pointer (some ⟨g,0,none⟩)] w (Ex w g src s r' (.tuple #[])):=by
 unfold Jj at hk;obtain⟨r1,Fq,hk⟩:=jM2 hk;obtain⟨r2,Fu,hk⟩:=jM2 hk;obtain⟨⟨nm,at_,r3⟩,hm,hk⟩:=jM2 hk;obtain⟨r4,WR,hk⟩:=jM2 hk;have S9:=Xi {r3.tree with name:=nm,at_:=at_} WR;have e43:r4.tree=r3.tree:=by
  have La:=WR;unfold kA at La;simp only at La;split at La
  ·injection La with e;rw[<-e]
  ·obtain⟨x,_,e⟩:=jM4 La;rw[<-e]
 have HS:=G h;have N1:=G Fq;have N2:=G Fu;have NM:=G hm;have N4:=G S9;simp only at hk;rw[e43]at hk;have DE:=G hk;clear h Fq Fu hm WR S9 hk e43;go_enter func78,ntmps78;go_wp2_with (first|(go_at_call 135;first|(refine(jZ _ g src _ _ _ H4.out.1 N4.out).mono ?_;rintro e w4 ⟨rfl,hX⟩;have H5:=G hX;clear hX)|(refine(jZ _ g src _ _ _ H1.out.1 N2.out).mono ?_;rintro e w2 ⟨rfl,hX⟩;have H2:=G hX;clear hX)|(refine(jZ _ g src _ _ _ HS.out N1.out).mono ?_;rintro e w1 ⟨rfl,hX⟩;have H1:=G hX;clear hX))|(go_at_call 136;refine(zj _ g src _ _ _ _ _ H2.out.1 NM.out).mono ?_;rintro e w3 ⟨rfl,hX⟩;have c5:=Blk.at_ hX.1.box 5 rfl;have z5:=hX.1.box.z 5;have c6:=Blk.at_ hX.1.box 6 rfl;have z6:=hX.1.box.z 6;have H4:=G (hX.1.setName nm at_);have H3:=G hX.2;clear hX;unfold iv)|fail);have D0:=G (show ut src w g s r' f f w4 from⟨jL3 _,_,s,H5.out.1,(((H1.out.2.trans H2.out.2).trans H3.out).trans H4.out.2).trans H5.out.2,DE.out⟩);clear H1 H2 H3 H4 H5 c5 z5 c6 z6 DE;go_loopw [] (fun wr=>∃n,ut src w g s r' f n wr) (fun wr=>least (fun n=>ut src w g s r' f n wr))
 case atStart=>exact⟨_,D0.out⟩
 case round=>
  clear D0;obtain⟨n,⟨hn,rr,s',Hv,Gt,hD⟩,Fv⟩:=zF hrel;have Fo:=Hv.box.c3;have Gw:=G Hv;have GG:=G Gt;have Gp:=G Fv;cases n with
  |zero=>exact absurd hD (by simp[VS])
  |succ m=>
   rw[VS]at hD;by_cases PP:rr.t=24
   ·rw[jJ6 PP]at hD;obtain⟨q,hq,hD⟩:=jM2 hD;have AQ:=G (qB wr g src m rr q s' Hv hq);have EX:=G hD;rw[PP]at Fo;clear Hv Gt Fv hrel hD hq PP;go_wp2_with (first|(go_at_call 137;refine AQ.out.mono ?_;rintro e w5 ⟨rfl,s5,hX⟩;have H5:=G hX;clear hX)|fail);have HL:ut src w g s r' f m w5:=⟨by omega,q,s5,H5.out.1,GG.out.trans H5.out.2,EX.out⟩;exact⟨⟨m,HL⟩,by rw[Gp.out];exact vP HL (Nat.lt_succ_self m)⟩
   rw[jJ5 PP]at hD;by_cases PM:rr.t=25
   ·rw[jJ6 PM]at hD;obtain⟨q,hq,hD⟩:=jM2 hD;have AQ:=G (UT wr g src m rr q s' Hv hq);have EX:=G hD;rw[PM]at Fo;clear Hv Gt Fv hrel hD hq PM;go_wp2_with (first|(go_at_call 138;refine AQ.out.mono ?_;rintro e w5 ⟨rfl,s5,hX⟩;have H5:=G hX;clear hX)|fail);have HL:ut src w g s r' f m w5:=⟨by omega,q,s5,H5.out.1,GG.out.trans H5.out.2,EX.out⟩;exact⟨⟨m,HL⟩,by rw[Gp.out];exact vP HL (Nat.lt_succ_self m)⟩
   rw[jJ5 PM]at hD;by_cases Pi:rr.t=26
   ·rw[jJ6 Pi]at hD;obtain⟨q,hq,hD⟩:=jM2 hD;have AQ:=G (Zl wr g src m rr q s' Hv hq);have EX:=G hD;rw[Pi]at Fo;clear Hv Gt Fv hrel hD hq Pi;go_wp2_with (first|(go_at_call 139;refine AQ.out.mono ?_;rintro e w5 ⟨rfl,s5,hX⟩;have H5:=G hX;clear hX)|fail);have HL:ut src w g s r' f m w5:=⟨by omega,q,s5,H5.out.1,GG.out.trans H5.out.2,EX.out⟩;exact⟨⟨m,HL⟩,by rw[Gp.out];exact vP HL (Nat.lt_succ_self m)⟩
   rw[jJ5 Pi]at hD;by_cases h27:rr.t=27
   ·rw[jJ6 h27]at hD;obtain⟨q,hq,hD⟩:=jM2 hD;have AQ:=G (jCY wr g src m rr q s' Hv hq);have EX:=G hD;rw[h27]at Fo;clear Hv Gt Fv hrel hD hq h27;go_wp2_with (first|(go_at_call 140;refine AQ.out.mono ?_;rintro e w5 ⟨rfl,s5,hX⟩;have H5:=G hX;clear hX)|fail);have HL:ut src w g s r' f m w5:=⟨by omega,q,s5,H5.out.1,GG.out.trans H5.out.2,EX.out⟩;exact⟨⟨m,HL⟩,by rw[Gp.out];exact vP HL (Nat.lt_succ_self m)⟩
   rw[jJ5 h27]at hD;injection hD with hD;subst hD;have e24:((rr.t:Int)==24)=false:=jM3 (by omega);have e25:((rr.t:Int)==25)=false:=jM3 (by omega);have e26:((rr.t:Int)==26)=false:=jM3 (by omega);have e27:((rr.t:Int)==27)=false:=jM3 (by omega);clear Hv Gt Fv hrel PP PM Pi h27;go_wp2;go_end0;exact⟨rfl,s',Gw.out,GG.out⟩
end Go.Proofs.YtmmjcbbogokmfaaGreatDoor

import Derived.Test.YtmmjcbbogokmfaaGreatDoorMb17
set_option maxRecDepth 100000
set_option maxHeartbeats 25600000
namespace Go.Proofs.YtmmjcbbogokmfaaGreatDoor
open Go.Proofs.Tryz
open Go.RowKit
theorem KV(a b:BA):sb (a++b)=sb a++sb b:=by
 unfold sb;simp
theorem jA9(s:BA)(k:Nat)(h:k<s.size):sb (s.extract k (k+1))=[s[k]]:=by
 have h' :k<(sb s).length:=by rw[jB];exact h
 rw[js,jM9 h',show k+1-k=1 by omega,List.take_succ_cons,List.take_zero];rfl
theorem Uy(s:BA)(k:Nat)(h:k<s.size):((sb s).drop k).headD 0=s[k]:=by
 have h' :k<(sb s).length:=by rw[jB];exact h
 rw[jM9 h'];rfl
theorem Jz(t:Nat)(ht:t<58)(m:Mc)(hl:m.stack.length<=1000000)(h:kI t m.stack=true):∃n s,Takes t n m.stack s/\m.stack.length+11*n<=100000000/\∀k f,vg t {m with from_:=f} k=.ok {m with from_:=f,at_:=k,stack:=s}:=by
 obtain⟨s,MM,Ls⟩:=KQ t ht m 0 h;obtain⟨n,hn,hT⟩:=Jg MM;refine⟨n,s,hT,by omega,fun k f=> ?_⟩;unfold vg;rw[MM]
theorem jDf(w:World)(hg:Sg w)(g:Nat)(r:Option Nat)(src:BA)(m:Mc)(A:OA)(c:Nat)(h:Mac w g r src m A c)(hs:src.size<=1000000)(ha:m.at_ <src.size)(Hm:m.stack.length<=1000000):
  Calls prog 163 #[.pointer (some ⟨g,0,none⟩)] w (MOut w g r src (vK m src[m.at_] ((sb src).drop (m.at_ +1)))):=by
 have Po:=G (fun W (hW:Old w W)=>JK W (hg.old hW) (src.extract m.at_ (m.at_ +1)));have Pn:=G (fun W (hW:Old w W)=>JK W (hg.old hW) (src.extract m.at_ (m.at_ +1)++⟨#[61]⟩));rw[KV,jA9 src m.at_ ha,show([src[m.at_]]++sb ⟨#[61]⟩:LB)=[src[m.at_],61]from rfl]at Pn;rw[jA9 src m.at_ ha]at Po;have Hv:=G (show vK m src[m.at_] ((sb src).drop (m.at_ +1))=(if jc [src[m.at_]]≠0/\kI (jc [src[m.at_]]) m.stack=true then
  (if jc [src[m.at_],61]≠0/\kI (jc [src[m.at_],61]) m.stack=true/\((sb src).drop (m.at_ +1)).headD 0=61 then vg (jc [src[m.at_],61]) {m with from_:=m.at_} (m.at_ +2)else vg (jc [src[m.at_]]) {m with from_:=m.at_} (m.at_ +1))
 else if jc [src[m.at_],61]=0\/kI (jc [src[m.at_],61]) m.stack=false then .error m.at_
 else if((sb src).drop (m.at_ +1))=[]then .ok {m with from_:=m.at_,at_:=m.at_ +1,fin:=3}
 else if((sb src).drop (m.at_ +1)).headD 0≠61 then .error (m.at_ +1)
 else vg (jc [src[m.at_],61]) {m with from_:=m.at_} (m.at_ +2))from rfl)
 have hO:=ku [src[m.at_]];have hT:=ku [src[m.at_],61];generalize vK m src[m.at_] ((sb src).drop (m.at_ +1))=R at*;generalize jc [src[m.at_]]=O at*;generalize jc [src[m.at_],61]=T at*;generalize V6:src.extract m.at_ (m.at_ +1)=sx at*;have G6:sx.size=1:=by rw[<-V6,<-jB,jA9 src m.at_ ha];rfl
 have RD:((sx.size+1:Nat):Int)<=9223372036854775807:=(by omega);generalize Nm:sx++⟨#[61]⟩=sy at*;have GY:=h.c0;have FE:=h.c1;have Ms:=h.c4;have R0:=h.z 4;have Ft:=h.z 1;have Fh:=h.c3;have WW:=h.z 3;have a1:(m.at_:Int)<=(m.at_:Int)+1:=(by omega);have a2:(m.at_:Int)+1<=(src.size:Int):=(by omega);have a3:(0:Int)<=(m.at_:Int):=(by omega);have a4:IntKind.i64.wrap ((m.at_:Int)+1)=(m.at_:Int)+1:=jQ3 _ (by omega);have a5:(m.at_:Int).toNat=m.at_:=(by omega);have a6:((m.at_:Int)+1).toNat=m.at_ +1:=(by omega);have a7:(0:Int)<=(m.at_:Int)+1:=(by omega);go_enter func163,ntmps163;go_wp2;go_quiet (fail);go_wp2_with fail;refine(Po.out _ ((jQ0 _ _).drewN _)).mono ?_;rintro e w1 ⟨rfl,rfl⟩;go_wp2_with fail;refine(Pn.out _ ((jQ0 _ _).drewN _)).mono ?_;rintro e w1 ⟨rfl,rfl⟩;clear Po Pn V6 Nm G6 RD a1 a2 hg;have h0:=h.drewN nq;have L3:Kp (MX g r) w (w.drewN nq):=(jQ0 _ _).drewN nq;have GY:=h0.c0;have FE:=h0.c1;have Fh:=h0.c3;have Ms:=h0.c4;have Ft:=h0.z 1;have WW:=h0.z 3;have R0:=h0.z 4;clear h;generalize w.drewN nq=w0 at*;obtain⟨m1,k1⟩:=h0.setFrom m.at_;have CI:=G m1;have M7:=G (fun W (hW:Old (w0.setCell ⟨g,4,none⟩ (.int .i64 (m.at_:Int))) W)=>KE W g r src _ A c (m1.old hW) O);have V0:=G (fun W (hW:Old (w0.setCell ⟨g,4,none⟩ (.int .i64 (m.at_:Int))) W)=>KE W g r src _ A c (m1.old hW) T);have Wg:=G (L3.trans k1 (fun _ _ h=>h));obtain⟨m2,k2⟩:=m1.setAt (m.at_ +1);rw[show((m.at_ +1:Nat):Int)=(m.at_:Int)+1 by omega]at m2 k2;have Lg:=G m2;have MA:=G ((L3.trans k1 (fun _ _ h=>h)).trans k2 (fun _ _ h=>h));have WS:=G (fun W (hW:Old ((w0.setCell ⟨g,4,none⟩ (.int .i64 (m.at_:Int))).setCell ⟨g,1,none⟩ (.int .i64 ((m.at_:Int)+1))) W)=>KE W g r src _ A c (m2.old hW) T);obtain⟨m3,k3⟩:=m2.setFin 3;have Pp:=G m3;have CK:=G (((L3.trans k1 (fun _ _ h=>h)).trans k2 (fun _ _ h=>h)).trans k3 (fun _ _ h=>h));simp only at M7 V0 WS;unfold yv at M7 V0 WS;clear m1 k1 m2 k2 m3 k3 h0 L3;have CT:=G (Jz O hO m Hm);have Z5:=G (Jz T hT m Hm);generalize hbO:kI O m.stack=bO at*;generalize hbT:kI T m.stack=bT at*;clear hbO hbT;have Hd:=G (fun(h:m.at_ +1<src.size)=>Uy src (m.at_ +1) h);have Hn:=G (show m.at_ +1=src.size->(sb src).drop (m.at_ +1)=[]from fun h=>List.drop_of_length_le (by rw[jB];omega));have SN:=G (show m.at_ +1<src.size->(sb src).drop (m.at_ +1)≠ []from fun h e=>by
  have:=congrArg List.length e;rw[jK8,jB]at this;simp at this;omega)
 generalize (sb src).drop (m.at_ +1)=rest at*;have a8:IntKind.i64.wrap ((m.at_:Int)+1+1)=(m.at_:Int)+2:=by rw[show(m.at_:Int)+1+1=(m.at_:Int)+2 by omega];exact jQ3 _ (by omega)
 have a9:IntKind.i64.wrap ((m.at_:Int)+2)=(m.at_:Int)+2:=jQ3 _ (by omega);by_cases Wd:O≠0/\bO=true
 ·obtain⟨O0,rfl⟩:=Wd;have o1:((O:Int) !=0)=true:=bne_iff_ne.2 (by omega);obtain⟨n,s,Cy,MY,Nl⟩:=CT.out rfl;have RR:=G (fun W (hW:Old ((w0.setCell ⟨g,4,none⟩ (.int .i64 (m.at_:Int))).setCell ⟨g,1,none⟩ (.int .i64 ((m.at_:Int)+1))) W)=>yp W g r src _ A c (Lg.out.old hW) O n s hO Cy MY);unfold yv at RR;have TZ:=G Nl;clear Nl Cy MY;have Hv:=G (show R=(if T≠0/\bT=true/\rest.headD 0=61 then vg T {m with from_:=m.at_} (m.at_ +2)else .ok {m with from_:=m.at_,at_:=m.at_ +1,stack:=s})by rw[Hv.out,jJ6 ⟨O0,rfl⟩,TZ.out]);clear O0;by_cases T0:T=0
  ·have t1:((T:Int) !=0)=false:=by rw[T0];rfl
   have HR:=G (show R=.ok {m with from_:=m.at_,at_:=m.at_ +1,stack:=s}by rw[Hv.out,jJ5 (fun h=>h.1 T0)]);clear Hv T0;go_wp2_with (go_at_call 176;refine(M7.out _ (jQ0 _ _)).mono ?_;rintro e w1 ⟨rfl,rfl⟩);go_quiet (fail);go_wp2_with (go_at_call 179;refine(RR.out _ ((jQ0 _ _).drewN _)).mono ?_;rintro e w1 ⟨rfl,F0⟩);go_end0;rw[HR.out];exact⟨rfl,MStep.trans (MA.out.drewN _) (.inl rfl) F0⟩
  ·have t1:((T:Int) !=0)=true:=bne_iff_ne.2 (by omega);cases bT
   ·have HR:=G (show R=.ok {m with from_:=m.at_,at_:=m.at_ +1,stack:=s}by rw[Hv.out,jJ5 (fun h=>by cases h.2.1)]);clear Hv T0;go_wp2_with (go_at_call 176;refine(M7.out _ (jQ0 _ _)).mono ?_;rintro e w1 ⟨rfl,rfl⟩);go_quiet ((go_at_call 176;refine Calls.quiet_of_same ((WS.out _ ((jQ0 _ _).drewN _)).mono (fun _ _ h=>⟨h.1,h.2.symm⟩))));go_wp2_with (go_at_call 179;refine(RR.out _ ((jQ0 _ _).drewN _)).mono ?_;rintro e w1 ⟨rfl,F0⟩);go_end0;rw[HR.out];exact⟨rfl,MStep.trans (MA.out.drewN _) (.inl rfl) F0⟩
   ·by_cases FG:m.at_ +1=src.size
    ·have HR:=G (show R=.ok {m with from_:=m.at_,at_:=m.at_ +1,stack:=s}by rw[Hv.out,jJ5 (fun h=>by have h2:=h.2.2;rw[Hn.out FG]at h2;exact absurd h2 (by decide))]);have e1:decide ((m.at_:Int)+1<(src.size:Int))=false:=jK3 (by omega);clear Hv T0 FG;go_wp2_with (go_at_call 176;refine(M7.out _ (jQ0 _ _)).mono ?_;rintro e w1 ⟨rfl,rfl⟩);go_quiet ((go_at_call 176;refine Calls.quiet_of_same ((WS.out _ ((jQ0 _ _).drewN _)).mono (fun _ _ h=>⟨h.1,h.2.symm⟩))));go_wp2_with (go_at_call 179;refine(RR.out _ ((jQ0 _ _).drewN _)).mono ?_;rintro e w1 ⟨rfl,F0⟩);go_end0;rw[HR.out];exact⟨rfl,MStep.trans (MA.out.drewN _) (.inl rfl) F0⟩
    ·have FB:m.at_ +1<src.size:=(by omega);have e1:(m.at_:Int)+1<(src.size:Int):=(by omega);have hd:=Hd.out FB;by_cases Gm:src[m.at_ +1].toNat=61
     ·have e2:((src[m.at_ +1].toNat:Int)==61)=true:=by rw[Gm];rfl
      have hd2:rest.headD 0=61:=by rw[hd];exact UInt8.toNat_inj.1 Gm
      obtain⟨n2,s2,Nb,N9,N6⟩:=Z5.out rfl;have HR:=G (show R=.ok {m with from_:=m.at_,at_:=m.at_ +2,stack:=s2}by rw[Hv.out,jJ6 ⟨T0,rfl,hd2⟩,N6]);have FR:=G (fun W (hW:Old ((w0.setCell ⟨g,4,none⟩ (.int .i64 (m.at_:Int))).setCell ⟨g,1,none⟩ (.int .i64 ((m.at_:Int)+1))) W)=>by
       have:=(Lg.out.old hW).setAt (m.at_ +2)
       rwa [show((m.at_ +2:Nat):Int)=(m.at_:Int)+2 by omega]at this)
      have LC:=G (fun W (hW:Old ((w0.setCell ⟨g,4,none⟩ (.int .i64 (m.at_:Int))).setCell ⟨g,1,none⟩ (.int .i64 ((m.at_:Int)+1))) W)=>yp _ g r src _ A c (FR.out W hW).1 T n2 s2 hT Nb N9);unfold yv at LC;clear Hv T0 FG hd hd2 Gm Nb N9 N6;go_wp2_with (go_at_call 176;refine(M7.out _ (jQ0 _ _)).mono ?_;rintro e w1 ⟨rfl,rfl⟩);go_quiet ((go_at_call 176;refine Calls.quiet_of_same ((WS.out _ ((jQ0 _ _).drewN _)).mono (fun _ _ h=>⟨h.1,h.2.symm⟩))));go_wp2_with (go_at_call 179;refine(LC.out _ ((jQ0 _ _).drewN _)).mono ?_;rintro e w1 ⟨rfl,F0⟩);go_end0;rw[HR.out];exact⟨rfl,MStep.trans ((MA.out.drewN _).trans (FR.out _ ((jQ0 _ _).drewN _)).2 (fun _ _ h=>h)) (.inl rfl) F0⟩
     ·have e2:((src[m.at_ +1].toNat:Int)==61)=false:=jM3 (by omega);have HR:=G (show R=.ok {m with from_:=m.at_,at_:=m.at_ +1,stack:=s}by rw[Hv.out,jJ5 (fun h=>Gm (by have h2:=h.2.2;rw[hd]at h2;rw[h2];rfl))]);clear Hv T0 FG hd Gm;go_wp2_with (go_at_call 176;refine(M7.out _ (jQ0 _ _)).mono ?_;rintro e w1 ⟨rfl,rfl⟩);go_quiet ((go_at_call 176;refine Calls.quiet_of_same ((WS.out _ ((jQ0 _ _).drewN _)).mono (fun _ _ h=>⟨h.1,h.2.symm⟩))));go_wp2_with (go_at_call 179;refine(RR.out _ ((jQ0 _ _).drewN _)).mono ?_;rintro e w1 ⟨rfl,F0⟩);go_end0;rw[HR.out];exact⟨rfl,MStep.trans (MA.out.drewN _) (.inl rfl) F0⟩
 ·have We:=G (show R=(if T=0\/bT=false then .error m.at_ else if rest=[]then .ok {m with from_:=m.at_,at_:=m.at_ +1,fin:=3}else if rest.headD 0≠61 then .error (m.at_ +1)else vg T {m with from_:=m.at_} (m.at_ +2))by rw[Hv.out,jJ5 Wd]);have DZ:O=0\/O≠0/\bO=false:=by
   rcases Nat.eq_zero_or_pos O with h|h
   ·exact .inl h
   ·refine .inr ⟨by omega,?_⟩;cases bO
    ·rfl
    ·exact absurd ⟨by omega,rfl⟩ Wd
  clear Wd CT Hv;rcases DZ with O0|⟨O0,rfl⟩
  ·have o1:((O:Int) !=0)=false:=by rw[O0];rfl
   clear O0;by_cases T0:T=0
   ·have t1:((T:Int)==0)=true:=by rw[T0];rfl
    have HR:=G (show R=.error m.at_ by rw[We.out,jJ6 (.inl T0)]);clear We T0;go_wp2_with fail;refine⟨rfl,?_⟩;rw[HR.out];exact⟨rfl,Wg.out⟩
   ·have t1:((T:Int)==0)=false:=jM3 (by omega);cases bT
    ·have HR:=G (show R=.error m.at_ by rw[We.out,jJ6 (.inr rfl)]);clear We T0;go_wp2_with (go_at_call_of 176 (Value.int .u8 (T:Int));refine(V0.out _ (jQ0 _ _)).mono ?_;rintro e w1 ⟨rfl,rfl⟩);refine⟨rfl,?_⟩;rw[HR.out];exact⟨rfl,Wg.out⟩
    ·have WR:=G (show R=(if rest=[]then .ok {m with from_:=m.at_,at_:=m.at_ +1,fin:=3}else if rest.headD 0≠61 then .error (m.at_ +1)else vg T {m with from_:=m.at_} (m.at_ +2))by rw[We.out,jJ5 (fun h=>by rcases h with h|h;exact T0 h;cases h)]);by_cases FG:m.at_ +1=src.size
     ·have HR:=G (show R=.ok {m with from_:=m.at_,at_:=m.at_ +1,fin:=3}by rw[WR.out,jJ6 (Hn.out FG)]);have e1:(((m.at_:Int)+1)==(src.size:Int))=true:=by rw[show(m.at_:Int)+1=(src.size:Int)by omega];simp
      clear We WR T0 FG;go_wp2_with (go_at_call_of 176 (Value.int .u8 (T:Int));refine(V0.out _ (jQ0 _ _)).mono ?_;rintro e w1 ⟨rfl,rfl⟩);go_quiet (fail);go_wp2;go_end0;rw[HR.out];exact⟨rfl,r,A,c,Pp.out.drewN _,CK.out.drewN _,.inl rfl⟩
     ·have FB:m.at_ +1<src.size:=(by omega);have e1:(((m.at_:Int)+1)==(src.size:Int))=false:=jM3 (by omega);have e1b:(m.at_:Int)+1<(src.size:Int):=(by omega);have hd:=Hd.out FB;by_cases Gm:src[m.at_ +1].toNat=61
      ·have e2:((src[m.at_ +1].toNat:Int) !=61)=false:=by rw[Gm];rfl
       have hd2:rest.headD 0=61:=by rw[hd];exact UInt8.toNat_inj.1 Gm
       obtain⟨n2,s2,Nb,N9,N6⟩:=Z5.out rfl;have HR:=G (show R=.ok {m with from_:=m.at_,at_:=m.at_ +2,stack:=s2}by rw[WR.out,jJ5 (SN.out FB),jJ5 (fun h=>h hd2),N6]);have FR:=G (fun W (hW:Old (w0.setCell ⟨g,4,none⟩ (.int .i64 (m.at_:Int))) W)=>by
        have:=(CI.out.old hW).setAt (m.at_ +2)
        rwa [show((m.at_ +2:Nat):Int)=(m.at_:Int)+2 by omega]at this)
       have LC:=G (fun W (hW:Old (w0.setCell ⟨g,4,none⟩ (.int .i64 (m.at_:Int))) W)=>yp _ g r src _ A c (FR.out W hW).1 T n2 s2 hT Nb N9);unfold yv at LC;clear We WR T0 FG hd hd2 Gm Nb N9 N6;go_wp2_with (go_at_call_of 176 (Value.int .u8 (T:Int));refine(V0.out _ (jQ0 _ _)).mono ?_;rintro e w1 ⟨rfl,rfl⟩);go_quiet (fail);go_wp2;go_quiet (fail);go_wp2_with (go_at_call 179;refine(LC.out _ (by first|exact(jQ0 _ _).drewN _ |exact((jQ0 _ _).drewN _).drewN _)).mono ?_;rintro e w1 ⟨rfl,F0⟩);go_end0;rw[HR.out];exact⟨rfl,MStep.trans (Wg.out.trans (((jQ0 (MX g r) _).old (by first|exact(jQ0 _ _).drewN _ |exact((jQ0 _ _).drewN _).drewN _)).trans (FR.out _ (by first|exact(jQ0 _ _).drewN _ |exact((jQ0 _ _).drewN _).drewN _)).2 (fun _ _ h=>h)) (fun _ _ h=>h)) (.inl rfl) F0⟩
      ·have e2:((src[m.at_ +1].toNat:Int) !=61)=true:=bne_iff_ne.2 (by omega);have HR:=G (show R=.error (m.at_ +1)by rw[WR.out,jJ5 (SN.out FB),jJ6 (fun h=>Gm (by rw[<-hd,h];rfl))]);clear We WR T0 FG hd Gm;go_wp2_with (go_at_call_of 176 (Value.int .u8 (T:Int));refine(V0.out _ (jQ0 _ _)).mono ?_;rintro e w1 ⟨rfl,rfl⟩);go_quiet (fail);go_wp2;go_quiet (fail);go_wp2;refine⟨rfl,?_⟩;rw[HR.out];exact⟨by rw[YS,show((m.at_ +1:Nat):Int)=(m.at_:Int)+1 by omega],⟨Wg.out.os,Wg.out.tape,Wg.out.output,Wg.out.size,Wg.out.block⟩⟩
  ·have o1:((O:Int) !=0)=true:=bne_iff_ne.2 (by omega);clear O0;by_cases T0:T=0
   ·have t1:((T:Int)==0)=true:=by rw[T0];rfl
    have HR:=G (show R=.error m.at_ by rw[We.out,jJ6 (.inl T0)]);clear We T0;go_wp2_with (go_at_call_of 176 (Value.int .u8 (O:Int));refine(M7.out _ (jQ0 _ _)).mono ?_;rintro e w1 ⟨rfl,rfl⟩);refine⟨rfl,?_⟩;rw[HR.out];exact⟨rfl,Wg.out⟩
   ·have t1:((T:Int)==0)=false:=jM3 (by omega);cases bT
    ·have HR:=G (show R=.error m.at_ by rw[We.out,jJ6 (.inr rfl)]);clear We T0;go_wp2_with (first|(go_at_call_of 176 (Value.int .u8 (O:Int));refine(M7.out _ (jQ0 _ _)).mono ?_;rintro e w1 ⟨rfl,rfl⟩)|(go_at_call_of 176 (Value.int .u8 (T:Int));refine(V0.out _ (jQ0 _ _)).mono ?_;rintro e w1 ⟨rfl,rfl⟩));refine⟨rfl,?_⟩;rw[HR.out];exact⟨rfl,Wg.out⟩
    ·have WR:=G (show R=(if rest=[]then .ok {m with from_:=m.at_,at_:=m.at_ +1,fin:=3}else if rest.headD 0≠61 then .error (m.at_ +1)else vg T {m with from_:=m.at_} (m.at_ +2))by rw[We.out,jJ5 (fun h=>by rcases h with h|h;exact T0 h;cases h)]);by_cases FG:m.at_ +1=src.size
     ·have HR:=G (show R=.ok {m with from_:=m.at_,at_:=m.at_ +1,fin:=3}by rw[WR.out,jJ6 (Hn.out FG)]);have e1:(((m.at_:Int)+1)==(src.size:Int))=true:=by rw[show(m.at_:Int)+1=(src.size:Int)by omega];simp
      clear We WR T0 FG;go_wp2_with (first|(go_at_call_of 176 (Value.int .u8 (O:Int));refine(M7.out _ (jQ0 _ _)).mono ?_;rintro e w1 ⟨rfl,rfl⟩)|(go_at_call_of 176 (Value.int .u8 (T:Int));refine(V0.out _ (jQ0 _ _)).mono ?_;rintro e w1 ⟨rfl,rfl⟩));go_quiet (fail);go_wp2;go_end0;rw[HR.out];exact⟨rfl,r,A,c,Pp.out.drewN _,CK.out.drewN _,.inl rfl⟩
     ·have FB:m.at_ +1<src.size:=(by omega);have e1:(((m.at_:Int)+1)==(src.size:Int))=false:=jM3 (by omega);have e1b:(m.at_:Int)+1<(src.size:Int):=(by omega);have hd:=Hd.out FB;by_cases Gm:src[m.at_ +1].toNat=61
      ·have e2:((src[m.at_ +1].toNat:Int) !=61)=false:=by rw[Gm];rfl
       have hd2:rest.headD 0=61:=by rw[hd];exact UInt8.toNat_inj.1 Gm
       obtain⟨n2,s2,Nb,N9,N6⟩:=Z5.out rfl;have HR:=G (show R=.ok {m with from_:=m.at_,at_:=m.at_ +2,stack:=s2}by rw[WR.out,jJ5 (SN.out FB),jJ5 (fun h=>h hd2),N6]);have FR:=G (fun W (hW:Old (w0.setCell ⟨g,4,none⟩ (.int .i64 (m.at_:Int))) W)=>by
        have:=(CI.out.old hW).setAt (m.at_ +2)
        rwa [show((m.at_ +2:Nat):Int)=(m.at_:Int)+2 by omega]at this)
       have LC:=G (fun W (hW:Old (w0.setCell ⟨g,4,none⟩ (.int .i64 (m.at_:Int))) W)=>yp _ g r src _ A c (FR.out W hW).1 T n2 s2 hT Nb N9);unfold yv at LC;clear We WR T0 FG hd hd2 Gm Nb N9 N6;go_wp2_with (first|(go_at_call_of 176 (Value.int .u8 (O:Int));refine(M7.out _ (jQ0 _ _)).mono ?_;rintro e w1 ⟨rfl,rfl⟩)|(go_at_call_of 176 (Value.int .u8 (T:Int));refine(V0.out _ (jQ0 _ _)).mono ?_;rintro e w1 ⟨rfl,rfl⟩));go_quiet (fail);go_wp2;go_quiet (fail);go_wp2_with (go_at_call 179;refine(LC.out _ (by first|exact(jQ0 _ _).drewN _ |exact((jQ0 _ _).drewN _).drewN _)).mono ?_;rintro e w1 ⟨rfl,F0⟩);go_end0;rw[HR.out];exact⟨rfl,MStep.trans (Wg.out.trans (((jQ0 (MX g r) _).old (by first|exact(jQ0 _ _).drewN _ |exact((jQ0 _ _).drewN _).drewN _)).trans (FR.out _ (by first|exact(jQ0 _ _).drewN _ |exact((jQ0 _ _).drewN _).drewN _)).2 (fun _ _ h=>h)) (fun _ _ h=>h)) (.inl rfl) F0⟩
      ·have e2:((src[m.at_ +1].toNat:Int) !=61)=true:=bne_iff_ne.2 (by omega);have HR:=G (show R=.error (m.at_ +1)by rw[WR.out,jJ5 (SN.out FB),jJ6 (fun h=>Gm (by rw[<-hd,h];rfl))]);clear We WR T0 FG hd Gm;go_wp2_with (first|(go_at_call_of 176 (Value.int .u8 (O:Int));refine(M7.out _ (jQ0 _ _)).mono ?_;rintro e w1 ⟨rfl,rfl⟩)|(go_at_call_of 176 (Value.int .u8 (T:Int));refine(V0.out _ (jQ0 _ _)).mono ?_;rintro e w1 ⟨rfl,rfl⟩));go_quiet (fail);go_wp2;go_quiet (fail);go_wp2;refine⟨rfl,?_⟩;rw[HR.out];exact⟨by rw[YS,show((m.at_ +1:Nat):Int)=(m.at_:Int)+1 by omega],⟨Wg.out.os,Wg.out.tape,Wg.out.output,Wg.out.size,Wg.out.block⟩⟩
theorem yI(s:BA)(p:Nat)(h:p<s.size):(sb s).drop p=s[p]::(sb s).drop (p+1):=by
 have h' :p<(sb s).length:=by rw[jB];exact h
 rw[jM9 h'];rfl
theorem jFn(c:UInt8)(l:LB)(k:Nat):jr (c::l) k 5=match KL c.toNat with|some x=>jr l (k+1) x|none=>.wrong k:=by
 rw[jr,KL];simp only[show¬(5:Nat)=4 by decide,if_false,if_true];split
 ·rfl
 ·split<;>rfl
theorem jHA(c:UInt8):xC c=(yd c||decide (97<=c.toNat/\c.toNat<=102)):=rfl
structure TxSt(w:World)(g:Nat)(r:Option Nat)(src:BA)(m:Mc)(X:TxR)(p e:Nat)(wr:World)(A:OA)(c:Nat)(r' :Option Nat):Prop where
 le:p<=src.size
 go:X=jr ((sb src).drop p) p e
 mac:Mac wr g r' src {m with at_:=p,from_:=m.at_,fin:=e} A c
 kp:Kp (MX g r) w wr
 fr:MFr w r r'
def jHe(w:World)(g:Nat)(r:Option Nat)(src:BA)(m:Mc)(X:TxR)(wr:World):Prop:=∃p e A c r',(4<=e/\e<=7)/\TxSt w g r src m X p e wr A c r'
section
variable{w wr W:World}{g:Nat}{r r' :Option Nat}{src:BA}{m:Mc}{X:TxR}{p e e' :Nat}{A:OA}{c:Nat}
theorem TxSt.next(h:TxSt w g r src m X p e wr A c r')(hlt:p<src.size)(he:4<=e' /\e' <=7)(hX:X=jr ((sb src).drop (p+1)) (p+1) e')(hW:Kp (MX g r') wr W)(hM:Mac W g r' src {m with at_:=p,from_:=m.at_,fin:=e'} A c):
  jHe w g r src m X (W.setCell ⟨g,1,none⟩ (.int .i64 ((p:Int)+1)))/\src.size-atOf g (W.setCell ⟨g,1,none⟩ (.int .i64 ((p:Int)+1)))<src.size-atOf g wr:=by
 obtain⟨h1,h2⟩:=hM.setAt (p+1);rw[show((p+1:Nat):Int)=(p:Int)+1 by omega]at h1 h2;refine⟨⟨p+1,e',A,c,r',he,hlt,hX,h1,(h.kp.trans hW (MX.trans h.fr)).trans h2 (MX.trans h.fr),h.fr⟩,?_⟩;rw[h1.atOf,h.mac.atOf];simp only;omega
theorem Kp.mx(hk:Kp NoX wr W):Kp (MX g r) wr W:=hk.mono (fun _ _ f=>f.elim)
end
theorem jDR(w:World)(g:Nat)(r:Option Nat)(src:BA)(m:Mc)(A:OA)(c:Nat)(h:Mac w g r src m A c)(hs:src.size<=1000000)(ha:m.at_ <src.size)(Hm:m.stack.length<=1000000):
  Calls prog 161 #[.pointer (some ⟨g,0,none⟩)] w (MOut w g r src (vJ m ((sb src).drop m.at_))):=by
 have HM:=G (KE w g r src m A c h 3);have hR:vJ m ((sb src).drop m.at_)=vJ m ((sb src).drop m.at_):=rfl;generalize NW:vJ m ((sb src).drop m.at_)=R at hR⊢;unfold vJ at NW;by_cases FV:kI 3 m.stack=false
 ·rw[jJ6 FV]at NW;rw[FV]at HM;have HR:=G NW.symm;have FE:=h.c1;clear NW hR FV h;unfold yv at HM;go_enter func161,ntmps161;go_wp2_with (go_at_call 176;refine HM.out.mono ?_;rintro e w1 ⟨rfl,rfl⟩);refine⟨rfl,?_⟩;rw[HR.out];exact⟨rfl,jQ0 _ _⟩
 ·rw[jJ5 FV]at NW;have Ml:kI 3 m.stack=true:=(by simpa using FV);rw[Ml]at HM;rw[yI src m.at_ ha,List.drop_one,List.tail_cons]at NW;obtain⟨s,MM,Ls⟩:=KQ 3 (by decide) {m with from_:=m.at_,fin:=0} 0 Ml;obtain⟨n,hn,hT⟩:=Jg MM;have HT:=G hT;have Hn:=G (show m.stack.length+11*n<=100000000 by simp only at hn;omega);have Hv:=G (show R=match jr ((sb src).drop (m.at_ +1)) (m.at_ +1) 4 with
   | .wrong k=>.error k
   | .shut k=>.ok {m with from_:=m.at_,fin:=0,at_:=k,stack:=s}
   | .ends e=>.ok {m with from_:=m.at_,at_:=src.size,fin:=e}by
    rw[<-NW];cases hq:jr ((sb src).drop (m.at_ +1)) (m.at_ +1) 4 with
    |wrong k=>rfl
    |shut k=>
     show vg 3 _ k=_;unfold vg;rw[MM]
    |ends e=>
     show Except.ok _=_;rw[jK6,jK8,jB,show m.at_ +(src.size-(m.at_ +1)+1)=src.size by omega])
  clear NW hR FV Ml MM Ls hn hT;have FE:=h.c1;have Fh:=h.c3;have Ms:=h.c4;have Ft:=h.z 1;have WW:=h.z 3;have R0:=h.z 4;have H0:=G (show jHe w g r src m (jr ((sb src).drop (m.at_ +1)) (m.at_ +1) 4) (((w.setCell ⟨g,4,none⟩ (.int .i64 (m.at_:Int))).setCell ⟨g,3,none⟩ (.int .u8 4)).setCell ⟨g,1,none⟩ (.int .i64 ((m.at_:Int)+1)))from by
   obtain⟨m1,k1⟩:=h.setFrom m.at_;obtain⟨m2,k2⟩:=m1.setFin 4;obtain⟨m3,k3⟩:=m2.setAt (m.at_ +1);rw[show((m.at_ +1:Nat):Int)=(m.at_:Int)+1 by omega]at m3 k3;exact⟨m.at_ +1,4,A,c,r,by omega,ha,rfl,m3,(k1.trans k2 (fun _ _ h=>h)).trans k3 (fun _ _ h=>h),.inl rfl⟩)
  generalize jr ((sb src).drop (m.at_ +1)) (m.at_ +1) 4=X at*;have b1:IntKind.i64.wrap ((m.at_:Int)+1)=(m.at_:Int)+1:=jQ3 _ (by omega);clear h;unfold yv at HM;go_enter func161,ntmps161;go_wp2_with (go_at_call 176;refine HM.out.mono ?_;rintro e w1 ⟨rfl,rfl⟩);go_loopw [] (fun wr=>jHe w g r src m X wr) (fun wr=>src.size-atOf g wr)
  case atStart=>exact H0.out
  case round=>
   clear H0 HM FE Fh Ms Ft WW R0 b1;obtain⟨p,e,A,c,r',he,Fd⟩:=hrel;have GY:=Fd.mac.c0;have FE:=Fd.mac.c1;have Fh:=Fd.mac.c3;have Ft:=Fd.mac.z 1;have WW:=Fd.mac.z 3;simp only at GY FE Fh;by_cases hlt:p<src.size
   ·have Fj:=Fd.go;rw[yI src p hlt]at Fj;have a1:(p:Int)<(src.size:Int):=(by omega);have a2:(0:Int)<=(p:Int):=(by omega);have a3:(p:Int).toNat=p:=(by omega);have a4:IntKind.i64.wrap ((p:Int)+1)=(p:Int)+1:=jQ3 _ (by omega);by_cases e4:e=4
    ·subst e4;rw[jr,jJ6 rfl]at Fj;by_cases y34:src[p].toNat=34
     ·rw[jJ6 y34]at Fj;have HR:=G (show R=.ok {m with from_:=m.at_,fin:=0,at_:=p+1,stack:=s}by rw[Hv.out,Fj]);have M8:=G (fun W (hO:Old wr W)=>yp W g r' src _ A c (Fd.mac.old hO) 3 n s (by decide) HT.out Hn.out);have Fw:=G Fd.kp;have Gx:=G Fd.fr;have d1:((src[p].toNat:Int)==34)=true:=by rw[y34];rfl
      clear Fd Fj y34 Hv;unfold yv at M8;go_wp2;go_quiet (fail);go_wp2;go_quiet (fail);go_wp2_with ((go_at_call 179);refine(M8.out _ (by first|exact(jQ0 _ _).drewN _ |exact((jQ0 _ _).drewN _).drewN _)).mono ?_;rintro e w1 ⟨rfl,r2,A2,c2,Mx,Fg,MU⟩;have L9:=Mx.c1;have TJ:=Mx.c3;have Gy:=Mx.z 1;have Da:=Mx.z 3;simp only at L9 TJ;have EL:=G Mx;have MA:=G Fg;have Er:=G MU;clear Mx Fg MU);refine bodyPost_ret (results_none rfl _ _ _) rfl ?_;rw[HR.out];obtain⟨m1,k1⟩:=EL.out.setAt (p+1);obtain⟨m2,k2⟩:=m1.setFin 0;rw[show((p+1:Nat):Int)=(p:Int)+1 by omega]at k1 m2 k2;have K2:Kp (MX g r') wr w1:=⟨MA.out.os,MA.out.tape,MA.out.output,MA.out.size,MA.out.block⟩;have K:=Fw.out.trans K2 (MX.trans Gx.out);have F:MFr w r r2:=Gx.out.trans Fw.out.size Er.out;exact⟨rfl,r2,A2,c2,m2,(K.trans k1 (MX.trans F)).trans k2 (MX.trans F),F⟩
     ·rw[jJ5 y34]at Fj;have d1:((src[p].toNat:Int)==34)=false:=jM3 (by omega);by_cases y92:src[p].toNat=92
      ·rw[jJ6 y92]at Fj;have d2:((src[p].toNat:Int)==92)=true:=by rw[y92];rfl
       have Hs:=G (fun W (hO:Old wr W)=>by
        obtain⟨m1,k1⟩:=(Fd.mac.old hO).setFin 5;exact Fd.next hlt (e' :=5) (by omega) Fj (hO.mx.trans k1 (fun _ _ h=>h)) m1)
       clear Fd Fj y34 y92 Hv;go_wp2;go_quiet (fail);go_wp2;go_quiet (fail);go_wp2;exact Hs.out _ (by first|exact(jQ0 _ _).drewN _ |exact((jQ0 _ _).drewN _).drewN _)
      ·rw[jJ5 y92]at Fj;have d2:((src[p].toNat:Int)==92)=false:=jM3 (by omega);by_cases yr:src[p].toNat<32\/126<src[p].toNat
       ·rw[jJ6 yr]at Fj;have HR:=G (show R=.error p by rw[Hv.out,Fj]);have Fw:=G Fd.kp;clear Fd Fj y34 y92 Hv;by_cases y32:src[p].toNat<32
        ·have d3:(src[p].toNat:Int)<32:=(by omega);clear yr;go_wp2;go_quiet (fail);go_wp2;go_quiet (fail);go_wp2;refine⟨rfl,?_⟩;rw[HR.out];exact⟨rfl,⟨Fw.out.os,Fw.out.tape,Fw.out.output,Fw.out.size,Fw.out.block⟩⟩
        ·have d3:¬(src[p].toNat:Int)<32:=(by omega);have d4:(126:Int)<(src[p].toNat:Int):=(by omega);clear yr;go_wp2;go_quiet (fail);go_wp2;go_quiet (fail);go_wp2;refine⟨rfl,?_⟩;rw[HR.out];exact⟨rfl,⟨Fw.out.os,Fw.out.tape,Fw.out.output,Fw.out.size,Fw.out.block⟩⟩
       ·rw[jJ5 yr]at Fj;have d3:¬(src[p].toNat:Int)<32:=(by omega);have d4:¬(126:Int)<(src[p].toNat:Int):=(by omega);have Hs:=G (fun W (hO:Old wr W)=>Fd.next hlt (e' :=4) (by omega) Fj hO.mx (Fd.mac.old hO));clear Fd Fj y34 y92 yr Hv;go_wp2;go_quiet (fail);go_wp2;go_quiet (fail);go_wp2;exact Hs.out _ (by first|exact(jQ0 _ _).drewN _ |exact((jQ0 _ _).drewN _).drewN _)
    ·by_cases e5:e=5
     ·subst e5;rw[jFn]at Fj;cases hb:KL src[p].toNat with
      |some x=>
       rw[hb]at Fj;have HB:=G (fun W=>(qJ W src[p].toNat p).mono (R' :=fun e w' =>e=.returned (.int .u8 (x:Int))/\W=w') (fun e w' h=>⟨by have:=h.2;rw[hb]at this;exact this,h.1⟩));have hx:4<=x/\x<=7:=by
        unfold KL at hb;split at hb
        ·injection hb;omega
        ·split at hb
         ·injection hb;omega
         ·cases hb
       have Hs:=G (fun W (hO:Old wr W)=>by
        obtain⟨m1,k1⟩:=(Fd.mac.old hO).setFin x;exact Fd.next hlt (e' :=x) hx Fj (hO.mx.trans k1 (fun _ _ h=>h)) m1)
       clear Fd Fj hb Hv hx;go_wp2;go_quiet (fail);go_wp2;go_quiet (fail);go_wp2_with (go_at_call 197;refine(HB.out _).mono ?_;rintro e w1 ⟨rfl,rfl⟩);exact Hs.out _ (by first|exact(jQ0 _ _).drewN _ |exact((jQ0 _ _).drewN _).drewN _)
      |none=>
       rw[hb]at Fj;have HR:=G (show R=.error p by rw[Hv.out,Fj]);have Fw:=G Fd.kp;have HB:=G (fun W=>(qJ W src[p].toNat p).mono (R' :=fun e w' =>e=.panicked (YS p)/\W=w') (fun e w' h=>⟨by have:=h.2;rw[hb]at this;exact this,h.1⟩));clear Fd Fj hb Hv;go_wp2;go_quiet (fail);go_wp2;go_quiet (fail);go_wp2_with (go_at_call 197;refine(HB.out _).mono ?_;rintro e w1 ⟨rfl,rfl⟩);refine⟨rfl,?_⟩;rw[HR.out];exact⟨rfl,⟨Fw.out.os,Fw.out.tape,Fw.out.output,Fw.out.size,Fw.out.block⟩⟩
     ·have Nr:=jHA src[p];have Hd:=G (fun W=>zh W src[p]);unfold bv at Hd;generalize SD:yd src[p]=d at*;clear SD;rcases (show e=6\/e=7 by omega)with rfl|rfl
      ·rw[jr,jJ5 (by decide),jJ5 (by decide)]at Fj;by_cases hbad:d=false/\(src[p].toNat<97\/102<src[p].toNat)
       ·obtain⟨rfl,hy⟩:=hbad;rw[jJ6 (by rw[Nr,jK3 (by omega)];rfl)]at Fj;have HR:=G (show R=.error p by rw[Hv.out,Fj]);have Fw:=G Fd.kp;clear Fd Fj Hv Nr;by_cases y97:src[p].toNat<97
        ·have d3:(src[p].toNat:Int)<97:=(by omega);clear hy;go_wp2;go_quiet (fail);go_wp2;go_quiet (fail);go_wp2_with (go_at_call 158;refine(Hd.out _).mono ?_;rintro e w1 ⟨rfl,rfl⟩);refine⟨rfl,?_⟩;rw[HR.out];exact⟨rfl,⟨Fw.out.os,Fw.out.tape,Fw.out.output,Fw.out.size,Fw.out.block⟩⟩
        ·have d3:¬(src[p].toNat:Int)<97:=(by omega);have d4:(102:Int)<(src[p].toNat:Int):=(by omega);clear hy;go_wp2;go_quiet (fail);go_wp2;go_quiet (fail);go_wp2_with (go_at_call 158;refine(Hd.out _).mono ?_;rintro e w1 ⟨rfl,rfl⟩);refine⟨rfl,?_⟩;rw[HR.out];exact⟨rfl,⟨Fw.out.os,Fw.out.tape,Fw.out.output,Fw.out.size,Fw.out.block⟩⟩
       ·rw[jJ5 (by
         rw[Nr];cases d
         ·have:97<=src[p].toNat/\src[p].toNat<=102:=by
           rcases Nat.lt_or_ge src[p].toNat 97 with h1|h1
           ·exact absurd ⟨rfl,.inl h1⟩ hbad
           ·rcases Nat.lt_or_ge 102 src[p].toNat with h2|h2
            ·exact absurd ⟨rfl,.inr h2⟩ hbad
            ·exact⟨h1,h2⟩
          rw[jK5 this];decide
         ·simp)]at Fj
        have Hs:=G (fun W (hO:Old wr W)=>by
         obtain⟨m1,k1⟩:=(Fd.mac.old hO).setFin 7;exact Fd.next hlt (e' :=7) (by omega) Fj (hO.mx.trans k1 (fun _ _ h=>h)) m1)
        cases d
        ·have d3:¬(src[p].toNat:Int)<97:=fun h=>hbad ⟨rfl,.inl (by omega)⟩;have d4:¬(102:Int)<(src[p].toNat:Int):=fun h=>hbad ⟨rfl,.inr (by omega)⟩;clear Fd Fj Hv Nr hbad;go_wp2;go_quiet (fail);go_wp2;go_quiet (fail);go_wp2_with (go_at_call 158;refine(Hd.out _).mono ?_;rintro e w1 ⟨rfl,rfl⟩);exact Hs.out _ (by first|exact(jQ0 _ _).drewN _ |exact((jQ0 _ _).drewN _).drewN _)
        ·clear Fd Fj Hv Nr hbad;go_wp2;go_quiet (fail);go_wp2;go_quiet (fail);go_wp2_with (go_at_call 158;refine(Hd.out _).mono ?_;rintro e w1 ⟨rfl,rfl⟩);exact Hs.out _ (by first|exact(jQ0 _ _).drewN _ |exact((jQ0 _ _).drewN _).drewN _)
      ·rw[jr,jJ5 (by decide),jJ5 (by decide)]at Fj;by_cases hbad:d=false/\(src[p].toNat<97\/102<src[p].toNat)
       ·obtain⟨rfl,hy⟩:=hbad;rw[jJ6 (by rw[Nr,jK3 (by omega)];rfl)]at Fj;have HR:=G (show R=.error p by rw[Hv.out,Fj]);have Fw:=G Fd.kp;clear Fd Fj Hv Nr;by_cases y97:src[p].toNat<97
        ·have d3:(src[p].toNat:Int)<97:=(by omega);clear hy;go_wp2;go_quiet (fail);go_wp2;go_quiet (fail);go_wp2_with (go_at_call 158;refine(Hd.out _).mono ?_;rintro e w1 ⟨rfl,rfl⟩);refine⟨rfl,?_⟩;rw[HR.out];exact⟨rfl,⟨Fw.out.os,Fw.out.tape,Fw.out.output,Fw.out.size,Fw.out.block⟩⟩
        ·have d3:¬(src[p].toNat:Int)<97:=(by omega);have d4:(102:Int)<(src[p].toNat:Int):=(by omega);clear hy;go_wp2;go_quiet (fail);go_wp2;go_quiet (fail);go_wp2_with (go_at_call 158;refine(Hd.out _).mono ?_;rintro e w1 ⟨rfl,rfl⟩);refine⟨rfl,?_⟩;rw[HR.out];exact⟨rfl,⟨Fw.out.os,Fw.out.tape,Fw.out.output,Fw.out.size,Fw.out.block⟩⟩
       ·rw[jJ5 (by
         rw[Nr];cases d
         ·have:97<=src[p].toNat/\src[p].toNat<=102:=by
           rcases Nat.lt_or_ge src[p].toNat 97 with h1|h1
           ·exact absurd ⟨rfl,.inl h1⟩ hbad
           ·rcases Nat.lt_or_ge 102 src[p].toNat with h2|h2
            ·exact absurd ⟨rfl,.inr h2⟩ hbad
            ·exact⟨h1,h2⟩
          rw[jK5 this];decide
         ·simp)]at Fj
        have Hs:=G (fun W (hO:Old wr W)=>by
         obtain⟨m1,k1⟩:=(Fd.mac.old hO).setFin 8;obtain⟨m2,k2⟩:=m1.setFin 4;exact Fd.next hlt (e' :=4) (by omega) Fj ((hO.mx.trans k1 (fun _ _ h=>h)).trans k2 (fun _ _ h=>h)) m2)
        cases d
        ·have d3:¬(src[p].toNat:Int)<97:=fun h=>hbad ⟨rfl,.inl (by omega)⟩;have d4:¬(102:Int)<(src[p].toNat:Int):=fun h=>hbad ⟨rfl,.inr (by omega)⟩;clear Fd Fj Hv Nr hbad;go_wp2;go_quiet (fail);go_wp2;go_quiet (fail);go_wp2_with (go_at_call 158;refine(Hd.out _).mono ?_;rintro e w1 ⟨rfl,rfl⟩);exact Hs.out _ (by first|exact(jQ0 _ _).drewN _ |exact((jQ0 _ _).drewN _).drewN _)
        ·clear Fd Fj Hv Nr hbad;go_wp2;go_quiet (fail);go_wp2;go_quiet (fail);go_wp2_with (go_at_call 158;refine(Hd.out _).mono ?_;rintro e w1 ⟨rfl,rfl⟩);exact Hs.out _ (by first|exact(jQ0 _ _).drewN _ |exact((jQ0 _ _).drewN _).drewN _)
   ·have hp:p=src.size:=by have:=Fd.le;omega
    subst hp;have Fj:=Fd.go;rw[List.drop_of_length_le (by rw[jB];exact jL3 _)]at Fj;have HR:=G (show R=.ok {m with from_:=m.at_,at_:=src.size,fin:=e}by rw[Hv.out,Fj];rfl);have Hs:=G (fun W (hO:Old wr W)=>(⟨r',A,c,Fd.mac.old hO,Fd.kp.old hO,Fd.fr⟩:MStep w g r W src {m with from_:=m.at_,at_:=src.size,fin:=e}));have a1:¬(src.size:Int)<(src.size:Int):=(by omega);clear Fd Fj Hv hlt he;go_wp2;go_quiet (fail);go_wp2;go_end0;rw[HR.out];exact⟨rfl,Hs.out _ (by first|exact(jQ0 _ _).drewN _ |exact((jQ0 _ _).drewN _).drewN _)⟩
end Go.Proofs.YtmmjcbbogokmfaaGreatDoor

import Derived.Test.YtifbhcfdealfaaaGreatDoorMl03
import Derived.Laws.ResultCell
set_option maxRecDepth 100000
set_option maxHeartbeats 25600000
namespace Go.Proofs.YtifbhcfdealfaaaGreatDoor
open Go.Proofs.Tryz
open Go.RowKit
theorem Yr(a b:BA):sb (a++b)=sb a++sb b:=by
 unfold sb;simp
theorem Qf(s:BA)(k:Nat)(h:k<s.size):sb (s.extract k (k+1))=[s[k]]:=by
 have h' :k<(sb s).length:=by rw[jB];exact h
 rw[jt,jM9 h',show k+1-k=1 by omega,List.take_succ_cons,List.take_zero];rfl
theorem ui(s:BA)(k:Nat)(h:k<s.size):((sb s).drop k).headD 0=s[k]:=by
 have h' :k<(sb s).length:=by rw[jB];exact h
 rw[jM9 h'];rfl
theorem zi(t:Nat)(ht:t<58)(m:Mc)(hl:m.stack.length<=1000000)(h:jz t m.stack=true):∃n s,Takes t n m.stack s/\m.stack.length+11*n<=100000000/\∀k f,vI t {m with from_:=f} k=.ok {m with from_:=f,at_:=k,stack:=s}:=by
 obtain⟨s,NO,W8⟩:=KU t ht m 0 h;obtain⟨n,hn,hT⟩:=Vr NO;refine⟨n,s,hT,by omega,fun k f=> ?_⟩;unfold vI;rw[NO]
theorem jAH(w:World)(hg:Sg w)(g:Nat)(r:Option Nat)(src:BA)(m:Mc)(A:OA)(c:Nat)(h:Mac w g r src m A c)(hs:src.size<=1000000)(ha:m.at_ <src.size)(F3:m.stack.length<=1000000):
  Calls prog 207 #[.pointer (some ⟨g,0,none⟩)] w (MOut w g r src (kf m src[m.at_] ((sb src).drop (m.at_ +1)))):=by
 have Pe:=G (fun W (hW:Old w W)=>JF W (hg.old hW) (src.extract m.at_ (m.at_ +1)));have NF:=G (fun W (hW:Old w W)=>JF W (hg.old hW) (src.extract m.at_ (m.at_ +1)++⟨#[61]⟩));rw[Yr,Qf src m.at_ ha,show([src[m.at_]]++sb ⟨#[61]⟩:LB)=[src[m.at_],61]from rfl]at NF;rw[Qf src m.at_ ha]at Pe;have Fc:=G (show kf m src[m.at_] ((sb src).drop (m.at_ +1))=(if jf [src[m.at_]]≠0/\jz (jf [src[m.at_]]) m.stack=true then
  (if jf [src[m.at_],61]≠0/\jz (jf [src[m.at_],61]) m.stack=true/\((sb src).drop (m.at_ +1)).headD 0=61 then vI (jf [src[m.at_],61]) {m with from_:=m.at_} (m.at_ +2)else vI (jf [src[m.at_]]) {m with from_:=m.at_} (m.at_ +1))
 else if jf [src[m.at_],61]=0\/jz (jf [src[m.at_],61]) m.stack=false then .error m.at_
 else if((sb src).drop (m.at_ +1))=[]then .ok {m with from_:=m.at_,at_:=m.at_ +1,fin:=3}
 else if((sb src).drop (m.at_ +1)).headD 0≠61 then .error (m.at_ +1)
 else vI (jf [src[m.at_],61]) {m with from_:=m.at_} (m.at_ +2))from rfl)
 have hO:=kD [src[m.at_]];have hT:=kD [src[m.at_],61];generalize kf m src[m.at_] ((sb src).drop (m.at_ +1))=R at*;generalize jf [src[m.at_]]=O at*;generalize jf [src[m.at_],61]=T at*;generalize hsx:src.extract m.at_ (m.at_ +1)=sx at*;have FK:sx.size=1:=by rw[<-hsx,<-jB,Qf src m.at_ ha];rfl
 have Y3:((sx.size+1:Nat):Int)<=9223372036854775807:=(by omega);generalize Nf:sx++⟨#[61]⟩=sy at*;have GT:=h.c0;have FI:=h.c1;have MN:=h.c4;have PW:=h.z 4;have Fv:=h.z 1;have Fq:=h.c3;have Ww:=h.z 3;have a1:(m.at_:Int)<=(m.at_:Int)+1:=(by omega);have a2:(m.at_:Int)+1<=(src.size:Int):=(by omega);have a3:(0:Int)<=(m.at_:Int):=(by omega);have a4:IntKind.i64.wrap ((m.at_:Int)+1)=(m.at_:Int)+1:=jQ3 _ (by omega);have a5:(m.at_:Int).toNat=m.at_:=(by omega);have a6:((m.at_:Int)+1).toNat=m.at_ +1:=(by omega);have a7:(0:Int)<=(m.at_:Int)+1:=(by omega);go_enter func207,ntmps207;go_wp2;go_quiet (fail);go_wp2_with fail;refine(Pe.out _ ((jQ0 _ _).drewN _)).mono ?_;rintro e w1 ⟨rfl,rfl⟩;go_wp2_with fail;refine(NF.out _ ((jQ0 _ _).drewN _)).mono ?_;rintro e w1 ⟨rfl,rfl⟩;clear Pe NF hsx Nf FK Y3 a1 a2 hg;have h0:=h.drewN nq;have Wj:Kp (MX g r) w (w.drewN nq):=(jQ0 _ _).drewN nq;have GT:=h0.c0;have FI:=h0.c1;have Fq:=h0.c3;have MN:=h0.c4;have Fv:=h0.z 1;have Ww:=h0.z 3;have PW:=h0.z 4;clear h;generalize w.drewN nq=w0 at*;obtain⟨m1,k1⟩:=h0.setFrom m.at_;have Ec:=G m1;have WB:=G (fun W (hW:Old (w0.setCell ⟨g,4,none⟩ (.int .i64 (m.at_:Int))) W)=>Jh W g r src _ A c (m1.old hW) O);have Mv:=G (fun W (hW:Old (w0.setCell ⟨g,4,none⟩ (.int .i64 (m.at_:Int))) W)=>Jh W g r src _ A c (m1.old hW) T);have NH:=G (Wj.trans k1 (fun _ _ h=>h));obtain⟨m2,k2⟩:=m1.setAt (m.at_ +1);rw[show((m.at_ +1:Nat):Int)=(m.at_:Int)+1 by omega]at m2 k2;have Td:=G m2;have Me:=G ((Wj.trans k1 (fun _ _ h=>h)).trans k2 (fun _ _ h=>h));have Wq:=G (fun W (hW:Old ((w0.setCell ⟨g,4,none⟩ (.int .i64 (m.at_:Int))).setCell ⟨g,1,none⟩ (.int .i64 ((m.at_:Int)+1))) W)=>Jh W g r src _ A c (m2.old hW) T);obtain⟨m3,k3⟩:=m2.setFin 3;have Eb:=G m3;have Eg:=G (((Wj.trans k1 (fun _ _ h=>h)).trans k2 (fun _ _ h=>h)).trans k3 (fun _ _ h=>h));simp only at WB Mv Wq;unfold yv at WB Mv Wq;clear m1 k1 m2 k2 m3 k3 h0 Wj;have Eu:=G (zi O hO m F3);have Cr:=G (zi T hT m F3);generalize hbO:jz O m.stack=bO at*;generalize hbT:jz T m.stack=bT at*;clear hbO hbT;have Hd:=G (fun(h:m.at_ +1<src.size)=>ui src (m.at_ +1) h);have Hn:=G (show m.at_ +1=src.size->(sb src).drop (m.at_ +1)=[]from fun h=>List.drop_of_length_le (by rw[jB];omega));have Tc:=G (show m.at_ +1<src.size->(sb src).drop (m.at_ +1)≠ []from fun h e=>by
  have:=congrArg List.length e;rw[jK8,jB]at this;simp at this;omega)
 generalize (sb src).drop (m.at_ +1)=rest at*;have a8:IntKind.i64.wrap ((m.at_:Int)+1+1)=(m.at_:Int)+2:=by rw[show(m.at_:Int)+1+1=(m.at_:Int)+2 by omega];exact jQ3 _ (by omega)
 have a9:IntKind.i64.wrap ((m.at_:Int)+2)=(m.at_:Int)+2:=jQ3 _ (by omega);by_cases hOO:O≠0/\bO=true
 ·obtain⟨O0,rfl⟩:=hOO;have o1:((O:Int) !=0)=true:=bne_iff_ne.2 (by omega);obtain⟨n,s,DI,DC,Ni⟩:=Eu.out rfl;have Sk:=G (fun W (hW:Old ((w0.setCell ⟨g,4,none⟩ (.int .i64 (m.at_:Int))).setCell ⟨g,1,none⟩ (.int .i64 ((m.at_:Int)+1))) W)=>yW W g r src _ A c (Td.out.old hW) O n s hO DI DC);unfold yv at Sk;have NE:=G Ni;clear Ni DI DC;have Fc:=G (show R=(if T≠0/\bT=true/\rest.headD 0=61 then vI T {m with from_:=m.at_} (m.at_ +2)else .ok {m with from_:=m.at_,at_:=m.at_ +1,stack:=s})by rw[Fc.out,jJ6 ⟨O0,rfl⟩,NE.out]);clear O0;by_cases T0:T=0
  ·have t1:((T:Int) !=0)=false:=by rw[T0];rfl
   have HR:=G (show R=.ok {m with from_:=m.at_,at_:=m.at_ +1,stack:=s}by rw[Fc.out,jJ5 (fun h=>h.1 T0)]);clear Fc T0;go_wp2_with (go_at_call 251;refine(WB.out _ (jQ0 _ _)).mono ?_;rintro e w1 ⟨rfl,rfl⟩);go_quiet (fail);go_wp2_with (go_at_call 252;refine(Sk.out _ ((jQ0 _ _).drewN _)).mono ?_;rintro e w1 ⟨rfl,F5⟩);go_end0;rw[HR.out];exact⟨rfl,MStep.trans (Me.out.drewN _) (.inl rfl) F5⟩
  ·have t1:((T:Int) !=0)=true:=bne_iff_ne.2 (by omega);cases bT
   ·have HR:=G (show R=.ok {m with from_:=m.at_,at_:=m.at_ +1,stack:=s}by rw[Fc.out,jJ5 (fun h=>by cases h.2.1)]);clear Fc T0;go_wp2_with (go_at_call 251;refine(WB.out _ (jQ0 _ _)).mono ?_;rintro e w1 ⟨rfl,rfl⟩);go_quiet ((go_at_call 251;refine Calls.quiet_of_same ((Wq.out _ ((jQ0 _ _).drewN _)).mono (fun _ _ h=>⟨h.1,h.2.symm⟩))));go_wp2_with (go_at_call 252;refine(Sk.out _ ((jQ0 _ _).drewN _)).mono ?_;rintro e w1 ⟨rfl,F5⟩);go_end0;rw[HR.out];exact⟨rfl,MStep.trans (Me.out.drewN _) (.inl rfl) F5⟩
   ·by_cases Fw:m.at_ +1=src.size
    ·have HR:=G (show R=.ok {m with from_:=m.at_,at_:=m.at_ +1,stack:=s}by rw[Fc.out,jJ5 (fun h=>by have h2:=h.2.2;rw[Hn.out Fw]at h2;exact absurd h2 (by decide))]);have e1:decide ((m.at_:Int)+1<(src.size:Int))=false:=jK3 (by omega);clear Fc T0 Fw;go_wp2_with (go_at_call 251;refine(WB.out _ (jQ0 _ _)).mono ?_;rintro e w1 ⟨rfl,rfl⟩);go_quiet ((go_at_call 251;refine Calls.quiet_of_same ((Wq.out _ ((jQ0 _ _).drewN _)).mono (fun _ _ h=>⟨h.1,h.2.symm⟩))));go_wp2_with (go_at_call 252;refine(Sk.out _ ((jQ0 _ _).drewN _)).mono ?_;rintro e w1 ⟨rfl,F5⟩);go_end0;rw[HR.out];exact⟨rfl,MStep.trans (Me.out.drewN _) (.inl rfl) F5⟩
    ·have Fz:m.at_ +1<src.size:=(by omega);have e1:(m.at_:Int)+1<(src.size:Int):=(by omega);have hd:=Hd.out Fz;by_cases Gr:src[m.at_ +1].toNat=61
     ·have e2:((src[m.at_ +1].toNat:Int)==61)=true:=by rw[Gr];rfl
      have NW:rest.headD 0=61:=by rw[hd];exact UInt8.toNat_inj.1 Gr
      obtain⟨n2,s2,GG,GE,GB⟩:=Cr.out rfl;have HR:=G (show R=.ok {m with from_:=m.at_,at_:=m.at_ +2,stack:=s2}by rw[Fc.out,jJ6 ⟨T0,rfl,NW⟩,GB]);have FB:=G (fun W (hW:Old ((w0.setCell ⟨g,4,none⟩ (.int .i64 (m.at_:Int))).setCell ⟨g,1,none⟩ (.int .i64 ((m.at_:Int)+1))) W)=>by
       have:=(Td.out.old hW).setAt (m.at_ +2)
       rwa [show((m.at_ +2:Nat):Int)=(m.at_:Int)+2 by omega]at this)
      have Lo:=G (fun W (hW:Old ((w0.setCell ⟨g,4,none⟩ (.int .i64 (m.at_:Int))).setCell ⟨g,1,none⟩ (.int .i64 ((m.at_:Int)+1))) W)=>yW _ g r src _ A c (FB.out W hW).1 T n2 s2 hT GG GE);unfold yv at Lo;clear Fc T0 Fw hd NW Gr GG GE GB;go_wp2_with (go_at_call 251;refine(WB.out _ (jQ0 _ _)).mono ?_;rintro e w1 ⟨rfl,rfl⟩);go_quiet ((go_at_call 251;refine Calls.quiet_of_same ((Wq.out _ ((jQ0 _ _).drewN _)).mono (fun _ _ h=>⟨h.1,h.2.symm⟩))));go_wp2_with (go_at_call 252;refine(Lo.out _ ((jQ0 _ _).drewN _)).mono ?_;rintro e w1 ⟨rfl,F5⟩);go_end0;rw[HR.out];exact⟨rfl,MStep.trans ((Me.out.drewN _).trans (FB.out _ ((jQ0 _ _).drewN _)).2 (fun _ _ h=>h)) (.inl rfl) F5⟩
     ·have e2:((src[m.at_ +1].toNat:Int)==61)=false:=jM3 (by omega);have HR:=G (show R=.ok {m with from_:=m.at_,at_:=m.at_ +1,stack:=s}by rw[Fc.out,jJ5 (fun h=>Gr (by have h2:=h.2.2;rw[hd]at h2;rw[h2];rfl))]);clear Fc T0 Fw hd Gr;go_wp2_with (go_at_call 251;refine(WB.out _ (jQ0 _ _)).mono ?_;rintro e w1 ⟨rfl,rfl⟩);go_quiet ((go_at_call 251;refine Calls.quiet_of_same ((Wq.out _ ((jQ0 _ _).drewN _)).mono (fun _ _ h=>⟨h.1,h.2.symm⟩))));go_wp2_with (go_at_call 252;refine(Sk.out _ ((jQ0 _ _).drewN _)).mono ?_;rintro e w1 ⟨rfl,F5⟩);go_end0;rw[HR.out];exact⟨rfl,MStep.trans (Me.out.drewN _) (.inl rfl) F5⟩
 ·have NG:=G (show R=(if T=0\/bT=false then .error m.at_ else if rest=[]then .ok {m with from_:=m.at_,at_:=m.at_ +1,fin:=3}else if rest.headD 0≠61 then .error (m.at_ +1)else vI T {m with from_:=m.at_} (m.at_ +2))by rw[Fc.out,jJ5 hOO]);have GI:O=0\/O≠0/\bO=false:=by
   rcases Nat.eq_zero_or_pos O with h|h
   ·exact .inl h
   ·refine .inr ⟨by omega,?_⟩;cases bO
    ·rfl
    ·exact absurd ⟨by omega,rfl⟩ hOO
  clear hOO Eu Fc;rcases GI with O0|⟨O0,rfl⟩
  ·have o1:((O:Int) !=0)=false:=by rw[O0];rfl
   clear O0;by_cases T0:T=0
   ·have t1:((T:Int)==0)=true:=by rw[T0];rfl
    have HR:=G (show R=.error m.at_ by rw[NG.out,jJ6 (.inl T0)]);clear NG T0;go_wp2_with fail;refine⟨rfl,?_⟩;rw[HR.out];exact⟨rfl,NH.out⟩
   ·have t1:((T:Int)==0)=false:=jM3 (by omega);cases bT
    ·have HR:=G (show R=.error m.at_ by rw[NG.out,jJ6 (.inr rfl)]);clear NG T0;go_wp2_with (go_at_call_of 251 (Value.int .u8 (T:Int));refine(Mv.out _ (jQ0 _ _)).mono ?_;rintro e w1 ⟨rfl,rfl⟩);refine⟨rfl,?_⟩;rw[HR.out];exact⟨rfl,NH.out⟩
    ·have Wo:=G (show R=(if rest=[]then .ok {m with from_:=m.at_,at_:=m.at_ +1,fin:=3}else if rest.headD 0≠61 then .error (m.at_ +1)else vI T {m with from_:=m.at_} (m.at_ +2))by rw[NG.out,jJ5 (fun h=>by rcases h with h|h;exact T0 h;cases h)]);by_cases Fw:m.at_ +1=src.size
     ·have HR:=G (show R=.ok {m with from_:=m.at_,at_:=m.at_ +1,fin:=3}by rw[Wo.out,jJ6 (Hn.out Fw)]);have e1:(((m.at_:Int)+1)==(src.size:Int))=true:=by rw[show(m.at_:Int)+1=(src.size:Int)by omega];simp
      clear NG Wo T0 Fw;go_wp2_with (go_at_call_of 251 (Value.int .u8 (T:Int));refine(Mv.out _ (jQ0 _ _)).mono ?_;rintro e w1 ⟨rfl,rfl⟩);go_quiet (fail);go_wp2;go_end0;rw[HR.out];exact⟨rfl,r,A,c,Eb.out.drewN _,Eg.out.drewN _,.inl rfl⟩
     ·have Fz:m.at_ +1<src.size:=(by omega);have e1:(((m.at_:Int)+1)==(src.size:Int))=false:=jM3 (by omega);have e1b:(m.at_:Int)+1<(src.size:Int):=(by omega);have hd:=Hd.out Fz;by_cases Gr:src[m.at_ +1].toNat=61
      ·have e2:((src[m.at_ +1].toNat:Int) !=61)=false:=by rw[Gr];rfl
       have NW:rest.headD 0=61:=by rw[hd];exact UInt8.toNat_inj.1 Gr
       obtain⟨n2,s2,GG,GE,GB⟩:=Cr.out rfl;have HR:=G (show R=.ok {m with from_:=m.at_,at_:=m.at_ +2,stack:=s2}by rw[Wo.out,jJ5 (Tc.out Fz),jJ5 (fun h=>h NW),GB]);have FB:=G (fun W (hW:Old (w0.setCell ⟨g,4,none⟩ (.int .i64 (m.at_:Int))) W)=>by
        have:=(Ec.out.old hW).setAt (m.at_ +2)
        rwa [show((m.at_ +2:Nat):Int)=(m.at_:Int)+2 by omega]at this)
       have Lo:=G (fun W (hW:Old (w0.setCell ⟨g,4,none⟩ (.int .i64 (m.at_:Int))) W)=>yW _ g r src _ A c (FB.out W hW).1 T n2 s2 hT GG GE);unfold yv at Lo;clear NG Wo T0 Fw hd NW Gr GG GE GB;go_wp2_with (go_at_call_of 251 (Value.int .u8 (T:Int));refine(Mv.out _ (jQ0 _ _)).mono ?_;rintro e w1 ⟨rfl,rfl⟩);go_quiet (fail);go_wp2;go_quiet (fail);go_wp2_with (go_at_call 252;refine(Lo.out _ (by first|exact(jQ0 _ _).drewN _ |exact((jQ0 _ _).drewN _).drewN _)).mono ?_;rintro e w1 ⟨rfl,F5⟩);go_end0;rw[HR.out];exact⟨rfl,MStep.trans (NH.out.trans (((jQ0 (MX g r) _).old (by first|exact(jQ0 _ _).drewN _ |exact((jQ0 _ _).drewN _).drewN _)).trans (FB.out _ (by first|exact(jQ0 _ _).drewN _ |exact((jQ0 _ _).drewN _).drewN _)).2 (fun _ _ h=>h)) (fun _ _ h=>h)) (.inl rfl) F5⟩
      ·have e2:((src[m.at_ +1].toNat:Int) !=61)=true:=bne_iff_ne.2 (by omega);have HR:=G (show R=.error (m.at_ +1)by rw[Wo.out,jJ5 (Tc.out Fz),jJ6 (fun h=>Gr (by rw[<-hd,h];rfl))]);clear NG Wo T0 Fw hd Gr;go_wp2_with (go_at_call_of 251 (Value.int .u8 (T:Int));refine(Mv.out _ (jQ0 _ _)).mono ?_;rintro e w1 ⟨rfl,rfl⟩);go_quiet (fail);go_wp2;go_quiet (fail);go_wp2;refine⟨rfl,?_⟩;rw[HR.out];exact⟨by rw[KO,show((m.at_ +1:Nat):Int)=(m.at_:Int)+1 by omega],⟨NH.out.os,NH.out.tape,NH.out.output,NH.out.size,NH.out.block⟩⟩
  ·have o1:((O:Int) !=0)=true:=bne_iff_ne.2 (by omega);clear O0;by_cases T0:T=0
   ·have t1:((T:Int)==0)=true:=by rw[T0];rfl
    have HR:=G (show R=.error m.at_ by rw[NG.out,jJ6 (.inl T0)]);clear NG T0;go_wp2_with (go_at_call_of 251 (Value.int .u8 (O:Int));refine(WB.out _ (jQ0 _ _)).mono ?_;rintro e w1 ⟨rfl,rfl⟩);refine⟨rfl,?_⟩;rw[HR.out];exact⟨rfl,NH.out⟩
   ·have t1:((T:Int)==0)=false:=jM3 (by omega);cases bT
    ·have HR:=G (show R=.error m.at_ by rw[NG.out,jJ6 (.inr rfl)]);clear NG T0;go_wp2_with (first|(go_at_call_of 251 (Value.int .u8 (O:Int));refine(WB.out _ (jQ0 _ _)).mono ?_;rintro e w1 ⟨rfl,rfl⟩)|(go_at_call_of 251 (Value.int .u8 (T:Int));refine(Mv.out _ (jQ0 _ _)).mono ?_;rintro e w1 ⟨rfl,rfl⟩));refine⟨rfl,?_⟩;rw[HR.out];exact⟨rfl,NH.out⟩
    ·have Wo:=G (show R=(if rest=[]then .ok {m with from_:=m.at_,at_:=m.at_ +1,fin:=3}else if rest.headD 0≠61 then .error (m.at_ +1)else vI T {m with from_:=m.at_} (m.at_ +2))by rw[NG.out,jJ5 (fun h=>by rcases h with h|h;exact T0 h;cases h)]);by_cases Fw:m.at_ +1=src.size
     ·have HR:=G (show R=.ok {m with from_:=m.at_,at_:=m.at_ +1,fin:=3}by rw[Wo.out,jJ6 (Hn.out Fw)]);have e1:(((m.at_:Int)+1)==(src.size:Int))=true:=by rw[show(m.at_:Int)+1=(src.size:Int)by omega];simp
      clear NG Wo T0 Fw;go_wp2_with (first|(go_at_call_of 251 (Value.int .u8 (O:Int));refine(WB.out _ (jQ0 _ _)).mono ?_;rintro e w1 ⟨rfl,rfl⟩)|(go_at_call_of 251 (Value.int .u8 (T:Int));refine(Mv.out _ (jQ0 _ _)).mono ?_;rintro e w1 ⟨rfl,rfl⟩));go_quiet (fail);go_wp2;go_end0;rw[HR.out];exact⟨rfl,r,A,c,Eb.out.drewN _,Eg.out.drewN _,.inl rfl⟩
     ·have Fz:m.at_ +1<src.size:=(by omega);have e1:(((m.at_:Int)+1)==(src.size:Int))=false:=jM3 (by omega);have e1b:(m.at_:Int)+1<(src.size:Int):=(by omega);have hd:=Hd.out Fz;by_cases Gr:src[m.at_ +1].toNat=61
      ·have e2:((src[m.at_ +1].toNat:Int) !=61)=false:=by rw[Gr];rfl
       have NW:rest.headD 0=61:=by rw[hd];exact UInt8.toNat_inj.1 Gr
       obtain⟨n2,s2,GG,GE,GB⟩:=Cr.out rfl;have HR:=G (show R=.ok {m with from_:=m.at_,at_:=m.at_ +2,stack:=s2}by rw[Wo.out,jJ5 (Tc.out Fz),jJ5 (fun h=>h NW),GB]);have FB:=G (fun W (hW:Old (w0.setCell ⟨g,4,none⟩ (.int .i64 (m.at_:Int))) W)=>by
        have:=(Ec.out.old hW).setAt (m.at_ +2)
        rwa [show((m.at_ +2:Nat):Int)=(m.at_:Int)+2 by omega]at this)
       have Lo:=G (fun W (hW:Old (w0.setCell ⟨g,4,none⟩ (.int .i64 (m.at_:Int))) W)=>yW _ g r src _ A c (FB.out W hW).1 T n2 s2 hT GG GE);unfold yv at Lo;clear NG Wo T0 Fw hd NW Gr GG GE GB;go_wp2_with (first|(go_at_call_of 251 (Value.int .u8 (O:Int));refine(WB.out _ (jQ0 _ _)).mono ?_;rintro e w1 ⟨rfl,rfl⟩)|(go_at_call_of 251 (Value.int .u8 (T:Int));refine(Mv.out _ (jQ0 _ _)).mono ?_;rintro e w1 ⟨rfl,rfl⟩));go_quiet (fail);go_wp2;go_quiet (fail);go_wp2_with (go_at_call 252;refine(Lo.out _ (by first|exact(jQ0 _ _).drewN _ |exact((jQ0 _ _).drewN _).drewN _)).mono ?_;rintro e w1 ⟨rfl,F5⟩);go_end0;rw[HR.out];exact⟨rfl,MStep.trans (NH.out.trans (((jQ0 (MX g r) _).old (by first|exact(jQ0 _ _).drewN _ |exact((jQ0 _ _).drewN _).drewN _)).trans (FB.out _ (by first|exact(jQ0 _ _).drewN _ |exact((jQ0 _ _).drewN _).drewN _)).2 (fun _ _ h=>h)) (fun _ _ h=>h)) (.inl rfl) F5⟩
      ·have e2:((src[m.at_ +1].toNat:Int) !=61)=true:=bne_iff_ne.2 (by omega);have HR:=G (show R=.error (m.at_ +1)by rw[Wo.out,jJ5 (Tc.out Fz),jJ6 (fun h=>Gr (by rw[<-hd,h];rfl))]);clear NG Wo T0 Fw hd Gr;go_wp2_with (first|(go_at_call_of 251 (Value.int .u8 (O:Int));refine(WB.out _ (jQ0 _ _)).mono ?_;rintro e w1 ⟨rfl,rfl⟩)|(go_at_call_of 251 (Value.int .u8 (T:Int));refine(Mv.out _ (jQ0 _ _)).mono ?_;rintro e w1 ⟨rfl,rfl⟩));go_quiet (fail);go_wp2;go_quiet (fail);go_wp2;refine⟨rfl,?_⟩;rw[HR.out];exact⟨by rw[KO,show((m.at_ +1:Nat):Int)=(m.at_:Int)+1 by omega],⟨NH.out.os,NH.out.tape,NH.out.output,NH.out.size,NH.out.block⟩⟩
def nth:List Oper->Nat->Option Oper
 |[],_=>none
 |o::_,0=>some o
 |_::l,i+1=>nth l i
theorem Vc:∀(l:List Oper) (i:Nat),nth l i=l.toArray[i]?
 |[],i=>by simp[nth]
 |o::l,0=>by simp[nth]
 |o::l,i+1=>by
  have:=Vc l i;simpa [nth]using this
def chk(md:Region.Mode)(l:List Oper)(listed:Array Bool)(i:Nat):Bool:=Region.noSelect l.toArray&&(Region.free md l.toArray listed i&&(Region.ready md l.toArray listed).contains i)
theorem jB8{md:Region.Mode}{l:List Oper}{listed:Array Bool}{i:Nat}(h:chk md l listed i=true):Region.noSelect l.toArray=true/\Region.free md l.toArray listed i=true/\(Region.ready md l.toArray listed).contains i=true:=by
 unfold chk at h;rw[Bool.and_eq_true,Bool.and_eq_true]at h;exact h
section
variable{P:Program}{l:List Oper}{Q:Exit->Act->World->Prop}{S:World->Prop}{md:Region.Mode}
theorem jF(i:Nat){oi:Oper}{d:Option Tmp}{v:Value}{fuel:Nat}{listed:Array Bool}{a:Act}{w:World}(hi:nth l i=some oi)(hd:oi.dst=d)
  (hk:chk md l listed i=true)
  (hQ:∀c a w,Q (.panic c) (a.put oi.dst v) w->Q (.panic c) a w) (hw:Region.wanted oi (yielded l.toArray a.tmps)=true) (hS:S w) (hy:∀w,S w->(execOp a.eval oi).run P w=.ok (.value v) w)
  (h:wpAnyH P md l.toArray Q S fuel (listed.setIfInBounds i true) (a.put d v) w):wpAnyH P md l.toArray Q S (fuel+1) listed a w:=by
 subst hd;obtain⟨hs,hf,hr⟩:=jB8 hk;exact wpAnyH_take ((Vc l i).symm.trans hi) hs hf hr hQ (.inl ⟨hw,hy⟩) hS h
theorem jAC(i:Nat){oi:Oper}{d:Option Tmp}{fuel:Nat}{listed:Array Bool}{a:Act}{w:World}(hi:nth l i=some oi)(hd:oi.dst=d)
  (hk:chk md l listed i=true)
  (hQ:∀c a w,Q (.panic c) (a.put oi.dst undef) w->Q (.panic c) a w) (hw:Region.wanted oi (yielded l.toArray a.tmps)=false) (hS:S w)
  (h:wpAnyH P md l.toArray Q S fuel (listed.setIfInBounds i true) (a.put d undef) w):wpAnyH P md l.toArray Q S (fuel+1) listed a w:=by
 subst hd;obtain⟨hs,hf,hr⟩:=jB8 hk;exact wpAnyH_take ((Vc l i).symm.trans hi) hs hf hr hQ (.inr ⟨hw,rfl⟩) hS h
theorem jY(i:Nat){oi:Oper}{fuel:Nat}{listed:Array Bool}{a:Act}{w:World}(hi:nth l i=some oi)(hr:Region.ready md l.toArray listed=[i])
  (h:∀K' :Act->World->Prop,Shut (∀a w,S w->(S w->wpAnyH P md l.toArray Q S fuel (listed.setIfInBounds i true) a w)->K' a w)->if Region.wanted oi (yielded l.toArray a.tmps)=true then Oper.wp P oi a w K' Q else K' (a.put oi.dst undef) w):
  wpAnyH P md l.toArray Q S (fuel+1) listed a w:=
 wpAnyH_ready hr (by simp) (AllReadyH.cons ((Vc l i).symm.trans hi) h AllReadyH.nil)
end
def tkn(i n:Nat):List Bool:=List.replicate i true++List.replicate (n-i) false
theorem Vq{i n:Nat}(h:i<n):(tkn i n).set i true=tkn (i+1) n:=by
 obtain⟨k,hk⟩:∃k,n-i=k+1:=⟨n-i-1,by omega⟩;rw[tkn,tkn,hk,show n-(i+1)=k by omega,List.set_append_right _ _ (by simp),List.length_replicate,Nat.sub_self,List.replicate_succ,jJ2,List.replicate_succ',jK1];rfl
section
variable{P:Program}{l:List Oper}{Q:Exit->Act->World->Prop}{S:World->Prop}{md:Region.Mode}{i n fuel:Nat}{oi:Oper}{d:Option Tmp}{v:Value}{a:Act}{w:World}
theorem je{id:Nat}(n:Nat)(hn:l.length=n)(hm:P.follows .mixedOrders=true)(hS:S w.drew)(h:S w.drew->wpAnyH P .any l.toArray Q S n (tkn 0 n).toArray a w.drew):(Code.region id l.toArray true).wp P Q a w:=by
 refine wp_region_held_drew hm hS (fun hs=> ?_);have:=h hs;subst hn;simpa [tkn]using this
theorem tOn(hi:nth l i=some oi)(hd:oi.dst=d)(hk:(decide (i<n)&&chk md l (tkn i n).toArray i)=true)
  (hQ:∀c a w,Q (.panic c) (a.put oi.dst v) w->Q (.panic c) a w) (hw:Region.wanted oi (yielded l.toArray a.tmps)=true) (hS:S w) (hy:∀w,S w->(execOp a.eval oi).run P w=.ok (.value v) w)
  (h:wpAnyH P md l.toArray Q S fuel (tkn (i+1) n).toArray (a.put d v) w):wpAnyH P md l.toArray Q S (fuel+1) (tkn i n).toArray a w:=by
 obtain⟨Fz,hk⟩:=Bool.and_eq_true _ _ ▸hk;refine jF i hi hd hk hQ hw hS hy ?_;rw[jJ1,Vq (jM8 Fz)];exact h
theorem jHa(hi:nth l i=some oi)(hd:oi.dst=d)(hk:(decide (i<n)&&chk md l (tkn i n).toArray i)=true)
  (hQ:∀c a w,Q (.panic c) (a.put oi.dst undef) w->Q (.panic c) a w) (hw:Region.wanted oi (yielded l.toArray a.tmps)=false) (hS:S w)
  (h:wpAnyH P md l.toArray Q S fuel (tkn (i+1) n).toArray (a.put d undef) w):wpAnyH P md l.toArray Q S (fuel+1) (tkn i n).toArray a w:=by
 obtain⟨Fz,hk⟩:=Bool.and_eq_true _ _ ▸hk;refine jAC i hi hd hk hQ hw hS ?_;rw[jJ1,Vq (jM8 Fz)];exact h
theorem jD9(hi:nth l i=some oi)(hr:Region.ready md l.toArray (tkn i n).toArray=[i])(Fz:i<n)
  (h:∀K' :Act->World->Prop,Shut (∀a w,S w->(S w->wpAnyH P md l.toArray Q S fuel (tkn (i+1) n).toArray a w)->K' a w)->if Region.wanted oi (yielded l.toArray a.tmps)=true then Oper.wp P oi a w K' Q else K' (a.put oi.dst undef) w):
  wpAnyH P md l.toArray Q S (fuel+1) (tkn i n).toArray a w:=by
 refine jY i hi hr (fun K' hK=>h K' (fun a w hS k=>hK.out a w hS (fun hs=> ?_)));rw[jJ1,Vq Fz];exact k hs
theorem zt{ls ls' :Array Bool}(e:ls=ls')(h:wpAnyH P md l.toArray Q S fuel ls' a w):wpAnyH P md l.toArray Q S fuel ls a w:=e▸h
end
theorem Rd.row_new(w:World)(t:TypeId)(s n:Nat)(l:List Value)(hl:l.length=n*s):Rd (w.alloc (.cells l.toArray t)) s (some ⟨w.heap.size,0,none⟩) n l:=by
 refine⟨hl,fun _=>⟨_,_,rfl,fun j u hu=> ?_⟩⟩;have hb:=jQ2 w t l.toArray;rw[Nat.zero_add,hb.cell j];simpa using hu
theorem Ko{w:World}{base:Nat}{e:TypeId}{size:Nat}{A:OA}{n c:Nat}{xs:List Value}(h:w.ownsRow base e size (.slice A n c) n xs){b:Nat}(e:A.map (·.block)=some b):base<=b/\b<w.heap.size:=by
 rcases h.2 with⟨e',_⟩|⟨g',cap,cur,e',NB,hg,_⟩
 ·injection e' with e1;subst e1;cases e
 ·injection e' with e1;subst e1;injection e with e;subst e;exact⟨NB,(Array.getElem?_eq_some_iff.1 hg).1⟩
theorem jFk{w:World}{base:Nat}{e:TypeId}{size:Nat}{A:OA}{n c:Nat}{xs:List Value}(h:w.ownsRow base e size (.slice A n c) n xs):n<=c:=by
 rcases h.2 with⟨e,h0⟩|⟨g,cap,cur,e,_,_,NQ,_⟩
 ·omega
 ·injection e with e1 e2 e3;omega
theorem jAR{w:World}{base:Nat}{e:TypeId}{size:Nat}{A:OA}{n c:Nat}{xs:List Value}(h:w.ownsRow base e size (.slice A n c) n xs)(hn:0<n):∃k,A=some ⟨k,0,none⟩:=by
 rcases h.2 with⟨e,h0⟩|⟨g,cap,cur,e,_⟩
 ·omega
 ·injection e with e1 e2 e3;exact⟨g,e1⟩
theorem qQ{w:World}{base:Nat}{e:TypeId}{z k n c:Nat}{xs:List Value}(h:w.ownsRow base e z (.slice (some ⟨k,0,none⟩) n c) n xs)(j:Nat)(u:Value):
  (w.setCell ⟨k,j,none⟩ u).ownsRow base e z (.slice (some ⟨k,0,none⟩) n c) n (xs.set j u):=by
 rcases h.2 with⟨e',_⟩|⟨g,cap,cur,e',hb,hg,h1,h2,h3,h4⟩
 ·injection e' with e1;cases e1
 ·injection e' with e1 e2 e3;injection e1 with e1;injection e1 with e1;subst e1;subst e3;refine⟨by rw[List.length_set];exact h.1,.inr ⟨k,c,cur.setIfInBounds j u,rfl,hb,?_,h1,h2,by rw[Array.size_setIfInBounds];exact h3,?_⟩⟩
  ·simp[World.setCell,Array.getElem?_modify,hg]
  ·rw[Array.toList_setIfInBounds,List.take_set,h4]
theorem YC{w:World}{base:Nat}{e:TypeId}{z k n c:Nat}{xs:List Value}(h:w.ownsRow base e z (.slice (some ⟨k,0,none⟩) n c) n xs)(j:Nat){u:Value}(hu:xs[j]? =some u):w.cell? ⟨k,j,none⟩=some u/\w.frozen? ⟨k,j,none⟩=false:=by
 rcases h.2 with⟨e',_⟩|⟨g,cap,cur,e',hb,hg,h1,h2,h3,h4⟩
 ·injection e' with e1;cases e1
 ·injection e' with e1 e2 e3;injection e1 with e1;injection e1 with e1;subst e1;rw[<-h4,List.getElem?_take]at hu;split at hu
  ·exact⟨by rw[cell_of_row w k j cur e (0,0) hg,<-Array.getElem?_toList];exact hu,by simp[World.frozen?,hg]⟩
  ·cases hu
theorem vL{wr w' :World}{row:Option Nat}(hg:wr.grownBy w' row):Kp (fun b=>row=some b) wr w' :=(jQ0 _ wr).grown hg (fun _ e _=>e)
theorem Xr:(prog.info? 3).map (fun i=>(i.zero,i.size,i.bytes))=some (some (.int .i64 0),1,8):=by kernel_rfl
theorem jA5:(prog.info? 146).map (fun i=>(i.zero,i.size,i.bytes))=some (some (.agg #[.int .i64 0,.string ⟨#[]⟩,.int .i64 0,.int .i64 0,.string ⟨#[]⟩,.slice none 0 0,.slice none 0 0]),7,104):=by kernel_rfl
theorem jA9:(prog.info? 60).map (fun i=>(i.zero,i.size,i.bytes))=some (some (.agg #[.string ⟨#[]⟩,.int .i64 0,.int .i64 0,.int .i64 0,.bool false,.int .i64 0,.int .i64 0]),7,64):=by kernel_rfl
theorem Xn:(prog.info? 83).map (fun i=>(i.zero,i.size,i.bytes))=some (some (.agg #[.string ⟨#[]⟩,.int .i64 0,.int .i64 0,.string ⟨#[]⟩,.int .i64 0,.int .i64 0,.int .i64 0]),7,72):=by kernel_rfl
theorem jA6:(prog.info? 85).map (fun i=>(i.zero,i.size,i.bytes))=some (some (.agg #[.string ⟨#[]⟩,.int .i64 0,.int .i64 0,.string ⟨#[]⟩,.int .i64 0,.int .i64 0]),6,64):=by kernel_rfl
theorem jA4:(prog.info? 66).map (fun i=>(i.zero,i.size,i.bytes))=some (some (.agg #[.string ⟨#[]⟩,.int .i64 0,.int .i64 0,.slice none 0 0,.string ⟨#[]⟩,.int .i64 0,.int .i64 0,.slice none 0 0]),8,112):=by kernel_rfl
theorem Xo:(prog.info? 68).map (fun i=>(i.zero,i.size,i.bytes))=some (some (.agg #[.string ⟨#[]⟩,.int .i64 0,.int .i64 0]),3,32):=by kernel_rfl
theorem uh:(prog.info? 74).map (fun i=>(i.zero,i.size,i.bytes))=some (some (.agg #[.string ⟨#[]⟩,.int .i64 0,.int .i64 0]),3,32):=by kernel_rfl
theorem UB{α:Type}(C:α->List Value)(z:Nat)(hz:∀x,(C x).length=z):∀(xs:List α) (k:Nat) (x:α),xs[k]? =some x->∀i,i<z->(xs.flatMap C)[k*z+i]? =(C x)[i]?
 |[],_,_,h=>by cases h
 |y::l,0,x,h=>by
  intro i hi;injection h with h;subst h;rw[jL9,Nat.zero_mul,Nat.zero_add,List.getElem?_append_left (by rw[hz];exact hi)]
 |y::l,k+1,x,h=>by
  intro i hi;rw[jL9,List.getElem?_append_right (by rw[hz,Nat.succ_mul];omega)];rw[<-UB C z hz l k x h i hi]
  congr 1
  rw[hz,Nat.succ_mul];omega
theorem jK{α:Type}{w:World}{C:α->List Value}{z:Nat}(hz:∀x,(C x).length=z){A:OA}{n:Nat}{xs:List α}(hr:Rd w z A n (xs.flatMap C)){k:Nat}{x:α}(hk:xs[k]? =some x)(hn:k<n):∃b o,A=some ⟨b,o,none⟩/\∀i u,(C x)[i]? =some u->w.cell? ⟨b,o+(k*z+i),none⟩=some u:=by
 obtain⟨b,o,hA,hc⟩:=hr.2 (by omega);refine⟨b,o,hA,fun i u hu=>hc _ u ?_⟩;have hi:i<z:=by rw[<-hz x];exact(jM5 hu).1
 rw[UB C z hz xs k x hk i hi];exact hu
theorem jL{P:Program}{fn:Func}{R:Ending->World->Prop}{a:Act}{w:World}{p u:Tmp}{ty:TypeId}{g:Nat}{t:TypeId}{cs:Array Value}{d:TypeDesc}(h:fn.results= #[.cell p ty,.tmp u])
  (hp:a.tmps.getD p undef=.pointer (some ⟨g,0,none⟩)) (hb:Blk w g t cs) (hu:P.underlying ty=some d) (hd:(match d with| .struct _ | .array _ _=>true|_=>false)=true) (hi:(P.info? ty).map (·.size)=some cs.size)
  (LQ:a.defers=[]) (hR:R (.returned (.tuple #[.agg cs,a.tmps.getD u undef])) w):bodyPost P fn R .ret a w:=by
 refine bodyPost_ret ?_ LQ hR;rw[results_cell_tmp h,hp];have hl:=run_loadVar_row (P:=P) w g t ty cs (0,0) d hb hu hd hi;simp[asAddr,hl,Result.andThen]
theorem KA{P:Program}{fn:Func}{R:Ending->World->Prop}{a:Act}{w:World}{p:Tmp}{ty:TypeId}{g:Nat}{t:TypeId}{cs:Array Value}{d:TypeDesc}(h:fn.results= #[.cell p ty])
  (hp:a.tmps.getD p undef=.pointer (some ⟨g,0,none⟩)) (hb:Blk w g t cs) (hu:P.underlying ty=some d) (hd:(match d with| .struct _ | .array _ _=>true|_=>false)=true) (hi:(P.info? ty).map (·.size)=some cs.size)
  (LQ:a.defers=[]) (hR:R (.returned (.agg cs)) w):bodyPost P fn R .ret a w:=by
 refine bodyPost_ret ?_ LQ hR;have hl:=run_loadVar_row (P:=P) w g t ty cs (0,0) d hb hu hd hi;simp only[results,h];simp only[Array.getD_eq_getD_getElem?]at hp;simp[hp,asAddr,hl]
end Go.Proofs.YtifbhcfdealfaaaGreatDoor

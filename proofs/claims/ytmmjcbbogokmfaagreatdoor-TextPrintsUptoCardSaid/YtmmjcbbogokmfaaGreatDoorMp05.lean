import Derived.Test.YtmmjcbbogokmfaaGreatDoorMp03
import Derived.Laws.ResultCell
import Derived.StillTail
import Derived.ChangeSame
set_option maxRecDepth 100000
set_option maxHeartbeats 25600000
namespace Go.Proofs.YtmmjcbbogokmfaaGreatDoor
open Go.Proofs.Tryz
open Go.RowKit
theorem KB(a b:BA):sb (a++b)=sb a++sb b:=by
 unfold sb;simp
theorem Uz(s:BA)(k:Nat)(h:k<s.size):sb (s.extract k (k+1))=[s[k]]:=by
 have h' :k<(sb s).length:=by rw[jB];exact h
 rw[jq,jM9 h',show k+1-k=1 by omega,List.take_succ_cons,List.take_zero];rfl
theorem Xr(s:BA)(k:Nat)(h:k<s.size):((sb s).drop k).headD 0=s[k]:=by
 have h' :k<(sb s).length:=by rw[jB];exact h
 rw[jM9 h'];rfl
theorem Jh(t:Nat)(ht:t<58)(m:Mc)(hl:m.stack.length<=1000000)(h:vd t m.stack=true):∃n s,Takes t n m.stack s/\m.stack.length+11*n<=100000000/\∀k f,vz t {m with from_:=f} k=.ok {m with from_:=f,at_:=k,stack:=s}:=by
 obtain⟨s,NO,Mu⟩:=Vu t ht m 0 h;obtain⟨n,hn,hT⟩:=JT NO;refine⟨n,s,hT,by omega,fun k f=> ?_⟩;unfold vz;rw[NO]
theorem jCf(w:World)(hg:Sg w)(g:Nat)(r:Option Nat)(src:BA)(m:Mc)(A:OA)(c:Nat)(h:Mac w g r src m A c)(hs:src.size<=1000000)(ha:m.at_ <src.size)(Hv:m.stack.length<=1000000):
  Calls prog 163 #[.pointer (some ⟨g,0,none⟩)] w (MOut w g r src (yG m src[m.at_] ((sb src).drop (m.at_ +1)))):=by
 have RD:=G (fun W (hW:Old w W)=>JD W (hg.old hW) (src.extract m.at_ (m.at_ +1)));have RA:=G (fun W (hW:Old w W)=>JD W (hg.old hW) (src.extract m.at_ (m.at_ +1)++⟨#[61]⟩));rw[KB,Uz src m.at_ ha,show([src[m.at_]]++sb ⟨#[61]⟩:LB)=[src[m.at_],61]from rfl]at RA;rw[Uz src m.at_ ha]at RD;have Hu:=G (show yG m src[m.at_] ((sb src).drop (m.at_ +1))=(if vK [src[m.at_]]≠0/\vd (vK [src[m.at_]]) m.stack=true then
  (if vK [src[m.at_],61]≠0/\vd (vK [src[m.at_],61]) m.stack=true/\((sb src).drop (m.at_ +1)).headD 0=61 then vz (vK [src[m.at_],61]) {m with from_:=m.at_} (m.at_ +2)else vz (vK [src[m.at_]]) {m with from_:=m.at_} (m.at_ +1))
 else if vK [src[m.at_],61]=0\/vd (vK [src[m.at_],61]) m.stack=false then .error m.at_
 else if((sb src).drop (m.at_ +1))=[]then .ok {m with from_:=m.at_,at_:=m.at_ +1,fin:=3}
 else if((sb src).drop (m.at_ +1)).headD 0≠61 then .error (m.at_ +1)
 else vz (vK [src[m.at_],61]) {m with from_:=m.at_} (m.at_ +2))from rfl)
 have hO:=vh [src[m.at_]];have hT:=vh [src[m.at_],61];generalize yG m src[m.at_] ((sb src).drop (m.at_ +1))=R at*;generalize vK [src[m.at_]]=O at*;generalize vK [src[m.at_],61]=T at*;generalize LT:src.extract m.at_ (m.at_ +1)=sx at*;have Gl:sx.size=1:=by rw[<-LT,<-jB,Uz src m.at_ ha];rfl
 have Ta:((sx.size+1:Nat):Int)<=9223372036854775807:=(by omega);generalize NN:sx++⟨#[61]⟩=sy at*;have Nl:=h.c0;have G6:=h.c1;have Li:=h.c4;have Sx:=h.z 4;have Fi:=h.z 1;have Fo:=h.c3;have ML:=h.z 3;have a1:(m.at_:Int)<=(m.at_:Int)+1:=(by omega);have a2:(m.at_:Int)+1<=(src.size:Int):=(by omega);have a3:(0:Int)<=(m.at_:Int):=(by omega);have a4:IntKind.i64.wrap ((m.at_:Int)+1)=(m.at_:Int)+1:=jQ3 _ (by omega);have a5:(m.at_:Int).toNat=m.at_:=(by omega);have a6:((m.at_:Int)+1).toNat=m.at_ +1:=(by omega);have a7:(0:Int)<=(m.at_:Int)+1:=(by omega);go_enter func163,ntmps163;go_wp2;go_quiet (fail);go_wp2_with fail;refine(RD.out _ ((jQ0 _ _).drewN _)).mono ?_;rintro e w1 ⟨rfl,rfl⟩;go_wp2_with fail;refine(RA.out _ ((jQ0 _ _).drewN _)).mono ?_;rintro e w1 ⟨rfl,rfl⟩;clear RD RA LT NN Gl Ta a1 a2 hg;have h0:=h.drewN nq;have LY:Kp (MX g r) w (w.drewN nq):=(jQ0 _ _).drewN nq;have Nl:=h0.c0;have G6:=h0.c1;have Fo:=h0.c3;have Li:=h0.c4;have Fi:=h0.z 1;have ML:=h0.z 3;have Sx:=h0.z 4;clear h;generalize w.drewN nq=w0 at*;obtain⟨m1,k1⟩:=h0.setFrom m.at_;have Es:=G m1;have MT:=G (fun W (hW:Old (w0.setCell ⟨g,4,none⟩ (.int .i64 (m.at_:Int))) W)=>Jm W g r src _ A c (m1.old hW) O);have LO:=G (fun W (hW:Old (w0.setCell ⟨g,4,none⟩ (.int .i64 (m.at_:Int))) W)=>Jm W g r src _ A c (m1.old hW) T);have WN:=G (LY.trans k1 (fun _ _ h=>h));obtain⟨m2,k2⟩:=m1.setAt (m.at_ +1);rw[show((m.at_ +1:Nat):Int)=(m.at_:Int)+1 by omega]at m2 k2;have Po:=G m2;have Lv:=G ((LY.trans k1 (fun _ _ h=>h)).trans k2 (fun _ _ h=>h));have MD:=G (fun W (hW:Old ((w0.setCell ⟨g,4,none⟩ (.int .i64 (m.at_:Int))).setCell ⟨g,1,none⟩ (.int .i64 ((m.at_:Int)+1))) W)=>Jm W g r src _ A c (m2.old hW) T);obtain⟨m3,k3⟩:=m2.setFin 3;have RE:=G m3;have Ev:=G (((LY.trans k1 (fun _ _ h=>h)).trans k2 (fun _ _ h=>h)).trans k3 (fun _ _ h=>h));simp only at MT LO MD;unfold yv at MT LO MD;clear m1 k1 m2 k2 m3 k3 h0 LY;have Z4:=G (Jh O hO m Hv);have Dn:=G (Jh T hT m Hv);generalize hbO:vd O m.stack=bO at*;generalize hbT:vd T m.stack=bT at*;clear hbO hbT;have Hd:=G (fun(h:m.at_ +1<src.size)=>Xr src (m.at_ +1) h);have Hn:=G (show m.at_ +1=src.size->(sb src).drop (m.at_ +1)=[]from fun h=>List.drop_of_length_le (by rw[jB];omega));have Y9:=G (show m.at_ +1<src.size->(sb src).drop (m.at_ +1)≠ []from fun h e=>by
  have:=congrArg List.length e;rw[jK8,jB]at this;simp at this;omega)
 generalize (sb src).drop (m.at_ +1)=rest at*;have a8:IntKind.i64.wrap ((m.at_:Int)+1+1)=(m.at_:Int)+2:=by rw[show(m.at_:Int)+1+1=(m.at_:Int)+2 by omega];exact jQ3 _ (by omega)
 have a9:IntKind.i64.wrap ((m.at_:Int)+2)=(m.at_:Int)+2:=jQ3 _ (by omega);by_cases WK:O≠0/\bO=true
 ·obtain⟨O0,rfl⟩:=WK;have o1:((O:Int) !=0)=true:=bne_iff_ne.2 (by omega);obtain⟨n,s,Ed,Mj,Ng⟩:=Z4.out rfl;have Tj:=G (fun W (hW:Old ((w0.setCell ⟨g,4,none⟩ (.int .i64 (m.at_:Int))).setCell ⟨g,1,none⟩ (.int .i64 ((m.at_:Int)+1))) W)=>yj W g r src _ A c (Po.out.old hW) O n s hO Ed Mj);unfold yv at Tj;have Pm:=G Ng;clear Ng Ed Mj;have Hu:=G (show R=(if T≠0/\bT=true/\rest.headD 0=61 then vz T {m with from_:=m.at_} (m.at_ +2)else .ok {m with from_:=m.at_,at_:=m.at_ +1,stack:=s})by rw[Hu.out,jJ6 ⟨O0,rfl⟩,Pm.out]);clear O0;by_cases T0:T=0
  ·have t1:((T:Int) !=0)=false:=by rw[T0];rfl
   have HR:=G (show R=.ok {m with from_:=m.at_,at_:=m.at_ +1,stack:=s}by rw[Hu.out,jJ5 (fun h=>h.1 T0)]);clear Hu T0;go_wp2_with (go_at_call 176;refine(MT.out _ (jQ0 _ _)).mono ?_;rintro e w1 ⟨rfl,rfl⟩);go_quiet (fail);go_wp2_with (go_at_call 179;refine(Tj.out _ ((jQ0 _ _).drewN _)).mono ?_;rintro e w1 ⟨rfl,hI⟩);go_end0;rw[HR.out];exact⟨rfl,MStep.trans (Lv.out.drewN _) (.inl rfl) hI⟩
  ·have t1:((T:Int) !=0)=true:=bne_iff_ne.2 (by omega);cases bT
   ·have HR:=G (show R=.ok {m with from_:=m.at_,at_:=m.at_ +1,stack:=s}by rw[Hu.out,jJ5 (fun h=>by cases h.2.1)]);clear Hu T0;go_wp2_with (go_at_call 176;refine(MT.out _ (jQ0 _ _)).mono ?_;rintro e w1 ⟨rfl,rfl⟩);go_quiet ((go_at_call 176;refine Calls.quiet_of_same ((MD.out _ ((jQ0 _ _).drewN _)).mono (fun _ _ h=>⟨h.1,h.2.symm⟩))));go_wp2_with (go_at_call 179;refine(Tj.out _ ((jQ0 _ _).drewN _)).mono ?_;rintro e w1 ⟨rfl,hI⟩);go_end0;rw[HR.out];exact⟨rfl,MStep.trans (Lv.out.drewN _) (.inl rfl) hI⟩
   ·by_cases FT:m.at_ +1=src.size
    ·have HR:=G (show R=.ok {m with from_:=m.at_,at_:=m.at_ +1,stack:=s}by rw[Hu.out,jJ5 (fun h=>by have h2:=h.2.2;rw[Hn.out FT]at h2;exact absurd h2 (by decide))]);have e1:decide ((m.at_:Int)+1<(src.size:Int))=false:=jK3 (by omega);clear Hu T0 FT;go_wp2_with (go_at_call 176;refine(MT.out _ (jQ0 _ _)).mono ?_;rintro e w1 ⟨rfl,rfl⟩);go_quiet ((go_at_call 176;refine Calls.quiet_of_same ((MD.out _ ((jQ0 _ _).drewN _)).mono (fun _ _ h=>⟨h.1,h.2.symm⟩))));go_wp2_with (go_at_call 179;refine(Tj.out _ ((jQ0 _ _).drewN _)).mono ?_;rintro e w1 ⟨rfl,hI⟩);go_end0;rw[HR.out];exact⟨rfl,MStep.trans (Lv.out.drewN _) (.inl rfl) hI⟩
    ·have Gc:m.at_ +1<src.size:=(by omega);have e1:(m.at_:Int)+1<(src.size:Int):=(by omega);have hd:=Hd.out Gc;by_cases h61:src[m.at_ +1].toNat=61
     ·have e2:((src[m.at_ +1].toNat:Int)==61)=true:=by rw[h61];rfl
      have NR:rest.headD 0=61:=by rw[hd];exact UInt8.toNat_inj.1 h61
      obtain⟨n2,s2,NJ,NI,NH⟩:=Dn.out rfl;have HR:=G (show R=.ok {m with from_:=m.at_,at_:=m.at_ +2,stack:=s2}by rw[Hu.out,jJ6 ⟨T0,rfl,NR⟩,NH]);have G7:=G (fun W (hW:Old ((w0.setCell ⟨g,4,none⟩ (.int .i64 (m.at_:Int))).setCell ⟨g,1,none⟩ (.int .i64 ((m.at_:Int)+1))) W)=>by
       have:=(Po.out.old hW).setAt (m.at_ +2)
       rwa [show((m.at_ +2:Nat):Int)=(m.at_:Int)+2 by omega]at this)
      have PQ:=G (fun W (hW:Old ((w0.setCell ⟨g,4,none⟩ (.int .i64 (m.at_:Int))).setCell ⟨g,1,none⟩ (.int .i64 ((m.at_:Int)+1))) W)=>yj _ g r src _ A c (G7.out W hW).1 T n2 s2 hT NJ NI);unfold yv at PQ;clear Hu T0 FT hd NR h61 NJ NI NH;go_wp2_with (go_at_call 176;refine(MT.out _ (jQ0 _ _)).mono ?_;rintro e w1 ⟨rfl,rfl⟩);go_quiet ((go_at_call 176;refine Calls.quiet_of_same ((MD.out _ ((jQ0 _ _).drewN _)).mono (fun _ _ h=>⟨h.1,h.2.symm⟩))));go_wp2_with (go_at_call 179;refine(PQ.out _ ((jQ0 _ _).drewN _)).mono ?_;rintro e w1 ⟨rfl,hI⟩);go_end0;rw[HR.out];exact⟨rfl,MStep.trans ((Lv.out.drewN _).trans (G7.out _ ((jQ0 _ _).drewN _)).2 (fun _ _ h=>h)) (.inl rfl) hI⟩
     ·have e2:((src[m.at_ +1].toNat:Int)==61)=false:=jM3 (by omega);have HR:=G (show R=.ok {m with from_:=m.at_,at_:=m.at_ +1,stack:=s}by rw[Hu.out,jJ5 (fun h=>h61 (by have h2:=h.2.2;rw[hd]at h2;rw[h2];rfl))]);clear Hu T0 FT hd h61;go_wp2_with (go_at_call 176;refine(MT.out _ (jQ0 _ _)).mono ?_;rintro e w1 ⟨rfl,rfl⟩);go_quiet ((go_at_call 176;refine Calls.quiet_of_same ((MD.out _ ((jQ0 _ _).drewN _)).mono (fun _ _ h=>⟨h.1,h.2.symm⟩))));go_wp2_with (go_at_call 179;refine(Tj.out _ ((jQ0 _ _).drewN _)).mono ?_;rintro e w1 ⟨rfl,hI⟩);go_end0;rw[HR.out];exact⟨rfl,MStep.trans (Lv.out.drewN _) (.inl rfl) hI⟩
 ·have WL:=G (show R=(if T=0\/bT=false then .error m.at_ else if rest=[]then .ok {m with from_:=m.at_,at_:=m.at_ +1,fin:=3}else if rest.headD 0≠61 then .error (m.at_ +1)else vz T {m with from_:=m.at_} (m.at_ +2))by rw[Hu.out,jJ5 WK]);have AZ:O=0\/O≠0/\bO=false:=by
   rcases Nat.eq_zero_or_pos O with h|h
   ·exact .inl h
   ·refine .inr ⟨by omega,?_⟩;cases bO
    ·rfl
    ·exact absurd ⟨by omega,rfl⟩ WK
  clear WK Z4 Hu;rcases AZ with O0|⟨O0,rfl⟩
  ·have o1:((O:Int) !=0)=false:=by rw[O0];rfl
   clear O0;by_cases T0:T=0
   ·have t1:((T:Int)==0)=true:=by rw[T0];rfl
    have HR:=G (show R=.error m.at_ by rw[WL.out,jJ6 (.inl T0)]);clear WL T0;go_wp2_with fail;refine⟨rfl,?_⟩;rw[HR.out];exact⟨rfl,WN.out⟩
   ·have t1:((T:Int)==0)=false:=jM3 (by omega);cases bT
    ·have HR:=G (show R=.error m.at_ by rw[WL.out,jJ6 (.inr rfl)]);clear WL T0;go_wp2_with (go_at_call_of 176 (Value.int .u8 (T:Int));refine(LO.out _ (jQ0 _ _)).mono ?_;rintro e w1 ⟨rfl,rfl⟩);refine⟨rfl,?_⟩;rw[HR.out];exact⟨rfl,WN.out⟩
    ·have MA:=G (show R=(if rest=[]then .ok {m with from_:=m.at_,at_:=m.at_ +1,fin:=3}else if rest.headD 0≠61 then .error (m.at_ +1)else vz T {m with from_:=m.at_} (m.at_ +2))by rw[WL.out,jJ5 (fun h=>by rcases h with h|h;exact T0 h;cases h)]);by_cases FT:m.at_ +1=src.size
     ·have HR:=G (show R=.ok {m with from_:=m.at_,at_:=m.at_ +1,fin:=3}by rw[MA.out,jJ6 (Hn.out FT)]);have e1:(((m.at_:Int)+1)==(src.size:Int))=true:=by rw[show(m.at_:Int)+1=(src.size:Int)by omega];simp
      clear WL MA T0 FT;go_wp2_with (go_at_call_of 176 (Value.int .u8 (T:Int));refine(LO.out _ (jQ0 _ _)).mono ?_;rintro e w1 ⟨rfl,rfl⟩);go_quiet (fail);go_wp2;go_end0;rw[HR.out];exact⟨rfl,r,A,c,RE.out.drewN _,Ev.out.drewN _,.inl rfl⟩
     ·have Gc:m.at_ +1<src.size:=(by omega);have e1:(((m.at_:Int)+1)==(src.size:Int))=false:=jM3 (by omega);have e1b:(m.at_:Int)+1<(src.size:Int):=(by omega);have hd:=Hd.out Gc;by_cases h61:src[m.at_ +1].toNat=61
      ·have e2:((src[m.at_ +1].toNat:Int) !=61)=false:=by rw[h61];rfl
       have NR:rest.headD 0=61:=by rw[hd];exact UInt8.toNat_inj.1 h61
       obtain⟨n2,s2,NJ,NI,NH⟩:=Dn.out rfl;have HR:=G (show R=.ok {m with from_:=m.at_,at_:=m.at_ +2,stack:=s2}by rw[MA.out,jJ5 (Y9.out Gc),jJ5 (fun h=>h NR),NH]);have G7:=G (fun W (hW:Old (w0.setCell ⟨g,4,none⟩ (.int .i64 (m.at_:Int))) W)=>by
        have:=(Es.out.old hW).setAt (m.at_ +2)
        rwa [show((m.at_ +2:Nat):Int)=(m.at_:Int)+2 by omega]at this)
       have PQ:=G (fun W (hW:Old (w0.setCell ⟨g,4,none⟩ (.int .i64 (m.at_:Int))) W)=>yj _ g r src _ A c (G7.out W hW).1 T n2 s2 hT NJ NI);unfold yv at PQ;clear WL MA T0 FT hd NR h61 NJ NI NH;go_wp2_with (go_at_call_of 176 (Value.int .u8 (T:Int));refine(LO.out _ (jQ0 _ _)).mono ?_;rintro e w1 ⟨rfl,rfl⟩);go_quiet (fail);go_wp2;go_quiet (fail);go_wp2_with (go_at_call 179;refine(PQ.out _ (by first|exact(jQ0 _ _).drewN _ |exact((jQ0 _ _).drewN _).drewN _)).mono ?_;rintro e w1 ⟨rfl,hI⟩);go_end0;rw[HR.out];exact⟨rfl,MStep.trans (WN.out.trans (((jQ0 (MX g r) _).old (by first|exact(jQ0 _ _).drewN _ |exact((jQ0 _ _).drewN _).drewN _)).trans (G7.out _ (by first|exact(jQ0 _ _).drewN _ |exact((jQ0 _ _).drewN _).drewN _)).2 (fun _ _ h=>h)) (fun _ _ h=>h)) (.inl rfl) hI⟩
      ·have e2:((src[m.at_ +1].toNat:Int) !=61)=true:=bne_iff_ne.2 (by omega);have HR:=G (show R=.error (m.at_ +1)by rw[MA.out,jJ5 (Y9.out Gc),jJ6 (fun h=>h61 (by rw[<-hd,h];rfl))]);clear WL MA T0 FT hd h61;go_wp2_with (go_at_call_of 176 (Value.int .u8 (T:Int));refine(LO.out _ (jQ0 _ _)).mono ?_;rintro e w1 ⟨rfl,rfl⟩);go_quiet (fail);go_wp2;go_quiet (fail);go_wp2;refine⟨rfl,?_⟩;rw[HR.out];exact⟨by rw[Vn,show((m.at_ +1:Nat):Int)=(m.at_:Int)+1 by omega],⟨WN.out.os,WN.out.tape,WN.out.output,WN.out.size,WN.out.block⟩⟩
  ·have o1:((O:Int) !=0)=true:=bne_iff_ne.2 (by omega);clear O0;by_cases T0:T=0
   ·have t1:((T:Int)==0)=true:=by rw[T0];rfl
    have HR:=G (show R=.error m.at_ by rw[WL.out,jJ6 (.inl T0)]);clear WL T0;go_wp2_with (go_at_call_of 176 (Value.int .u8 (O:Int));refine(MT.out _ (jQ0 _ _)).mono ?_;rintro e w1 ⟨rfl,rfl⟩);refine⟨rfl,?_⟩;rw[HR.out];exact⟨rfl,WN.out⟩
   ·have t1:((T:Int)==0)=false:=jM3 (by omega);cases bT
    ·have HR:=G (show R=.error m.at_ by rw[WL.out,jJ6 (.inr rfl)]);clear WL T0;go_wp2_with (first|(go_at_call_of 176 (Value.int .u8 (O:Int));refine(MT.out _ (jQ0 _ _)).mono ?_;rintro e w1 ⟨rfl,rfl⟩)|(go_at_call_of 176 (Value.int .u8 (T:Int));refine(LO.out _ (jQ0 _ _)).mono ?_;rintro e w1 ⟨rfl,rfl⟩));refine⟨rfl,?_⟩;rw[HR.out];exact⟨rfl,WN.out⟩
    ·have MA:=G (show R=(if rest=[]then .ok {m with from_:=m.at_,at_:=m.at_ +1,fin:=3}else if rest.headD 0≠61 then .error (m.at_ +1)else vz T {m with from_:=m.at_} (m.at_ +2))by rw[WL.out,jJ5 (fun h=>by rcases h with h|h;exact T0 h;cases h)]);by_cases FT:m.at_ +1=src.size
     ·have HR:=G (show R=.ok {m with from_:=m.at_,at_:=m.at_ +1,fin:=3}by rw[MA.out,jJ6 (Hn.out FT)]);have e1:(((m.at_:Int)+1)==(src.size:Int))=true:=by rw[show(m.at_:Int)+1=(src.size:Int)by omega];simp
      clear WL MA T0 FT;go_wp2_with (first|(go_at_call_of 176 (Value.int .u8 (O:Int));refine(MT.out _ (jQ0 _ _)).mono ?_;rintro e w1 ⟨rfl,rfl⟩)|(go_at_call_of 176 (Value.int .u8 (T:Int));refine(LO.out _ (jQ0 _ _)).mono ?_;rintro e w1 ⟨rfl,rfl⟩));go_quiet (fail);go_wp2;go_end0;rw[HR.out];exact⟨rfl,r,A,c,RE.out.drewN _,Ev.out.drewN _,.inl rfl⟩
     ·have Gc:m.at_ +1<src.size:=(by omega);have e1:(((m.at_:Int)+1)==(src.size:Int))=false:=jM3 (by omega);have e1b:(m.at_:Int)+1<(src.size:Int):=(by omega);have hd:=Hd.out Gc;by_cases h61:src[m.at_ +1].toNat=61
      ·have e2:((src[m.at_ +1].toNat:Int) !=61)=false:=by rw[h61];rfl
       have NR:rest.headD 0=61:=by rw[hd];exact UInt8.toNat_inj.1 h61
       obtain⟨n2,s2,NJ,NI,NH⟩:=Dn.out rfl;have HR:=G (show R=.ok {m with from_:=m.at_,at_:=m.at_ +2,stack:=s2}by rw[MA.out,jJ5 (Y9.out Gc),jJ5 (fun h=>h NR),NH]);have G7:=G (fun W (hW:Old (w0.setCell ⟨g,4,none⟩ (.int .i64 (m.at_:Int))) W)=>by
        have:=(Es.out.old hW).setAt (m.at_ +2)
        rwa [show((m.at_ +2:Nat):Int)=(m.at_:Int)+2 by omega]at this)
       have PQ:=G (fun W (hW:Old (w0.setCell ⟨g,4,none⟩ (.int .i64 (m.at_:Int))) W)=>yj _ g r src _ A c (G7.out W hW).1 T n2 s2 hT NJ NI);unfold yv at PQ;clear WL MA T0 FT hd NR h61 NJ NI NH;go_wp2_with (first|(go_at_call_of 176 (Value.int .u8 (O:Int));refine(MT.out _ (jQ0 _ _)).mono ?_;rintro e w1 ⟨rfl,rfl⟩)|(go_at_call_of 176 (Value.int .u8 (T:Int));refine(LO.out _ (jQ0 _ _)).mono ?_;rintro e w1 ⟨rfl,rfl⟩));go_quiet (fail);go_wp2;go_quiet (fail);go_wp2_with (go_at_call 179;refine(PQ.out _ (by first|exact(jQ0 _ _).drewN _ |exact((jQ0 _ _).drewN _).drewN _)).mono ?_;rintro e w1 ⟨rfl,hI⟩);go_end0;rw[HR.out];exact⟨rfl,MStep.trans (WN.out.trans (((jQ0 (MX g r) _).old (by first|exact(jQ0 _ _).drewN _ |exact((jQ0 _ _).drewN _).drewN _)).trans (G7.out _ (by first|exact(jQ0 _ _).drewN _ |exact((jQ0 _ _).drewN _).drewN _)).2 (fun _ _ h=>h)) (fun _ _ h=>h)) (.inl rfl) hI⟩
      ·have e2:((src[m.at_ +1].toNat:Int) !=61)=true:=bne_iff_ne.2 (by omega);have HR:=G (show R=.error (m.at_ +1)by rw[MA.out,jJ5 (Y9.out Gc),jJ6 (fun h=>h61 (by rw[<-hd,h];rfl))]);clear WL MA T0 FT hd h61;go_wp2_with (first|(go_at_call_of 176 (Value.int .u8 (O:Int));refine(MT.out _ (jQ0 _ _)).mono ?_;rintro e w1 ⟨rfl,rfl⟩)|(go_at_call_of 176 (Value.int .u8 (T:Int));refine(LO.out _ (jQ0 _ _)).mono ?_;rintro e w1 ⟨rfl,rfl⟩));go_quiet (fail);go_wp2;go_quiet (fail);go_wp2;refine⟨rfl,?_⟩;rw[HR.out];exact⟨by rw[Vn,show((m.at_ +1:Nat):Int)=(m.at_:Int)+1 by omega],⟨WN.out.os,WN.out.tape,WN.out.output,WN.out.size,WN.out.block⟩⟩
def jGX:List (Nat×Nat×Nat):=[(43,70,7),(44,72,6),(45,74,5),(18,77,4),(20,79,3),(19,81,2)]
def jGh:List (Nat×Nat×Nat×Nat):=[(43,71,44,72),(44,73,45,74),(18,78,20,79),(20,80,19,81)]
inductive LstSt:Nat->List Nat->Prop
 |shut (n:Nat):LstSt n [n]
 |ex {n:Nat} {M:List Nat}:LstSt n M->LstSt n (69::M)
 |comma {n:Nat} {M:List Nat}:LstSt n M->LstSt n (8::69::M)
 |set:LstSt 5 [83,5]
 |more:LstSt 5 [84,5]
structure Got(src:LB)(st:List Nat)(r:Rdr)(ts:List Tk)(r' :Rdr)(ts' :List Tk):Prop where
 look:Look src r' ts'
 acc:Acc st ts'
 len:ts'.length<ts.length
 big:big r' +2*ts'.length<=big r+2*ts.length
structure Got0(src:LB)(st:List Nat)(r:Rdr)(ts:List Tk)(r' :Rdr)(ts' :List Tk):Prop where
 look:Look src r' ts'
 acc:Acc st ts'
 len:ts'.length<=ts.length
 big:Go.Proofs.YtmmjcbbogokmfaaGreatDoor.big r' +2*ts'.length<=Go.Proofs.YtmmjcbbogokmfaaGreatDoor.big r+2*ts.length
def jGF:Nat:=900000
structure AllOk(src:LB)(f:Nat):Prop where
 ex:∀(r:Rdr) (ts:List Tk) (st:List Nat),Look src r ts->big r+2*ts.length<=jGF->10*ts.length+8<=f->Acc (69::st) ts->∃x r' ts',exN src f .expr r=some (x,[],r')/\0<=x/\Got src st r ts r' ts'
 row:∀(l s k:Nat),(l,s,k)∈jGX->∀(r:Rdr) (ts:List Tk) (st:List Nat),Look src r ts->big r+2*ts.length<=jGF->10*ts.length+k<=f->Acc (s::st) ts->∃x r' ts',exN src f (.row l) r=some (x,[],r')/\0<=x/\Got src st r ts r' ts'
 more:∀(l s b u:Nat),(l,s,b,u)∈jGh->∀(root:Int) (r:Rdr) (ts:List Tk) (st:List Nat),0<=root->Look src r ts->big r+2*ts.length<=jGF->10*ts.length+9<=f->Acc (s::st) ts->∃x r' ts',exN src f (.more l root) r=some (x,[],r')/\0<=x/\Got0 src st r ts r' ts'
 two:∀(l s k:Nat),(l,s,k)∈jGX->∀(op root:Int) (r:Rdr) (c:Tk) (ts:List Tk) (st:List Nat),Look src r (c::ts)->big r+2*(c::ts).length<=jGF->10*(c::ts).length<=f->Acc (s::st) ts->∃x r' ts',exN src f (.two op root l) r=some (x,[],r')/\0<=x/\Got src st r (c::ts) r' ts'
 un:∀(r:Rdr) (ts:List Tk) (st:List Nat),Look src r ts->big r+2*ts.length<=jGF->10*ts.length+1<=f->Acc (81::st) ts->∃x r' ts',exN src f .unary r=some (x,[],r')/\0<=x/\Got src st r ts r' ts'
 ls:∀(last:Nat) (L:List Nat) (kids:List Int) (r:Rdr) (ts:List Tk) (st:List Nat),(last=5\/last=7)->LstSt last L->kids.length+ts.length<=900000->Look src r ts->big r+2*ts.length<=jGF->10*ts.length+9<=f->Acc (L++st) ts->∃ks r' ts',exN src f (.list last kids) r=some (0,ks,r')/\Got src st r ts r' ts'
section
variable{src:LB}{f:Nat}
end
section
variable{src:LB}{f:Nat}
end
theorem Got.zero{src:LB}{st:List Nat}{r r' :Rdr}{ts ts' :List Tk}(h:Got src st r ts r' ts'):Got0 src st r ts r' ts' :=⟨h.look,h.acc,Nat.le_of_lt h.len,h.big⟩
section
variable{src:LB}{f:Nat}
end
theorem jDA(f:Nat)(c:UInt8)(l:LB)(h:¬c.toNat=92):meantN (f+1) (c::l)=(meantN f l).map (c:: ·):=by
 rw[meantN.eq_def];exact jJ5 h
theorem jGi(f:Nat)(c:UInt8)(h:c.toNat=92):meantN (f+1) [c]=none:=by
 rw[meantN.eq_def];exact jJ6 h
def jDc(d:UInt8):UInt8:=if d.toNat=110 then 10 else if d.toNat=116 then 9 else d
theorem jGj(f:Nat)(c d:UInt8)(l:LB)(h:c.toNat=92)(hd:¬d.toNat=120):meantN (f+1) (c::d::l)=(meantN f l).map (jDc d:: ·):=by
 rw[meantN.eq_def];refine(jJ6 h).trans ?_;unfold jDc;by_cases h1:d.toNat=110
 ·simp only[jJ6 h1]
 by_cases h2:d.toNat=116
 ·simp only[jJ5 h1,jJ6 h2]
 ·simp only[jJ5 h1,jJ5 h2,jJ5 hd]
theorem jH5(f:Nat)(c d a b:UInt8)(l:LB)(h:c.toNat=92)(hd:d.toNat=120):meantN (f+1) (c::d::a::b::l)=if UG a=true/\UG b=true then(meantN f l).map (UInt8.ofNat (16*ZK a+ZK b):: ·)else none:=by
 rw[meantN.eq_def];refine(jJ6 h).trans ?_;simp only;rw[jJ5 (by omega),jJ5 (by omega),jJ6 hd]
theorem jHr(f:Nat)(c d:UInt8)(h:c.toNat=92)(hd:d.toNat=120):meantN (f+1) [c,d]=none:=by
 rw[meantN.eq_def];refine(jJ6 h).trans ?_;simp only;rw[jJ5 (by omega),jJ5 (by omega),jJ6 hd]
theorem jHq(f:Nat)(c d a:UInt8)(h:c.toNat=92)(hd:d.toNat=120):meantN (f+1) [c,d,a]=none:=by
 rw[meantN.eq_def];refine(jJ6 h).trans ?_;simp only;rw[jJ5 (by omega),jJ5 (by omega),jJ6 hd]
theorem yb{P:Program}{fn:Func}{R:Ending->World->Prop}{a:Act}{w:World}{p:Tmp}{ty:TypeId}{g:Nat}{t:TypeId}{cs:Array Value}{d:TypeDesc}(h:fn.results= #[.cell p ty])
  (hp:a.tmps.getD p undef=.pointer (some ⟨g,0,none⟩)) (hb:Blk w g t cs) (hu:P.underlying ty=some d) (hd:(match d with| .struct _ | .array _ _=>true|_=>false)=true) (hi:(P.info? ty).map (·.size)=some cs.size)
  (Cx:a.defers=[]) (hR:R (.returned (.agg cs)) w):bodyPost P fn R .ret a w:=by
 refine bodyPost_ret ?_ Cx hR;have hl:=run_loadVar_row (P:=P) w g t ty cs (0,0) d hb hu hd hi;simp only[results,h];simp only[Array.getD_eq_getD_getElem?]at hp;simp[hp,asAddr,hl]
def wpT(P:Program)(md:Region.Mode)(ops:Array Oper)(Q:Exit->Act->World->Prop)(S:World->Prop)(z:Nat):Nat->Array Bool->Act->World->Prop
 |0,listed,a,w=>Region.ready md ops listed=[]/\Q .normal a w
 |fuel+1,listed,a,w=>(Region.ready md ops listed=[]->Q .normal a w)/\∀i∈Region.ready md ops listed,wpOp P ops Q i (fun a' w' =>(i≠z->S w')/\wpT P md ops Q S z fuel (listed.setIfInBounds i true) a' w') a w
section
variable{P:Program}{ops:Array Oper}{Q:Exit->Act->World->Prop}{S:World->Prop}{md:Region.Mode}{z:Nat}
theorem wpT.any:∀(fuel:Nat) (listed:Array Bool) (a:Act) (w:World),wpT P md ops Q S z fuel listed a w->wpAny P md ops Q fuel listed a w
 |0,_,_,_,h=>h
 |fuel+1,_,_,_,h=>⟨h.1,fun i hi=>wpOp_mono (fun a' w' h' =>wpT.any fuel _ a' w' h'.2) (h.2 i hi)⟩
def ClosedT(md:Region.Mode)(ops:Array Oper)(listed:Array Bool):Prop:=∀j oj,ops[j]? =some oj->listed.getD j false=true->∀e∈oj.after,Region.binds md e=true->listed.getD e.on false=true
theorem ClosedT.set{listed:Array Bool}{i:Nat}(h:ClosedT md ops listed)(hi:i∈Region.ready md ops listed):ClosedT md ops (listed.setIfInBounds i true):=fun j oj hj hl e he hb=>by
 obtain⟨_,oi,Ax,Wt⟩:=mem_ready.1 hi;by_cases Cv:i=j
 ·subst Cv;cases jL5 (hj.symm.trans Ax);exact getD_set_true (Wt e he hb)
 ·rw[getD_set_ne false Cv]at hl;exact getD_set_true (h j oj hj hl e he hb)
theorem xt{listed:Array Bool}(hs:Region.sinkB md ops z=true)(hc:ClosedT md ops listed)(hz:z∈Region.ready md ops listed):∀(d i:Nat),z-i=d->i<z->listed.getD i false=true:=by
 intro d
 induction d using Nat.strongRecOn with
 |_ d ih=>
  intro i hd hi;obtain⟨_,oz,As,Wt⟩:=mem_ready.1 hz;obtain⟨j,hj,X7⟩:=List.any_eq_true.1 (List.all_eq_true.1 hs i (List.mem_range.2 hi));simp only[Bool.and_eq_true,decide_eq_true_eq]at X7;obtain⟨oj,RZ,e,he,hb,rfl⟩:=Region.waitsFor_spec X7.2;have AG:=List.mem_range.1 hj;by_cases MQ:j=z
  ·subst MQ;cases jL5 (RZ.symm.trans As);exact Wt e he hb
  ·exact hc j oj RZ (ih (z-j) (by omega) j rfl (by omega)) e he hb
theorem wpT.first{i:Nat}{oi:Oper}{v:Value}(hi:ops[i]? =some oi)(SD:∀(j:Nat) (o:Oper) cs b,ops[j]? =some o->o.op≠ .select cs b)
  (hQ:∀c a w,Q (.panic c) (a.put oi.dst v) w->Q (.panic c) a w) (hs:Region.sinkB md ops z=true) (Cu:i<z):
  ∀(fuel:Nat) (listed:Array Bool) (a:Act) (w:World),ClosedT md ops listed->
   (∀j oj,ops[j]? =some oj->j≠i->listed.getD j true=false->(∀e∈oj.after,Region.binds md e=true->e.on≠i)->oi.apart ops oj=true)->
   i∈Region.ready md ops listed->YieldsIf P ops S oi v a->S w->
   wpT P md ops Q S z fuel (listed.setIfInBounds i true) (a.put oi.dst v) w->wpT P md ops Q S z (fuel+1) listed a w:=by
 intro fuel
 induction fuel with
 |zero=>
  intro listed a w Nk _ hr hy hS H;refine⟨fun h=>(by rw[h]at hr;cases hr),fun j hj=> ?_⟩;by_cases hji:j=i
  ·subst hji;exact hy.wpOp hi hS ⟨fun _=>hS,H⟩
  ·have:=ready_mono hj hji;rw[H.1]at this;cases this
 |succ fuel ih=>
  intro listed a w Nk PK hr hy hS H;refine⟨fun h=>(by rw[h]at hr;cases hr),fun j hj=> ?_⟩;by_cases hji:j=i
  ·subst hji;exact hy.wpOp hi hS ⟨fun _=>hS,H⟩
  ·have MQ:j≠z:=fun e=>by
    subst e;have h1:=xt hs Nk hj _ i rfl Cu;have h0:=(mem_ready.1 hr).1;rw[getD_both h0]at h1;cases h1
   obtain⟨SU,oj,RZ,Wt⟩:=mem_ready.1 hj;have Cq:∀e∈oj.after,Region.binds md e=true->e.on≠i:=fun e he hb Ht=>by
    have h1:=Wt e he hb;have h0:=(mem_ready.1 hr).1;rw[Ht,getD_both h0]at h1;cases h1
   have h2:=wpOp_putIf RZ (PK j oj RZ hji SU Cq) (fun cs b=>SD i oi cs b hi) (fun cs b=>SD j oj cs b RZ) hQ hy (H.2 j (ready_mono hj hji));have Ri:∀k ok,ops[k]? =some ok->k≠i->(listed.setIfInBounds j true).getD k true=false->
     (∀e∈ok.after,Region.binds md e=true->e.on≠i)->oi.apart ops ok=true:=fun k ok hk Mw Am S3=>by
    refine PK k ok hk Mw ?_ S3;by_cases hjk:j=k
    ·subst hjk;exact SU
    ·rwa [getD_set_ne true hjk]at Am
   refine wpOp_mono (fun a' w' h3=>⟨fun _=>h3.2.1 MQ,ih (listed.setIfInBounds j true) a' w' (Nk.set hj) Ri (ready_mono hr (Ne.symm hji)) h3.1 (h3.2.1 MQ) ?_⟩) h2;rw[Array.setIfInBounds_comm _ _ hji];exact h3.2.2
end
section
variable{P:Program}{l:List Oper}{Q:Exit->Act->World->Prop}{S:World->Prop}{md:Region.Mode}{z n fuel i:Nat}{a:Act}{w:World}{oi:Oper}{d:Option Tmp}{v:Value}
def jBt(md:Region.Mode)(l:List Oper)(listed:Array Bool):Bool:=(List.range l.length).all fun j=> !(listed.getD j false)||match nth l j with|some oj=>oj.after.all (fun e=> !(Region.binds md e)||listed.getD e.on false)|none=>true
theorem jBs{listed:Array Bool}(h:jBt md l listed=true):ClosedT md l.toArray listed:=fun j oj hj hl e he hb=>by
 rw[<-YP]at hj;have hlt:j<l.length:=by
  rw[YP]at hj;have:=(Array.getElem?_eq_some_iff.1 hj).1;simpa using this
 have h1:=List.all_eq_true.1 h j (List.mem_range.2 hlt);rw[hl,hj]at h1;simp only[Bool.not_true,Bool.false_or]at h1;have h2:=Array.all_eq_true_iff_forall_mem.1 h1 e he;rw[hb]at h2;simpa using h2
theorem kS{id:Nat}(n:Nat)(hn:l.length=n)(hm:P.follows .mixedOrders=true)(h:wpT P .any l.toArray Q S z n (List.replicate n false).toArray a w.drew):(Code.region id l.toArray true).wp P Q a w:=by
 refine wp_region_any hm (wpT.any (S:=S) (z:=z) _ _ _ _ ?_);subst hn;simpa using h
theorem zAs{ls ls' :Array Bool}(e:ls=ls')(h:wpT P md l.toArray Q S z fuel ls' a w):wpT P md l.toArray Q S z fuel ls a w:=e▸h
theorem zOn(i:Nat){listed:Array Bool}(hi:nth l i=some oi)(hd:oi.dst=d)(hk:(decide (i<z)&&(Region.sinkB md l.toArray z&&(jBt md l listed&&chk md l listed i)))=true)
  (hQ:∀c a w,Q (.panic c) (a.put oi.dst v) w->Q (.panic c) a w) (hw:Region.wanted oi (yielded l.toArray a.tmps)=true) (hS:S w) (hy:∀w,S w->(execOp a.eval oi).run P w=.ok (.value v) w)
  (h:wpT P md l.toArray Q S z fuel (listed.setIfInBounds i true) (a.put d v) w):wpT P md l.toArray Q S z (fuel+1) listed a w:=by
 simp only[Bool.and_eq_true,decide_eq_true_eq]at hk;obtain⟨Cu,hs,hc,hk⟩:=hk;obtain⟨h1,hf,hr⟩:=jEJ hk;subst hd;have DX:=(YP l i).symm.trans hi;exact wpT.first DX (Region.noSelect_spec h1) hQ hs Cu fuel _ a w (jBs hc) (Region.free_spec DX hf) (by simpa using hr) (.inl ⟨hw,hy⟩) hS h
theorem zu(i:Nat){listed:Array Bool}(hi:nth l i=some oi)(hr:Region.ready md l.toArray listed=[i])
  (h:∀K' :Act->World->Prop,Shut (∀a w,(i≠z->S w)->wpT P md l.toArray Q S z fuel (listed.setIfInBounds i true) a w->K' a w)->if Region.wanted oi (yielded l.toArray a.tmps)=true then Oper.wp P oi a w K' Q else K' (a.put oi.dst undef) w):
  wpT P md l.toArray Q S z (fuel+1) listed a w:=by
 refine⟨fun h0=>(by rw[hr]at h0;cases h0),fun j hj=> ?_⟩;rw[hr]at hj;obtain rfl:=jM7 hj;exact wpOp_step ((YP l _).symm.trans hi) (fun K' hK=>h K' (fun a w hS k=>hK a w ⟨hS,k⟩))
theorem Yi{listed:Array Bool}(hr:Region.ready md l.toArray listed=[])(h:Q .normal a w):∀fuel,wpT P md l.toArray Q S z fuel listed a w
 |0=>⟨hr,h⟩
 |_ +1=>⟨fun _=>h,by rw[hr];simp⟩
end
open Go.RowKit Go.ChangeShapes Go.WideShapes
theorem Old.kept{W W' :World}(h:Old W W')(may:MemPlace->Prop):W.keptBut W' may:=by
 refine World.keptBut_mono (may:=fun _=>False) (fun _ f=>f.elim) (World.keptBut_none_iff.2 ⟨h.os,h.output,fun i hi=> ?_⟩);exact h.block i hi (fun f=>f)
section
variable{H:Type}{enc:TypeId×Value->H}{P:Program}
theorem uH{f:Func}{s:ChangeSpec}{apart fresh Pf again:Bool}{W W' :World}{args:Array Value}{v:Value}{ds gs:List (DataW H)}{before pa pv:List MemPlace}
  (hW:DataW.Whole enc P f.params.toList s.vars apart W args.toList ds gs before)
  (L4:∀(b:Nat) (sp:Nat->Bool) (hd:Bool),DataW.TrodAll enc P W' b sp hd f.resultTypes.toList (v.resultList f.resultTypes.size) (s.fn H (ds++gs)).results [])
  (Lm:∀sp:Nat->Bool,(∀p∈before,sp p.block=true)->DataW.TrodAll enc P W' 0 sp true f.params.toList args.toList (s.fn H (ds++gs)).args pa)
  (PH:∀sp:Nat->Bool,(∀p∈before,sp p.block=true)->DataW.TrodVars enc P W' sp s.vars (s.fn H (ds++gs)).vars pv)
  (R6:before=pa++pv) (ho:Old W W')
  (FY:∀(j:Nat) (t:TypeId) (r:Value),f.resultTypes[j]? =some t->(v.resultList f.resultTypes.size)[j]? =some r->Value.okWide P W' .any 0 t r):
  s.post enc P f apart fresh Pf again W args v W' :=by
 have Hj:∀p∈before,(fun b=>decide (b<W.heap.size)) p.block=true:=fun p hp=>(by simpa using hW.lt p hp);refine⟨ds,gs,before,[],pa,pv,hW,L4 _ _ _,Lm _ Hj,PH _ Hj,World.keptBut_mono (fun p hp=>⟨hp,?_⟩) (Old.kept ho (· ∈before)),fun _=> ?_⟩
 ·rw[R6,List.mem_append]at hp;exact Or.inr hp
 ·have hlt:=hW.lt;obtain⟨_,_,_,_,_,hz,hn⟩:=hW;refine⟨FY,_,_,([]++pa)++pv,⟨[]++pa,pv,trodAll_append (Lm _ (fun _ _=>rfl)) (L4 _ _ _),PH _ (fun _ _=>rfl),rfl,?_,?_⟩,?_⟩
  ·intro b off hp;have hm:MemPlace.cell b off∈before:=by rw[R6];simpa using hp
   rw[World.frozen?_of_block (ho.block b (hlt _ hm) (fun f=>f))];exact hz b off hm
  ·intro ha;have:=hn ha;rw[R6]at this;simpa using this
  ·intro p hp _;rw[R6];simpa using hp
end
end Go.Proofs.YtmmjcbbogokmfaaGreatDoor

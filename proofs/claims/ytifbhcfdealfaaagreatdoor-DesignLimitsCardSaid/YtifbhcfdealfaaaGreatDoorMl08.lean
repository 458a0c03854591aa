import Derived.Test.YtifbhcfdealfaaaGreatDoorMl07
set_option maxRecDepth 100000
set_option maxHeartbeats 25600000
namespace Go.Proofs.YtifbhcfdealfaaaGreatDoor
open Go.Proofs.Tryz
open Go.RowKit
def RNx(w:World)(g:Nat)(src:BA)(xs:List Value)(r' :Rdr)(e:Ending)(w' :World):Prop:=e=.returned (.tuple #[])/\Rb w' g src r' xs/\Kp (GX g) w w'
theorem JC(l:LB)(h:∀c,l.head? =some c->lfC c=true):jQ true l=jQ false l:=by
 cases l with
 |nil=>rfl
 |cons c l=>
  have hc:=h c rfl;have hb:vM c=true:=by
   have:=jM8 hc;exact jK5 (by omega)
  rw[jQ,jQ,jJ6 hc,jJ6 hb]
theorem vj(c:UInt8)(l:LB):jQ false (c::l)=if vM c=true then jQ false l+1 else if c.toNat=35 then jQ true l+1 else 0:=rfl
theorem vQ(c:UInt8)(l:LB):jQ true (c::l)=if lfC c=true then jQ false l+1 else jQ true l+1:=rfl
theorem JZ:∀(b:Bool) (l:LB),jQ b l<=l.length
 |b,[]=>by cases b<;>exact jL3 _
 |true,c::l=>by
  have:=JZ true l;have:=JZ false l;rw[vQ,jK6];split<;>omega
 |false,c::l=>by
  have:=JZ true l;have:=JZ false l;rw[vj,jK6];split
  ·omega
  ·split<;>omega
theorem Qb(l:LB):∀(b:Bool),∀c,(l.drop (jQ b l)).head? =some c->vM c=false/\¬c.toNat=35:=by
 induction l with
 |nil=>intro b c h;cases b<;>cases h
 |cons a l ih=>
  intro b c h;cases b
  ·rw[vj]at h;split at h
   ·rw[List.drop_succ_cons]at h;exact ih false c h
   ·rename_i h1;split at h
    ·rw[List.drop_succ_cons]at h;exact ih true c h
    ·rename_i h2;injection h with h;rw[<-h];exact⟨by simpa using h1,h2⟩
  ·rw[vQ]at h;split at h<;>(rw[List.drop_succ_cons]at h;exact ih _ c h)
structure SkSt(w:World)(g:Nat)(src:BA)(r:Rdr)(xs:List Value)(K:Nat)(com:Bool)(i:Nat)(W:World):Prop where
 le:i<=src.size
 eq:i+jQ com ((sb src).drop i)=K
 box:Rb W g src {r with at_:=i} xs
 kp:Kp (GX g) w W
section
variable{w W:World}{g:Nat}{src:BA}{r:Rdr}{xs:List Value}{K i:Nat}{com:Bool}
theorem SkSt.step(h:SkSt w g src r xs K com i W)(com' :Bool)(hlt:i<src.size)(he:i+1+jQ com' ((sb src).drop (i+1))=K):SkSt w g src r xs K com' (i+1) (W.setCell ⟨g,1,none⟩ (.int .i64 ((i:Int)+1))):=by
 have h1:=h.box.setAt (i+1);rw[show((i+1:Nat):Int)=(i:Int)+1 by omega]at h1;exact⟨hlt,he,h1.1,h.kp.trans h1.2 (fun _ _ h=>h)⟩
theorem SkSt.drewN(h:SkSt w g src r xs K com i W)(n:Nat):SkSt w g src r xs K com i (W.drewN n):=⟨h.le,h.eq,h.box,h.kp.drewN n⟩
def jDu(g:Nat)(W:World):Nat:=(intOf ((W.cell? ⟨g,1,none⟩).getD undef)).toNat
theorem Rb.at_{W:World}{r:Rdr}(h:Rb W g src r xs):jDu g W=r.at_:=by rw[jDu,h.c1];exact jL1 _
end
theorem jAZ(w:World)(hg:Sg w)(g:Nat)(PE:8<=g)(src:BA)(r r' :Rdr)(xs:List Value)(h:Rb w g src r xs)(ha:r.at_ <=src.size)(hs:src.size<=1000000)(hn:jc (sb src) r=some r'):
  Calls prog 150 #[.pointer (some ⟨g,0,none⟩)] w (RNx w g src xs r'):=by
 have hK:=JZ false ((sb src).drop r.at_);rw[jK8,jB]at hK;have Eh:=G (Qb ((sb src).drop r.at_) false);have H0:=G (show SkSt w g src r xs (r.at_ +jQ false ((sb src).drop r.at_)) false r.at_ w from⟨ha,rfl,h,jQ0 _ _⟩);unfold jc at hn;simp only[jB]at hn;rw[List.drop_drop]at Eh;generalize hk:r.at_ +jQ false ((sb src).drop r.at_)=K at*;have HG:=G (fun W (h:Kp (GX g) w W)=>hg.kp h (fun e:1=g=>by omega) (fun e:3=g=>by omega));clear h hg PE;go_enter func150,ntmps150;go_wp2;go_loopw [] (fun wr=>∃i,SkSt w g src r xs K false i wr) (fun wr=>src.size-jDu g wr)
 case atStart=>exact⟨_,H0.out⟩
 case round=>
  clear H0;obtain⟨i,F3⟩:=hrel;have GT:=F3.box.c0;have FI:=F3.box.c1;have hz:=F3.box.z 1;simp only at FI;have NV:=F3.eq;by_cases hlt:i<src.size
  ·have hd:=vY src i hlt;have a1:(i:Int)<(src.size:Int):=(by omega);have a2:(0:Int)<=(i:Int):=(by omega);have a3:(i:Int).toNat=i:=(by omega);have a4:IntKind.i64.wrap ((i:Int)+1)=(i:Int)+1:=jQ3 _ (by omega);rw[hd,vj]at NV;by_cases hbl:vM src[i]=true
   ·rw[jJ6 hbl]at NV;have FB:=G (fun W (h:SkSt w g src r xs K false i W)=>h.step false hlt (by omega));have MO:=jM8 hbl;have Gk:=G F3;clear F3 hbl hd NV;rcases MO with e|e|e|e
    ·have e32:((src[i].toNat:Int)==32)=true:=beq_iff_eq.2 (by omega);go_wp2;go_quiet (fail);go_wp2;go_quiet (fail);go_wp2;exact⟨⟨_,FB.out _ (Gk.out.drewN _)⟩,by rw[(FB.out _ (Gk.out.drewN _)).box.at_,Gk.out.box.at_];simp only;omega⟩
    ·have e32:((src[i].toNat:Int)==32)=false:=jM3 (by omega);have e9:((src[i].toNat:Int)==9)=true:=beq_iff_eq.2 (by omega);go_wp2;go_quiet (fail);go_wp2;go_quiet (fail);go_wp2;exact⟨⟨_,FB.out _ (Gk.out.drewN _)⟩,by rw[(FB.out _ (Gk.out.drewN _)).box.at_,Gk.out.box.at_];simp only;omega⟩
    ·have e32:((src[i].toNat:Int)==32)=false:=jM3 (by omega);have e9:((src[i].toNat:Int)==9)=false:=jM3 (by omega);have e10:((src[i].toNat:Int)==10)=true:=beq_iff_eq.2 (by omega);go_wp2;go_quiet (fail);go_wp2;go_quiet (fail);go_wp2;exact⟨⟨_,FB.out _ (Gk.out.drewN _)⟩,by rw[(FB.out _ (Gk.out.drewN _)).box.at_,Gk.out.box.at_];simp only;omega⟩
    ·have e32:((src[i].toNat:Int)==32)=false:=jM3 (by omega);have e9:((src[i].toNat:Int)==9)=false:=jM3 (by omega);have e10:((src[i].toNat:Int)==10)=false:=jM3 (by omega);have e13:((src[i].toNat:Int)==13)=true:=beq_iff_eq.2 (by omega);go_wp2;go_quiet (fail);go_wp2;go_quiet (fail);go_wp2;exact⟨⟨_,FB.out _ (Gk.out.drewN _)⟩,by rw[(FB.out _ (Gk.out.drewN _)).box.at_,Gk.out.box.at_];simp only;omega⟩
   ·rw[jJ5 hbl]at NV;have MO:¬(src[i].toNat=32\/src[i].toNat=9\/src[i].toNat=10\/src[i].toNat=13):=fun e=>hbl (jK5 e);have e32:((src[i].toNat:Int)==32)=false:=jM3 (by omega);have e9:((src[i].toNat:Int)==9)=false:=jM3 (by omega);have e10:((src[i].toNat:Int)==10)=false:=jM3 (by omega);have e13:((src[i].toNat:Int)==13)=false:=jM3 (by omega);by_cases Gv:src[i].toNat=35
    ·rw[jJ6 Gv]at NV;have e35:((src[i].toNat:Int)==35)=true:=beq_iff_eq.2 (by omega);have Tg:=G (show SkSt w g src r xs K true i wr from⟨F3.le,by rw[hd,vQ,jJ5 (by simp only[lfC];rw[jK3 (by omega)];decide)];exact NV,F3.box,F3.kp⟩);have DQ:=G F3.box.at_;clear hbl MO hd NV F3;go_wp2;go_quiet (fail);go_wp2;go_quiet (fail);go_wp2;go_loopw [] (fun wq=>∃j,i<=j/\SkSt w g src r xs K true j wq) (fun wq=>src.size-jDu g wq)
     case atStart=>exact⟨i,jL3 _,Tg.out.drewN _⟩
     case round=>
      clear Tg;obtain⟨j,IB,F3⟩:=hrel;have GT:=F3.box.c0;have FI:=F3.box.c1;have hz:=F3.box.z 1;simp only at FI;have PB:=F3.eq;by_cases Fs:j<src.size
      ·have hd:=vY src j Fs;have b1:(j:Int)<(src.size:Int):=(by omega);have b2:(0:Int)<=(j:Int):=(by omega);have b3:(j:Int).toNat=j:=(by omega);have b4:IntKind.i64.wrap ((j:Int)+1)=(j:Int)+1:=jQ3 _ (by omega);have In:=G F3.box.at_;by_cases Nm:src[j].toNat=10
       ·have AD:i<j:=by
         rcases Nat.lt_or_ge i j with h|h
         ·exact h
         ·obtain rfl:i=j:=(by omega);omega
        have WD:=G (show SkSt w g src r xs K false j wr from⟨F3.le,by rw[<-PB,JC];(intro c hc;rw[hd]at hc;injection hc with hc;rw[<-hc];exact jK5 Nm),F3.box,F3.kp⟩);have n10:((src[j].toNat:Int) !=10)=false:=by rw[bne,beq_iff_eq.2 (show(src[j].toNat:Int)=10 by omega)];rfl
        clear F3 PB hd Nm;go_wp2;go_quiet (fail);go_wp2;exact⟨⟨_,WD.out.drewN _⟩,by rw[(WD.out.drewN _).box.at_,DQ.out];simp only;omega⟩
       ·have FB:=G (fun W (h:SkSt w g src r xs K true j W)=>h.step true Fs (by rw[<-PB,hd,vQ,jJ5 (by simp only[lfC];rw[jK3 Nm];decide)];omega));have Gk:=G F3;have n10:((src[j].toNat:Int) !=10)=true:=by rw[bne,jM3 (show(src[j].toNat:Int)≠10 by omega)];rfl
        clear F3 PB hd Nm;go_wp2;go_quiet (fail);go_wp2;exact⟨⟨j+1,by omega,FB.out _ (Gk.out.drewN _)⟩,by rw[(FB.out _ (Gk.out.drewN _)).box.at_,In.out];simp only;omega⟩
      ·obtain rfl:j=src.size:=by have:=F3.le;omega
       have WD:=G (show SkSt w g src r xs K false src.size wr from⟨F3.le,by rw[<-PB,JC];(intro c hc;rw[List.drop_eq_nil_of_le (by rw[jB];exact jL3 _)]at hc;cases hc),F3.box,F3.kp⟩);have b1:¬(src.size:Int)<(src.size:Int):=(by omega);clear F3 PB;go_wp2;go_quiet (fail);go_wp2;exact⟨⟨_,WD.out.drewN _⟩,by rw[(WD.out.drewN _).box.at_,DQ.out];simp only;omega⟩
    ·have hK:K=i:=by rw[jJ5 Gv]at NV;omega
     subst hK;have e35:((src[K].toNat:Int)==35)=false:=jM3 (by omega);rw[jJ5 (by omega)]at hn;obtain⟨x,hx,he⟩:=jM4 hn;have HF:=G (fun n=>(F3.drewN n).box.setFrom K);have HK:=G F3.kp;have b2:((K:Int)==(src.size:Int))=false:=jM3 (by omega);have FU:=F3.box.z 2;have Fm:=F3.box.c2;have Hw:=G (fun W=>kw W src[K]);unfold bv at Hw;rw[hd,qa]at hx;clear F3 NV hbl MO Gv Eh a4;by_cases hw:jR src[K]=true
     ·rw[jJ6 hw]at hx;injection hx with hx;rw[hw]at Hw;have hl:((sb src).drop K).length=src.size-K:=(by rw[jK8,jB]);have hT:=jAA jR ((sb src).drop K);have hE:=qz jR ((sb src).drop K);have Ni:=yQ jR ((sb src).drop K);have DH:(((sb src).drop K).takeWhile jR).length<=src.size-K:=by rw[<-hl];exact kt _ _
      have AW:0<(((sb src).drop K).takeWhile jR).length:=by rw[hd];exact kV jR _ _ hw
      rw[hl]at hE;rw[<-hd]at hx
      try simp only at hx
      generalize hTT:(((sb src).drop K).takeWhile jR).length=T at*;have Nf:sb (src.extract K (K+T))=((sb src).drop K).takeWhile jR:=(by rw[jt,show K+T-K=T by omega,<-Ni]);rw[<-Nf]at hx;have HT:=G (show∀k,k<T->∃Fz:K+k<src.size,jR src[K+k]=true from fun k hk=>by
       obtain⟨c,h1,h2⟩:=hT k hk;obtain⟨h3,h4⟩:=Jl src K k c h1;exact⟨h3,by rw[h4];exact h2⟩)
      have HE:=G (show T<src.size-K->∃Fz:K+T<src.size,jR src[K+T]=false from fun hlt=>by
       obtain⟨c,h1,h2⟩:=hE hlt;obtain⟨h3,h4⟩:=Jl src K T c h1;exact⟨h3,by rw[h4];exact h2⟩)
      have FK:(src.extract K (K+T)).size=T:=(by rw[<-jB,Nf,hTT]);have HN:=G (fun W (h:Sg W)=>Jg W h (src.extract K (K+T)) (by omega));have Hx:=G hx;have Nh:=G he;clear hl hT hE Ni hTT Nf hx hd he hw hn FK;go_wp2;go_quiet (fail);go_wp2;go_quiet (fail);go_wp2;generalize hQ:World.setCell _ _ _=Q;have hX:Rb Q g src {r with at_:=K,from_:=K} xs/\Kp (GX g) w Q:=by
       rw[<-hQ];exact⟨(HF.out _).1,(HK.out.drewN _).trans (HF.out _).2 (fun _ _ e=>e)⟩
      have GT:=hX.1.c0;have FI:=hX.1.c1;simp only at FI;have HX:=G hX;clear hQ HF HK hX;go_quiet (fail);go_wp2;go_quiet (fail);go_wp2_with (go_at_call 165;refine(Hw.out _).mono ?_;rintro e w1 ⟨rfl,rfl⟩);clear GT FI Fm FU hz;go_loopw [] (fun wq=>∃j:Nat,j<=T/\Rb wq g src {r with at_:=K+j,from_:=K} xs/\Kp (GX g) w wq) (fun wq=>src.size-jDu g wq)
      case atStart=>exact⟨0,Nat.zero_le _,HX.out.1.drewN _,HX.out.2.drewN _⟩
      case round=>
       clear HX;obtain⟨j,hj,hb,Ga⟩:=hrel;have GT:=hb.c0;have FI:=hb.c1;have Fv:=hb.z 1;simp only at FI;have Hb:=G hb;have Fl:=G Ga;by_cases hjT:j<T
       ·obtain⟨Fz,Fo⟩:=HT.out j hjT;have Pa:=G (fun W=>kw W src[K+j]);unfold bv at Pa;rw[Fo]at Pa;have Wf:=hb;have Wf:=G (fun n=>(Wf.drewN n).setAt (K+j+1));rw[show((K+j+1:Nat):Int)=((K+j:Nat):Int)+1 by omega]at Wf;have MZ:=G hb.at_;clear Fo hb Ga;have f1:((K+j:Nat):Int)<(src.size:Int):=(by omega);have f2:(0:Int)<=((K+j:Nat):Int):=(by omega);have f3:((K+j:Nat):Int).toNat=K+j:=(by omega);have f4:IntKind.i64.wrap (((K+j:Nat):Int)+1)=((K+j:Nat):Int)+1:=jQ3 _ (by omega);generalize hp:K+j=p at*;go_wp2;go_quiet ((go_at_call 165;exact Calls.quiet_of_same ((Pa.out _).mono (fun _ _ h=>⟨h.1,h.2.symm⟩))));go_wp2;subst hp;exact⟨⟨j+1,by omega,(Wf.out _).1,(Fl.out.drewN _).trans (Wf.out _).2 (fun _ _ e=>e)⟩,by rw[(Wf.out _).1.at_,MZ.out];simp only;omega⟩
       ·obtain rfl:j=T:=(by omega);have HL:=G (fun n=>Ji (wr.drewN n) g src {r with at_:=K+j,from_:=K} xs (hb.drewN n) (by simp only;omega) (by simp only;omega));simp only at HL;have Tp:=G (fun n=>HG.out (wr.drewN n) (Ga.drewN n));have Fq:=hb.c3;have Ww:=hb.z 3;have Pt:(jv (sb (src.extract K (K+j))):Int)=(x.2:Int):=(by rw[<-Hx.out]);have C6:=G (show x.1=j by rw[<-Hx.out]);rw[Pt]at HN;clear hb Ga Pt Hx HT;generalize hsx:src.extract K (K+j)=sy at*;by_cases Fw:K+j=src.size
        ·have f1:¬((K+j:Nat):Int)<(src.size:Int):=(by omega);go_wp2;go_quiet (fail);go_wp2_with (first|(go_at_call 209;refine(HL.out _).mono ?_;rintro e w1 ⟨rfl,nl,rfl⟩)|(go_at_call 208;refine(HN.out _ (by first|exact(Tp.out _).old ((jQ0 _ _).drewN _)|exact Tp.out _)).mono ?_;rintro e w1 ⟨rfl,rfl⟩));go_end0;rw[<-Nh.out,C6.out];exact⟨rfl,((Hb.out.drewN _).setT _).1,(Fl.out.drewN _).trans ((Hb.out.drewN _).setT _).2 (fun _ _ e=>e)⟩
        ·have f1:((K+j:Nat):Int)<(src.size:Int):=(by omega);have f2:(0:Int)<=((K+j:Nat):Int):=(by omega);have f3:((K+j:Nat):Int).toNat=K+j:=(by omega);obtain⟨Fz,Fo⟩:=HE.out (by omega);have Pa:=G (fun W=>kw W src[K+j]);unfold bv at Pa;rw[Fo]at Pa;clear Fo HE;generalize hp:K+j=p at*;go_wp2;go_quiet ((go_at_call 165;exact Calls.quiet_of_same ((Pa.out _).mono (fun _ _ h=>⟨h.1,h.2.symm⟩))));go_wp2_with (first|(go_at_call 209;refine(HL.out _).mono ?_;rintro e w1 ⟨rfl,nl,rfl⟩)|(go_at_call 208;refine(HN.out _ (by first|exact(Tp.out _).old ((jQ0 _ _).drewN _)|exact Tp.out _)).mono ?_;rintro e w1 ⟨rfl,rfl⟩));go_end0;subst hp;rw[<-Nh.out,C6.out];exact⟨rfl,((Hb.out.drewN _).setT _).1,(Fl.out.drewN _).trans ((Hb.out.drewN _).setT _).2 (fun _ _ e=>e)⟩
     ·rw[jJ5 hw]at hx;rw[show jR src[K]=false from by simpa using hw]at Hw;by_cases h34:src[K].toNat=34
      ·rw[jJ6 h34]at hx;obtain⟨q,hq,e⟩:=jM4 hx;have e34:((src[K].toNat:Int)==34)=true:=beq_iff_eq.2 (by omega);have Nh:=G (show({r with at_:=K+1+q,from_:=K,t:=3}:Rdr)=r' by rw[<-he,<-e,show K+1+q=K+(q+1)by omega]);have Hq:=G hq;clear hx he e hq hw h34 hd hn;have f4:IntKind.i64.wrap ((K:Int)+1)=(K:Int)+1:=jQ3 _ (by omega);go_wp2;go_quiet (fail);go_wp2;go_quiet (fail);go_wp2;generalize hQ:World.setCell _ _ _=Q;have hX:Rb Q g src {r with at_:=K,from_:=K} xs/\Kp (GX g) w Q:=by
        rw[<-hQ];exact⟨(HF.out _).1,(HK.out.drewN _).trans (HF.out _).2 (fun _ _ e=>e)⟩
       have GT:=hX.1.c0;have FI:=hX.1.c1;have Fv:=hX.1.z 1;simp only at FI;have HX:=G hX;clear hQ HF HK hX;go_quiet (fail);go_wp2;go_quiet (fail);go_wp2_with (go_at_call 165;refine(Hw.out _).mono ?_;rintro e w1 ⟨rfl,rfl⟩);generalize hQ2:World.setCell _ _ _=Q2;have HY:=G (show Rb Q2 g src {r with at_:=K+1,from_:=K} xs/\Kp (GX g) w Q2 by
        have h:=fun n=>(HX.out.1.drewN n).setAt (K+1);rw[show((K+1:Nat):Int)=(K:Int)+1 by omega]at h;rw[<-hQ2];exact⟨(h _).1,(HX.out.2.drewN _).trans (h _).2 (fun _ _ e=>e)⟩)
       clear hQ2 HX GT FI Fv;go_loopw [] (fun wq=>∃j p:Nat,strLen ((sb src).drop j)=some p/\j+p=K+1+q/\j<=src.size/\Rb wq g src {r with at_:=j,from_:=K} xs/\Kp (GX g) w wq) (fun wq=>src.size-jDu g wq)
       case atStart=>exact⟨K+1,q,Hq.out,rfl,by omega,HY.out.1,HY.out.2⟩
       case round=>
        clear HY;obtain⟨j,p,hp,AA,IA,hb,Ga⟩:=hrel;have GT:=hb.c0;have FI:=hb.c1;have Fv:=hb.z 1;simp only at FI;have Fq:=hb.c3;have Ww:=hb.z 3;have MZ:=G hb.at_;have Fs:j<src.size:=by
         rcases Nat.lt_or_ge j src.size with h|h
         ·exact h
         ·rw[List.drop_eq_nil_of_le (by rw[jB];exact h),strLen]at hp;cases hp
        have hd:=vY src j Fs;have f1:(j:Int)<(src.size:Int):=(by omega);have f2:(0:Int)<=(j:Int):=(by omega);have f3:(j:Int).toNat=j:=(by omega);have f5:IntKind.i64.wrap ((j:Int)+1)=(j:Int)+1:=jQ3 _ (by omega);rw[hd]at hp;have Wt:=G (fun n=>(hb.drewN n).setAt (j+1));rw[show((j+1:Nat):Int)=(j:Int)+1 by omega]at Wt;have Fl:=G Ga;clear hb Ga;by_cases h3:src[j].toNat=34
        ·have n34:((src[j].toNat:Int) !=34)=false:=by rw[bne,beq_iff_eq.2 (show(src[j].toNat:Int)=34 by omega)];rfl
         have GM:p=1:=by
          have e:strLen (src[j]::(sb src).drop (j+1))=some 1:=by
           rw[strLen.eq_def];simp only;rw[jJ6 h3]
          rw[e]at hp;injection hp with hp;exact hp.symm
         subst GM;rw[<-AA]at Nh;clear hp hd h3 Hq;go_wp2;go_quiet (fail);go_wp2;go_end0;rw[<-Nh.out];exact⟨rfl,((Wt.out _).1.setT 3).1,((Fl.out.drewN _).trans (Wt.out _).2 (fun _ _ e=>e)).trans ((Wt.out _).1.setT 3).2 (fun _ _ e=>e)⟩
        ·have n34:((src[j].toNat:Int) !=34)=true:=by rw[bne,jM3 (show(src[j].toNat:Int)≠34 by omega)];rfl
         rw[strLen.eq_def]at hp;simp only at hp;rw[jJ5 h3]at hp;clear Fq Ww;by_cases h92:src[j].toNat=92
         ·rw[jJ6 h92]at hp;have e92:((src[j].toNat:Int)==92)=true:=beq_iff_eq.2 (by omega);have AC:j+1<src.size:=by
           rcases Nat.lt_or_ge (j+1) src.size with h|h
           ·exact h
           ·rw[List.drop_eq_nil_of_le (by rw[jB];exact h)]at hp;cases hp
          rw[vY src (j+1) AC]at hp;simp only at hp;obtain⟨p2,FW,e2⟩:=jM4 hp;have f6:IntKind.i64.wrap ((j:Int)+1+1)=(j:Int)+1+1:=jQ3 _ (by omega);have WA:=G FW;have Wg:=G (fun n=>(Wt.out n).1.setAt (j+1+1));rw[show((j+1+1:Nat):Int)=(j:Int)+1+1 by omega]at Wg;clear hp FW hd h3 h92;go_wp2;go_quiet (fail);go_wp2;go_quiet (fail);go_wp2;exact⟨⟨j+1+1,p2,WA.out,by omega,by omega,(Wg.out _).1,((Fl.out.drewN _).trans (Wt.out _).2 (fun _ _ e=>e)).trans (Wg.out _).2 (fun _ _ e=>e)⟩,by rw[(Wg.out _).1.at_,MZ.out];simp only;omega⟩
         ·rw[jJ5 h92]at hp;have e92:((src[j].toNat:Int)==92)=false:=jM3 (by omega);obtain⟨p2,FW,e2⟩:=jM4 hp;have WA:=G FW;clear hp FW hd h3 h92;go_wp2;go_quiet (fail);go_wp2;go_quiet (fail);go_wp2;exact⟨⟨j+1,p2,WA.out,by omega,by omega,(Wt.out _).1,(Fl.out.drewN _).trans (Wt.out _).2 (fun _ _ e=>e)⟩,by rw[(Wt.out _).1.at_,MZ.out];simp only;omega⟩
      ·rw[jJ5 h34]at hx;have e34:((src[K].toNat:Int)==34)=false:=jM3 (by omega);have f4:IntKind.i64.wrap ((K:Int)+1)=(K:Int)+1:=jQ3 _ (by omega);have Nf:sb (src.extract K (K+1))=[src[K]]:=by rw[jt,show K+1-K=1 by omega,hd];rfl
       have FK:(src.extract K (K+1)).size=1:=by rw[<-jB,Nf];rfl
       have HL:=G (fun W t (h:Rb W g src {r with at_:=K+1,from_:=K,t:=t} xs)=>Ji W g src {r with at_:=K+1,from_:=K,t:=t} xs h (by simp only;omega) (by simp only;omega));simp only at HL;have Er:=G (fun W (h:Sg W)=>JF W h (src.extract K (K+1)));have FR:=G (fun W (h:Sg W)=>JF W h (src.extract K (K+1)++⟨#[61]⟩));have AT:=fun w=>run_string_add_sum (P:=prog) w (src.extract K (K+1)) ⟨#[61]⟩ (by show _ +1<=_;omega);rw[Yr,Nf,show sb ⟨#[61]⟩=[61]from rfl,List.singleton_append]at FR;rw[Nf]at Er;have Gk:=G (fun W (h:Rb W g src {r with at_:=K+1,from_:=K} xs)=>h.setT (jf [src[K]]));generalize src.extract K (K+1)=sy at*;have Fx:=kD [src[K]];have EW:=kD [src[K],61];have Hx:=G hx;have He:=G he;generalize NO:jf [src[K]]=s1 at*;generalize W8:jf [src[K],61]=s2 at*;have Hd:=G (fun h:K+1<src.size=>vY src (K+1) h);clear hx he hw h34 hd hn Nf NO W8;go_wp2;go_quiet (fail);go_wp2;go_quiet (fail);go_wp2;generalize hQ:World.setCell _ _ _=Q;have hX:Rb Q g src {r with at_:=K,from_:=K} xs/\Kp (GX g) w Q:=by
        rw[<-hQ];exact⟨(HF.out _).1,(HK.out.drewN _).trans (HF.out _).2 (fun _ _ e=>e)⟩
       have GT:=hX.1.c0;have FI:=hX.1.c1;have Fv:=hX.1.z 1;have Fq:=hX.1.c3;have Ww:=hX.1.z 3;simp only at FI Fq;have HX:=G hX;have HY:=hX;have HY:=G (fun n=>(HY.1.drewN n).setAt (K+1));rw[show((K+1:Nat):Int)=(K:Int)+1 by omega]at HY;have Mg:=G (fun n=>((HX.out.2.drewN n).trans (HY.out n).2 (fun _ _ e=>e)));clear hQ HF HK hX;go_quiet (fail);go_wp2;go_quiet (fail);go_wp2_with (first|(go_at_call 165;refine(Hw.out _).mono ?_;rintro e w1 ⟨rfl,rfl⟩)|(go_at_call 209;refine(HL.out _ _ (HY.out _).1).mono ?_;rintro e w1 ⟨rfl,nl,rfl⟩)|(go_at_call 210;refine(Er.out _ ((HG.out _ (Mg.out _)).old ((jQ0 _ _).drewN _))).mono ?_;rintro e w1 ⟨rfl,rfl⟩));generalize hQ3:World.setCell _ _ _=Q3;have LX:Rb Q3 g src {r with at_:=K+1,from_:=K,t:=s1} xs/\Kp (GX g) w Q3:=by
        have hh:=fun n m=>Gk.out _ ((HY.out n).1.drewN m);rw[<-hQ3];exact⟨(hh _ _).1,((Mg.out _).drewN _).trans (hh _ _).2 (fun _ _ e=>e)⟩
       clear hQ3 HX HY Mg Gk GT FI Fq Fv Ww;have GT:=LX.1.c0;have FI:=LX.1.c1;have Fv:=LX.1.z 1;have Fq:=LX.1.c3;have Ww:=LX.1.z 3;simp only at FI Fq;have Nw:=G LX;clear LX;have q1:((K+1:Nat):Int)=(K:Int)+1:=(by omega);rw[q1]at FI;by_cases Fw:K+1=src.size
       ·have g1:¬(K:Int)+1<(src.size:Int):=(by omega);have Hf:=G (show x=(1,s1)by
         have h:=Hx.out;rw[List.drop_eq_nil_of_le (by rw[jB];omega),jJ5 (fun h=>absurd h.1 (by decide))]at h;injection h with h;exact h.symm)
        clear Hx;go_quiet (fail);go_wp2;go_end0;rw[<-He.out,Hf.out];exact⟨rfl,Nw.out.1.drewN _,Nw.out.2.drewN _⟩
       ·have M9:K+1<src.size:=(by omega);have SS:=Hd.out M9;have MV:=Hx;have MV:=G MV.out;rw[SS,List.headD_cons]at MV;clear Hx SS;have g1:(K:Int)+1<(src.size:Int):=(by omega);have g2:(0:Int)<=(K:Int)+1:=(by omega);have g3:((K:Int)+1).toNat=K+1:=(by omega);by_cases Gr:src[K+1].toNat=61
        ·have e61:((src[K+1].toNat:Int)==61)=true:=beq_iff_eq.2 (by omega);have P8:src[K+1]=61:=UInt8.toNat_inj.1 Gr;by_cases h2:s2=0
         ·have Hf:=G (show x=(1,s1)by
           have h:=MV.out;rw[jJ5 (fun h=>h.2 h2)]at h;injection h with h;exact h.symm)
          have e2:((s2:Int) !=0)=false:=by rw[h2];rfl
          clear MV Gr P8 h2;go_quiet (fail);go_wp2_with (first|(go_at_call 209;refine(HL.out _ _ (Nw.out.1.drewN _)).mono ?_;rintro e w1 ⟨rfl,nl,rfl⟩)|(go_at_call 210;refine(FR.out _ (HG.out _ (Nw.out.2.drewN _))).mono ?_;rintro e w1 ⟨rfl,rfl⟩));go_end0;rw[<-He.out,Hf.out];exact⟨rfl,Nw.out.1.drewN _,Nw.out.2.drewN _⟩
         ·have Hf:=G (show x=(2,s2)by
           have h:=MV.out;rw[jJ6 ⟨P8,h2⟩]at h;injection h with h;exact h.symm)
          have e2:((s2:Int) !=0)=true:=by rw[bne,jM3 (show(s2:Int)≠0 by omega)];rfl
          have f6:IntKind.i64.wrap ((K:Int)+1+1)=(K:Int)+1+1:=jQ3 _ (by omega);have HZ:=G (fun n=>((Nw.out.1.drewN n).setT s2).1.setAt (K+2));have By:=G (fun n=>((Nw.out.1.drewN n).setT s2).2);rw[show((K+2:Nat):Int)=(K:Int)+1+1 by omega]at HZ;clear MV Gr P8 h2;go_quiet (fail);go_wp2_with (first|(go_at_call 209;refine(HL.out _ _ (Nw.out.1.drewN _)).mono ?_;rintro e w1 ⟨rfl,nl,rfl⟩)|(go_at_call 210;refine(FR.out _ (HG.out _ (Nw.out.2.drewN _))).mono ?_;rintro e w1 ⟨rfl,rfl⟩));go_end0;rw[<-He.out,Hf.out];exact⟨rfl,(HZ.out _).1,((Nw.out.2.drewN _).trans (By.out _) (fun _ _ e=>e)).trans (HZ.out _).2 (fun _ _ e=>e)⟩
        ·have Hf:=G (show x=(1,s1)by
          have h:=MV.out;rw[jJ5 (fun h=>Gr (by rw[h.1];rfl))]at h;injection h with h;exact h.symm)
         have e61:((src[K+1].toNat:Int)==61)=false:=jM3 (by omega);clear MV Gr;go_quiet (fail);go_wp2;go_end0;rw[<-He.out,Hf.out];exact⟨rfl,Nw.out.1.drewN _,Nw.out.2.drewN _⟩
  ·obtain rfl:i=src.size:=by have:=F3.le;omega
   have hK:K=src.size:=by rw[<-NV,List.drop_eq_nil_of_le (by rw[jB];exact jL3 _)];rfl
   subst hK;rw[jJ6 (jL3 _)]at hn;injection hn with hn;have HF:=G (fun n=>(F3.drewN n).box.setFrom src.size);have HK:=G F3.kp;have b1:¬(src.size:Int)<(src.size:Int):=(by omega);have b2:((src.size:Int)==(src.size:Int))=true:=beq_iff_eq.2 rfl;have FU:=F3.box.z 2;have Fm:=F3.box.c2;clear F3 NV hlt;go_wp2;go_quiet (fail);go_wp2;generalize hQ:World.setCell _ _ _=Q;have hX:Rb Q g src {r with at_:=src.size,from_:=src.size} xs/\Kp (GX g) w Q:=by
    rw[<-hQ];exact⟨(HF.out _).1,(HK.out.drewN _).trans (HF.out _).2 (fun _ _ e=>e)⟩
   have GT:=hX.1.c0;have FI:=hX.1.c1;simp only at FI;clear hQ HF;go_quiet (fail);go_wp2;go_end0;subst hn;exact⟨rfl,hX.1.drewN _,hX.2.drewN _⟩
end Go.Proofs.YtifbhcfdealfaaaGreatDoor

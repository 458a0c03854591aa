import Derived.Test.YtmmjcbbogokmfaaGreatDoorMp07
set_option maxRecDepth 100000
set_option maxHeartbeats 25600000
namespace Go.Proofs.YtmmjcbbogokmfaaGreatDoor
open Go.Proofs.Tryz
open Go.RowKit
def RNx(w:World)(g:Nat)(src:BA)(xs:List Value)(r' :Rdr)(e:Ending)(w' :World):Prop:=e=.returned (.tuple #[])/\Rb w' g src r' xs/\Kp (GX g) w w'
theorem KA(l:LB)(h:∀c,l.head? =some c->lfC c=true):kD true l=kD false l:=by
 cases l with
 |nil=>rfl
 |cons c l=>
  have hc:=h c rfl;have hb:VU c=true:=by
   have:=jM8 hc;exact jK5 (by omega)
  rw[kD,kD,jJ6 hc,jJ6 hb]
theorem yl(c:UInt8)(l:LB):kD false (c::l)=if VU c=true then kD false l+1 else if c.toNat=35 then kD true l+1 else 0:=rfl
theorem yF(c:UInt8)(l:LB):kD true (c::l)=if lfC c=true then kD false l+1 else kD true l+1:=rfl
theorem Km:∀(b:Bool) (l:LB),kD b l<=l.length
 |b,[]=>by cases b<;>exact jL3 _
 |true,c::l=>by
  have:=Km true l;have:=Km false l;rw[yF,jK6];split<;>omega
 |false,c::l=>by
  have:=Km true l;have:=Km false l;rw[yl,jK6];split
  ·omega
  ·split<;>omega
theorem Uu(l:LB):∀(b:Bool),∀c,(l.drop (kD b l)).head? =some c->VU c=false/\¬c.toNat=35:=by
 induction l with
 |nil=>intro b c h;cases b<;>cases h
 |cons a l ih=>
  intro b c h;cases b
  ·rw[yl]at h;split at h
   ·rw[List.drop_succ_cons]at h;exact ih false c h
   ·rename_i h1;split at h
    ·rw[List.drop_succ_cons]at h;exact ih true c h
    ·rename_i h2;injection h with h;rw[<-h];exact⟨by simpa using h1,h2⟩
  ·rw[yF]at h;split at h<;>(rw[List.drop_succ_cons]at h;exact ih _ c h)
structure SkSt(w:World)(g:Nat)(src:BA)(r:Rdr)(xs:List Value)(K:Nat)(com:Bool)(i:Nat)(W:World):Prop where
 le:i<=src.size
 eq:i+kD com ((sb src).drop i)=K
 box:Rb W g src {r with at_:=i} xs
 kp:Kp (GX g) w W
section
variable{w W:World}{g:Nat}{src:BA}{r:Rdr}{xs:List Value}{K i:Nat}{com:Bool}
theorem SkSt.step(h:SkSt w g src r xs K com i W)(com' :Bool)(hlt:i<src.size)(he:i+1+kD com' ((sb src).drop (i+1))=K):SkSt w g src r xs K com' (i+1) (W.setCell ⟨g,1,none⟩ (.int .i64 ((i:Int)+1))):=by
 have h1:=h.box.setAt (i+1);rw[show((i+1:Nat):Int)=(i:Int)+1 by omega]at h1;exact⟨hlt,he,h1.1,h.kp.trans h1.2 (fun _ _ h=>h)⟩
theorem SkSt.drewN(h:SkSt w g src r xs K com i W)(n:Nat):SkSt w g src r xs K com i (W.drewN n):=⟨h.le,h.eq,h.box,h.kp.drewN n⟩
def jGD(g:Nat)(W:World):Nat:=(intOf ((W.cell? ⟨g,1,none⟩).getD undef)).toNat
theorem Rb.at_{W:World}{r:Rdr}(h:Rb W g src r xs):jGD g W=r.at_:=by rw[jGD,h.c1];exact jL1 _
end
theorem jC2(w:World)(hg:Sg w)(g:Nat)(X8:8<=g)(src:BA)(r r' :Rdr)(xs:List Value)(h:Rb w g src r xs)(ha:r.at_ <=src.size)(hs:src.size<=1000000)(hn:kA (sb src) r=some r'):
  Calls prog 135 #[.pointer (some ⟨g,0,none⟩)] w (RNx w g src xs r'):=by
 have hK:=Km false ((sb src).drop r.at_);rw[jK8,jB]at hK;have Tp:=G (Uu ((sb src).drop r.at_) false);have H0:=G (show SkSt w g src r xs (r.at_ +kD false ((sb src).drop r.at_)) false r.at_ w from⟨ha,rfl,h,jQ0 _ _⟩);unfold kA at hn;simp only[jB]at hn;rw[List.drop_drop]at Tp;generalize hk:r.at_ +kD false ((sb src).drop r.at_)=K at*;have HG:=G (fun W (h:Kp (GX g) w W)=>hg.kp h (fun e:0=g=>by omega) (fun e:2=g=>by omega));clear h hg X8;go_enter func135,ntmps135;go_wp2;go_loopw [] (fun wr=>∃i,SkSt w g src r xs K false i wr) (fun wr=>src.size-jGD g wr)
 case atStart=>exact⟨_,H0.out⟩
 case round=>
  clear H0;obtain⟨i,Hv⟩:=hrel;have Nl:=Hv.box.c0;have G6:=Hv.box.c1;have hz:=Hv.box.z 1;simp only at G6;have Mw:=Hv.eq;by_cases hlt:i<src.size
  ·have hd:=yB src i hlt;have a1:(i:Int)<(src.size:Int):=(by omega);have a2:(0:Int)<=(i:Int):=(by omega);have a3:(i:Int).toNat=i:=(by omega);have a4:IntKind.i64.wrap ((i:Int)+1)=(i:Int)+1:=jQ3 _ (by omega);rw[hd,yl]at Mw;by_cases MR:VU src[i]=true
   ·rw[jJ6 MR]at Mw;have G7:=G (fun W (h:SkSt w g src r xs K false i W)=>h.step false hlt (by omega));have Pa:=jM8 MR;have Gg:=G Hv;clear Hv MR hd Mw;rcases Pa with e|e|e|e
    ·have e32:((src[i].toNat:Int)==32)=true:=beq_iff_eq.2 (by omega);go_wp2;go_quiet (fail);go_wp2;go_quiet (fail);go_wp2;exact⟨⟨_,G7.out _ (Gg.out.drewN _)⟩,by rw[(G7.out _ (Gg.out.drewN _)).box.at_,Gg.out.box.at_];simp only;omega⟩
    ·have e32:((src[i].toNat:Int)==32)=false:=jM3 (by omega);have e9:((src[i].toNat:Int)==9)=true:=beq_iff_eq.2 (by omega);go_wp2;go_quiet (fail);go_wp2;go_quiet (fail);go_wp2;exact⟨⟨_,G7.out _ (Gg.out.drewN _)⟩,by rw[(G7.out _ (Gg.out.drewN _)).box.at_,Gg.out.box.at_];simp only;omega⟩
    ·have e32:((src[i].toNat:Int)==32)=false:=jM3 (by omega);have e9:((src[i].toNat:Int)==9)=false:=jM3 (by omega);have e10:((src[i].toNat:Int)==10)=true:=beq_iff_eq.2 (by omega);go_wp2;go_quiet (fail);go_wp2;go_quiet (fail);go_wp2;exact⟨⟨_,G7.out _ (Gg.out.drewN _)⟩,by rw[(G7.out _ (Gg.out.drewN _)).box.at_,Gg.out.box.at_];simp only;omega⟩
    ·have e32:((src[i].toNat:Int)==32)=false:=jM3 (by omega);have e9:((src[i].toNat:Int)==9)=false:=jM3 (by omega);have e10:((src[i].toNat:Int)==10)=false:=jM3 (by omega);have e13:((src[i].toNat:Int)==13)=true:=beq_iff_eq.2 (by omega);go_wp2;go_quiet (fail);go_wp2;go_quiet (fail);go_wp2;exact⟨⟨_,G7.out _ (Gg.out.drewN _)⟩,by rw[(G7.out _ (Gg.out.drewN _)).box.at_,Gg.out.box.at_];simp only;omega⟩
   ·rw[jJ5 MR]at Mw;have Pa:¬(src[i].toNat=32\/src[i].toNat=9\/src[i].toNat=10\/src[i].toNat=13):=fun e=>MR (jK5 e);have e32:((src[i].toNat:Int)==32)=false:=jM3 (by omega);have e9:((src[i].toNat:Int)==9)=false:=jM3 (by omega);have e10:((src[i].toNat:Int)==10)=false:=jM3 (by omega);have e13:((src[i].toNat:Int)==13)=false:=jM3 (by omega);by_cases h35:src[i].toNat=35
    ·rw[jJ6 h35]at Mw;have e35:((src[i].toNat:Int)==35)=true:=beq_iff_eq.2 (by omega);have Ew:=G (show SkSt w g src r xs K true i wr from⟨Hv.le,by rw[hd,yF,jJ5 (by simp only[lfC];rw[jK3 (by omega)];decide)];exact Mw,Hv.box,Hv.kp⟩);have Ej:=G Hv.box.at_;clear MR Pa hd Mw Hv;go_wp2;go_quiet (fail);go_wp2;go_quiet (fail);go_wp2;go_loopw [] (fun wq=>∃j,i<=j/\SkSt w g src r xs K true j wq) (fun wq=>src.size-jGD g wq)
     case atStart=>exact⟨i,jL3 _,Ew.out.drewN _⟩
     case round=>
      clear Ew;obtain⟨j,Cv,Hv⟩:=hrel;have Nl:=Hv.box.c0;have G6:=Hv.box.c1;have hz:=Hv.box.z 1;simp only at G6;have LM:=Hv.eq;by_cases X6:j<src.size
      ·have hd:=yB src j X6;have b1:(j:Int)<(src.size:Int):=(by omega);have b2:(0:Int)<=(j:Int):=(by omega);have b3:(j:Int).toNat=j:=(by omega);have b4:IntKind.i64.wrap ((j:Int)+1)=(j:Int)+1:=jQ3 _ (by omega);have Ih:=G Hv.box.at_;by_cases GK:src[j].toNat=10
       ·have AI:i<j:=by
         rcases Nat.lt_or_ge i j with h|h
         ·exact h
         ·obtain rfl:i=j:=(by omega);omega
        have Q1:=G (show SkSt w g src r xs K false j wr from⟨Hv.le,by rw[<-LM,KA];(intro c hc;rw[hd]at hc;injection hc with hc;rw[<-hc];exact jK5 GK),Hv.box,Hv.kp⟩);have n10:((src[j].toNat:Int) !=10)=false:=by rw[bne,beq_iff_eq.2 (show(src[j].toNat:Int)=10 by omega)];rfl
        clear Hv LM hd GK;go_wp2;go_quiet (fail);go_wp2;exact⟨⟨_,Q1.out.drewN _⟩,by rw[(Q1.out.drewN _).box.at_,Ej.out];simp only;omega⟩
       ·have G7:=G (fun W (h:SkSt w g src r xs K true j W)=>h.step true X6 (by rw[<-LM,hd,yF,jJ5 (by simp only[lfC];rw[jK3 GK];decide)];omega));have Gg:=G Hv;have n10:((src[j].toNat:Int) !=10)=true:=by rw[bne,jM3 (show(src[j].toNat:Int)≠10 by omega)];rfl
        clear Hv LM hd GK;go_wp2;go_quiet (fail);go_wp2;exact⟨⟨j+1,by omega,G7.out _ (Gg.out.drewN _)⟩,by rw[(G7.out _ (Gg.out.drewN _)).box.at_,Ih.out];simp only;omega⟩
      ·obtain rfl:j=src.size:=by have:=Hv.le;omega
       have Q1:=G (show SkSt w g src r xs K false src.size wr from⟨Hv.le,by rw[<-LM,KA];(intro c hc;rw[List.drop_eq_nil_of_le (by rw[jB];exact jL3 _)]at hc;cases hc),Hv.box,Hv.kp⟩);have b1:¬(src.size:Int)<(src.size:Int):=(by omega);clear Hv LM;go_wp2;go_quiet (fail);go_wp2;exact⟨⟨_,Q1.out.drewN _⟩,by rw[(Q1.out.drewN _).box.at_,Ej.out];simp only;omega⟩
    ·have hK:K=i:=by rw[jJ5 h35]at Mw;omega
     subst hK;have e35:((src[K].toNat:Int)==35)=false:=jM3 (by omega);rw[jJ5 (by omega)]at hn;obtain⟨x,hx,he⟩:=jM4 hn;have HF:=G (fun n=>(Hv.drewN n).box.setFrom K);have HK:=G Hv.kp;have b2:((K:Int)==(src.size:Int))=false:=jM3 (by omega);have Fl:=Hv.box.z 2;have FE:=Hv.box.c2;have Hw:=G (fun W=>vZ W src[K]);unfold bv at Hw;rw[hd,jGm]at hx;clear Hv Mw MR Pa h35 Tp a4;by_cases hw:ju src[K]=true
     ·rw[jJ6 hw]at hx;injection hx with hx;rw[hw]at Hw;have hl:((sb src).drop K).length=src.size-K:=(by rw[jK8,jB]);have hT:=jCN ju ((sb src).drop K);have hE:=uu ju ((sb src).drop K);have Ng:=zN ju ((sb src).drop K);have Ec:(((sb src).drop K).takeWhile ju).length<=src.size-K:=by rw[<-hl];exact vX _ _
      have AY:0<(((sb src).drop K).takeWhile ju).length:=by rw[hd];exact ya ju _ _ hw
      rw[hl]at hE;rw[<-hd]at hx
      try simp only at hx
      generalize hTT:(((sb src).drop K).takeWhile ju).length=T at*;have NN:sb (src.extract K (K+T))=((sb src).drop K).takeWhile ju:=(by rw[jq,show K+T-K=T by omega,<-Ng]);rw[<-NN]at hx;have HT:=G (show∀k,k<T->∃Gc:K+k<src.size,ju src[K+k]=true from fun k hk=>by
       obtain⟨c,h1,h2⟩:=hT k hk;obtain⟨h3,h4⟩:=VF src K k c h1;exact⟨h3,by rw[h4];exact h2⟩)
      have HE:=G (show T<src.size-K->∃Gc:K+T<src.size,ju src[K+T]=false from fun hlt=>by
       obtain⟨c,h1,h2⟩:=hE hlt;obtain⟨h3,h4⟩:=VF src K T c h1;exact⟨h3,by rw[h4];exact h2⟩)
      have Gl:(src.extract K (K+T)).size=T:=(by rw[<-jB,NN,hTT]);have HN:=G (fun W (h:Sg W)=>Ku W h (src.extract K (K+T)) (by omega));have Hx:=G hx;have Wf:=G he;clear hl hT hE Ng hTT NN hx hd he hw hn Gl;go_wp2;go_quiet (fail);go_wp2;go_quiet (fail);go_wp2;generalize hQ:World.setCell _ _ _=Q;have hX:Rb Q g src {r with at_:=K,from_:=K} xs/\Kp (GX g) w Q:=by
       rw[<-hQ];exact⟨(HF.out _).1,(HK.out.drewN _).trans (HF.out _).2 (fun _ _ e=>e)⟩
      have Nl:=hX.1.c0;have G6:=hX.1.c1;simp only at G6;have HX:=G hX;clear hQ HF HK hX;go_quiet (fail);go_wp2;go_quiet (fail);go_wp2_with (go_at_call 129;refine(Hw.out _).mono ?_;rintro e w1 ⟨rfl,rfl⟩);clear Nl G6 FE Fl hz;go_loopw [] (fun wq=>∃j:Nat,j<=T/\Rb wq g src {r with at_:=K+j,from_:=K} xs/\Kp (GX g) w wq) (fun wq=>src.size-jGD g wq)
      case atStart=>exact⟨0,Nat.zero_le _,HX.out.1.drewN _,HX.out.2.drewN _⟩
      case round=>
       clear HX;obtain⟨j,hj,hb,Gi⟩:=hrel;have Nl:=hb.c0;have G6:=hb.c1;have Fi:=hb.z 1;simp only at G6;have Hb:=G hb;have FA:=G Gi;by_cases hjT:j<T
       ·obtain⟨Gc,Wj⟩:=HT.out j hjT;have Rz:=G (fun W=>vZ W src[K+j]);unfold bv at Rz;rw[Wj]at Rz;have LQ:=hb;have LQ:=G (fun n=>(LQ.drewN n).setAt (K+j+1));rw[show((K+j+1:Nat):Int)=((K+j:Nat):Int)+1 by omega]at LQ;have WM:=G hb.at_;clear Wj hb Gi;have f1:((K+j:Nat):Int)<(src.size:Int):=(by omega);have f2:(0:Int)<=((K+j:Nat):Int):=(by omega);have f3:((K+j:Nat):Int).toNat=K+j:=(by omega);have f4:IntKind.i64.wrap (((K+j:Nat):Int)+1)=((K+j:Nat):Int)+1:=jQ3 _ (by omega);generalize hp:K+j=p at*;go_wp2;go_quiet ((go_at_call 129;exact Calls.quiet_of_same ((Rz.out _).mono (fun _ _ h=>⟨h.1,h.2.symm⟩))));go_wp2;subst hp;exact⟨⟨j+1,by omega,(LQ.out _).1,(FA.out.drewN _).trans (LQ.out _).2 (fun _ _ e=>e)⟩,by rw[(LQ.out _).1.at_,WM.out];simp only;omega⟩
       ·obtain rfl:j=T:=(by omega);have HL:=G (fun n=>Kx (wr.drewN n) g src {r with at_:=K+j,from_:=K} xs (hb.drewN n) (by simp only;omega) (by simp only;omega));simp only at HL;have Z3:=G (fun n=>HG.out (wr.drewN n) (Gi.drewN n));have Fo:=hb.c3;have ML:=hb.z 3;have L1:(yR (sb (src.extract K (K+j))):Int)=(x.2:Int):=(by rw[<-Hx.out]);have El:=G (show x.1=j by rw[<-Hx.out]);rw[L1]at HN;clear hb Gi L1 Hx HT;generalize LT:src.extract K (K+j)=sy at*;by_cases FT:K+j=src.size
        ·have f1:¬((K+j:Nat):Int)<(src.size:Int):=(by omega);go_wp2;go_quiet (fail);go_wp2_with (first|(go_at_call 165;refine(HL.out _).mono ?_;rintro e w1 ⟨rfl,nl,rfl⟩)|(go_at_call 164;refine(HN.out _ (by first|exact(Z3.out _).old ((jQ0 _ _).drewN _)|exact Z3.out _)).mono ?_;rintro e w1 ⟨rfl,rfl⟩));go_end0;rw[<-Wf.out,El.out];exact⟨rfl,((Hb.out.drewN _).setT _).1,(FA.out.drewN _).trans ((Hb.out.drewN _).setT _).2 (fun _ _ e=>e)⟩
        ·have f1:((K+j:Nat):Int)<(src.size:Int):=(by omega);have f2:(0:Int)<=((K+j:Nat):Int):=(by omega);have f3:((K+j:Nat):Int).toNat=K+j:=(by omega);obtain⟨Gc,Wj⟩:=HE.out (by omega);have Rz:=G (fun W=>vZ W src[K+j]);unfold bv at Rz;rw[Wj]at Rz;clear Wj HE;generalize hp:K+j=p at*;go_wp2;go_quiet ((go_at_call 129;exact Calls.quiet_of_same ((Rz.out _).mono (fun _ _ h=>⟨h.1,h.2.symm⟩))));go_wp2_with (first|(go_at_call 165;refine(HL.out _).mono ?_;rintro e w1 ⟨rfl,nl,rfl⟩)|(go_at_call 164;refine(HN.out _ (by first|exact(Z3.out _).old ((jQ0 _ _).drewN _)|exact Z3.out _)).mono ?_;rintro e w1 ⟨rfl,rfl⟩));go_end0;subst hp;rw[<-Wf.out,El.out];exact⟨rfl,((Hb.out.drewN _).setT _).1,(FA.out.drewN _).trans ((Hb.out.drewN _).setT _).2 (fun _ _ e=>e)⟩
     ·rw[jJ5 hw]at hx;rw[show ju src[K]=false from by simpa using hw]at Hw;by_cases h34:src[K].toNat=34
      ·rw[jJ6 h34]at hx;obtain⟨q,hq,e⟩:=jM4 hx;have e34:((src[K].toNat:Int)==34)=true:=beq_iff_eq.2 (by omega);have Wf:=G (show({r with at_:=K+1+q,from_:=K,t:=3}:Rdr)=r' by rw[<-he,<-e,show K+1+q=K+(q+1)by omega]);have Hq:=G hq;clear hx he e hq hw h34 hd hn;have f4:IntKind.i64.wrap ((K:Int)+1)=(K:Int)+1:=jQ3 _ (by omega);go_wp2;go_quiet (fail);go_wp2;go_quiet (fail);go_wp2;generalize hQ:World.setCell _ _ _=Q;have hX:Rb Q g src {r with at_:=K,from_:=K} xs/\Kp (GX g) w Q:=by
        rw[<-hQ];exact⟨(HF.out _).1,(HK.out.drewN _).trans (HF.out _).2 (fun _ _ e=>e)⟩
       have Nl:=hX.1.c0;have G6:=hX.1.c1;have Fi:=hX.1.z 1;simp only at G6;have HX:=G hX;clear hQ HF HK hX;go_quiet (fail);go_wp2;go_quiet (fail);go_wp2_with (go_at_call 129;refine(Hw.out _).mono ?_;rintro e w1 ⟨rfl,rfl⟩);generalize hQ2:World.setCell _ _ _=Q2;have HY:=G (show Rb Q2 g src {r with at_:=K+1,from_:=K} xs/\Kp (GX g) w Q2 by
        have h:=fun n=>(HX.out.1.drewN n).setAt (K+1);rw[show((K+1:Nat):Int)=(K:Int)+1 by omega]at h;rw[<-hQ2];exact⟨(h _).1,(HX.out.2.drewN _).trans (h _).2 (fun _ _ e=>e)⟩)
       clear hQ2 HX Nl G6 Fi;go_loopw [] (fun wq=>∃j p:Nat,strLen ((sb src).drop j)=some p/\j+p=K+1+q/\j<=src.size/\Rb wq g src {r with at_:=j,from_:=K} xs/\Kp (GX g) w wq) (fun wq=>src.size-jGD g wq)
       case atStart=>exact⟨K+1,q,Hq.out,rfl,by omega,HY.out.1,HY.out.2⟩
       case round=>
        clear HY;obtain⟨j,p,hp,AF,Iu,hb,Gi⟩:=hrel;have Nl:=hb.c0;have G6:=hb.c1;have Fi:=hb.z 1;simp only at G6;have Fo:=hb.c3;have ML:=hb.z 3;have WM:=G hb.at_;have X6:j<src.size:=by
         rcases Nat.lt_or_ge j src.size with h|h
         ·exact h
         ·rw[List.drop_eq_nil_of_le (by rw[jB];exact h),strLen]at hp;cases hp
        have hd:=yB src j X6;have f1:(j:Int)<(src.size:Int):=(by omega);have f2:(0:Int)<=(j:Int):=(by omega);have f3:(j:Int).toNat=j:=(by omega);have f5:IntKind.i64.wrap ((j:Int)+1)=(j:Int)+1:=jQ3 _ (by omega);rw[hd]at hp;have NC:=G (fun n=>(hb.drewN n).setAt (j+1));rw[show((j+1:Nat):Int)=(j:Int)+1 by omega]at NC;have FA:=G Gi;clear hb Gi;by_cases h3:src[j].toNat=34
        ·have n34:((src[j].toNat:Int) !=34)=false:=by rw[bne,beq_iff_eq.2 (show(src[j].toNat:Int)=34 by omega)];rfl
         have SL:p=1:=by
          have e:strLen (src[j]::(sb src).drop (j+1))=some 1:=by
           rw[strLen.eq_def];simp only;rw[jJ6 h3]
          rw[e]at hp;injection hp with hp;exact hp.symm
         subst SL;rw[<-AF]at Wf;clear hp hd h3 Hq;go_wp2;go_quiet (fail);go_wp2;go_end0;rw[<-Wf.out];exact⟨rfl,((NC.out _).1.setT 3).1,((FA.out.drewN _).trans (NC.out _).2 (fun _ _ e=>e)).trans ((NC.out _).1.setT 3).2 (fun _ _ e=>e)⟩
        ·have n34:((src[j].toNat:Int) !=34)=true:=by rw[bne,jM3 (show(src[j].toNat:Int)≠34 by omega)];rfl
         rw[strLen.eq_def]at hp;simp only at hp;rw[jJ5 h3]at hp;clear Fo ML;by_cases h92:src[j].toNat=92
         ·rw[jJ6 h92]at hp;have e92:((src[j].toNat:Int)==92)=true:=beq_iff_eq.2 (by omega);have AH:j+1<src.size:=by
           rcases Nat.lt_or_ge (j+1) src.size with h|h
           ·exact h
           ·rw[List.drop_eq_nil_of_le (by rw[jB];exact h)]at hp;cases hp
          rw[yB src (j+1) AH]at hp;simp only at hp;obtain⟨p2,WP,e2⟩:=jM4 hp;have f6:IntKind.i64.wrap ((j:Int)+1+1)=(j:Int)+1+1:=jQ3 _ (by omega);have CY:=G WP;have GL:=G (fun n=>(NC.out n).1.setAt (j+1+1));rw[show((j+1+1:Nat):Int)=(j:Int)+1+1 by omega]at GL;clear hp WP hd h3 h92;go_wp2;go_quiet (fail);go_wp2;go_quiet (fail);go_wp2;exact⟨⟨j+1+1,p2,CY.out,by omega,by omega,(GL.out _).1,((FA.out.drewN _).trans (NC.out _).2 (fun _ _ e=>e)).trans (GL.out _).2 (fun _ _ e=>e)⟩,by rw[(GL.out _).1.at_,WM.out];simp only;omega⟩
         ·rw[jJ5 h92]at hp;have e92:((src[j].toNat:Int)==92)=false:=jM3 (by omega);obtain⟨p2,WP,e2⟩:=jM4 hp;have CY:=G WP;clear hp WP hd h3 h92;go_wp2;go_quiet (fail);go_wp2;go_quiet (fail);go_wp2;exact⟨⟨j+1,p2,CY.out,by omega,by omega,(NC.out _).1,(FA.out.drewN _).trans (NC.out _).2 (fun _ _ e=>e)⟩,by rw[(NC.out _).1.at_,WM.out];simp only;omega⟩
      ·rw[jJ5 h34]at hx;have e34:((src[K].toNat:Int)==34)=false:=jM3 (by omega);have f4:IntKind.i64.wrap ((K:Int)+1)=(K:Int)+1:=jQ3 _ (by omega);have NN:sb (src.extract K (K+1))=[src[K]]:=by rw[jq,show K+1-K=1 by omega,hd];rfl
       have Gl:(src.extract K (K+1)).size=1:=by rw[<-jB,NN];rfl
       have HL:=G (fun W t (h:Rb W g src {r with at_:=K+1,from_:=K,t:=t} xs)=>Kx W g src {r with at_:=K+1,from_:=K,t:=t} xs h (by simp only;omega) (by simp only;omega));simp only at HL;have Tv:=G (fun W (h:Sg W)=>JD W h (src.extract K (K+1)));have Tu:=G (fun W (h:Sg W)=>JD W h (src.extract K (K+1)++⟨#[61]⟩));have Td:=fun w=>run_string_add_sum (P:=prog) w (src.extract K (K+1)) ⟨#[61]⟩ (by show _ +1<=_;omega);rw[KB,NN,show sb ⟨#[61]⟩=[61]from rfl,List.singleton_append]at Tu;rw[NN]at Tv;have Gg:=G (fun W (h:Rb W g src {r with at_:=K+1,from_:=K} xs)=>h.setT (vK [src[K]]));generalize src.extract K (K+1)=sy at*;have Lr:=vh [src[K]];have Ah:=vh [src[K],61];have Hx:=G hx;have He:=G he;generalize NO:vK [src[K]]=s1 at*;generalize Mu:vK [src[K],61]=s2 at*;have Hd:=G (fun h:K+1<src.size=>yB src (K+1) h);clear hx he hw h34 hd hn NN NO Mu;go_wp2;go_quiet (fail);go_wp2;go_quiet (fail);go_wp2;generalize hQ:World.setCell _ _ _=Q;have hX:Rb Q g src {r with at_:=K,from_:=K} xs/\Kp (GX g) w Q:=by
        rw[<-hQ];exact⟨(HF.out _).1,(HK.out.drewN _).trans (HF.out _).2 (fun _ _ e=>e)⟩
       have Nl:=hX.1.c0;have G6:=hX.1.c1;have Fi:=hX.1.z 1;have Fo:=hX.1.c3;have ML:=hX.1.z 3;simp only at G6 Fo;have HX:=G hX;have HY:=hX;have HY:=G (fun n=>(HY.1.drewN n).setAt (K+1));rw[show((K+1:Nat):Int)=(K:Int)+1 by omega]at HY;have Di:=G (fun n=>((HX.out.2.drewN n).trans (HY.out n).2 (fun _ _ e=>e)));clear hQ HF HK hX;go_quiet (fail);go_wp2;go_quiet (fail);go_wp2_with (first|(go_at_call 129;refine(Hw.out _).mono ?_;rintro e w1 ⟨rfl,rfl⟩)|(go_at_call 165;refine(HL.out _ _ (HY.out _).1).mono ?_;rintro e w1 ⟨rfl,nl,rfl⟩)|(go_at_call 145;refine(Tv.out _ ((HG.out _ (Di.out _)).old ((jQ0 _ _).drewN _))).mono ?_;rintro e w1 ⟨rfl,rfl⟩));generalize hQ3:World.setCell _ _ _=Q3;have Rt:Rb Q3 g src {r with at_:=K+1,from_:=K,t:=s1} xs/\Kp (GX g) w Q3:=by
        have hh:=fun n m=>Gg.out _ ((HY.out n).1.drewN m);rw[<-hQ3];exact⟨(hh _ _).1,((Di.out _).drewN _).trans (hh _ _).2 (fun _ _ e=>e)⟩
       clear hQ3 HX HY Di Gg Nl G6 Fo Fi ML;have Nl:=Rt.1.c0;have G6:=Rt.1.c1;have Fi:=Rt.1.z 1;have Fo:=Rt.1.c3;have ML:=Rt.1.z 3;simp only at G6 Fo;have ME:=G Rt;clear Rt;have q1:((K+1:Nat):Int)=(K:Int)+1:=(by omega);rw[q1]at G6;by_cases FT:K+1=src.size
       ·have g1:¬(K:Int)+1<(src.size:Int):=(by omega);have Hf:=G (show x=(1,s1)by
         have h:=Hx.out;rw[List.drop_eq_nil_of_le (by rw[jB];omega),jJ5 (fun h=>absurd h.1 (by decide))]at h;injection h with h;exact h.symm)
        clear Hx;go_quiet (fail);go_wp2;go_end0;rw[<-He.out,Hf.out];exact⟨rfl,ME.out.1.drewN _,ME.out.2.drewN _⟩
       ·have Bc:K+1<src.size:=(by omega);have Y3:=Hd.out Bc;have Pj:=Hx;have Pj:=G Pj.out;rw[Y3,List.headD_cons]at Pj;clear Hx Y3;have g1:(K:Int)+1<(src.size:Int):=(by omega);have g2:(0:Int)<=(K:Int)+1:=(by omega);have g3:((K:Int)+1).toNat=K+1:=(by omega);by_cases h61:src[K+1].toNat=61
        ·have e61:((src[K+1].toNat:Int)==61)=true:=beq_iff_eq.2 (by omega);have Ry:src[K+1]=61:=UInt8.toNat_inj.1 h61;by_cases h2:s2=0
         ·have Hf:=G (show x=(1,s1)by
           have h:=Pj.out;rw[jJ5 (fun h=>h.2 h2)]at h;injection h with h;exact h.symm)
          have e2:((s2:Int) !=0)=false:=by rw[h2];rfl
          clear Pj h61 Ry h2;go_quiet (fail);go_wp2_with (first|(go_at_call 165;refine(HL.out _ _ (ME.out.1.drewN _)).mono ?_;rintro e w1 ⟨rfl,nl,rfl⟩)|(go_at_call 145;refine(Tu.out _ (HG.out _ (ME.out.2.drewN _))).mono ?_;rintro e w1 ⟨rfl,rfl⟩));go_end0;rw[<-He.out,Hf.out];exact⟨rfl,ME.out.1.drewN _,ME.out.2.drewN _⟩
         ·have Hf:=G (show x=(2,s2)by
           have h:=Pj.out;rw[jJ6 ⟨Ry,h2⟩]at h;injection h with h;exact h.symm)
          have e2:((s2:Int) !=0)=true:=by rw[bne,jM3 (show(s2:Int)≠0 by omega)];rfl
          have f6:IntKind.i64.wrap ((K:Int)+1+1)=(K:Int)+1+1:=jQ3 _ (by omega);have HZ:=G (fun n=>((ME.out.1.drewN n).setT s2).1.setAt (K+2));have Dh:=G (fun n=>((ME.out.1.drewN n).setT s2).2);rw[show((K+2:Nat):Int)=(K:Int)+1+1 by omega]at HZ;clear Pj h61 Ry h2;go_quiet (fail);go_wp2_with (first|(go_at_call 165;refine(HL.out _ _ (ME.out.1.drewN _)).mono ?_;rintro e w1 ⟨rfl,nl,rfl⟩)|(go_at_call 145;refine(Tu.out _ (HG.out _ (ME.out.2.drewN _))).mono ?_;rintro e w1 ⟨rfl,rfl⟩));go_end0;rw[<-He.out,Hf.out];exact⟨rfl,(HZ.out _).1,((ME.out.2.drewN _).trans (Dh.out _) (fun _ _ e=>e)).trans (HZ.out _).2 (fun _ _ e=>e)⟩
        ·have Hf:=G (show x=(1,s1)by
          have h:=Pj.out;rw[jJ5 (fun h=>h61 (by rw[h.1];rfl))]at h;injection h with h;exact h.symm)
         have e61:((src[K+1].toNat:Int)==61)=false:=jM3 (by omega);clear Pj h61;go_quiet (fail);go_wp2;go_end0;rw[<-He.out,Hf.out];exact⟨rfl,ME.out.1.drewN _,ME.out.2.drewN _⟩
  ·obtain rfl:i=src.size:=by have:=Hv.le;omega
   have hK:K=src.size:=by rw[<-Mw,List.drop_eq_nil_of_le (by rw[jB];exact jL3 _)];rfl
   subst hK;rw[jJ6 (jL3 _)]at hn;injection hn with hn;have HF:=G (fun n=>(Hv.drewN n).box.setFrom src.size);have HK:=G Hv.kp;have b1:¬(src.size:Int)<(src.size:Int):=(by omega);have b2:((src.size:Int)==(src.size:Int))=true:=beq_iff_eq.2 rfl;have Fl:=Hv.box.z 2;have FE:=Hv.box.c2;clear Hv Mw hlt;go_wp2;go_quiet (fail);go_wp2;generalize hQ:World.setCell _ _ _=Q;have hX:Rb Q g src {r with at_:=src.size,from_:=src.size} xs/\Kp (GX g) w Q:=by
    rw[<-hQ];exact⟨(HF.out _).1,(HK.out.drewN _).trans (HF.out _).2 (fun _ _ e=>e)⟩
   have Nl:=hX.1.c0;have G6:=hX.1.c1;simp only at G6;clear hQ HF;go_quiet (fail);go_wp2;go_end0;subst hn;exact⟨rfl,hX.1.drewN _,hX.2.drewN _⟩
end Go.Proofs.YtmmjcbbogokmfaaGreatDoor

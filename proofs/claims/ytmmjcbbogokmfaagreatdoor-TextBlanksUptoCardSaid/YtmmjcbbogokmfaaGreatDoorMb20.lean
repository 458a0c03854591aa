import Derived.Test.YtmmjcbbogokmfaaGreatDoorMb19
set_option maxRecDepth 100000
set_option maxHeartbeats 25600000
namespace Go.Proofs.YtmmjcbbogokmfaaGreatDoor
open Go.Proofs.Tryz
open Go.RowKit
def RNx(w:World)(g:Nat)(src:BA)(xs:List Value)(r' :Rdr)(e:Ending)(w' :World):Prop:=e=.returned (.tuple #[])/\Rb w' g src r' xs/\Kp (GX g) w w'
theorem KU(l:LB)(h:∀c,l.head? =some c->lfC c=true):jN true l=jN false l:=by
 cases l with
 |nil=>rfl
 |cons c l=>
  have hc:=h c rfl;have hb:kL c=true:=by
   have:=jM8 hc;exact jK5 (by omega)
  rw[jN,jN,jJ6 hc,jJ6 hb]
theorem yq(c:UInt8)(l:LB):jN false (c::l)=if kL c=true then jN false l+1 else if c.toNat=35 then jN true l+1 else 0:=rfl
theorem yN(c:UInt8)(l:LB):jN true (c::l)=if lfC c=true then jN false l+1 else jN true l+1:=rfl
theorem VK:∀(b:Bool) (l:LB),jN b l<=l.length
 |b,[]=>by cases b<;>exact jL3 _
 |true,c::l=>by
  have:=VK true l;have:=VK false l;rw[yN,jK6];split<;>omega
 |false,c::l=>by
  have:=VK true l;have:=VK false l;rw[yq,jK6];split
  ·omega
  ·split<;>omega
theorem jA4(l:LB):∀(b:Bool),∀c,(l.drop (jN b l)).head? =some c->kL c=false/\¬c.toNat=35:=by
 induction l with
 |nil=>intro b c h;cases b<;>cases h
 |cons a l ih=>
  intro b c h;cases b
  ·rw[yq]at h;split at h
   ·rw[List.drop_succ_cons]at h;exact ih false c h
   ·rename_i h1;split at h
    ·rw[List.drop_succ_cons]at h;exact ih true c h
    ·rename_i h2;injection h with h;rw[<-h];exact⟨by simpa using h1,h2⟩
  ·rw[yN]at h;split at h<;>(rw[List.drop_succ_cons]at h;exact ih _ c h)
structure SkSt(w:World)(g:Nat)(src:BA)(r:Rdr)(xs:List Value)(K:Nat)(com:Bool)(i:Nat)(W:World):Prop where
 le:i<=src.size
 eq:i+jN com ((sb src).drop i)=K
 box:Rb W g src {r with at_:=i} xs
 kp:Kp (GX g) w W
section
variable{w W:World}{g:Nat}{src:BA}{r:Rdr}{xs:List Value}{K i:Nat}{com:Bool}
theorem SkSt.step(h:SkSt w g src r xs K com i W)(com' :Bool)(hlt:i<src.size)(he:i+1+jN com' ((sb src).drop (i+1))=K):SkSt w g src r xs K com' (i+1) (W.setCell ⟨g,1,none⟩ (.int .i64 ((i:Int)+1))):=by
 have h1:=h.box.setAt (i+1);rw[show((i+1:Nat):Int)=(i:Int)+1 by omega]at h1;exact⟨hlt,he,h1.1,h.kp.trans h1.2 (fun _ _ h=>h)⟩
theorem SkSt.drewN(h:SkSt w g src r xs K com i W)(n:Nat):SkSt w g src r xs K com i (W.drewN n):=⟨h.le,h.eq,h.box,h.kp.drewN n⟩
def jHi(g:Nat)(W:World):Nat:=(intOf ((W.cell? ⟨g,1,none⟩).getD undef)).toNat
theorem Rb.at_{W:World}{r:Rdr}(h:Rb W g src r xs):jHi g W=r.at_:=by rw[jHi,h.c1];exact jL1 _
end
theorem jD8(w:World)(hg:Sg w)(g:Nat)(Sy:8<=g)(src:BA)(r r' :Rdr)(xs:List Value)(h:Rb w g src r xs)(ha:r.at_ <=src.size)(hs:src.size<=1000000)(hn:jw (sb src) r=some r'):
  Calls prog 135 #[.pointer (some ⟨g,0,none⟩)] w (RNx w g src xs r'):=by
 have hK:=VK false ((sb src).drop r.at_);rw[jK8,jB]at hK;have RV:=G (jA4 ((sb src).drop r.at_) false);have H0:=G (show SkSt w g src r xs (r.at_ +jN false ((sb src).drop r.at_)) false r.at_ w from⟨ha,rfl,h,jQ0 _ _⟩);unfold jw at hn;simp only[jB]at hn;rw[List.drop_drop]at RV;generalize hk:r.at_ +jN false ((sb src).drop r.at_)=K at*;have HG:=G (fun W (h:Kp (GX g) w W)=>hg.kp h (fun e:0=g=>by omega) (fun e:2=g=>by omega));clear h hg Sy;go_enter func135,ntmps135;go_wp2;go_loopw [] (fun wr=>∃i,SkSt w g src r xs K false i wr) (fun wr=>src.size-jHi g wr)
 case atStart=>exact⟨_,H0.out⟩
 case round=>
  clear H0;obtain⟨i,Hm⟩:=hrel;have GY:=Hm.box.c0;have FE:=Hm.box.c1;have hz:=Hm.box.z 1;simp only at FE;have WN:=Hm.eq;by_cases hlt:i<src.size
  ·have hd:=yI src i hlt;have a1:(i:Int)<(src.size:Int):=(by omega);have a2:(0:Int)<=(i:Int):=(by omega);have a3:(i:Int).toNat=i:=(by omega);have a4:IntKind.i64.wrap ((i:Int)+1)=(i:Int)+1:=jQ3 _ (by omega);rw[hd,yq]at WN;by_cases MW:kL src[i]=true
   ·rw[jJ6 MW]at WN;have FR:=G (fun W (h:SkSt w g src r xs K false i W)=>h.step false hlt (by omega));have La:=jM8 MW;have FZ:=G Hm;clear Hm MW hd WN;rcases La with e|e|e|e
    ·have e32:((src[i].toNat:Int)==32)=true:=beq_iff_eq.2 (by omega);go_wp2;go_quiet (fail);go_wp2;go_quiet (fail);go_wp2;exact⟨⟨_,FR.out _ (FZ.out.drewN _)⟩,by rw[(FR.out _ (FZ.out.drewN _)).box.at_,FZ.out.box.at_];simp only;omega⟩
    ·have e32:((src[i].toNat:Int)==32)=false:=jM3 (by omega);have e9:((src[i].toNat:Int)==9)=true:=beq_iff_eq.2 (by omega);go_wp2;go_quiet (fail);go_wp2;go_quiet (fail);go_wp2;exact⟨⟨_,FR.out _ (FZ.out.drewN _)⟩,by rw[(FR.out _ (FZ.out.drewN _)).box.at_,FZ.out.box.at_];simp only;omega⟩
    ·have e32:((src[i].toNat:Int)==32)=false:=jM3 (by omega);have e9:((src[i].toNat:Int)==9)=false:=jM3 (by omega);have e10:((src[i].toNat:Int)==10)=true:=beq_iff_eq.2 (by omega);go_wp2;go_quiet (fail);go_wp2;go_quiet (fail);go_wp2;exact⟨⟨_,FR.out _ (FZ.out.drewN _)⟩,by rw[(FR.out _ (FZ.out.drewN _)).box.at_,FZ.out.box.at_];simp only;omega⟩
    ·have e32:((src[i].toNat:Int)==32)=false:=jM3 (by omega);have e9:((src[i].toNat:Int)==9)=false:=jM3 (by omega);have e10:((src[i].toNat:Int)==10)=false:=jM3 (by omega);have e13:((src[i].toNat:Int)==13)=true:=beq_iff_eq.2 (by omega);go_wp2;go_quiet (fail);go_wp2;go_quiet (fail);go_wp2;exact⟨⟨_,FR.out _ (FZ.out.drewN _)⟩,by rw[(FR.out _ (FZ.out.drewN _)).box.at_,FZ.out.box.at_];simp only;omega⟩
   ·rw[jJ5 MW]at WN;have La:¬(src[i].toNat=32\/src[i].toNat=9\/src[i].toNat=10\/src[i].toNat=13):=fun e=>MW (jK5 e);have e32:((src[i].toNat:Int)==32)=false:=jM3 (by omega);have e9:((src[i].toNat:Int)==9)=false:=jM3 (by omega);have e10:((src[i].toNat:Int)==10)=false:=jM3 (by omega);have e13:((src[i].toNat:Int)==13)=false:=jM3 (by omega);by_cases Nj:src[i].toNat=35
    ·rw[jJ6 Nj]at WN;have e35:((src[i].toNat:Int)==35)=true:=beq_iff_eq.2 (by omega);have CL:=G (show SkSt w g src r xs K true i wr from⟨Hm.le,by rw[hd,yN,jJ5 (by simp only[lfC];rw[jK3 (by omega)];decide)];exact WN,Hm.box,Hm.kp⟩);have CC:=G Hm.box.at_;clear MW La hd WN Hm;go_wp2;go_quiet (fail);go_wp2;go_quiet (fail);go_wp2;go_loopw [] (fun wq=>∃j,i<=j/\SkSt w g src r xs K true j wq) (fun wq=>src.size-jHi g wq)
     case atStart=>exact⟨i,jL3 _,CL.out.drewN _⟩
     case round=>
      clear CL;obtain⟨j,TC,Hm⟩:=hrel;have GY:=Hm.box.c0;have FE:=Hm.box.c1;have hz:=Hm.box.z 1;simp only at FE;have MS:=Hm.eq;by_cases Sw:j<src.size
      ·have hd:=yI src j Sw;have b1:(j:Int)<(src.size:Int):=(by omega);have b2:(0:Int)<=(j:Int):=(by omega);have b3:(j:Int).toNat=j:=(by omega);have b4:IntKind.i64.wrap ((j:Int)+1)=(j:Int)+1:=jQ3 _ (by omega);have A6:=G Hm.box.at_;by_cases GM:src[j].toNat=10
       ·have DI:i<j:=by
         rcases Nat.lt_or_ge i j with h|h
         ·exact h
         ·obtain rfl:i=j:=(by omega);omega
        have LI:=G (show SkSt w g src r xs K false j wr from⟨Hm.le,by rw[<-MS,KU];(intro c hc;rw[hd]at hc;injection hc with hc;rw[<-hc];exact jK5 GM),Hm.box,Hm.kp⟩);have n10:((src[j].toNat:Int) !=10)=false:=by rw[bne,beq_iff_eq.2 (show(src[j].toNat:Int)=10 by omega)];rfl
        clear Hm MS hd GM;go_wp2;go_quiet (fail);go_wp2;exact⟨⟨_,LI.out.drewN _⟩,by rw[(LI.out.drewN _).box.at_,CC.out];simp only;omega⟩
       ·have FR:=G (fun W (h:SkSt w g src r xs K true j W)=>h.step true Sw (by rw[<-MS,hd,yN,jJ5 (by simp only[lfC];rw[jK3 GM];decide)];omega));have FZ:=G Hm;have n10:((src[j].toNat:Int) !=10)=true:=by rw[bne,jM3 (show(src[j].toNat:Int)≠10 by omega)];rfl
        clear Hm MS hd GM;go_wp2;go_quiet (fail);go_wp2;exact⟨⟨j+1,by omega,FR.out _ (FZ.out.drewN _)⟩,by rw[(FR.out _ (FZ.out.drewN _)).box.at_,A6.out];simp only;omega⟩
      ·obtain rfl:j=src.size:=by have:=Hm.le;omega
       have LI:=G (show SkSt w g src r xs K false src.size wr from⟨Hm.le,by rw[<-MS,KU];(intro c hc;rw[List.drop_eq_nil_of_le (by rw[jB];exact jL3 _)]at hc;cases hc),Hm.box,Hm.kp⟩);have b1:¬(src.size:Int)<(src.size:Int):=(by omega);clear Hm MS;go_wp2;go_quiet (fail);go_wp2;exact⟨⟨_,LI.out.drewN _⟩,by rw[(LI.out.drewN _).box.at_,CC.out];simp only;omega⟩
    ·have hK:K=i:=by rw[jJ5 Nj]at WN;omega
     subst hK;have e35:((src[K].toNat:Int)==35)=false:=jM3 (by omega);rw[jJ5 (by omega)]at hn;obtain⟨x,hx,he⟩:=jM4 hn;have HF:=G (fun n=>(Hm.drewN n).box.setFrom K);have HK:=G Hm.kp;have b2:((K:Int)==(src.size:Int))=false:=jM3 (by omega);have FM:=Hm.box.z 2;have Fq:=Hm.box.c2;have Hw:=G (fun W=>vr W src[K]);unfold bv at Hw;rw[hd,ZB]at hx;clear Hm WN MW La Nj RV a4;by_cases hw:jS src[K]=true
     ·rw[jJ6 hw]at hx;injection hx with hx;rw[hw]at Hw;have hl:((sb src).drop K).length=src.size-K:=(by rw[jK8,jB]);have hT:=jDN jS ((sb src).drop K);have hE:=XG jS ((sb src).drop K);have Nl:=zN jS ((sb src).drop K);have Cx:(((sb src).drop K).takeWhile jS).length<=src.size-K:=by rw[<-hl];exact vo _ _
      have DY:0<(((sb src).drop K).takeWhile jS).length:=by rw[hd];exact kt jS _ _ hw
      rw[hl]at hE;rw[<-hd]at hx
      try simp only at hx
      generalize hTT:(((sb src).drop K).takeWhile jS).length=T at*;have Nm:sb (src.extract K (K+T))=((sb src).drop K).takeWhile jS:=(by rw[js,show K+T-K=T by omega,<-Nl]);rw[<-Nm]at hx;have HT:=G (show∀k,k<T->∃FB:K+k<src.size,jS src[K+k]=true from fun k hk=>by
       obtain⟨c,h1,h2⟩:=hT k hk;obtain⟨h3,h4⟩:=Vk src K k c h1;exact⟨h3,by rw[h4];exact h2⟩)
      have HE:=G (show T<src.size-K->∃FB:K+T<src.size,jS src[K+T]=false from fun hlt=>by
       obtain⟨c,h1,h2⟩:=hE hlt;obtain⟨h3,h4⟩:=Vk src K T c h1;exact⟨h3,by rw[h4];exact h2⟩)
      have G6:(src.extract K (K+T)).size=T:=(by rw[<-jB,Nm,hTT]);have HN:=G (fun W (h:Sg W)=>VW W h (src.extract K (K+T)) (by omega));have Hx:=G hx;have NT:=G he;clear hl hT hE Nl hTT Nm hx hd he hw hn G6;go_wp2;go_quiet (fail);go_wp2;go_quiet (fail);go_wp2;generalize hQ:World.setCell _ _ _=Q;have hX:Rb Q g src {r with at_:=K,from_:=K} xs/\Kp (GX g) w Q:=by
       rw[<-hQ];exact⟨(HF.out _).1,(HK.out.drewN _).trans (HF.out _).2 (fun _ _ e=>e)⟩
      have GY:=hX.1.c0;have FE:=hX.1.c1;simp only at FE;have HX:=G hX;clear hQ HF HK hX;go_quiet (fail);go_wp2;go_quiet (fail);go_wp2_with (go_at_call 129;refine(Hw.out _).mono ?_;rintro e w1 ⟨rfl,rfl⟩);clear GY FE Fq FM hz;go_loopw [] (fun wq=>∃j:Nat,j<=T/\Rb wq g src {r with at_:=K+j,from_:=K} xs/\Kp (GX g) w wq) (fun wq=>src.size-jHi g wq)
      case atStart=>exact⟨0,Nat.zero_le _,HX.out.1.drewN _,HX.out.2.drewN _⟩
      case round=>
       clear HX;obtain⟨j,hj,hb,G7⟩:=hrel;have GY:=hb.c0;have FE:=hb.c1;have Ft:=hb.z 1;simp only at FE;have Hb:=G hb;have Fw:=G G7;by_cases hjT:j<T
       ·obtain⟨FB,NU⟩:=HT.out j hjT;have Pl:=G (fun W=>vr W src[K+j]);unfold bv at Pl;rw[NU]at Pl;have Q6:=hb;have Q6:=G (fun n=>(Q6.drewN n).setAt (K+j+1));rw[show((K+j+1:Nat):Int)=((K+j:Nat):Int)+1 by omega]at Q6;have Wf:=G hb.at_;clear NU hb G7;have f1:((K+j:Nat):Int)<(src.size:Int):=(by omega);have f2:(0:Int)<=((K+j:Nat):Int):=(by omega);have f3:((K+j:Nat):Int).toNat=K+j:=(by omega);have f4:IntKind.i64.wrap (((K+j:Nat):Int)+1)=((K+j:Nat):Int)+1:=jQ3 _ (by omega);generalize hp:K+j=p at*;go_wp2;go_quiet ((go_at_call 129;exact Calls.quiet_of_same ((Pl.out _).mono (fun _ _ h=>⟨h.1,h.2.symm⟩))));go_wp2;subst hp;exact⟨⟨j+1,by omega,(Q6.out _).1,(Fw.out.drewN _).trans (Q6.out _).2 (fun _ _ e=>e)⟩,by rw[(Q6.out _).1.at_,Wf.out];simp only;omega⟩
       ·obtain rfl:j=T:=(by omega);have HL:=G (fun n=>VZ (wr.drewN n) g src {r with at_:=K+j,from_:=K} xs (hb.drewN n) (by simp only;omega) (by simp only;omega));simp only at HL;have SR:=G (fun n=>HG.out (wr.drewN n) (G7.drewN n));have Fh:=hb.c3;have WW:=hb.z 3;have WK:(jj (sb (src.extract K (K+j))):Int)=(x.2:Int):=(by rw[<-Hx.out]);have CF:=G (show x.1=j by rw[<-Hx.out]);rw[WK]at HN;clear hb G7 WK Hx HT;generalize V6:src.extract K (K+j)=sy at*;by_cases FG:K+j=src.size
        ·have f1:¬((K+j:Nat):Int)<(src.size:Int):=(by omega);go_wp2;go_quiet (fail);go_wp2_with (first|(go_at_call 165;refine(HL.out _).mono ?_;rintro e w1 ⟨rfl,nl,rfl⟩)|(go_at_call 164;refine(HN.out _ (by first|exact(SR.out _).old ((jQ0 _ _).drewN _)|exact SR.out _)).mono ?_;rintro e w1 ⟨rfl,rfl⟩));go_end0;rw[<-NT.out,CF.out];exact⟨rfl,((Hb.out.drewN _).setT _).1,(Fw.out.drewN _).trans ((Hb.out.drewN _).setT _).2 (fun _ _ e=>e)⟩
        ·have f1:((K+j:Nat):Int)<(src.size:Int):=(by omega);have f2:(0:Int)<=((K+j:Nat):Int):=(by omega);have f3:((K+j:Nat):Int).toNat=K+j:=(by omega);obtain⟨FB,NU⟩:=HE.out (by omega);have Pl:=G (fun W=>vr W src[K+j]);unfold bv at Pl;rw[NU]at Pl;clear NU HE;generalize hp:K+j=p at*;go_wp2;go_quiet ((go_at_call 129;exact Calls.quiet_of_same ((Pl.out _).mono (fun _ _ h=>⟨h.1,h.2.symm⟩))));go_wp2_with (first|(go_at_call 165;refine(HL.out _).mono ?_;rintro e w1 ⟨rfl,nl,rfl⟩)|(go_at_call 164;refine(HN.out _ (by first|exact(SR.out _).old ((jQ0 _ _).drewN _)|exact SR.out _)).mono ?_;rintro e w1 ⟨rfl,rfl⟩));go_end0;subst hp;rw[<-NT.out,CF.out];exact⟨rfl,((Hb.out.drewN _).setT _).1,(Fw.out.drewN _).trans ((Hb.out.drewN _).setT _).2 (fun _ _ e=>e)⟩
     ·rw[jJ5 hw]at hx;rw[show jS src[K]=false from by simpa using hw]at Hw;by_cases Gw:src[K].toNat=34
      ·rw[jJ6 Gw]at hx;obtain⟨q,hq,e⟩:=jM4 hx;have e34:((src[K].toNat:Int)==34)=true:=beq_iff_eq.2 (by omega);have NT:=G (show({r with at_:=K+1+q,from_:=K,t:=3}:Rdr)=r' by rw[<-he,<-e,show K+1+q=K+(q+1)by omega]);have Hq:=G hq;clear hx he e hq hw Gw hd hn;have f4:IntKind.i64.wrap ((K:Int)+1)=(K:Int)+1:=jQ3 _ (by omega);go_wp2;go_quiet (fail);go_wp2;go_quiet (fail);go_wp2;generalize hQ:World.setCell _ _ _=Q;have hX:Rb Q g src {r with at_:=K,from_:=K} xs/\Kp (GX g) w Q:=by
        rw[<-hQ];exact⟨(HF.out _).1,(HK.out.drewN _).trans (HF.out _).2 (fun _ _ e=>e)⟩
       have GY:=hX.1.c0;have FE:=hX.1.c1;have Ft:=hX.1.z 1;simp only at FE;have HX:=G hX;clear hQ HF HK hX;go_quiet (fail);go_wp2;go_quiet (fail);go_wp2_with (go_at_call 129;refine(Hw.out _).mono ?_;rintro e w1 ⟨rfl,rfl⟩);generalize hQ2:World.setCell _ _ _=Q2;have HY:=G (show Rb Q2 g src {r with at_:=K+1,from_:=K} xs/\Kp (GX g) w Q2 by
        have h:=fun n=>(HX.out.1.drewN n).setAt (K+1);rw[show((K+1:Nat):Int)=(K:Int)+1 by omega]at h;rw[<-hQ2];exact⟨(h _).1,(HX.out.2.drewN _).trans (h _).2 (fun _ _ e=>e)⟩)
       clear hQ2 HX GY FE Ft;go_loopw [] (fun wq=>∃j p:Nat,strLen ((sb src).drop j)=some p/\j+p=K+1+q/\j<=src.size/\Rb wq g src {r with at_:=j,from_:=K} xs/\Kp (GX g) w wq) (fun wq=>src.size-jHi g wq)
       case atStart=>exact⟨K+1,q,Hq.out,rfl,by omega,HY.out.1,HY.out.2⟩
       case round=>
        clear HY;obtain⟨j,p,hp,DD,Am,hb,G7⟩:=hrel;have GY:=hb.c0;have FE:=hb.c1;have Ft:=hb.z 1;simp only at FE;have Fh:=hb.c3;have WW:=hb.z 3;have Wf:=G hb.at_;have Sw:j<src.size:=by
         rcases Nat.lt_or_ge j src.size with h|h
         ·exact h
         ·rw[List.drop_eq_nil_of_le (by rw[jB];exact h),strLen]at hp;cases hp
        have hd:=yI src j Sw;have f1:(j:Int)<(src.size:Int):=(by omega);have f2:(0:Int)<=(j:Int):=(by omega);have f3:(j:Int).toNat=j:=(by omega);have f5:IntKind.i64.wrap ((j:Int)+1)=(j:Int)+1:=jQ3 _ (by omega);rw[hd]at hp;have GO:=G (fun n=>(hb.drewN n).setAt (j+1));rw[show((j+1:Nat):Int)=(j:Int)+1 by omega]at GO;have Fw:=G G7;clear hb G7;by_cases h3:src[j].toNat=34
        ·have n34:((src[j].toNat:Int) !=34)=false:=by rw[bne,beq_iff_eq.2 (show(src[j].toNat:Int)=34 by omega)];rfl
         have Rj:p=1:=by
          have e:strLen (src[j]::(sb src).drop (j+1))=some 1:=by
           rw[strLen.eq_def];simp only;rw[jJ6 h3]
          rw[e]at hp;injection hp with hp;exact hp.symm
         subst Rj;rw[<-DD]at NT;clear hp hd h3 Hq;go_wp2;go_quiet (fail);go_wp2;go_end0;rw[<-NT.out];exact⟨rfl,((GO.out _).1.setT 3).1,((Fw.out.drewN _).trans (GO.out _).2 (fun _ _ e=>e)).trans ((GO.out _).1.setT 3).2 (fun _ _ e=>e)⟩
        ·have n34:((src[j].toNat:Int) !=34)=true:=by rw[bne,jM3 (show(src[j].toNat:Int)≠34 by omega)];rfl
         rw[strLen.eq_def]at hp;simp only at hp;rw[jJ5 h3]at hp;clear Fh WW;by_cases FQ:src[j].toNat=92
         ·rw[jJ6 FQ]at hp;have e92:((src[j].toNat:Int)==92)=true:=beq_iff_eq.2 (by omega);have DG:j+1<src.size:=by
           rcases Nat.lt_or_ge (j+1) src.size with h|h
           ·exact h
           ·rw[List.drop_eq_nil_of_le (by rw[jB];exact h)]at hp;cases hp
          rw[yI src (j+1) DG]at hp;simp only at hp;obtain⟨p2,Nn,e2⟩:=jM4 hp;have f6:IntKind.i64.wrap ((j:Int)+1+1)=(j:Int)+1+1:=jQ3 _ (by omega);have Y4:=G Nn;have GG:=G (fun n=>(GO.out n).1.setAt (j+1+1));rw[show((j+1+1:Nat):Int)=(j:Int)+1+1 by omega]at GG;clear hp Nn hd h3 FQ;go_wp2;go_quiet (fail);go_wp2;go_quiet (fail);go_wp2;exact⟨⟨j+1+1,p2,Y4.out,by omega,by omega,(GG.out _).1,((Fw.out.drewN _).trans (GO.out _).2 (fun _ _ e=>e)).trans (GG.out _).2 (fun _ _ e=>e)⟩,by rw[(GG.out _).1.at_,Wf.out];simp only;omega⟩
         ·rw[jJ5 FQ]at hp;have e92:((src[j].toNat:Int)==92)=false:=jM3 (by omega);obtain⟨p2,Nn,e2⟩:=jM4 hp;have Y4:=G Nn;clear hp Nn hd h3 FQ;go_wp2;go_quiet (fail);go_wp2;go_quiet (fail);go_wp2;exact⟨⟨j+1,p2,Y4.out,by omega,by omega,(GO.out _).1,(Fw.out.drewN _).trans (GO.out _).2 (fun _ _ e=>e)⟩,by rw[(GO.out _).1.at_,Wf.out];simp only;omega⟩
      ·rw[jJ5 Gw]at hx;have e34:((src[K].toNat:Int)==34)=false:=jM3 (by omega);have f4:IntKind.i64.wrap ((K:Int)+1)=(K:Int)+1:=jQ3 _ (by omega);have Nm:sb (src.extract K (K+1))=[src[K]]:=by rw[js,show K+1-K=1 by omega,hd];rfl
       have G6:(src.extract K (K+1)).size=1:=by rw[<-jB,Nm];rfl
       have HL:=G (fun W t (h:Rb W g src {r with at_:=K+1,from_:=K,t:=t} xs)=>VZ W g src {r with at_:=K+1,from_:=K,t:=t} xs h (by simp only;omega) (by simp only;omega));simp only at HL;have S2:=G (fun W (h:Sg W)=>JK W h (src.extract K (K+1)));have RZ:=G (fun W (h:Sg W)=>JK W h (src.extract K (K+1)++⟨#[61]⟩));have RJ:=fun w=>run_string_add_sum (P:=prog) w (src.extract K (K+1)) ⟨#[61]⟩ (by show _ +1<=_;omega);rw[KV,Nm,show sb ⟨#[61]⟩=[61]from rfl,List.singleton_append]at RZ;rw[Nm]at S2;have FZ:=G (fun W (h:Rb W g src {r with at_:=K+1,from_:=K} xs)=>h.setT (jc [src[K]]));generalize src.extract K (K+1)=sy at*;have hJ:=ku [src[K]];have Df:=ku [src[K],61];have Hx:=G hx;have He:=G he;generalize MM:jc [src[K]]=s1 at*;generalize Ls:jc [src[K],61]=s2 at*;have Hd:=G (fun h:K+1<src.size=>yI src (K+1) h);clear hx he hw Gw hd hn Nm MM Ls;go_wp2;go_quiet (fail);go_wp2;go_quiet (fail);go_wp2;generalize hQ:World.setCell _ _ _=Q;have hX:Rb Q g src {r with at_:=K,from_:=K} xs/\Kp (GX g) w Q:=by
        rw[<-hQ];exact⟨(HF.out _).1,(HK.out.drewN _).trans (HF.out _).2 (fun _ _ e=>e)⟩
       have GY:=hX.1.c0;have FE:=hX.1.c1;have Ft:=hX.1.z 1;have Fh:=hX.1.c3;have WW:=hX.1.z 3;simp only at FE Fh;have HX:=G hX;have HY:=hX;have HY:=G (fun n=>(HY.1.drewN n).setAt (K+1));rw[show((K+1:Nat):Int)=(K:Int)+1 by omega]at HY;have Z0:=G (fun n=>((HX.out.2.drewN n).trans (HY.out n).2 (fun _ _ e=>e)));clear hQ HF HK hX;go_quiet (fail);go_wp2;go_quiet (fail);go_wp2_with (first|(go_at_call 129;refine(Hw.out _).mono ?_;rintro e w1 ⟨rfl,rfl⟩)|(go_at_call 165;refine(HL.out _ _ (HY.out _).1).mono ?_;rintro e w1 ⟨rfl,nl,rfl⟩)|(go_at_call 145;refine(S2.out _ ((HG.out _ (Z0.out _)).old ((jQ0 _ _).drewN _))).mono ?_;rintro e w1 ⟨rfl,rfl⟩));generalize hQ3:World.setCell _ _ _=Q3;have Pi:Rb Q3 g src {r with at_:=K+1,from_:=K,t:=s1} xs/\Kp (GX g) w Q3:=by
        have hh:=fun n m=>FZ.out _ ((HY.out n).1.drewN m);rw[<-hQ3];exact⟨(hh _ _).1,((Z0.out _).drewN _).trans (hh _ _).2 (fun _ _ e=>e)⟩
       clear hQ3 HX HY Z0 FZ GY FE Fh Ft WW;have GY:=Pi.1.c0;have FE:=Pi.1.c1;have Ft:=Pi.1.z 1;have Fh:=Pi.1.c3;have WW:=Pi.1.z 3;simp only at FE Fh;have WT:=G Pi;clear Pi;have q1:((K+1:Nat):Int)=(K:Int)+1:=(by omega);rw[q1]at FE;by_cases FG:K+1=src.size
       ·have g1:¬(K:Int)+1<(src.size:Int):=(by omega);have Hf:=G (show x=(1,s1)by
         have h:=Hx.out;rw[List.drop_eq_nil_of_le (by rw[jB];omega),jJ5 (fun h=>absurd h.1 (by decide))]at h;injection h with h;exact h.symm)
        clear Hx;go_quiet (fail);go_wp2;go_end0;rw[<-He.out,Hf.out];exact⟨rfl,WT.out.1.drewN _,WT.out.2.drewN _⟩
       ·have E6:K+1<src.size:=(by omega);have SD:=Hd.out E6;have Le:=Hx;have Le:=G Le.out;rw[SD,List.headD_cons]at Le;clear Hx SD;have g1:(K:Int)+1<(src.size:Int):=(by omega);have g2:(0:Int)<=(K:Int)+1:=(by omega);have g3:((K:Int)+1).toNat=K+1:=(by omega);by_cases Gm:src[K+1].toNat=61
        ·have e61:((src[K+1].toNat:Int)==61)=true:=beq_iff_eq.2 (by omega);have Pk:src[K+1]=61:=UInt8.toNat_inj.1 Gm;by_cases h2:s2=0
         ·have Hf:=G (show x=(1,s1)by
           have h:=Le.out;rw[jJ5 (fun h=>h.2 h2)]at h;injection h with h;exact h.symm)
          have e2:((s2:Int) !=0)=false:=by rw[h2];rfl
          clear Le Gm Pk h2;go_quiet (fail);go_wp2_with (first|(go_at_call 165;refine(HL.out _ _ (WT.out.1.drewN _)).mono ?_;rintro e w1 ⟨rfl,nl,rfl⟩)|(go_at_call 145;refine(RZ.out _ (HG.out _ (WT.out.2.drewN _))).mono ?_;rintro e w1 ⟨rfl,rfl⟩));go_end0;rw[<-He.out,Hf.out];exact⟨rfl,WT.out.1.drewN _,WT.out.2.drewN _⟩
         ·have Hf:=G (show x=(2,s2)by
           have h:=Le.out;rw[jJ6 ⟨Pk,h2⟩]at h;injection h with h;exact h.symm)
          have e2:((s2:Int) !=0)=true:=by rw[bne,jM3 (show(s2:Int)≠0 by omega)];rfl
          have f6:IntKind.i64.wrap ((K:Int)+1+1)=(K:Int)+1+1:=jQ3 _ (by omega);have HZ:=G (fun n=>((WT.out.1.drewN n).setT s2).1.setAt (K+2));have Ev:=G (fun n=>((WT.out.1.drewN n).setT s2).2);rw[show((K+2:Nat):Int)=(K:Int)+1+1 by omega]at HZ;clear Le Gm Pk h2;go_quiet (fail);go_wp2_with (first|(go_at_call 165;refine(HL.out _ _ (WT.out.1.drewN _)).mono ?_;rintro e w1 ⟨rfl,nl,rfl⟩)|(go_at_call 145;refine(RZ.out _ (HG.out _ (WT.out.2.drewN _))).mono ?_;rintro e w1 ⟨rfl,rfl⟩));go_end0;rw[<-He.out,Hf.out];exact⟨rfl,(HZ.out _).1,((WT.out.2.drewN _).trans (Ev.out _) (fun _ _ e=>e)).trans (HZ.out _).2 (fun _ _ e=>e)⟩
        ·have Hf:=G (show x=(1,s1)by
          have h:=Le.out;rw[jJ5 (fun h=>Gm (by rw[h.1];rfl))]at h;injection h with h;exact h.symm)
         have e61:((src[K+1].toNat:Int)==61)=false:=jM3 (by omega);clear Le Gm;go_quiet (fail);go_wp2;go_end0;rw[<-He.out,Hf.out];exact⟨rfl,WT.out.1.drewN _,WT.out.2.drewN _⟩
  ·obtain rfl:i=src.size:=by have:=Hm.le;omega
   have hK:K=src.size:=by rw[<-WN,List.drop_eq_nil_of_le (by rw[jB];exact jL3 _)];rfl
   subst hK;rw[jJ6 (jL3 _)]at hn;injection hn with hn;have HF:=G (fun n=>(Hm.drewN n).box.setFrom src.size);have HK:=G Hm.kp;have b1:¬(src.size:Int)<(src.size:Int):=(by omega);have b2:((src.size:Int)==(src.size:Int))=true:=beq_iff_eq.2 rfl;have FM:=Hm.box.z 2;have Fq:=Hm.box.c2;clear Hm WN hlt;go_wp2;go_quiet (fail);go_wp2;generalize hQ:World.setCell _ _ _=Q;have hX:Rb Q g src {r with at_:=src.size,from_:=src.size} xs/\Kp (GX g) w Q:=by
    rw[<-hQ];exact⟨(HF.out _).1,(HK.out.drewN _).trans (HF.out _).2 (fun _ _ e=>e)⟩
   have GY:=hX.1.c0;have FE:=hX.1.c1;simp only at FE;clear hQ HF;go_quiet (fail);go_wp2;go_end0;subst hn;exact⟨rfl,hX.1.drewN _,hX.2.drewN _⟩
end Go.Proofs.YtmmjcbbogokmfaaGreatDoor

import Derived.Test.YtifbhcfdealfaaaGreatDoorMl06
set_option maxRecDepth 100000
set_option maxHeartbeats 25600000
namespace Go.Proofs.YtifbhcfdealfaaaGreatDoor
open Go.Proofs.Tryz
open Go.RowKit
theorem MOut.trans{w W w' :World}{g:Nat}{r r1:Option Nat}{src:BA}{o:Out}{e:Ending}(hk:Kp (MX g r) w W)(hf:MFr w r r1)(h:MOut W g r1 src o e w'):MOut w g r src o e w' :=by
 cases o with
 |ok m' =>exact⟨h.1,MStep.trans hk hf h.2⟩
 |error k=>exact⟨h.1,hk.trans h.2 (MX.trans hf)⟩
theorem yQ(p:UInt8->Bool):∀l:LB,l.takeWhile p=l.take (l.takeWhile p).length
 |[]=>rfl
 |a::l=>by
  rw[List.takeWhile_cons];split
  ·rw[jK6,List.take_succ_cons,<-yQ p l]
  ·rfl
theorem QK(w:World)(hg:Sg w)(g:Nat)(r:Option Nat)(src:BA)(m:Mc)(A:OA)(c:Nat)(h:Mac w g r src m A c)(hs:src.size<=1000000)(ha:m.at_ <src.size)(SL:jR src[m.at_]=true)(F3:m.stack.length<=1000000):
  Calls prog 206 #[.pointer (some ⟨g,0,none⟩)] w (MOut w g r src (kU m ((sb src).drop m.at_))):=by
 have hl:((sb src).drop m.at_).length=src.size-m.at_:=(by rw[jK8,jB]);have hT:=jAA jR ((sb src).drop m.at_);have hE:=qz jR ((sb src).drop m.at_);have Ni:=yQ jR ((sb src).drop m.at_);have DH:(((sb src).drop m.at_).takeWhile jR).length<=src.size-m.at_:=by rw[<-hl];exact kt _ _
 have AW:0<(((sb src).drop m.at_).takeWhile jR).length:=by
  rw[vY src m.at_ ha];exact kV jR _ _ SL
 have RW:kU m ((sb src).drop m.at_)=if(((sb src).drop m.at_).takeWhile jR).length<src.size-m.at_ /\vZ (((sb src).drop m.at_).takeWhile jR)=true/\jz (jv (((sb src).drop m.at_).takeWhile jR)) m.stack=true then
   vI (jv (((sb src).drop m.at_).takeWhile jR)) {m with from_:=m.at_} (m.at_ +(((sb src).drop m.at_).takeWhile jR).length)else vU {m with from_:=m.at_} ((sb src).drop m.at_):=by rw[kU,hl]
 rw[hl]at hE;generalize hTT:(((sb src).drop m.at_).takeWhile jR).length=T at*;have Nf:sb (src.extract m.at_ (m.at_ +T))=((sb src).drop m.at_).takeWhile jR:=(by rw[jt,show m.at_ +T-m.at_=T by omega,<-Ni]);rw[<-Nf]at RW;have HT:=G (show∀k,k<T->∃Fz:m.at_ +k<src.size,jR src[m.at_ +k]=true from fun k hk=>by
  obtain⟨c,h1,h2⟩:=hT k hk;obtain⟨h3,h4⟩:=Jl src m.at_ k c h1;exact⟨h3,by rw[h4];exact h2⟩)
 have HE:=G (show T<src.size-m.at_ ->∃Fz:m.at_ +T<src.size,jR src[m.at_ +T]=false from fun hlt=>by
  obtain⟨c,h1,h2⟩:=hE hlt;obtain⟨h3,h4⟩:=Jl src m.at_ T c h1;exact⟨h3,by rw[h4];exact h2⟩)
 have FK:(src.extract m.at_ (m.at_ +T)).size=T:=(by rw[<-jB,Nf,hTT]);obtain⟨m1,k1⟩:=h.setFrom m.at_;have FI:=h.c1;have MN:=h.c4;have PW:=h.z 4;have GP:=hg.mx h k1;clear hl hT hE Ni hTT Nf h hg SL;generalize hsx:src.extract m.at_ (m.at_ +T)=sy at*;have HP:=G (fun W (hO:Old (w.setCell ⟨g,4,none⟩ (.int .i64 (m.at_:Int))) W)=>uM W (GP.old hO) sy (by omega) (by omega));have HN:=G (fun W (hO:Old (w.setCell ⟨g,4,none⟩ (.int .i64 (m.at_:Int))) W)=>Jg W (GP.old hO) sy (by omega));have HM:=G (fun W (hO:Old (w.setCell ⟨g,4,none⟩ (.int .i64 (m.at_:Int))) W)=>Jh W g r src _ A c (m1.old hO) (jv (sb sy)));have HS:=G (fun W (hO:Old (w.setCell ⟨g,4,none⟩ (.int .i64 (m.at_:Int))) W)=>Qa W (GP.old hO) g r src _ A c (m1.old hO) hs ha rfl);have S8:=zB (sb sy);have Wr:=G (fun W (hO:Old (w.setCell ⟨g,4,none⟩ (.int .i64 (m.at_:Int))) W)=>by
  have:=(m1.old hO).setAt (m.at_ +T)
  rwa [show((m.at_ +T:Nat):Int)=(m.at_:Int)+T by omega]at this)
 have Wg:=G (fun W (hO:Old (w.setCell ⟨g,4,none⟩ (.int .i64 (m.at_:Int))) W)=>Jg _ ((GP.old hO).mx (m1.old hO) (Wr.out W hO).2) sy (by omega));have V7:=G (zi (jv (sb sy)) S8 m F3);have Mw:=G RW;have K1:=G k1;have LS:=m1.c1;have Y9:=m1.c0;have Gw:=m1.z 1;simp only at LS Y9 HS HM;unfold yv at HM;clear m1 k1 GP RW;generalize Nl:kU m ((sb src).drop m.at_)=R at*;generalize jv (sb sy)=N at*;generalize vZ (sb sy)=pb at*;generalize hmb:jz N m.stack=mb at*;clear Nl hmb;have a10:(0:Int)<=(m.at_:Int):=(by omega);have a11:(m.at_:Int).toNat=m.at_:=(by omega);go_enter func206,ntmps206;go_wp2;generalize Nz:w.setCell ⟨g,4,none⟩ (.int .i64 (m.at_:Int))=w1 at*;go_loop [2] (fun i=>∃j:Nat,j<=T/\i=.int .i64 ((m.at_:Int)+j)) (fun i=>src.size-(intOf i).toNat)
 case atStart=>exact⟨0,Nat.zero_le _,by simp⟩
 case round=>
  obtain⟨j,hj,rfl⟩:=hrel;by_cases hlt:j<T
  ·obtain⟨Fz,Fo⟩:=HT.out j hlt;have Hw:=G (fun W=>kw W src[m.at_ +j]);unfold bv at Hw;rw[Fo]at Hw;clear Fo;generalize hp:m.at_ +j=p at*;rw[show(m.at_:Int)+j=(p:Int)by omega];have b1:(p:Int)<(src.size:Int):=(by omega);have b2:(0:Int)<=(p:Int):=(by omega);have b3:(p:Int).toNat=p:=(by omega);have b4:IntKind.i64.wrap ((p:Int)+1)=(p:Int)+1:=jQ3 _ (by omega);go_wp2_with (go_at_call 165;refine(Hw.out _).mono ?_;rintro e w1 ⟨rfl,rfl⟩);exact⟨⟨j+1,by omega,by rw[show(m.at_:Int)+((j+1:Nat):Int)=(p:Int)+1 by omega]⟩,by simp[intOf];omega⟩
  ·obtain rfl:j=T:=(by omega);clear HT;generalize hq:m.at_ +j=q at*;rw[show(m.at_:Int)+(j:Int)=(q:Int)by omega]at Wr Wg⊢;have c1:(0:Int)<=(q:Int):=(by omega);have c2:(q:Int).toNat=q:=(by omega);have c3:(m.at_:Int)<=(q:Int):=(by omega);have c4:(q:Int)<=(src.size:Int):=(by omega);by_cases Fw:q=src.size
   ·have d1:¬(q:Int)<(src.size:Int):=(by omega);have HR:=G (show R=vU {m with from_:=m.at_} ((sb src).drop m.at_)by rw[Mw.out,jJ5 (fun h=>by have:=h.1;omega)]);clear Mw HE V7 Wr Fw;generalize vU {m with from_:=m.at_} ((sb src).drop m.at_)=SP at*;cases SP with
    |ok m' =>
     go_wp2;go_quiet (fail);go_wp2_with (first|(go_at_call 165;refine(Hw.out _).mono ?_;rintro e w1 ⟨rfl,rfl⟩)|(go_at_call 254;refine(HP.out _ (by first|exact jQ0 _ _ |exact(jQ0 _ _).drewN _ |exact((jQ0 _ _).drewN _).drewN _)).mono ?_;rintro e w1 ⟨rfl,rfl⟩)|(go_at_call 208;(first|refine(HN.out _ (by first|exact jQ0 _ _ |exact(jQ0 _ _).drewN _ |exact((jQ0 _ _).drewN _).drewN _)).mono ?_ |refine(Wg.out _ (by first|exact jQ0 _ _ |exact(jQ0 _ _).drewN _ |exact((jQ0 _ _).drewN _).drewN _)).mono ?_);rintro e w1 ⟨rfl,rfl⟩)|(go_at_call 251;refine(HM.out _ (by first|exact jQ0 _ _ |exact(jQ0 _ _).drewN _ |exact((jQ0 _ _).drewN _).drewN _)).mono ?_;rintro e w1 ⟨rfl,rfl⟩)|(go_at_call 255;refine(HS.out _ (by first|exact jQ0 _ _ |exact(jQ0 _ _).drewN _ |exact((jQ0 _ _).drewN _).drewN _)).mono ?_;rintro e w2 ⟨rfl,hX⟩)|(go_at_call 252;refine(WE.out _ (by first|exact jQ0 _ _ |exact(jQ0 _ _).drewN _ |exact((jQ0 _ _).drewN _).drewN _)).mono ?_;rintro e w2 ⟨rfl,hX⟩));go_end0;rw[HR.out];exact MOut.trans (K1.out.drewN _) (.inl rfl) ⟨rfl,hX⟩
    |error k=>
     go_wp2;go_quiet (fail);go_wp2_with (first|(go_at_call 165;refine(Hw.out _).mono ?_;rintro e w1 ⟨rfl,rfl⟩)|(go_at_call 254;refine(HP.out _ (by first|exact jQ0 _ _ |exact(jQ0 _ _).drewN _ |exact((jQ0 _ _).drewN _).drewN _)).mono ?_;rintro e w1 ⟨rfl,rfl⟩)|(go_at_call 208;(first|refine(HN.out _ (by first|exact jQ0 _ _ |exact(jQ0 _ _).drewN _ |exact((jQ0 _ _).drewN _).drewN _)).mono ?_ |refine(Wg.out _ (by first|exact jQ0 _ _ |exact(jQ0 _ _).drewN _ |exact((jQ0 _ _).drewN _).drewN _)).mono ?_);rintro e w1 ⟨rfl,rfl⟩)|(go_at_call 251;refine(HM.out _ (by first|exact jQ0 _ _ |exact(jQ0 _ _).drewN _ |exact((jQ0 _ _).drewN _).drewN _)).mono ?_;rintro e w1 ⟨rfl,rfl⟩)|(go_at_call 255;refine(HS.out _ (by first|exact jQ0 _ _ |exact(jQ0 _ _).drewN _ |exact((jQ0 _ _).drewN _).drewN _)).mono ?_;rintro e w2 ⟨rfl,hX⟩)|(go_at_call 252;refine(WE.out _ (by first|exact jQ0 _ _ |exact(jQ0 _ _).drewN _ |exact((jQ0 _ _).drewN _).drewN _)).mono ?_;rintro e w2 ⟨rfl,hX⟩));refine⟨rfl,?_⟩;rw[HR.out];exact MOut.trans (K1.out.drewN _) (.inl rfl) ⟨rfl,hX⟩
   ·have d1:(q:Int)<(src.size:Int):=(by omega);obtain⟨Fz,Fo⟩:=HE.out (by omega);have Hw:=G (fun W=>kw W src[q]);unfold bv at Hw;rw[Fo]at Hw;clear Fo HE;by_cases Ni:pb=true/\mb=true
    ·obtain⟨rfl,rfl⟩:=Ni;obtain⟨n2,s2,GG,GE,GB⟩:=V7.out rfl;have HR:=G (show R=.ok {m with from_:=m.at_,at_:=q,stack:=s2}by rw[Mw.out,jJ6 ⟨by omega,rfl,rfl⟩,GB]);have WE:=G (fun W (hO:Old w1 W)=>yW _ g r src _ A c (Wr.out W hO).1 N n2 s2 S8 GG GE);unfold yv at WE;clear Mw V7 Fw GG GE GB;go_wp2_with (first|(go_at_call 165;refine(Hw.out _).mono ?_;rintro e w1 ⟨rfl,rfl⟩)|(go_at_call 254;refine(HP.out _ (by first|exact jQ0 _ _ |exact(jQ0 _ _).drewN _ |exact((jQ0 _ _).drewN _).drewN _)).mono ?_;rintro e w1 ⟨rfl,rfl⟩)|(go_at_call 208;(first|refine(HN.out _ (by first|exact jQ0 _ _ |exact(jQ0 _ _).drewN _ |exact((jQ0 _ _).drewN _).drewN _)).mono ?_ |refine(Wg.out _ (by first|exact jQ0 _ _ |exact(jQ0 _ _).drewN _ |exact((jQ0 _ _).drewN _).drewN _)).mono ?_);rintro e w1 ⟨rfl,rfl⟩)|(go_at_call 251;refine(HM.out _ (by first|exact jQ0 _ _ |exact(jQ0 _ _).drewN _ |exact((jQ0 _ _).drewN _).drewN _)).mono ?_;rintro e w1 ⟨rfl,rfl⟩)|(go_at_call 255;refine(HS.out _ (by first|exact jQ0 _ _ |exact(jQ0 _ _).drewN _ |exact((jQ0 _ _).drewN _).drewN _)).mono ?_;rintro e w2 ⟨rfl,hX⟩)|(go_at_call 252;refine(WE.out _ (by first|exact jQ0 _ _ |exact(jQ0 _ _).drewN _ |exact((jQ0 _ _).drewN _).drewN _)).mono ?_;rintro e w2 ⟨rfl,hX⟩));go_quiet (fail);go_wp2_with (first|(go_at_call 165;refine(Hw.out _).mono ?_;rintro e w1 ⟨rfl,rfl⟩)|(go_at_call 254;refine(HP.out _ (by first|exact jQ0 _ _ |exact(jQ0 _ _).drewN _ |exact((jQ0 _ _).drewN _).drewN _)).mono ?_;rintro e w1 ⟨rfl,rfl⟩)|(go_at_call 208;(first|refine(HN.out _ (by first|exact jQ0 _ _ |exact(jQ0 _ _).drewN _ |exact((jQ0 _ _).drewN _).drewN _)).mono ?_ |refine(Wg.out _ (by first|exact jQ0 _ _ |exact(jQ0 _ _).drewN _ |exact((jQ0 _ _).drewN _).drewN _)).mono ?_);rintro e w1 ⟨rfl,rfl⟩)|(go_at_call 251;refine(HM.out _ (by first|exact jQ0 _ _ |exact(jQ0 _ _).drewN _ |exact((jQ0 _ _).drewN _).drewN _)).mono ?_;rintro e w1 ⟨rfl,rfl⟩)|(go_at_call 255;refine(HS.out _ (by first|exact jQ0 _ _ |exact(jQ0 _ _).drewN _ |exact((jQ0 _ _).drewN _).drewN _)).mono ?_;rintro e w2 ⟨rfl,hX⟩)|(go_at_call 252;refine(WE.out _ (by first|exact jQ0 _ _ |exact(jQ0 _ _).drewN _ |exact((jQ0 _ _).drewN _).drewN _)).mono ?_;rintro e w2 ⟨rfl,hX⟩));refine bodyPost_ret (results_none rfl _ _ _) rfl ?_;rw[HR.out];exact MOut.trans ((K1.out.drewN _).trans (Wr.out _ (by first|exact jQ0 _ _ |exact(jQ0 _ _).drewN _ |exact((jQ0 _ _).drewN _).drewN _)).2 (fun _ _ h=>h)) (.inl rfl) ⟨rfl,hX⟩
    ·have HR:=G (show R=vU {m with from_:=m.at_} ((sb src).drop m.at_)by rw[Mw.out,jJ5 (fun h=>Ni h.2)]);clear Mw V7 Wr Fw;generalize vU {m with from_:=m.at_} ((sb src).drop m.at_)=SP at*;rcases (show pb=false\/(pb=true/\mb=false)by cases pb<;>cases mb<;>simp at Ni⊢)with rfl|⟨rfl,rfl⟩
     all_goals
      clear Ni;cases SP with
      |ok m' =>
       go_wp2_with (first|(go_at_call 165;refine(Hw.out _).mono ?_;rintro e w1 ⟨rfl,rfl⟩)|(go_at_call 254;refine(HP.out _ (by first|exact jQ0 _ _ |exact(jQ0 _ _).drewN _ |exact((jQ0 _ _).drewN _).drewN _)).mono ?_;rintro e w1 ⟨rfl,rfl⟩)|(go_at_call 208;(first|refine(HN.out _ (by first|exact jQ0 _ _ |exact(jQ0 _ _).drewN _ |exact((jQ0 _ _).drewN _).drewN _)).mono ?_ |refine(Wg.out _ (by first|exact jQ0 _ _ |exact(jQ0 _ _).drewN _ |exact((jQ0 _ _).drewN _).drewN _)).mono ?_);rintro e w1 ⟨rfl,rfl⟩)|(go_at_call 251;refine(HM.out _ (by first|exact jQ0 _ _ |exact(jQ0 _ _).drewN _ |exact((jQ0 _ _).drewN _).drewN _)).mono ?_;rintro e w1 ⟨rfl,rfl⟩)|(go_at_call 255;refine(HS.out _ (by first|exact jQ0 _ _ |exact(jQ0 _ _).drewN _ |exact((jQ0 _ _).drewN _).drewN _)).mono ?_;rintro e w2 ⟨rfl,hX⟩)|(go_at_call 252;refine(WE.out _ (by first|exact jQ0 _ _ |exact(jQ0 _ _).drewN _ |exact((jQ0 _ _).drewN _).drewN _)).mono ?_;rintro e w2 ⟨rfl,hX⟩));go_quiet (fail);go_wp2_with (first|(go_at_call 165;refine(Hw.out _).mono ?_;rintro e w1 ⟨rfl,rfl⟩)|(go_at_call 254;refine(HP.out _ (by first|exact jQ0 _ _ |exact(jQ0 _ _).drewN _ |exact((jQ0 _ _).drewN _).drewN _)).mono ?_;rintro e w1 ⟨rfl,rfl⟩)|(go_at_call 208;(first|refine(HN.out _ (by first|exact jQ0 _ _ |exact(jQ0 _ _).drewN _ |exact((jQ0 _ _).drewN _).drewN _)).mono ?_ |refine(Wg.out _ (by first|exact jQ0 _ _ |exact(jQ0 _ _).drewN _ |exact((jQ0 _ _).drewN _).drewN _)).mono ?_);rintro e w1 ⟨rfl,rfl⟩)|(go_at_call 251;refine(HM.out _ (by first|exact jQ0 _ _ |exact(jQ0 _ _).drewN _ |exact((jQ0 _ _).drewN _).drewN _)).mono ?_;rintro e w1 ⟨rfl,rfl⟩)|(go_at_call 255;refine(HS.out _ (by first|exact jQ0 _ _ |exact(jQ0 _ _).drewN _ |exact((jQ0 _ _).drewN _).drewN _)).mono ?_;rintro e w2 ⟨rfl,hX⟩)|(go_at_call 252;refine(WE.out _ (by first|exact jQ0 _ _ |exact(jQ0 _ _).drewN _ |exact((jQ0 _ _).drewN _).drewN _)).mono ?_;rintro e w2 ⟨rfl,hX⟩));go_end0;rw[HR.out];exact MOut.trans (K1.out.drewN _) (.inl rfl) ⟨rfl,hX⟩
      |error k=>
       go_wp2_with (first|(go_at_call 165;refine(Hw.out _).mono ?_;rintro e w1 ⟨rfl,rfl⟩)|(go_at_call 254;refine(HP.out _ (by first|exact jQ0 _ _ |exact(jQ0 _ _).drewN _ |exact((jQ0 _ _).drewN _).drewN _)).mono ?_;rintro e w1 ⟨rfl,rfl⟩)|(go_at_call 208;(first|refine(HN.out _ (by first|exact jQ0 _ _ |exact(jQ0 _ _).drewN _ |exact((jQ0 _ _).drewN _).drewN _)).mono ?_ |refine(Wg.out _ (by first|exact jQ0 _ _ |exact(jQ0 _ _).drewN _ |exact((jQ0 _ _).drewN _).drewN _)).mono ?_);rintro e w1 ⟨rfl,rfl⟩)|(go_at_call 251;refine(HM.out _ (by first|exact jQ0 _ _ |exact(jQ0 _ _).drewN _ |exact((jQ0 _ _).drewN _).drewN _)).mono ?_;rintro e w1 ⟨rfl,rfl⟩)|(go_at_call 255;refine(HS.out _ (by first|exact jQ0 _ _ |exact(jQ0 _ _).drewN _ |exact((jQ0 _ _).drewN _).drewN _)).mono ?_;rintro e w2 ⟨rfl,hX⟩)|(go_at_call 252;refine(WE.out _ (by first|exact jQ0 _ _ |exact(jQ0 _ _).drewN _ |exact((jQ0 _ _).drewN _).drewN _)).mono ?_;rintro e w2 ⟨rfl,hX⟩));go_quiet (fail);go_wp2_with (first|(go_at_call 165;refine(Hw.out _).mono ?_;rintro e w1 ⟨rfl,rfl⟩)|(go_at_call 254;refine(HP.out _ (by first|exact jQ0 _ _ |exact(jQ0 _ _).drewN _ |exact((jQ0 _ _).drewN _).drewN _)).mono ?_;rintro e w1 ⟨rfl,rfl⟩)|(go_at_call 208;(first|refine(HN.out _ (by first|exact jQ0 _ _ |exact(jQ0 _ _).drewN _ |exact((jQ0 _ _).drewN _).drewN _)).mono ?_ |refine(Wg.out _ (by first|exact jQ0 _ _ |exact(jQ0 _ _).drewN _ |exact((jQ0 _ _).drewN _).drewN _)).mono ?_);rintro e w1 ⟨rfl,rfl⟩)|(go_at_call 251;refine(HM.out _ (by first|exact jQ0 _ _ |exact(jQ0 _ _).drewN _ |exact((jQ0 _ _).drewN _).drewN _)).mono ?_;rintro e w1 ⟨rfl,rfl⟩)|(go_at_call 255;refine(HS.out _ (by first|exact jQ0 _ _ |exact(jQ0 _ _).drewN _ |exact((jQ0 _ _).drewN _).drewN _)).mono ?_;rintro e w2 ⟨rfl,hX⟩)|(go_at_call 252;refine(WE.out _ (by first|exact jQ0 _ _ |exact(jQ0 _ _).drewN _ |exact((jQ0 _ _).drewN _).drewN _)).mono ?_;rintro e w2 ⟨rfl,hX⟩));refine⟨rfl,?_⟩;rw[HR.out];exact MOut.trans (K1.out.drewN _) (.inl rfl) ⟨rfl,hX⟩
structure Nd where
 op:Int
 name:BA
 vk:Int
 vn:Int
 vt:BA
 vs:List BA
 kids:List Int
structure Atr where
 name:BA
 at_:Int
 order:Int
 opt:Bool
 kind:Int
 dflt:Int
 when_:Int
structure Stg where
 name:BA
 at_:Int
 order:Int
 in_:BA
 inAt:Int
 opens:Int
 closes:Int
structure Mil where
 name:BA
 at_:Int
 order:Int
 in_:BA
 inAt:Int
 when_:Int
structure Prm where
 name:BA
 at_:Int
 kind:Int
structure Eff where
 name:BA
 at_:Int
 worth:Int
structure Stp where
 name:BA
 at_:Int
 order:Int
 params:List Prm
 in_:BA
 inAt:Int
 when_:Int
 effects:List Eff
structure Tre where
 name:BA
 at_:Int
 ats:List Int
 nodes:List Nd
 steps:List Stp
 attrs:List Atr
 stages:List Stg
 miles:List Mil
def Tre.none_:Tre:=⟨⟨#[]⟩,0,[],[],[],[],[],[]⟩
structure Rdr where
 at_:Nat
 from_:Nat
 t:Nat
 order:Nat
 tree:Tre
def jQ:Bool->LB->Nat
 |_,[]=>0
 |true,c::l=>if lfC c=true then jQ false l+1 else jQ true l+1
 |false,c::l=>if vM c=true then jQ false l+1 else if c.toNat=35 then jQ true l+1 else 0
def strLen:LB->Option Nat
 |[]=>none
 |c::l=>if c.toNat=34 then some 1 else if c.toNat=92 then(match l with
  |[]=>none
  |_::l' =>(strLen l').map (· +2))else(strLen l).map (· +1)
def qa:LB->Option (Nat×Nat)
 |[]=>none
 |c::l=>
  if jR c=true then(let w:=(c::l).takeWhile jR;some (w.length,jv w))
  else if c.toNat=34 then(strLen l).map fun k=>(k+1,3)
  else if l.headD 0=61/\jf [c,61]≠0 then some (2,jf [c,61])
  else some (1,jf [c])
def jc(src:LB)(r:Rdr):Option Rdr:=
 let k:=r.at_ +jQ false (src.drop r.at_)
 if src.length<=k then some {r with at_:=k,from_:=k}
 else(qa (src.drop k)).map fun x=>{r with at_:=k+x.1,from_:=k,t:=x.2}
def jh(src:LB)(r:Rdr):LB:=(src.take r.at_).drop r.from_
def jb(src:LB)(t:Nat)(r:Rdr):Option (Bool×Rdr):=if r.t=t then(jc src r).map fun r=>(true,r)else some (false,r)
def zC(src:LB)(r:Rdr):Option (BA×Int×Rdr):=(jc src r).map fun r' =>(⟨(jh src r).toArray⟩,(r.from_:Int),r')
def vJ(n:Nd)(at_:Nat)(r:Rdr):Option (Int×Rdr):=if r.tree.nodes.length<1000000/\r.tree.ats.length<1000000 then some ((r.tree.nodes.length:Int),{r with tree:={r.tree with nodes:=r.tree.nodes++[n],ats:=r.tree.ats++[(at_:Int)]}})else none
def jn(op:Int)(kids:List Int):Nd:=⟨op,⟨#[]⟩,0,0,⟨#[]⟩,[],kids⟩
def QB(t:Nat):Int:=if t=49 then 24 else if t=52 then 25 else if t=31 then 26 else if t=50 then 27 else if t=51 then 28 else 29+((t:Int)-53)
def VI(c:UInt8):Nat:=if yU c=true then c.toNat-48 else c.toNat-87
def meantN:Nat->LB->Option LB
 |0,_=>none
 |_ +1,[]=>some []
 |f+1,c::l=>
  if c.toNat=92 then(match l with
   |[]=>none
   |d::l' =>if d.toNat=110 then(meantN f l').map (10:: ·)else if d.toNat=116 then(meantN f l').map (9:: ·)
    else if d.toNat=120 then(match l' with
     |a::b::l2=>if Vi a=true/\Vi b=true then(meantN f l2).map (UInt8.ofNat (16*VI a+VI b):: ·)else none
     |_=>none)
    else(meantN f l').map (d:: ·))
  else(meantN f l).map (c:: ·)
def Jq:LB->Nat->Nat
 |[],n=>n
 |c::l,n=>Jq l (10*n+(c.toNat-48))
def kJ(t:Nat)(w:LB):Option Nd:=
 if t=2 then(if jZ w=true/\w≠ []then some ⟨1,⟨#[]⟩,1,(Jq w 0:Int),⟨#[]⟩,[],[]⟩else none)
 else if t=46\/t=47 then some ⟨2,⟨#[]⟩,2,47-(t:Int),⟨#[]⟩,[],[]⟩
 else if t=3 then(if 2<=w.length then(meantN (w.length+1) ((w.drop 1).take (w.length-2))).map fun v=>⟨3,⟨#[]⟩,3,0,⟨v.toArray⟩,[],[]⟩else none)
 else if t=1 then some ⟨5,⟨w.toArray⟩,0,0,⟨#[]⟩,[],[]⟩
 else some (jn 4 [])
inductive Job where
 |expr
 |row (level:Nat)
 |more (level:Nat) (root:Int)
 |two (op:Int) (root:Int) (level:Nat)
 |unary
 |list (last:Nat) (kids:List Int)
def Uo(t:Nat):Bool:=decide (t=2\/t=46\/t=47\/t=3\/t=48\/t=1)
def yS(level t:Nat):Int:=
 if level=43 then(if t=43 then 10 else 0)
 else if level=44 then(if t=44 then 9 else 0)
 else if level=18 then(if t=18\/t=19 then 18+((t:Int)-18)else 0)
 else(if 20<=t/\t<=22 then 20+((t:Int)-20)else 0)
def YY(level:Nat):Nat:=if level=43 then 44 else if level=44 then 45 else if level=18 then 20 else 19
def exN(src:LB):Nat->Job->Rdr->Option (Int×List Int×Rdr)
 |0,_,_=>none
 |f+1,.expr,r=>
  if r.t≠40 then exN src f (.row 43) r
  else(jc src r).bind fun r1=>(exN src f .expr r1).bind fun c=>(jc src c.2.2).bind fun r2=>(exN src f .expr r2).bind fun a=>(jc src a.2.2).bind fun r3=>
   (exN src f .expr r3).bind fun b=>(vJ (jn 23 [c.1,a.1,b.1]) r.from_ b.2.2).map fun x=>(x.1,[],x.2)
 |f+1,.row level,r=>
  if level=45 then
   (if r.t=45 then(jc src r).bind fun r1=>(exN src f (.row 45) r1).bind fun k=>(vJ (jn 8 [k.1]) r.from_ k.2.2).map fun x=>(x.1,[],x.2)
    else(exN src f (.row 18) r).bind fun k=>
    if 12<=k.2.2.t/\k.2.2.t<=17 then exN src f (.two (11+((k.2.2.t:Int)-12)) k.1 18) k.2.2
    else if k.2.2.t=28 then exN src f (.two 17 k.1 18) k.2.2 else some k)
  else if level=43\/level=44\/level=18\/level=20 then(exN src f (.row (YY level)) r).bind fun k=>exN src f (.more level k.1) k.2.2
  else exN src f .unary r
 |f+1,.more level root,r=>
  if yS level r.t=0 then some (root,[],r)
  else(exN src f (.two (yS level r.t) root (YY level)) r).bind fun k=>exN src f (.more level k.1) k.2.2
 |f+1,.two op root level,r=>(jc src r).bind fun r1=>(exN src f (.row level) r1).bind fun q=>(vJ (jn op [root,q.1]) r.from_ q.2.2).map fun x=>(x.1,[],x.2)
 |f+1,.unary,r=>
  if r.t=19 then(jc src r).bind fun r1=>(exN src f .unary r1).bind fun k=>(vJ (jn 7 [k.1]) r.from_ k.2.2).map fun x=>(x.1,[],x.2)
  else if Uo r.t=true then(kJ r.t (jh src r)).bind fun n=>(jc src r).bind fun r1=>(vJ n r.from_ r1).map fun x=>(x.1,[],x.2)
  else if r.t=6 then(jc src r).bind fun r1=>(exN src f .expr r1).bind fun k=>(jc src k.2.2).bind fun r2=>some (k.1,[],r2)
  else if r.t=4 then(jc src r).bind fun r1=>(exN src f (.list 5 []) r1).bind fun k=>(vJ (jn 6 k.2.1) r.from_ k.2.2).map fun x=>(x.1,[],x.2)
  else if¬(r.t=31\/(49<=r.t/\r.t<=57))then none
  else(jc src r).bind fun r1=>(jc src r1).bind fun r2=>
   if r.t=49\/r.t=52\/r.t=31 then(zC src r2).bind fun w=>(jc src w.2.2).bind fun r3=>(vJ ⟨QB r.t,w.1,0,0,⟨#[]⟩,[],[]⟩ r.from_ r3).map fun x=>(x.1,[],x.2)
   else(exN src f (.list 7 []) r2).bind fun k=>(vJ (jn (QB r.t) k.2.1) r.from_ k.2.2).map fun x=>(x.1,[],x.2)
 |f+1,.list last kids,r=>
  if r.t=last then(jc src r).bind fun r1=>some (0,kids,r1)
  else if kids.length<1000000 then(jb src 8 r).bind fun s=>(exN src f .expr s.2).bind fun k=>exN src f (.list last (kids++[k.1])) k.2.2 else none
def ZZ(src:LB)(f:Nat)(r:Rdr):Option (Int×Rdr):=(exN src f .expr r).map fun k=>(k.1,k.2.2)
def kZ(src:LB)(f:Nat)(first:Nat)(r:Rdr):Option (Int×Rdr):=
 if r.t≠first then some (-1,r)
 else(jc src r).bind fun r1=>if first=32\/first=12 then ZZ src f r1 else(jc src r1).bind fun r2=>ZZ src f r2
def vp(src:LB)(f:Nat)(first:Nat)(r:Rdr):Option (Int×Rdr):=
 (kZ src f first r).bind fun k=>if 0<=k.1 then(jc src k.2).bind fun r1=>some (k.1,r1)else some k
def VQ(src:LB)(r:Rdr):Option (BA×Int×Int×Rdr):=
 (jc src r).bind fun r1=>(zC src r1).bind fun w=>if w.2.2.order<1000000 then some (w.1,w.2.1,(w.2.2.order:Int),{w.2.2 with order:=w.2.2.order+1})else none
def inN(src:LB)(r:Rdr):Option (BA×Int×Rdr):=if r.t=28 then(jc src r).bind fun r1=>zC src r1 else some (⟨#[]⟩,0,r)
def ZO(src:LB)(r:Rdr):Option (Int×Rdr):=if 34<=r.t/\r.t<=38 then(jc src r).bind fun r1=>some ((r.t:Int)-33,r1)else none
def qr(src:LB)(f:Nat)(r:Rdr):Option Rdr:=
 (VQ src r).bind fun d=>(jc src d.2.2.2).bind fun r1=>(jb src 39 r1).bind fun o=>(ZO src o.2).bind fun k=>(kZ src f 12 k.2).bind fun a=>(kZ src f 32 a.2).bind fun b=>(jc src b.2).bind fun r2=>
  if r2.tree.attrs.length<1000000 then some {r2 with tree:={r2.tree with attrs:=r2.tree.attrs++[⟨d.1,d.2.1,d.2.2.1,o.1,k.1,a.1,b.1⟩]}}else none
def KY(src:LB)(f:Nat)(r:Rdr):Option Rdr:=
 (VQ src r).bind fun d=>(inN src d.2.2.2).bind fun i=>(jc src i.2.2).bind fun r1=>(vp src f 29 r1).bind fun a=>(vp src f 30 a.2).bind fun b=>(jc src b.2).bind fun r2=>
  if r2.tree.stages.length<1000000 then some {r2 with tree:={r2.tree with stages:=r2.tree.stages++[⟨d.1,d.2.1,d.2.2.1,i.1,i.2.1,a.1,b.1⟩]}}else none
def qX(src:LB)(f:Nat)(r:Rdr):Option Rdr:=
 (VQ src r).bind fun d=>(inN src d.2.2.2).bind fun i=>(vp src f 31 i.2.2).bind fun a=>
  if a.2.tree.miles.length<1000000 then some {a.2 with tree:={a.2.tree with miles:=a.2.tree.miles++[⟨d.1,d.2.1,d.2.2.1,i.1,i.2.1,a.1⟩]}}else none
def yT(src:LB):Nat->List Prm->Rdr->Option (List Prm×Rdr)
 |0,_,_=>none
 |f+1,ps,r=>if r.t=7 then some (ps,r)
  else if ps.length<1000000 then(jb src 8 r).bind fun s=>(zC src s.2).bind fun w=>(jc src w.2.2).bind fun r1=>(ZO src r1).bind fun k=>yT src f (ps++[⟨w.1,w.2.1,k.1⟩]) k.2 else none
def vH(src:LB):Nat->List Eff->Rdr->Option (List Eff×Rdr)
 |0,_,_=>none
 |f+1,es,r=>if r.t=5 then some (es,r)
  else if es.length<1000000 then(jb src 33 r).bind fun s=>(zC src s.2).bind fun w=>
   (if s.1=true then some (-1,w.2.2)else(jc src w.2.2).bind fun r1=>ZZ src f r1).bind fun x=>(jc src x.2).bind fun r2=>vH src f (es++[⟨w.1,w.2.1,x.1⟩]) r2 else none
def qB(src:LB)(f:Nat)(r:Rdr):Option Rdr:=
 (VQ src r).bind fun d=>(jc src d.2.2.2).bind fun r1=>(yT src f [] r1).bind fun p=>(jc src p.2).bind fun r2=>(inN src r2).bind fun i=>(kZ src f 32 i.2.2).bind fun g=>(jc src g.2).bind fun r3=>
  (vH src f [] r3).bind fun e=>(jc src e.2).bind fun r4=>
   if r4.tree.steps.length<1000000 then some {r4 with tree:={r4.tree with steps:=r4.tree.steps++[⟨d.1,d.2.1,d.2.2.1,p.1,i.1,i.2.1,g.1,e.1⟩]}}else none
def ya(src:LB):Nat->Rdr->Option Rdr
 |0,_=>none
 |f+1,r=>
  if r.t=24 then(qr src f r).bind (ya src f)
  else if r.t=25 then(KY src f r).bind (ya src f)
  else if r.t=26 then(qX src f r).bind (ya src f)
  else if r.t=27 then(qB src f r).bind (ya src f)
  else some r
def Jb(src:LB)(f:Nat):Option Rdr:=
 (jc src ⟨0,0,0,0,Tre.none_⟩).bind fun r1=>(jc src r1).bind fun r2=>(zC src r2).bind fun w=>(jc src w.2.2).bind fun r3=>
  ya src f {r3 with tree:={r3.tree with name:=w.1,at_:=w.2.1}}
abbrev GX(g:Nat):Nat->Prop:=fun b=>b=g
def rdC(src:BA)(r:Rdr)(xs:List Value):List Value:=.string src:: .int .i64 (r.at_:Int):: .int .i64 (r.from_:Int):: .int .u8 (r.t:Int):: .int .i64 (r.order:Int)::xs
def Rb(w:World)(g:Nat)(src:BA)(r:Rdr)(xs:List Value):Prop:=Blk w g 205 (rdC src r xs).toArray
section
variable{w w1:World}{g:Nat}{src:BA}{r:Rdr}{xs:List Value}
theorem Rb.c0(h:Rb w g src r xs):w.cell? ⟨g,0,none⟩=some (.string src):=Blk.at_ h 0 rfl
theorem Rb.c1(h:Rb w g src r xs):w.cell? ⟨g,1,none⟩=some (.int .i64 (r.at_:Int)):=Blk.at_ h 1 rfl
theorem Rb.c2(h:Rb w g src r xs):w.cell? ⟨g,2,none⟩=some (.int .i64 (r.from_:Int)):=Blk.at_ h 2 rfl
theorem Rb.c3(h:Rb w g src r xs):w.cell? ⟨g,3,none⟩=some (.int .u8 (r.t:Int)):=Blk.at_ h 3 rfl
theorem Rb.c4(h:Rb w g src r xs):w.cell? ⟨g,4,none⟩=some (.int .i64 (r.order:Int)):=Blk.at_ h 4 rfl
theorem Rb.z(h:Rb w g src r xs)(i:Nat):w.frozen? ⟨g,i,none⟩=false:=Blk.frozen h i
theorem Rb.old(h:Rb w g src r xs)(ho:Old w w1):Rb w1 g src r xs:=Blk.old h ho
theorem Rb.drewN(h:Rb w g src r xs)(n:Nat):Rb (w.drewN n) g src r xs:=h
theorem Rb.kp{X:Nat->Prop}(h:Rb w g src r xs)(ho:Kp X w w1)(hx:¬X g):Rb w1 g src r xs:=Blk.kp h ho hx
theorem Rb.setAt(h:Rb w g src r xs)(k:Nat):Rb (w.setCell ⟨g,1,none⟩ (.int .i64 (k:Int))) g src {r with at_:=k} xs/\Kp (fun b=>b=g) w (w.setCell ⟨g,1,none⟩ (.int .i64 (k:Int))):=
 ⟨by simpa [Rb,rdC]using Blk.set_ h 1 (.int .i64 (k:Int)),(jQ0 (fun b=>b=g) w).setCell (p:=⟨g,1,none⟩) (fun _=>rfl) _⟩
theorem Rb.setFrom(h:Rb w g src r xs)(k:Nat):Rb (w.setCell ⟨g,2,none⟩ (.int .i64 (k:Int))) g src {r with from_:=k} xs/\Kp (fun b=>b=g) w (w.setCell ⟨g,2,none⟩ (.int .i64 (k:Int))):=
 ⟨by simpa [Rb,rdC]using Blk.set_ h 2 (.int .i64 (k:Int)),(jQ0 (fun b=>b=g) w).setCell (p:=⟨g,2,none⟩) (fun _=>rfl) _⟩
theorem Rb.setT(h:Rb w g src r xs)(k:Nat):Rb (w.setCell ⟨g,3,none⟩ (.int .u8 (k:Int))) g src {r with t:=k} xs/\Kp (fun b=>b=g) w (w.setCell ⟨g,3,none⟩ (.int .u8 (k:Int))):=
 ⟨by simpa [Rb,rdC]using Blk.set_ h 3 (.int .u8 (k:Int)),(jQ0 (fun b=>b=g) w).setCell (p:=⟨g,3,none⟩) (fun _=>rfl) _⟩
theorem Rb.setOrder(h:Rb w g src r xs)(k:Nat):Rb (w.setCell ⟨g,4,none⟩ (.int .i64 (k:Int))) g src {r with order:=k} xs/\Kp (fun b=>b=g) w (w.setCell ⟨g,4,none⟩ (.int .i64 (k:Int))):=
 ⟨by simpa [Rb,rdC]using Blk.set_ h 4 (.int .i64 (k:Int)),(jQ0 (fun b=>b=g) w).setCell (p:=⟨g,4,none⟩) (fun _=>rfl) _⟩
end
theorem Qg(src:BA)(r:Rdr):sb (src.extract r.from_ r.at_)=jh (sb src) r:=by
 rw[jt,jh,List.drop_take]
theorem Ji(w:World)(g:Nat)(src:BA)(r:Rdr)(xs:List Value)(h:Rb w g src r xs)(h1:r.from_ <=r.at_)(h2:r.at_ <=src.size):
  Calls prog 209 #[.pointer (some ⟨g,0,none⟩)] w fun e w' =>e=.returned (.string (src.extract r.from_ r.at_))/\∃n,w' =w.drewN n:=by
 have GT:=h.c0;have FI:=h.c1;have Fm:=h.c2;have a1:(r.at_:Int)<=(src.size:Int):=(by omega);have a2:(0:Int)<=(r.from_:Int):=(by omega);have a3:(r.from_:Int).toNat=r.from_:=(by omega);have a4:(r.from_:Int)<=(r.at_:Int):=(by omega);have a5:(r.at_:Int).toNat=r.at_:=(by omega);clear h h1 h2;go_enter func209,ntmps209;go_wp2;go_quiet (fail);go_wp2;go_ret;exact⟨rfl,_,rfl⟩
def JX:Nat->LB->Nat×Bool
 |0,_=>(0,false)
 |_ +1,[]=>(0,false)
 |f+1,c::l=>
  if c.toNat=34 then(1,true)
  else if c.toNat<32\/126<c.toNat then(0,false)
  else if c.toNat≠92 then(let r:=JX f l;(r.1+1,r.2))
  else match l with
   |[]=>(1,false)
   |d::l1=>
    if¬(d.toNat=34\/d.toNat=92\/d.toNat=110\/d.toNat=116\/d.toNat=120)then(1,false)
    else if d.toNat≠120 then(let r:=JX f l1;(r.1+2,r.2))
    else match l1 with
     |[]=>(2,false)
     |a::l2=>if Vi a=false then(2,false)else match l2 with
      |[]=>(3,false)
      |b::l3=>if Vi b=false then(3,false)else(let r:=JX f l3;(r.1+4,r.2))
def jGF(l:LB):Nat:=
 match l with
 |[]=>0
 |c::r=>
  if jR c=true then(l.takeWhile jR).length
  else if c.toNat=34 then(JX (r.length+1) r).1+1
  else if r.head? =some 61/\(c.toNat=58\/c.toNat=33\/c.toNat=60\/c.toNat=62)then 2
  else 1
def jEx:LB->Nat->Option Nat
 |[],n=>some n
 |c::l,n=>if yU c=false then none else if(9223372036854775807-(c.toNat-48))/10<n then none else jEx l (10*n+(c.toNat-48))
def jGe(w:LB):Option Nat:=if w=[]then none else jEx w 0
structure Q9 where
 at_:Nat
 to0:Nat
 asks:List LB
 nm:Bool
 num:Bool
 tx:Bool
variable(src:LB)
def Q9.lex(q:Q9):LB:=(src.take q.to0).drop q.at_
def Q9.on(q:Q9):Q9:=let a:=q.to0+jQ false (src.drop q.to0);⟨a,a+jGF (src.drop a),[],false,false,false⟩
def Q9.ask(q:Q9)(w:LB):Q9:={q with asks:=q.asks++[w]}
def isQ(w:LB)(q:Q9):Bool×Q9:=if q.lex src=w then(true,q)else(false,q.ask w)
def yR(w:LB)(q:Q9):Bool×Q9:=if q.lex src=w then(true,q.on src)else(false,q.ask w)
def jGD(q:Q9)(w:LB):Bool:=(q.nm&&ji w)||(q.num&&(jGe w).isSome)||q.asks.any (fun a=>decide (w.length<=a.length/\a.take w.length=w))
def jBf(q:Q9):Nat->Nat->Nat
 |0,k=>k
 |f+1,k=>if k<q.to0/\jGD q ((src.take (k+1)).drop q.at_)=true then jBf q f (k+1)else k
def uD(q:Q9):Nat:=
 if q.at_=src.length then q.at_
 else if(src.getD q.at_ 0).toNat=34 then(if q.tx=true then q.at_ +1+(JX src.length (src.drop (q.at_ +1))).1 else q.at_)
 else jBf src q (q.to0-q.at_) q.at_
abbrev Re(α:Type):=Option (Except Nat α)
def thn{α β:Type}(o:Re α)(f:α->Re β):Re β:=match o with
 |none=>none
 |some (.error k)=>some (.error k)
 |some (.ok a)=>f a
def got{α:Type}(a:α):Re α:=some (.ok a)
def vB(w:LB)(q:Q9):Re Q9:=if q.lex src=w then got (q.on src)else some (.error (uD src (q.ask w)))
def VO(q:Q9):Re (LB×Nat×Q9):=if kY (q.lex src)=true then got (q.lex src,q.at_,q.on src)else some (.error (uD src {q with nm:=true}))
inductive Pt9 where
 |part (n:Nd) (at_:Nat) (kids:Pt9)
 |nil
 |cons (e l:Pt9)
def Pt9.one(e:Pt9):Pt9:=.cons e .nil
def Pt9.pair(e q:Pt9):Pt9:=.cons e (.cons q .nil)
def Pt9.app:Pt9->Pt9->Pt9
 | .cons e l,x=>.cons e (l.app x)
 |_,x=>.one x
def Pt9.lay:Pt9->List Nd×List Int->List Int×(List Nd×List Int)
 | .part n a k,t=>let x:=k.lay t;([(x.2.1.length:Int)],(x.2.1++[{n with kids:=x.1}],x.2.2++[(a:Int)]))
 | .nil,t=>([],t)
 | .cons e l,t=>let x:=e.lay t;let y:=l.lay x.2;(x.1++y.1,y.2)
def jD0(level:Nat):List (LB×Int):=
 if level=0 then [([111,114],10)]
 else if level=1 then [([97,110,100],9)]
 else if level=2 then [([61],11),([33,61],12),([60],13),([60,61],14),([62],15),([62,61],16),([105,110],17)]
 else if level=3 then [([43],18),([45],19)]
 else [([42],20),([47],21),([37],22)]
def QM:List (LB×Int)->Q9->Int×Q9
 |[],q=>(0,q)
 |x::l,q=>if q.lex src=x.1 then(x.2,q)else QM l (q.ask x.1)
def jFC:List (LB×Int):=[([104,97,115],24),([111,112,101,110],25),([114,101,97,99,104,101,100],26),([99,108,111,99,107],29),([115,116,101,112,115],30),([115,105,122,101],27),([106,111,105,110],28),([109,105,110],31),([109,97,120],32),([100,101,102,97,117,108,116],33)]
inductive Jb9 where
 |expr
 |rows (level:Nat)
 |more (level:Nat) (p:Pt9)
 |unary
 |atom
 |kids (k:Pt9)
 |call (at_:Nat)
def jCA(level:Nat):Jb9:=if level=4 then .unary else .rows (level+1)
def jEl(w:LB):LB:=(meantN (w.length+1) ((w.drop 1).take (w.length-2))).getD []
def exR:Nat->Jb9->Q9->Re (Pt9×Q9)
 |0,_,_=>none
 |f+1,.expr,q=>
  let t:=yR src [105,102] q
  if t.1=false then exR f (.rows 0) t.2
  else thn (exR f .expr t.2) fun c=>thn (vB src [116,104,101,110] c.2) fun q1=>thn (exR f .expr q1) fun a=>thn (vB src [101,108,115,101] a.2) fun q2=>
   thn (exR f .expr q2) fun b=>got (.part (jn 23 []) q.at_ (.cons c.1 (.cons a.1 (.one b.1))),b.2)
 |f+1,.rows level,q=>
  let t:=if level=2 then yR src [110,111,116] q else(false,q)
  if t.1=true then thn (exR f (.rows 2) t.2) fun k=>got (.part (jn 8 []) q.at_ (.one k.1),k.2)
  else thn (exR f (jCA level) t.2) fun p=>exR f (.more level p.1) p.2
 |f+1,.more level p,q=>
  let o:=QM src (jD0 level) q
  if o.1=0 then got (p,o.2)
  else thn (exR f (jCA level) (o.2.on src)) fun k=>
   let p1:=Pt9.part (jn o.1 []) o.2.at_ (.pair p k.1)
   if level=2 then got (p1,k.2)else exR f (.more level p1) k.2
 |f+1,.unary,q=>
  let t:=yR src [45] q
  if t.1=true then thn (exR f .unary t.2) fun k=>got (.part (jn 7 []) q.at_ (.one k.1),k.2)
  else exR f .atom t.2
 |f+1,.atom,q=>
  let w:=q.lex src
  let q0:Q9:={q with num:=true}
  match jGe w with
  |some n=>got (.part ⟨1,⟨#[]⟩,1,(n:Int),⟨#[]⟩,[],[]⟩ q.at_ .nil,q0.on src)
  |none=>
   let t1:=yR src [116,114,117,101] q0
   if t1.1=true then got (.part ⟨2,⟨#[]⟩,2,1,⟨#[]⟩,[],[]⟩ q.at_ .nil,t1.2)else
   let t2:=yR src [102,97,108,115,101] t1.2
   if t2.1=true then got (.part ⟨2,⟨#[]⟩,2,0,⟨#[]⟩,[],[]⟩ q.at_ .nil,t2.2)else
   let t3:=yR src [110,111,116,104,105,110,103] t2.2
   if t3.1=true then got (.part (jn 4 []) q.at_ .nil,t3.2)else
   let q1:Q9:={t3.2 with nm:=true}
   if kY w=true then got (.part ⟨5,⟨w.toArray⟩,0,0,⟨#[]⟩,[],[]⟩ q.at_ .nil,q1.on src)else
   let q2:Q9:={q1 with tx:=true}
   if w.head? =some 34/\(JX src.length (src.drop (q.at_ +1))).2=true then got (.part ⟨3,⟨#[]⟩,3,0,⟨(jEl w).toArray⟩,[],[]⟩ q.at_ .nil,q2.on src)else
   let t4:=yR src [40] q2
   if t4.1=true then thn (exR f .expr t4.2) fun p=>thn (vB src [41] p.2) fun q3=>got (p.1,q3)else
   let t5:=yR src [123] t4.2
   if t5.1=true then
    (let t6:=yR src [125] t5.2
     if t6.1=true then got (.part (jn 6 []) q.at_ .nil,t6.2)
     else thn (exR f .expr t6.2) fun p=>thn (exR f (.kids (.one p.1)) p.2) fun k=>thn (vB src [125] k.2) fun q3=>got (.part (jn 6 []) q.at_ k.1,q3))
   else exR f (.call q.at_) t5.2
 |f+1,.kids k,q=>
  let t:=yR src [44] q
  if t.1=true then thn (exR f .expr t.2) fun p=>exR f (.kids (k.app p.1)) p.2 else got (k,t.2)
 |f+1,.call a,q=>
  let o:=QM src jFC q
  if o.1=0 then some (.error (uD src o.2))
  else thn (vB src [40] (o.2.on src)) fun q1=>
   if o.1<=26 then thn (VO src q1) fun w=>thn (vB src [41] w.2.2) fun q2=>got (.part ⟨o.1,⟨w.1.toArray⟩,0,0,⟨#[]⟩,[],[]⟩ a .nil,q2)
   else if o.1=29\/o.1=30 then thn (vB src [41] q1) fun q2=>got (.part (jn o.1 []) a .nil,q2)
   else thn (exR f .expr q1) fun p=>
    if o.1=27 then thn (vB src [41] p.2) fun q2=>got (.part (jn o.1 []) a (.one p.1),q2)
    else thn (vB src [44] p.2) fun q2=>thn (exR f .expr q2) fun p2=>thn (vB src [41] p2.2) fun q3=>got (.part (jn o.1 []) a (.pair p.1 p2.1),q3)
structure S9 where
 q:Q9
 tree:Tre
 seen:Nat
def S9.put(s:S9)(p:Pt9)(q:Q9):Int×S9:=let x:=p.lay (s.tree.nodes,s.tree.ats);(x.1.headD (-1),{s with q:=q,tree:={s.tree with nodes:=x.2.1,ats:=x.2.2}})
def jFQ(f:Nat)(s:S9):Re (Int×S9):=thn (exR src f .expr s.q) fun p=>got (s.put p.1 p.2)
def jDK:List LB->Int->Q9->Re (Int×Q9)
 |[],_,q=>some (.error (uD src q))
 |w::l,k,q=>if q.lex src=w then got (k,q.on src)else jDK l (k+1) (q.ask w)
def jB3:List LB:=[[105,110,116],[98,111,111,108],[116,101,120,116],[116,105,109,101],[115,101,116]]
def XS(f:Nat)(w:LB)(s:S9):Re (Int×S9):=
 let t:=yR src w s.q
 if t.1=true then jFQ src f {s with q:=t.2}else got (-1,{s with q:=t.2})
def jBm(f:Nat)(w:LB)(s:S9):Re (Int×S9):=
 let t:=yR src w s.q
 if t.1=true then thn (vB src [119,104,101,110] t.2) fun q1=>thn (jFQ src f {s with q:=q1}) fun k=>thn (vB src [59] k.2.q) fun q2=>got (k.1,{k.2 with q:=q2})
 else got (-1,{s with q:=t.2})
def inR(q:Q9):Re (LB×Nat×Q9):=
 let t:=yR src [105,110] q
 if t.1=true then VO src t.2 else got ([],0,t.2)
def jGP(f:Nat)(s:S9):Re S9:=
 thn (VO src s.q) fun w=>thn (vB src [58] w.2.2) fun q1=>
 let o:=yR src [111,112,116,105,111,110,97,108] q1
 thn (jDK src jB3 1 o.2) fun k=>thn (XS src f [61] {s with q:=k.2,seen:=s.seen+1}) fun d=>thn (XS src f [119,104,101,110] d.2) fun h=>
 thn (vB src [59] h.2.q) fun q2=>got {h.2 with q:=q2,tree:={h.2.tree with attrs:=h.2.tree.attrs++[⟨⟨w.1.toArray⟩,(w.2.1:Int),(s.seen:Int),o.1,k.1,d.1,h.1⟩]}}
def jEE(f:Nat)(s:S9):Re S9:=
 thn (VO src s.q) fun w=>thn (inR src w.2.2) fun i=>thn (vB src [123] i.2.2) fun q1=>
 thn (jBm src f [111,112,101,110,115] {s with q:=q1,seen:=s.seen+1}) fun a=>thn (jBm src f [99,108,111,115,101,115] a.2) fun b=>thn (vB src [125] b.2.q) fun q2=>
 got {b.2 with q:=q2,tree:={b.2.tree with stages:=b.2.tree.stages++[⟨⟨w.1.toArray⟩,(w.2.1:Int),(s.seen:Int),⟨i.1.toArray⟩,(i.2.1:Int),a.1,b.1⟩]}}
def jFr(f:Nat)(s:S9):Re S9:=
 thn (VO src s.q) fun w=>thn (inR src w.2.2) fun i=>thn (vB src [114,101,97,99,104,101,100] i.2.2) fun q1=>thn (vB src [119,104,101,110] q1) fun q2=>
 thn (jFQ src f {s with q:=q2,seen:=s.seen+1}) fun a=>thn (vB src [59] a.2.q) fun q3=>
 got {a.2 with q:=q3,tree:={a.2.tree with miles:=a.2.tree.miles++[⟨⟨w.1.toArray⟩,(w.2.1:Int),(s.seen:Int),⟨i.1.toArray⟩,(i.2.1:Int),a.1⟩]}}
def jBt(q:Q9):Re (Prm×Q9):=thn (VO src q) fun w=>thn (vB src [58] w.2.2) fun q1=>thn (jDK src jB3 1 q1) fun k=>got (⟨⟨w.1.toArray⟩,(w.2.1:Int),k.1⟩,k.2)
def Qw:Nat->List Prm->Q9->Re (List Prm×Q9)
 |0,_,_=>none
 |f+1,ps,q=>let t:=yR src [44] q;if t.1=true then thn (jBt src t.2) fun p=>Qw f (ps++[p.1]) p.2 else got (ps,t.2)
def jG8(f:Nat)(s:S9):Re (Eff×S9):=
 let t:=yR src [114,101,111,112,101,110] s.q
 if t.1=true then thn (VO src t.2) fun w=>thn (vB src [59] w.2.2) fun q1=>got (⟨⟨w.1.toArray⟩,(w.2.1:Int),-1⟩,{s with q:=q1})
 else thn (VO src t.2) fun w=>thn (vB src [58,61] w.2.2) fun q1=>thn (jFQ src f {s with q:=q1}) fun k=>thn (vB src [59] k.2.q) fun q2=>got (⟨⟨w.1.toArray⟩,(w.2.1:Int),k.1⟩,{k.2 with q:=q2})
def jE5:Nat->List Eff->S9->Re (List Eff×S9)
 |0,_,_=>none
 |f+1,es,s=>let t:=isQ src [125] s.q;if t.1=true then got (es,{s with q:=t.2})else thn (jG8 src f {s with q:=t.2}) fun e=>jE5 f (es++[e.1]) e.2
def jFW(f:Nat)(s:S9):Re S9:=
 thn (VO src s.q) fun w=>thn (vB src [40] w.2.2) fun q1=>
 let t:=yR src [41] q1
 thn (if t.1=true then got ([],t.2)else thn (jBt src t.2) fun p=>thn (Qw src f [p.1] p.2) fun ps=>thn (vB src [41] ps.2) fun q2=>got (ps.1,q2)) fun ps=>
 thn (inR src ps.2) fun i=>thn (XS src f [119,104,101,110] {s with q:=i.2.2,seen:=s.seen+1}) fun h=>thn (vB src [123] h.2.q) fun q3=>
 thn (jE5 src f [] {h.2 with q:=q3}) fun e=>thn (vB src [125] e.2.q) fun q4=>
 got {e.2 with q:=q4,tree:={e.2.tree with steps:=e.2.tree.steps++[⟨⟨w.1.toArray⟩,(w.2.1:Int),(s.seen:Int),ps.1,⟨i.1.toArray⟩,(i.2.1:Int),h.1,e.1⟩]}}
def Zc:Nat->S9->Re S9
 |0,_=>none
 |f+1,s=>
  let t:=isQ src [125] s.q
  if t.1=true then got {s with q:=t.2}else
  let a:=yR src [97,116,116,114,105,98,117,116,101] t.2
  if a.1=true then thn (jGP src f {s with q:=a.2}) (Zc f)else
  let b:=yR src [115,116,97,103,101] a.2
  if b.1=true then thn (jEE src f {s with q:=b.2}) (Zc f)else
  let c:=yR src [109,105,108,101,115,116,111,110,101] b.2
  if c.1=true then thn (jFr src f {s with q:=c.2}) (Zc f)else
  let d:=yR src [115,116,101,112] c.2
  if d.1=true then thn (jFW src f {s with q:=d.2}) (Zc f)else some (.error (uD src d.2))
def jGq(f:Nat):Re Tre:=
 thn (vB src [116,121,112,101] (Q9.on src ⟨0,0,[],false,false,false⟩)) fun q1=>thn (VO src q1) fun w=>thn (vB src [123] w.2.2) fun q2=>
 thn (Zc src f ⟨q2,{Tre.none_ with name:=⟨w.1.toArray⟩,at_:=(w.2.1:Int)},0⟩) fun s=>thn (vB src [125] s.q) fun q3=>
 if q3.at_ <src.length then some (.error (uD src q3))else got s.tree
theorem zX:∀(l:LB) (n:Nat),Jq l n=n*10^l.length+Jq l 0
 |[],n=>by rw[Jq,Jq,jN2,Nat.pow_zero,Nat.mul_one,Nat.add_zero]
 |c::l,n=>by
  rw[Jq,Jq,zX l (10*n+(c.toNat-48)),zX l (10*0+(c.toNat-48)),jK6,Nat.pow_succ];generalize 10^l.length=p;rw[Nat.mul_zero,Nat.zero_add,Nat.add_mul,Nat.add_assoc]
  congr 1
  rw[Nat.mul_comm 10 n,Nat.mul_assoc,Nat.mul_comm 10 p]
theorem Zb{c:UInt8}(h:yU c=true):48<=c.toNat/\c.toNat<=57:=jM8 h
theorem qh:∀(l:LB),l.all yU=true->Jq l 0<10^l.length
 |[],_=>by decide
 |c::l,h=>by
  rw[List.all_cons,Bool.and_eq_true]at h;have h1:=qh l h.2;have h2:=Zb h.1;rw[Jq,zX,jK6,Nat.pow_succ,Nat.mul_zero,Nat.zero_add];have h3:(c.toNat-48)*10^l.length<=9*10^l.length:=Nat.mul_le_mul_right _ (by omega);generalize 10^l.length=p at*;omega
theorem jDb(l:LB)(n:Nat):n<=Jq l n:=by
 rw[zX];exact jL4 (Nat.le_mul_of_pos_right n (Nat.pow_pos (by decide))) (Nat.le_add_right _ _)
theorem Vk:∀(l:LB),Jq (yD l) 0=Jq l 0
 |[]=>rfl
 |[a]=>rfl
 |a::b::l=>by
  unfold yD;by_cases h:a=48
  ·rw[jJ6 h,Vk (b::l)];subst h;rfl
  ·rw[jJ5 h]
theorem Zk:∀(l:LB),l.all yU=true->(yD l).all yU=true
 |[],h=>h
 |[a],h=>h
 |a::b::l,h=>by
  unfold yD;by_cases h1:a=48
  ·rw[jJ6 h1];rw[List.all_cons,Bool.and_eq_true]at h;exact Zk (b::l) h.2
  ·rw[jJ5 h1];exact h
theorem US:∀(x y:LB),x.length=y.length->x.all yU=true->y.all yU=true->leB x y=true->Jq x 0<=Jq y 0
 |[],[],_,_,_,_=>jL3 _
 |[],_::_,h,_,_,_=>by cases h
 |_::_,[],h,_,_,_=>by cases h
 |a::x,b::y,h,hx,hy,hl=>by
  rw[jK6,jK6]at h;have hlen:x.length=y.length:=(by omega);rw[List.all_cons,Bool.and_eq_true]at hx hy;have ha:=Zb hx.1;have hb:=Zb hy.1;have h1:=qh x hx.2;rw[leB]at hl;rw[Jq,Jq,zX x,zX y,hlen];rw[hlen]at h1;simp only[Nat.mul_zero,Nat.zero_add];by_cases hab:a.toNat<b.toNat
  ·have h3:(a.toNat-48+1)*10^y.length<=(b.toNat-48)*10^y.length:=Nat.mul_le_mul_right _ (by omega);rw[Nat.add_mul]at h3;generalize 10^y.length=p at*;omega
  ·rw[jJ5 hab]at hl;by_cases hba:b.toNat<a.toNat
   ·rw[jJ6 hba]at hl;cases hl
   ·rw[jJ5 hba]at hl;have h4:=US x y hlen hx.2 hy.2 hl;have h5:a.toNat=b.toNat:=(by omega);rw[h5];omega
theorem ZV:Jq yJ 0=9223372036854775807:=by decide+kernel
theorem jEw{l:LB}(h:jZ l=true):l.all yU=true/\Jq l 0<=9223372036854775807:=by
 unfold jZ at h;rw[Bool.and_eq_true]at h;obtain⟨h1,h2⟩:=h;refine⟨h1,?_⟩;rw[<-Vk l];have h3:=Zk l h1;rw[Bool.or_eq_true,Bool.and_eq_true]at h2;rcases h2 with h2|⟨h2,h4⟩
 ·have h5:=qh _ h3;have h6:(yD l).length<=18:=by have:=jM8 h2;omega
  have h7:10^(yD l).length<=10^18:=Nat.pow_le_pow_right (by decide) h6;have h8:(10:Nat)^18=1000000000000000000:=(by decide);omega
 ·have h5:=US (yD l) yJ (jM8 h2) h3 (by decide) h4;rw[ZV]at h5;exact h5
end Go.Proofs.YtifbhcfdealfaaaGreatDoor

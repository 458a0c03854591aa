import Derived.Test.YtmmjcbbogokmfaaGreatDoorMp06
set_option maxRecDepth 100000
set_option maxHeartbeats 25600000
namespace Go.Proofs.YtmmjcbbogokmfaaGreatDoor
open Go.Proofs.Tryz
open Go.RowKit
theorem MOut.trans{w W w' :World}{g:Nat}{r r1:Option Nat}{src:BA}{o:Out}{e:Ending}(hk:Kp (MX g r) w W)(hf:MFr w r r1)(h:MOut W g r1 src o e w'):MOut w g r src o e w' :=by
 cases o with
 |ok m' =>exact⟨h.1,MStep.trans hk hf h.2⟩
 |error k=>exact⟨h.1,hk.trans h.2 (MX.trans hf)⟩
theorem zN(p:UInt8->Bool):∀l:LB,l.takeWhile p=l.take (l.takeWhile p).length
 |[]=>rfl
 |a::l=>by
  rw[List.takeWhile_cons];split
  ·rw[jK6,List.take_succ_cons,<-zN p l]
  ·rfl
theorem UH(w:World)(hg:Sg w)(g:Nat)(r:Option Nat)(src:BA)(m:Mc)(A:OA)(c:Nat)(h:Mac w g r src m A c)(hs:src.size<=1000000)(ha:m.at_ <src.size)(hw0:ju src[m.at_]=true)(Hv:m.stack.length<=1000000):
  Calls prog 162 #[.pointer (some ⟨g,0,none⟩)] w (MOut w g r src (vg m ((sb src).drop m.at_))):=by
 have hl:((sb src).drop m.at_).length=src.size-m.at_:=(by rw[jK8,jB]);have hT:=jCN ju ((sb src).drop m.at_);have hE:=uu ju ((sb src).drop m.at_);have Ng:=zN ju ((sb src).drop m.at_);have Ec:(((sb src).drop m.at_).takeWhile ju).length<=src.size-m.at_:=by rw[<-hl];exact vX _ _
 have AY:0<(((sb src).drop m.at_).takeWhile ju).length:=by
  rw[yB src m.at_ ha];exact ya ju _ _ hw0
 have Tf:vg m ((sb src).drop m.at_)=if(((sb src).drop m.at_).takeWhile ju).length<src.size-m.at_ /\Jl (((sb src).drop m.at_).takeWhile ju)=true/\vd (yR (((sb src).drop m.at_).takeWhile ju)) m.stack=true then
   vz (yR (((sb src).drop m.at_).takeWhile ju)) {m with from_:=m.at_} (m.at_ +(((sb src).drop m.at_).takeWhile ju).length)else zU {m with from_:=m.at_} ((sb src).drop m.at_):=by rw[vg,hl]
 rw[hl]at hE;generalize hTT:(((sb src).drop m.at_).takeWhile ju).length=T at*;have NN:sb (src.extract m.at_ (m.at_ +T))=((sb src).drop m.at_).takeWhile ju:=(by rw[jq,show m.at_ +T-m.at_=T by omega,<-Ng]);rw[<-NN]at Tf;have HT:=G (show∀k,k<T->∃Gc:m.at_ +k<src.size,ju src[m.at_ +k]=true from fun k hk=>by
  obtain⟨c,h1,h2⟩:=hT k hk;obtain⟨h3,h4⟩:=VF src m.at_ k c h1;exact⟨h3,by rw[h4];exact h2⟩)
 have HE:=G (show T<src.size-m.at_ ->∃Gc:m.at_ +T<src.size,ju src[m.at_ +T]=false from fun hlt=>by
  obtain⟨c,h1,h2⟩:=hE hlt;obtain⟨h3,h4⟩:=VF src m.at_ T c h1;exact⟨h3,by rw[h4];exact h2⟩)
 have Gl:(src.extract m.at_ (m.at_ +T)).size=T:=(by rw[<-jB,NN,hTT]);obtain⟨m1,k1⟩:=h.setFrom m.at_;have G6:=h.c1;have Li:=h.c4;have Sx:=h.z 4;have Nw:=hg.mx h k1;clear hl hT hE Ng hTT NN h hg hw0;generalize LT:src.extract m.at_ (m.at_ +T)=sy at*;have HP:=G (fun W (hO:Old (w.setCell ⟨g,4,none⟩ (.int .i64 (m.at_:Int))) W)=>XX W (Nw.old hO) sy (by omega) (by omega));have HN:=G (fun W (hO:Old (w.setCell ⟨g,4,none⟩ (.int .i64 (m.at_:Int))) W)=>Ku W (Nw.old hO) sy (by omega));have HM:=G (fun W (hO:Old (w.setCell ⟨g,4,none⟩ (.int .i64 (m.at_:Int))) W)=>Jm W g r src _ A c (m1.old hO) (yR (sb sy)));have HS:=G (fun W (hO:Old (w.setCell ⟨g,4,none⟩ (.int .i64 (m.at_:Int))) W)=>Ut W (Nw.old hO) g r src _ A c (m1.old hO) hs ha rfl);have Tg:=KP (sb sy);have MF:=G (fun W (hO:Old (w.setCell ⟨g,4,none⟩ (.int .i64 (m.at_:Int))) W)=>by
  have:=(m1.old hO).setAt (m.at_ +T)
  rwa [show((m.at_ +T:Nat):Int)=(m.at_:Int)+T by omega]at this)
 have GL:=G (fun W (hO:Old (w.setCell ⟨g,4,none⟩ (.int .i64 (m.at_:Int))) W)=>Ku _ ((Nw.old hO).mx (m1.old hO) (MF.out W hO).2) sy (by omega));have Pt:=G (Jh (yR (sb sy)) Tg m Hv);have WZ:=G Tf;have K1:=G k1;have P8:=m1.c1;have CC:=m1.c0;have GI:=m1.z 1;simp only at P8 CC HS HM;unfold yv at HM;clear m1 k1 Nw Tf;generalize Wl:vg m ((sb src).drop m.at_)=R at*;generalize yR (sb sy)=N at*;generalize Jl (sb sy)=pb at*;generalize hmb:vd N m.stack=mb at*;clear Wl hmb;have a10:(0:Int)<=(m.at_:Int):=(by omega);have a11:(m.at_:Int).toNat=m.at_:=(by omega);go_enter func162,ntmps162;go_wp2;generalize Nf:w.setCell ⟨g,4,none⟩ (.int .i64 (m.at_:Int))=w1 at*;go_loop [2] (fun i=>∃j:Nat,j<=T/\i=.int .i64 ((m.at_:Int)+j)) (fun i=>src.size-(intOf i).toNat)
 case atStart=>exact⟨0,Nat.zero_le _,by simp⟩
 case round=>
  obtain⟨j,hj,rfl⟩:=hrel;by_cases hlt:j<T
  ·obtain⟨Gc,Wj⟩:=HT.out j hlt;have Hw:=G (fun W=>vZ W src[m.at_ +j]);unfold bv at Hw;rw[Wj]at Hw;clear Wj;generalize hp:m.at_ +j=p at*;rw[show(m.at_:Int)+j=(p:Int)by omega];have b1:(p:Int)<(src.size:Int):=(by omega);have b2:(0:Int)<=(p:Int):=(by omega);have b3:(p:Int).toNat=p:=(by omega);have b4:IntKind.i64.wrap ((p:Int)+1)=(p:Int)+1:=jQ3 _ (by omega);go_wp2_with (go_at_call 129;refine(Hw.out _).mono ?_;rintro e w1 ⟨rfl,rfl⟩);exact⟨⟨j+1,by omega,by rw[show(m.at_:Int)+((j+1:Nat):Int)=(p:Int)+1 by omega]⟩,by simp[intOf];omega⟩
  ·obtain rfl:j=T:=(by omega);clear HT;generalize hq:m.at_ +j=q at*;rw[show(m.at_:Int)+(j:Int)=(q:Int)by omega]at MF GL⊢;have c1:(0:Int)<=(q:Int):=(by omega);have c2:(q:Int).toNat=q:=(by omega);have c3:(m.at_:Int)<=(q:Int):=(by omega);have c4:(q:Int)<=(src.size:Int):=(by omega);by_cases FT:q=src.size
   ·have d1:¬(q:Int)<(src.size:Int):=(by omega);have HR:=G (show R=zU {m with from_:=m.at_} ((sb src).drop m.at_)by rw[WZ.out,jJ5 (fun h=>by have:=h.1;omega)]);clear WZ HE Pt MF FT;generalize zU {m with from_:=m.at_} ((sb src).drop m.at_)=SP at*;cases SP with
    |ok m' =>
     go_wp2;go_quiet (fail);go_wp2_with (first|(go_at_call 129;refine(Hw.out _).mono ?_;rintro e w1 ⟨rfl,rfl⟩)|(go_at_call 198;refine(HP.out _ (by first|exact jQ0 _ _ |exact(jQ0 _ _).drewN _ |exact((jQ0 _ _).drewN _).drewN _)).mono ?_;rintro e w1 ⟨rfl,rfl⟩)|(go_at_call 164;(first|refine(HN.out _ (by first|exact jQ0 _ _ |exact(jQ0 _ _).drewN _ |exact((jQ0 _ _).drewN _).drewN _)).mono ?_ |refine(GL.out _ (by first|exact jQ0 _ _ |exact(jQ0 _ _).drewN _ |exact((jQ0 _ _).drewN _).drewN _)).mono ?_);rintro e w1 ⟨rfl,rfl⟩)|(go_at_call 176;refine(HM.out _ (by first|exact jQ0 _ _ |exact(jQ0 _ _).drewN _ |exact((jQ0 _ _).drewN _).drewN _)).mono ?_;rintro e w1 ⟨rfl,rfl⟩)|(go_at_call 199;refine(HS.out _ (by first|exact jQ0 _ _ |exact(jQ0 _ _).drewN _ |exact((jQ0 _ _).drewN _).drewN _)).mono ?_;rintro e w2 ⟨rfl,hX⟩)|(go_at_call 179;refine(MU.out _ (by first|exact jQ0 _ _ |exact(jQ0 _ _).drewN _ |exact((jQ0 _ _).drewN _).drewN _)).mono ?_;rintro e w2 ⟨rfl,hX⟩));go_end0;rw[HR.out];exact MOut.trans (K1.out.drewN _) (.inl rfl) ⟨rfl,hX⟩
    |error k=>
     go_wp2;go_quiet (fail);go_wp2_with (first|(go_at_call 129;refine(Hw.out _).mono ?_;rintro e w1 ⟨rfl,rfl⟩)|(go_at_call 198;refine(HP.out _ (by first|exact jQ0 _ _ |exact(jQ0 _ _).drewN _ |exact((jQ0 _ _).drewN _).drewN _)).mono ?_;rintro e w1 ⟨rfl,rfl⟩)|(go_at_call 164;(first|refine(HN.out _ (by first|exact jQ0 _ _ |exact(jQ0 _ _).drewN _ |exact((jQ0 _ _).drewN _).drewN _)).mono ?_ |refine(GL.out _ (by first|exact jQ0 _ _ |exact(jQ0 _ _).drewN _ |exact((jQ0 _ _).drewN _).drewN _)).mono ?_);rintro e w1 ⟨rfl,rfl⟩)|(go_at_call 176;refine(HM.out _ (by first|exact jQ0 _ _ |exact(jQ0 _ _).drewN _ |exact((jQ0 _ _).drewN _).drewN _)).mono ?_;rintro e w1 ⟨rfl,rfl⟩)|(go_at_call 199;refine(HS.out _ (by first|exact jQ0 _ _ |exact(jQ0 _ _).drewN _ |exact((jQ0 _ _).drewN _).drewN _)).mono ?_;rintro e w2 ⟨rfl,hX⟩)|(go_at_call 179;refine(MU.out _ (by first|exact jQ0 _ _ |exact(jQ0 _ _).drewN _ |exact((jQ0 _ _).drewN _).drewN _)).mono ?_;rintro e w2 ⟨rfl,hX⟩));refine⟨rfl,?_⟩;rw[HR.out];exact MOut.trans (K1.out.drewN _) (.inl rfl) ⟨rfl,hX⟩
   ·have d1:(q:Int)<(src.size:Int):=(by omega);obtain⟨Gc,Wj⟩:=HE.out (by omega);have Hw:=G (fun W=>vZ W src[q]);unfold bv at Hw;rw[Wj]at Hw;clear Wj HE;by_cases Ng:pb=true/\mb=true
    ·obtain⟨rfl,rfl⟩:=Ng;obtain⟨n2,s2,NJ,NI,NH⟩:=Pt.out rfl;have HR:=G (show R=.ok {m with from_:=m.at_,at_:=q,stack:=s2}by rw[WZ.out,jJ6 ⟨by omega,rfl,rfl⟩,NH]);have MU:=G (fun W (hO:Old w1 W)=>yj _ g r src _ A c (MF.out W hO).1 N n2 s2 Tg NJ NI);unfold yv at MU;clear WZ Pt FT NJ NI NH;go_wp2_with (first|(go_at_call 129;refine(Hw.out _).mono ?_;rintro e w1 ⟨rfl,rfl⟩)|(go_at_call 198;refine(HP.out _ (by first|exact jQ0 _ _ |exact(jQ0 _ _).drewN _ |exact((jQ0 _ _).drewN _).drewN _)).mono ?_;rintro e w1 ⟨rfl,rfl⟩)|(go_at_call 164;(first|refine(HN.out _ (by first|exact jQ0 _ _ |exact(jQ0 _ _).drewN _ |exact((jQ0 _ _).drewN _).drewN _)).mono ?_ |refine(GL.out _ (by first|exact jQ0 _ _ |exact(jQ0 _ _).drewN _ |exact((jQ0 _ _).drewN _).drewN _)).mono ?_);rintro e w1 ⟨rfl,rfl⟩)|(go_at_call 176;refine(HM.out _ (by first|exact jQ0 _ _ |exact(jQ0 _ _).drewN _ |exact((jQ0 _ _).drewN _).drewN _)).mono ?_;rintro e w1 ⟨rfl,rfl⟩)|(go_at_call 199;refine(HS.out _ (by first|exact jQ0 _ _ |exact(jQ0 _ _).drewN _ |exact((jQ0 _ _).drewN _).drewN _)).mono ?_;rintro e w2 ⟨rfl,hX⟩)|(go_at_call 179;refine(MU.out _ (by first|exact jQ0 _ _ |exact(jQ0 _ _).drewN _ |exact((jQ0 _ _).drewN _).drewN _)).mono ?_;rintro e w2 ⟨rfl,hX⟩));go_quiet (fail);go_wp2_with (first|(go_at_call 129;refine(Hw.out _).mono ?_;rintro e w1 ⟨rfl,rfl⟩)|(go_at_call 198;refine(HP.out _ (by first|exact jQ0 _ _ |exact(jQ0 _ _).drewN _ |exact((jQ0 _ _).drewN _).drewN _)).mono ?_;rintro e w1 ⟨rfl,rfl⟩)|(go_at_call 164;(first|refine(HN.out _ (by first|exact jQ0 _ _ |exact(jQ0 _ _).drewN _ |exact((jQ0 _ _).drewN _).drewN _)).mono ?_ |refine(GL.out _ (by first|exact jQ0 _ _ |exact(jQ0 _ _).drewN _ |exact((jQ0 _ _).drewN _).drewN _)).mono ?_);rintro e w1 ⟨rfl,rfl⟩)|(go_at_call 176;refine(HM.out _ (by first|exact jQ0 _ _ |exact(jQ0 _ _).drewN _ |exact((jQ0 _ _).drewN _).drewN _)).mono ?_;rintro e w1 ⟨rfl,rfl⟩)|(go_at_call 199;refine(HS.out _ (by first|exact jQ0 _ _ |exact(jQ0 _ _).drewN _ |exact((jQ0 _ _).drewN _).drewN _)).mono ?_;rintro e w2 ⟨rfl,hX⟩)|(go_at_call 179;refine(MU.out _ (by first|exact jQ0 _ _ |exact(jQ0 _ _).drewN _ |exact((jQ0 _ _).drewN _).drewN _)).mono ?_;rintro e w2 ⟨rfl,hX⟩));refine bodyPost_ret (results_none rfl _ _ _) rfl ?_;rw[HR.out];exact MOut.trans ((K1.out.drewN _).trans (MF.out _ (by first|exact jQ0 _ _ |exact(jQ0 _ _).drewN _ |exact((jQ0 _ _).drewN _).drewN _)).2 (fun _ _ h=>h)) (.inl rfl) ⟨rfl,hX⟩
    ·have HR:=G (show R=zU {m with from_:=m.at_} ((sb src).drop m.at_)by rw[WZ.out,jJ5 (fun h=>Ng h.2)]);clear WZ Pt MF FT;generalize zU {m with from_:=m.at_} ((sb src).drop m.at_)=SP at*;rcases (show pb=false\/(pb=true/\mb=false)by cases pb<;>cases mb<;>simp at Ng⊢)with rfl|⟨rfl,rfl⟩
     all_goals
      clear Ng;cases SP with
      |ok m' =>
       go_wp2_with (first|(go_at_call 129;refine(Hw.out _).mono ?_;rintro e w1 ⟨rfl,rfl⟩)|(go_at_call 198;refine(HP.out _ (by first|exact jQ0 _ _ |exact(jQ0 _ _).drewN _ |exact((jQ0 _ _).drewN _).drewN _)).mono ?_;rintro e w1 ⟨rfl,rfl⟩)|(go_at_call 164;(first|refine(HN.out _ (by first|exact jQ0 _ _ |exact(jQ0 _ _).drewN _ |exact((jQ0 _ _).drewN _).drewN _)).mono ?_ |refine(GL.out _ (by first|exact jQ0 _ _ |exact(jQ0 _ _).drewN _ |exact((jQ0 _ _).drewN _).drewN _)).mono ?_);rintro e w1 ⟨rfl,rfl⟩)|(go_at_call 176;refine(HM.out _ (by first|exact jQ0 _ _ |exact(jQ0 _ _).drewN _ |exact((jQ0 _ _).drewN _).drewN _)).mono ?_;rintro e w1 ⟨rfl,rfl⟩)|(go_at_call 199;refine(HS.out _ (by first|exact jQ0 _ _ |exact(jQ0 _ _).drewN _ |exact((jQ0 _ _).drewN _).drewN _)).mono ?_;rintro e w2 ⟨rfl,hX⟩)|(go_at_call 179;refine(MU.out _ (by first|exact jQ0 _ _ |exact(jQ0 _ _).drewN _ |exact((jQ0 _ _).drewN _).drewN _)).mono ?_;rintro e w2 ⟨rfl,hX⟩));go_quiet (fail);go_wp2_with (first|(go_at_call 129;refine(Hw.out _).mono ?_;rintro e w1 ⟨rfl,rfl⟩)|(go_at_call 198;refine(HP.out _ (by first|exact jQ0 _ _ |exact(jQ0 _ _).drewN _ |exact((jQ0 _ _).drewN _).drewN _)).mono ?_;rintro e w1 ⟨rfl,rfl⟩)|(go_at_call 164;(first|refine(HN.out _ (by first|exact jQ0 _ _ |exact(jQ0 _ _).drewN _ |exact((jQ0 _ _).drewN _).drewN _)).mono ?_ |refine(GL.out _ (by first|exact jQ0 _ _ |exact(jQ0 _ _).drewN _ |exact((jQ0 _ _).drewN _).drewN _)).mono ?_);rintro e w1 ⟨rfl,rfl⟩)|(go_at_call 176;refine(HM.out _ (by first|exact jQ0 _ _ |exact(jQ0 _ _).drewN _ |exact((jQ0 _ _).drewN _).drewN _)).mono ?_;rintro e w1 ⟨rfl,rfl⟩)|(go_at_call 199;refine(HS.out _ (by first|exact jQ0 _ _ |exact(jQ0 _ _).drewN _ |exact((jQ0 _ _).drewN _).drewN _)).mono ?_;rintro e w2 ⟨rfl,hX⟩)|(go_at_call 179;refine(MU.out _ (by first|exact jQ0 _ _ |exact(jQ0 _ _).drewN _ |exact((jQ0 _ _).drewN _).drewN _)).mono ?_;rintro e w2 ⟨rfl,hX⟩));go_end0;rw[HR.out];exact MOut.trans (K1.out.drewN _) (.inl rfl) ⟨rfl,hX⟩
      |error k=>
       go_wp2_with (first|(go_at_call 129;refine(Hw.out _).mono ?_;rintro e w1 ⟨rfl,rfl⟩)|(go_at_call 198;refine(HP.out _ (by first|exact jQ0 _ _ |exact(jQ0 _ _).drewN _ |exact((jQ0 _ _).drewN _).drewN _)).mono ?_;rintro e w1 ⟨rfl,rfl⟩)|(go_at_call 164;(first|refine(HN.out _ (by first|exact jQ0 _ _ |exact(jQ0 _ _).drewN _ |exact((jQ0 _ _).drewN _).drewN _)).mono ?_ |refine(GL.out _ (by first|exact jQ0 _ _ |exact(jQ0 _ _).drewN _ |exact((jQ0 _ _).drewN _).drewN _)).mono ?_);rintro e w1 ⟨rfl,rfl⟩)|(go_at_call 176;refine(HM.out _ (by first|exact jQ0 _ _ |exact(jQ0 _ _).drewN _ |exact((jQ0 _ _).drewN _).drewN _)).mono ?_;rintro e w1 ⟨rfl,rfl⟩)|(go_at_call 199;refine(HS.out _ (by first|exact jQ0 _ _ |exact(jQ0 _ _).drewN _ |exact((jQ0 _ _).drewN _).drewN _)).mono ?_;rintro e w2 ⟨rfl,hX⟩)|(go_at_call 179;refine(MU.out _ (by first|exact jQ0 _ _ |exact(jQ0 _ _).drewN _ |exact((jQ0 _ _).drewN _).drewN _)).mono ?_;rintro e w2 ⟨rfl,hX⟩));go_quiet (fail);go_wp2_with (first|(go_at_call 129;refine(Hw.out _).mono ?_;rintro e w1 ⟨rfl,rfl⟩)|(go_at_call 198;refine(HP.out _ (by first|exact jQ0 _ _ |exact(jQ0 _ _).drewN _ |exact((jQ0 _ _).drewN _).drewN _)).mono ?_;rintro e w1 ⟨rfl,rfl⟩)|(go_at_call 164;(first|refine(HN.out _ (by first|exact jQ0 _ _ |exact(jQ0 _ _).drewN _ |exact((jQ0 _ _).drewN _).drewN _)).mono ?_ |refine(GL.out _ (by first|exact jQ0 _ _ |exact(jQ0 _ _).drewN _ |exact((jQ0 _ _).drewN _).drewN _)).mono ?_);rintro e w1 ⟨rfl,rfl⟩)|(go_at_call 176;refine(HM.out _ (by first|exact jQ0 _ _ |exact(jQ0 _ _).drewN _ |exact((jQ0 _ _).drewN _).drewN _)).mono ?_;rintro e w1 ⟨rfl,rfl⟩)|(go_at_call 199;refine(HS.out _ (by first|exact jQ0 _ _ |exact(jQ0 _ _).drewN _ |exact((jQ0 _ _).drewN _).drewN _)).mono ?_;rintro e w2 ⟨rfl,hX⟩)|(go_at_call 179;refine(MU.out _ (by first|exact jQ0 _ _ |exact(jQ0 _ _).drewN _ |exact((jQ0 _ _).drewN _).drewN _)).mono ?_;rintro e w2 ⟨rfl,hX⟩));refine⟨rfl,?_⟩;rw[HR.out];exact MOut.trans (K1.out.drewN _) (.inl rfl) ⟨rfl,hX⟩
abbrev GX(g:Nat):Nat->Prop:=fun b=>b=g
def rdC(src:BA)(r:Rdr)(xs:List Value):List Value:=.string src:: .int .i64 (r.at_:Int):: .int .i64 (r.from_:Int):: .int .u8 (r.t:Int):: .int .i64 (r.order:Int)::xs
def Rb(w:World)(g:Nat)(src:BA)(r:Rdr)(xs:List Value):Prop:=Blk w g 165 (rdC src r xs).toArray
section
variable{w w1:World}{g:Nat}{src:BA}{r:Rdr}{xs:List Value}
theorem Rb.c0(h:Rb w g src r xs):w.cell? ⟨g,0,none⟩=some (.string src):=Blk.at_ h 0 rfl
theorem Rb.c1(h:Rb w g src r xs):w.cell? ⟨g,1,none⟩=some (.int .i64 (r.at_:Int)):=Blk.at_ h 1 rfl
theorem Rb.c2(h:Rb w g src r xs):w.cell? ⟨g,2,none⟩=some (.int .i64 (r.from_:Int)):=Blk.at_ h 2 rfl
theorem Rb.c3(h:Rb w g src r xs):w.cell? ⟨g,3,none⟩=some (.int .u8 (r.t:Int)):=Blk.at_ h 3 rfl
theorem Rb.c4(h:Rb w g src r xs):w.cell? ⟨g,4,none⟩=some (.int .i64 (r.order:Int)):=Blk.at_ h 4 rfl
theorem Rb.z(h:Rb w g src r xs)(i:Nat):w.frozen? ⟨g,i,none⟩=false:=Blk.frozen h i
theorem Rb.old(h:Rb w g src r xs)(ho:Old w w1):Rb w1 g src r xs:=Blk.old h ho
theorem Rb.drewN(h:Rb w g src r xs)(n:Nat):Rb (w.drewN n) g src r xs:=h
theorem Rb.kp{X:Nat->Prop}(h:Rb w g src r xs)(ho:Kp X w w1)(hx:¬X g):Rb w1 g src r xs:=Blk.kp h ho hx
theorem Rb.setAt(h:Rb w g src r xs)(k:Nat):Rb (w.setCell ⟨g,1,none⟩ (.int .i64 (k:Int))) g src {r with at_:=k} xs/\Kp (fun b=>b=g) w (w.setCell ⟨g,1,none⟩ (.int .i64 (k:Int))):=
 ⟨by simpa [Rb,rdC]using Blk.set_ h 1 (.int .i64 (k:Int)),(jQ0 (fun b=>b=g) w).setCell (p:=⟨g,1,none⟩) (fun _=>rfl) _⟩
theorem Rb.setFrom(h:Rb w g src r xs)(k:Nat):Rb (w.setCell ⟨g,2,none⟩ (.int .i64 (k:Int))) g src {r with from_:=k} xs/\Kp (fun b=>b=g) w (w.setCell ⟨g,2,none⟩ (.int .i64 (k:Int))):=
 ⟨by simpa [Rb,rdC]using Blk.set_ h 2 (.int .i64 (k:Int)),(jQ0 (fun b=>b=g) w).setCell (p:=⟨g,2,none⟩) (fun _=>rfl) _⟩
theorem Rb.setT(h:Rb w g src r xs)(k:Nat):Rb (w.setCell ⟨g,3,none⟩ (.int .u8 (k:Int))) g src {r with t:=k} xs/\Kp (fun b=>b=g) w (w.setCell ⟨g,3,none⟩ (.int .u8 (k:Int))):=
 ⟨by simpa [Rb,rdC]using Blk.set_ h 3 (.int .u8 (k:Int)),(jQ0 (fun b=>b=g) w).setCell (p:=⟨g,3,none⟩) (fun _=>rfl) _⟩
theorem Rb.setOrder(h:Rb w g src r xs)(k:Nat):Rb (w.setCell ⟨g,4,none⟩ (.int .i64 (k:Int))) g src {r with order:=k} xs/\Kp (fun b=>b=g) w (w.setCell ⟨g,4,none⟩ (.int .i64 (k:Int))):=
 ⟨by simpa [Rb,rdC]using Blk.set_ h 4 (.int .i64 (k:Int)),(jQ0 (fun b=>b=g) w).setCell (p:=⟨g,4,none⟩) (fun _=>rfl) _⟩
end
theorem jAB(src:BA)(r:Rdr):sb (src.extract r.from_ r.at_)=kn (sb src) r:=by
 rw[jq,kn,List.drop_take]
theorem Kx(w:World)(g:Nat)(src:BA)(r:Rdr)(xs:List Value)(h:Rb w g src r xs)(h1:r.from_ <=r.at_)(h2:r.at_ <=src.size):
  Calls prog 165 #[.pointer (some ⟨g,0,none⟩)] w fun e w' =>e=.returned (.string (src.extract r.from_ r.at_))/\∃n,w' =w.drewN n:=by
 have Nl:=h.c0;have G6:=h.c1;have FE:=h.c2;have a1:(r.at_:Int)<=(src.size:Int):=(by omega);have a2:(0:Int)<=(r.from_:Int):=(by omega);have a3:(r.from_:Int).toNat=r.from_:=(by omega);have a4:(r.from_:Int)<=(r.at_:Int):=(by omega);have a5:(r.at_:Int).toNat=r.at_:=(by omega);clear h h1 h2;go_enter func165,ntmps165;go_wp2;go_quiet (fail);go_wp2;go_ret;exact⟨rfl,_,rfl⟩
def iv(i:Int):Value:=.int .i64 i
structure MNd where
 n:Nd
 A:OA
 c:Nat
 vA:OA
 vc:Nat
structure MSt where
 s:Stp
 pA:OA
 pc:Nat
 eA:OA
 ec:Nat
def ndC(x:MNd):List Value:=[iv x.n.op,.string x.n.name,iv x.n.vk,iv x.n.vn,.string x.n.vt,.slice x.vA x.n.vs.length x.vc,.slice x.A x.n.kids.length x.c]
def prC(p:Prm):List Value:=[.string p.name,iv p.at_,iv p.kind]
def efC(p:Eff):List Value:=[.string p.name,iv p.at_,iv p.worth]
def stC(x:MSt):List Value:=[.string x.s.name,iv x.s.at_,iv x.s.order,.slice x.pA x.s.params.length x.pc,.string x.s.in_,iv x.s.inAt,iv x.s.when_,.slice x.eA x.s.effects.length x.ec]
def atC(a:Atr):List Value:=[.string a.name,iv a.at_,iv a.order,iv a.kind,.bool a.opt,iv a.dflt,iv a.when_]
def sgC(a:Stg):List Value:=[.string a.name,iv a.at_,iv a.order,.string a.in_,iv a.inAt,iv a.opens,iv a.closes]
def miC(a:Mil):List Value:=[.string a.name,iv a.at_,iv a.order,.string a.in_,iv a.inAt,iv a.when_]
def oC(x:Int):List Value:=[iv x]
structure Sl where
 aA:OA
 ac:Nat
 gA:OA
 gc:Nat
 mA:OA
 mc:Nat
 pA:OA
 pc:Nat
 nA:OA
 nc:Nat
 oA:OA
 oc:Nat
 z:Nat->Prop
def jF(t:Tre)(s:Sl):List Value:=[.string t.name,iv t.at_,.slice s.aA t.attrs.length s.ac,.slice s.gA t.stages.length s.gc,.slice s.mA t.miles.length s.mc,.slice s.pA t.steps.length s.pc,.slice s.nA t.nodes.length s.nc,.slice s.oA t.ats.length s.oc]
def OX(g:Nat)(s:Sl):Nat->Prop:=fun b=>b=g\/s.aA.map (·.block)=some b\/s.gA.map (·.block)=some b\/s.mA.map (·.block)=some b\/s.pA.map (·.block)=some b\/s.nA.map (·.block)=some b\/s.oA.map (·.block)=some b
def AX(g:Nat)(s:Sl):Nat->Prop:=fun b=>OX g s b\/s.z b
structure Fr(g:Nat)(s s' :Sl)(w w' :World):Prop where
 kp:Kp (OX g s) w w'
 own:∀b,b<w.heap.size->OX g s' b->OX g s b
 z:s'.z=s.z
theorem Fr.refl(g:Nat)(s:Sl)(w:World):Fr g s s w w:=⟨jQ0 _ _,fun _ _ h=>h,rfl⟩
theorem Fr.trans{g:Nat}{s s1 s2:Sl}{w w1 w2:World}(h:Fr g s s1 w w1)(k:Fr g s1 s2 w1 w2):Fr g s s2 w w2:=
 ⟨h.kp.trans k.kp h.own,fun b hb e=>h.own b hb (k.own b (jL8 hb h.kp.size) e),k.z.trans h.z⟩
theorem Fr.of_g{g:Nat}(s:Sl){w w' :World}(h:Kp (GX g) w w'):Fr g s s w w' :=⟨h.mono (fun _ _ e=>.inl e),fun _ _ h=>h,rfl⟩
theorem Fr.of_old{g:Nat}(s:Sl){w w' :World}(h:Old w w'):Fr g s s w w' :=⟨h.mono (fun _ _ e=>e.elim),fun _ _ h=>h,rfl⟩
theorem xM{g:Nat}{s s' :Sl}{w w' :World}{z n:Nat}{A:OA}{xs:List Value}(h:Rd w z A n xs)(ha:Av (AX g s) n A)(hz:0<z)(f:Fr g s s' w w'):Rd w' z A n xs/\Av (AX g s') n A:=
 ⟨h.kp f.kp (fun hn ad ea hx=>ha hn ad ea (.inl hx)),fun hn ad ea hx=>ha hn ad ea (hx.elim (fun e=>.inl (f.own _ (h.lt hz hn ea) e)) (fun e=>.inr (by rw[<-f.z];exact e)))⟩
structure OkN(w:World)(X:Nat->Prop)(x:MNd):Prop where
 kids:Rd w 1 x.A x.n.kids.length (x.n.kids.map iv)
 kav:Av X x.n.kids.length x.A
 vs:Rd w 1 x.vA x.n.vs.length (x.n.vs.map sv)
 vav:Av X x.n.vs.length x.vA
structure OkP(w:World)(X:Nat->Prop)(x:MSt):Prop where
 ps:Rd w 3 x.pA x.s.params.length (x.s.params.flatMap prC)
 pav:Av X x.s.params.length x.pA
 es:Rd w 3 x.eA x.s.effects.length (x.s.effects.flatMap efC)
 eav:Av X x.s.effects.length x.eA
def OkA(_:World)(_:Nat->Prop)(_:Atr):Prop:=True
def OkG(_:World)(_:Nat->Prop)(_:Stg):Prop:=True
def OkM(_:World)(_:Nat->Prop)(_:Mil):Prop:=True
def OkO(_:World)(_:Nat->Prop)(_:Int):Prop:=True
theorem OkN.fr{g:Nat}{s s' :Sl}{w w' :World}{x:MNd}(h:OkN w (AX g s) x)(f:Fr g s s' w w'):OkN w' (AX g s') x:=
 ⟨(xM h.kids h.kav (by decide) f).1,(xM h.kids h.kav (by decide) f).2,(xM h.vs h.vav (by decide) f).1,(xM h.vs h.vav (by decide) f).2⟩
theorem OkP.fr{g:Nat}{s s' :Sl}{w w' :World}{x:MSt}(h:OkP w (AX g s) x)(f:Fr g s s' w w'):OkP w' (AX g s') x:=
 ⟨(xM h.ps h.pav (by decide) f).1,(xM h.ps h.pav (by decide) f).2,(xM h.es h.eav (by decide) f).1,(xM h.es h.eav (by decide) f).2⟩
structure TRows(w:World)(X:Nat->Prop)(t:Tre)(s:Sl)(ns:List MNd)(ps:List MSt):Prop where
 rA:w.ownsRow 8 114 7 (.slice s.aA t.attrs.length s.ac) t.attrs.length (t.attrs.flatMap atC)
 rG:w.ownsRow 8 117 7 (.slice s.gA t.stages.length s.gc) t.stages.length (t.stages.flatMap sgC)
 rM:w.ownsRow 8 64 6 (.slice s.mA t.miles.length s.mc) t.miles.length (t.miles.flatMap miC)
 rP:w.ownsRow 8 111 8 (.slice s.pA t.steps.length s.pc) t.steps.length (ps.flatMap stC)
 rN:w.ownsRow 8 46 7 (.slice s.nA t.nodes.length s.nc) t.nodes.length (ns.flatMap ndC)
 rO:w.ownsRow 8 3 1 (.slice s.oA t.ats.length s.oc) t.ats.length (t.ats.flatMap oC)
 pe:ps.map (·.s)=t.steps
 ne:ns.map (·.n)=t.nodes
 po:∀x∈ps,OkP w X x
 no:∀x∈ns,OkN w X x
structure St(w:World)(g:Nat)(src:BA)(r:Rdr)(s:Sl):Prop where
 sg:Sg w
 g8:8<=g
 small:src.size<=1000000
 box:Rb w g src r (jF r.tree s)
 rows:∃ns ps,TRows w (AX g s) r.tree s ns ps
 from_:r.from_ <=r.at_
 at_:r.at_ <=src.size
 t58:r.t<58
 zlt:∀b,s.z b->b<w.heap.size
 z8:∀b,s.z b->¬b<8
 zno:∀b,OX g s b->¬s.z b
theorem Kr{w:World}{b1 b2:Nat}{e1 e2:TypeId}{z1 z2:Nat}{v1 v2:Value}{n1 n2:Nat}{x1 x2:List Value}(h1:w.ownsRow b1 e1 z1 v1 n1 x1)(h2:w.ownsRow b2 e2 z2 v2 n2 x2)(Fh:e1≠e2):
  ∀k,v1.ownBlock=some k->v2.ownBlock≠some k:=by
 intro k hk;rcases h1.2 with⟨rfl,_⟩|⟨g',cap,cur,rfl,_,hh,_⟩
 ·cases hk
 ·have:g' =k:=(by simpa [Value.ownBlock]using hk);subst this;exact jY (t:=e1) h2 hh (fun e=>Fh e.symm)
section
variable{w w' w1 w2:World}{g:Nat}{src:BA}{r r' :Rdr}{s s' :Sl}{ns:List MNd}{ps:List MSt}{t:Tre}
theorem TRows.keep(h:TRows w (AX g s) t s ns ps){cs:Array Value}(hb:Blk w g 165 cs)(hk:Kp (GX g) w w'):TRows w' (AX g s) t s ns ps:=by
 have f:Fr g s s w w' :=Fr.of_g s hk;have K:∀{e:TypeId} {z:Nat} {v:Value} {n:Nat} {xs:List Value},w.ownsRow 8 e z v n xs->e≠165->w'.ownsRow 8 e z v n xs:=fun ho Fh=>
  jV ho hk (fun k e e' =>jY ho hb Fh (by rw[e];exact congrArg some e'))
 exact⟨K h.rA (by decide),K h.rG (by decide),K h.rM (by decide),K h.rP (by decide),K h.rN (by decide),K h.rO (by decide),h.pe,h.ne,fun x hx=>(h.po x hx).fr f,fun x hx=>(h.no x hx).fr f⟩
theorem TRows.ox8(h:TRows w (AX g s) t s ns ps)(hg:8<=g)(b:Nat)(hb:OX g s b):8<=b/\(b=g\/b<w.heap.size):=by
 have K:∀{e:TypeId} {z:Nat} {A:OA} {c n:Nat} {xs:List Value},w.ownsRow 8 e z (.slice A n c) n xs->A.map (·.block)=some b->8<=b/\(b=g\/b<w.heap.size):=fun ho e=>
  have:=ho.lt b (by rw[jC];exact e)
  ⟨this.1,.inr this.2⟩
 rcases hb with e|e|e|e|e|e|e
 ·exact⟨by omega,.inl e⟩
 ·exact K h.rA e
 ·exact K h.rG e
 ·exact K h.rM e
 ·exact K h.rP e
 ·exact K h.rN e
 ·exact K h.rO e
theorem St.ox8(h:St w g src r s)(b:Nat)(hb:OX g s b):8<=b/\b<w.heap.size:=by
 obtain⟨ns,ps,hR⟩:=h.rows;have h1:=hR.ox8 h.g8 b hb;have h2:=h.box.lt;exact⟨h1.1,h1.2.elim (fun e=>by omega) id⟩
theorem St.sgf(h:St w g src r s)(f:Fr g s s' w w'):Sg w' :=h.sg.kp f.kp (fun e=>by have:=(h.ox8 _ e).1;omega) (fun e=>by have:=(h.ox8 _ e).1;omega)
theorem St.scan(h:St w g src r s)(hb:Rb w' g src r' (jF r.tree s))(ht:r'.tree=r.tree)(hk:Kp (GX g) w w')(h1:r'.from_ <=r'.at_)(h2:r'.at_ <=src.size)(h3:r'.t<58):St w' g src r' s/\Fr g s s w w' :=by
 obtain⟨ns,ps,hR⟩:=h.rows;exact⟨⟨h.sgf (Fr.of_g s hk),h.g8,h.small,by rw[ht];exact hb,⟨ns,ps,by rw[ht];exact hR.keep h.box hk⟩,h1,h2,h3,fun b hz=>jL8 (h.zlt b hz) hk.size,h.z8,h.zno⟩,Fr.of_g s hk⟩
theorem St.old(h:St w g src r s)(ho:Old w w'):St w' g src r s:=(h.scan (h.box.old ho) rfl (ho.mono (fun _ _ e=>e.elim)) h.from_ h.at_ h.t58).1
theorem St.drewN(h:St w g src r s)(n:Nat):St (w.drewN n) g src r s:=h.old ((jQ0 _ _).drewN n)
theorem St.lt(h:St w g src r s):g<w.heap.size:=h.box.lt
theorem St.zgrow(h:St w g src r s){Y:Nat->Prop}(hk:Kp Y w w')(hY:∀b,Y b->s.z b)(Z:Nat->Prop)(hZ:∀b,Z b->(s.z b\/w.heap.size<=b)/\b<w'.heap.size):St w' g src r {s with z:=Z}:=by
 obtain⟨ns,ps,hR⟩:=h.rows;have S3:∀b,OX g s b->¬Y b:=fun b hx hy=>h.zno b hx (hY b hy);have MS:=fun{z n:Nat} {A:OA} {xs:List Value} (hr:Rd w z A n xs) (hz:0<z) (ha:Av (AX g s) n A)=>
  (show Rd w' z A n xs/\Av (AX g {s with z:=Z}) n A from⟨hr.kp hk (fun hn ad ea hy=>ha hn ad ea (.inr (hY _ hy))),fun hn ad ea hx=>hx.elim (fun e=>ha hn ad ea (.inl e)) (fun e=>(hZ _ e).1.elim (fun e=>ha hn ad ea (.inr e)) (fun e=>by have:=hr.lt hz hn ea;omega))⟩)
 have K:∀{e:TypeId} {z:Nat} {A:OA} {c n:Nat} {xs:List Value},w.ownsRow 8 e z (.slice A n c) n xs->(∀b,A.map (·.block)=some b->OX g s b)->w'.ownsRow 8 e z (.slice A n c) n xs:=fun ho Gc=>
  jV ho hk (fun b e=>S3 b (Gc b (by rw[<-jC];exact e)))
 refine⟨h.sg.kp hk (fun e=> ?_) (fun e=> ?_),h.g8,h.small,h.box.kp hk (S3 _ (.inl rfl)),⟨ns,ps,?_⟩,h.from_,h.at_,h.t58,fun b hz=>(hZ b hz).2,fun b hz=>(hZ b hz).1.elim (h.z8 b) (fun e=>by have:=h.lt;have:=h.g8;omega),fun b hx hz=>(hZ b hz).1.elim (h.zno b hx) (fun e=>by have:=(h.ox8 b hx).2;omega)⟩
 ·exact h.z8 _ (hY _ e) (by decide)
 ·exact h.z8 _ (hY _ e) (by decide)
 ·exact⟨K hR.rA (fun b e=>.inr (.inl e)),K hR.rG (fun b e=>.inr (.inr (.inl e))),K hR.rM (fun b e=>.inr (.inr (.inr (.inl e)))),K hR.rP (fun b e=>.inr (.inr (.inr (.inr (.inl e))))),K hR.rN (fun b e=>.inr (.inr (.inr (.inr (.inr (.inl e)))))),K hR.rO (fun b e=>.inr (.inr (.inr (.inr (.inr (.inr e)))))),hR.pe,hR.ne,
   fun x hx=>⟨(MS (hR.po x hx).ps (by decide) (hR.po x hx).pav).1,(MS (hR.po x hx).ps (by decide) (hR.po x hx).pav).2,(MS (hR.po x hx).es (by decide) (hR.po x hx).eav).1,(MS (hR.po x hx).es (by decide) (hR.po x hx).eav).2⟩,
   fun x hx=>⟨(MS (hR.no x hx).kids (by decide) (hR.no x hx).kav).1,(MS (hR.no x hx).kids (by decide) (hR.no x hx).kav).2,(MS (hR.no x hx).vs (by decide) (hR.no x hx).vav).1,(MS (hR.no x hx).vs (by decide) (hR.no x hx).vav).2⟩⟩
theorem St.growc(hs:St w g src r s)(r' :Rdr)(s' :Sl)(i:Nat){T:TypeId}{z n0 c0 n:Nat}{A0:OA}{xs0 xs:List Value}(Me:w.ownsRow 8 T z (.slice A0 n0 c0) n0 xs0)(hT:T≠165)(h1:Old w w1){A' :OA}{c' :Nat}(Ns:w1.grownBy w2 (A0.map (·.block)))
  (hA:A'.map (·.block)=A0.map (·.block)\/A'.map (·.block)=some w1.heap.size) (ho:w2.ownsRow 8 T z (.slice A' n c') n xs)
  (hC:(rdC src r (jF r.tree s)).set i (.slice A' n c')=rdC src r' (jF r'.tree s')) (hX:∀b,A0.map (·.block)=some b->OX g s b) (AV:∀b,OX g s' b->A'.map (·.block)=some b\/OX g s b) (hz:s'.z=s.z) (h2:r'.from_=r.from_) (h3:r'.at_=r.at_) (h4:r'.t=r.t)
  (hR:Fr g s s' w (w2.setCell ⟨g,i,none⟩ (.slice A' n c'))->(w2.setCell ⟨g,i,none⟩ (.slice A' n c')).ownsRow 8 T z (.slice A' n c') n xs->(∀{e:TypeId} {z:Nat} {v:Value} {n1:Nat} {xs:List Value},w.ownsRow 8 e z v n1 xs->e≠165->e≠T->(w2.setCell ⟨g,i,none⟩ (.slice A' n c')).ownsRow 8 e z v n1 xs)->∃ns ps,TRows (w2.setCell ⟨g,i,none⟩ (.slice A' n c')) (AX g s') r'.tree s' ns ps):
  St (w2.setCell ⟨g,i,none⟩ (.slice A' n c')) g src r' s' /\Fr g s s' w (w2.setCell ⟨g,i,none⟩ (.slice A' n c')):=by
 have hb:=hs.box;have Rf:A0.map (·.block)≠some g:=by rw[<-jC];exact jY Me hb hT
 have Fj:Rb w2 g src r (jF r.tree s):=(hb.old h1).kp (Kp.grown (jQ0 (fun b=>A0.map (·.block)=some b) w1) Ns (fun _ e _=>e)) Rf;have hU:Kp (fun b=>A0.map (·.block)=some b) w w2:=Kp.grown (h1.mono (fun _ _ e=>e.elim)) Ns (fun _ e _=>e);have GO:Kp (GX g) w2 (w2.setCell ⟨g,i,none⟩ (.slice A' n c')):=(jQ0 (GX g) _).setCell (p:=⟨g,i,none⟩) (fun _=>rfl) _;have hf:Fr g s s' w (w2.setCell ⟨g,i,none⟩ (.slice A' n c')):=⟨(hU.mono (fun b _ e=>hX b e)).trans GO (fun b _ e=>.inl e),fun b hlt hx=>(AV b hx).elim (fun e=>hX b (hA.elim (fun hA=>by rw[<-hA];exact e) (fun hA=>by rw[hA]at e;injection e with e;have:=h1.size;omega))) id,hz⟩;refine⟨⟨hs.sgf hf,hs.g8,hs.small,?_,hR hf (jV ho GO (fun k e e' =>jY ho Fj hT (by rw[e];exact congrArg some e'))) (fun ho Fh Mv=>
  jV (jV ho hU (fun k e e' =>Kr ho Me Mv k e (by rw[jC];exact e'))) GO (fun k e e' =>jY ho hb Fh (by rw[e];exact congrArg some e'))),by rw[h2,h3];exact hs.from_,by rw[h3];exact hs.at_,by rw[h4];exact hs.t58,fun b hx=>jL8 (hs.zlt b (by rw[<-hz];exact hx)) hf.kp.size,fun b hx=>hs.z8 b (by rw[<-hz];exact hx),fun b hx hy=>hs.zno b (hf.own b (hs.zlt b (by rw[<-hz];exact hy)) hx) (by rw[<-hz];exact hy)⟩,hf⟩
 have:=Blk.set_ Fj i (.slice A' n c');unfold Rb;rw[jJ1,hC]at this;exact this
theorem St.growA(hs:St w g src r s)(h:TRows w (AX g s) r.tree s ns ps)(x:Atr)(_hx:OkA w (AX g s) x)(h1:Old w w1){A' :OA}{c' :Nat}(Ns:w1.grownBy w2 (s.aA.map (·.block)))
  (hA:A'.map (·.block)=s.aA.map (·.block)\/A'.map (·.block)=some w1.heap.size) (ho:w2.ownsRow 8 114 7 (.slice A' (r.tree.attrs.length+1) c') (r.tree.attrs.length+1) (r.tree.attrs.flatMap atC++atC x)):
  St (w2.setCell ⟨g,7,none⟩ (.slice A' (r.tree.attrs.length+1) c')) g src {r with tree:={r.tree with attrs:=r.tree.attrs++[x]}} {s with aA:=A',ac:=c'}/\
  Fr g s {s with aA:=A',ac:=c'} w (w2.setCell ⟨g,7,none⟩ (.slice A' (r.tree.attrs.length+1) c')):=by
 refine hs.growc _ _ 7 h.rA (by decide) h1 Ns hA ho (by simp[rdC,jF]) (fun b e=>by simp[OX,e]) (fun b e=>by unfold OX at e⊢;simp only at e;rcases e with e|e|e|e|e|e|e<;>simp[e]) rfl rfl rfl rfl fun hf HO K=>⟨ns,ps,?_⟩;constructor
 case pe=>first|exact h.pe|(rw[jN3,h.pe];rfl)
 case ne=>first|exact h.ne|(rw[jN3,h.ne];rfl)
 case po=>first|exact fun y hy=>(h.po y hy).fr hf|exact fun y hy=>(jM6 hy).elim (fun hy=>(h.po y hy).fr hf) (fun hy=>by rw[jM7 hy];exact _hx.fr hf)
 case no=>first|exact fun y hy=>(h.no y hy).fr hf|exact fun y hy=>(jM6 hy).elim (fun hy=>(h.no y hy).fr hf) (fun hy=>by rw[jM7 hy];exact _hx.fr hf)
 all_goals first|exact K (by first|exact h.rA|exact h.rG|exact h.rM|exact h.rP|exact h.rN|exact h.rO) (by decide) (by decide)|(rw[<-List.flatMap_singleton atC x,<-jN5]at HO;simpa using HO)
theorem St.growG(hs:St w g src r s)(h:TRows w (AX g s) r.tree s ns ps)(x:Stg)(_hx:OkG w (AX g s) x)(h1:Old w w1){A' :OA}{c' :Nat}(Ns:w1.grownBy w2 (s.gA.map (·.block)))
  (hA:A'.map (·.block)=s.gA.map (·.block)\/A'.map (·.block)=some w1.heap.size) (ho:w2.ownsRow 8 117 7 (.slice A' (r.tree.stages.length+1) c') (r.tree.stages.length+1) (r.tree.stages.flatMap sgC++sgC x)):
  St (w2.setCell ⟨g,8,none⟩ (.slice A' (r.tree.stages.length+1) c')) g src {r with tree:={r.tree with stages:=r.tree.stages++[x]}} {s with gA:=A',gc:=c'}/\
  Fr g s {s with gA:=A',gc:=c'} w (w2.setCell ⟨g,8,none⟩ (.slice A' (r.tree.stages.length+1) c')):=by
 refine hs.growc _ _ 8 h.rG (by decide) h1 Ns hA ho (by simp[rdC,jF]) (fun b e=>by simp[OX,e]) (fun b e=>by unfold OX at e⊢;simp only at e;rcases e with e|e|e|e|e|e|e<;>simp[e]) rfl rfl rfl rfl fun hf HO K=>⟨ns,ps,?_⟩;constructor
 case pe=>first|exact h.pe|(rw[jN3,h.pe];rfl)
 case ne=>first|exact h.ne|(rw[jN3,h.ne];rfl)
 case po=>first|exact fun y hy=>(h.po y hy).fr hf|exact fun y hy=>(jM6 hy).elim (fun hy=>(h.po y hy).fr hf) (fun hy=>by rw[jM7 hy];exact _hx.fr hf)
 case no=>first|exact fun y hy=>(h.no y hy).fr hf|exact fun y hy=>(jM6 hy).elim (fun hy=>(h.no y hy).fr hf) (fun hy=>by rw[jM7 hy];exact _hx.fr hf)
 all_goals first|exact K (by first|exact h.rA|exact h.rG|exact h.rM|exact h.rP|exact h.rN|exact h.rO) (by decide) (by decide)|(rw[<-List.flatMap_singleton sgC x,<-jN5]at HO;simpa using HO)
theorem St.growM(hs:St w g src r s)(h:TRows w (AX g s) r.tree s ns ps)(x:Mil)(_hx:OkM w (AX g s) x)(h1:Old w w1){A' :OA}{c' :Nat}(Ns:w1.grownBy w2 (s.mA.map (·.block)))
  (hA:A'.map (·.block)=s.mA.map (·.block)\/A'.map (·.block)=some w1.heap.size) (ho:w2.ownsRow 8 64 6 (.slice A' (r.tree.miles.length+1) c') (r.tree.miles.length+1) (r.tree.miles.flatMap miC++miC x)):
  St (w2.setCell ⟨g,9,none⟩ (.slice A' (r.tree.miles.length+1) c')) g src {r with tree:={r.tree with miles:=r.tree.miles++[x]}} {s with mA:=A',mc:=c'}/\
  Fr g s {s with mA:=A',mc:=c'} w (w2.setCell ⟨g,9,none⟩ (.slice A' (r.tree.miles.length+1) c')):=by
 refine hs.growc _ _ 9 h.rM (by decide) h1 Ns hA ho (by simp[rdC,jF]) (fun b e=>by simp[OX,e]) (fun b e=>by unfold OX at e⊢;simp only at e;rcases e with e|e|e|e|e|e|e<;>simp[e]) rfl rfl rfl rfl fun hf HO K=>⟨ns,ps,?_⟩;constructor
 case pe=>first|exact h.pe|(rw[jN3,h.pe];rfl)
 case ne=>first|exact h.ne|(rw[jN3,h.ne];rfl)
 case po=>first|exact fun y hy=>(h.po y hy).fr hf|exact fun y hy=>(jM6 hy).elim (fun hy=>(h.po y hy).fr hf) (fun hy=>by rw[jM7 hy];exact _hx.fr hf)
 case no=>first|exact fun y hy=>(h.no y hy).fr hf|exact fun y hy=>(jM6 hy).elim (fun hy=>(h.no y hy).fr hf) (fun hy=>by rw[jM7 hy];exact _hx.fr hf)
 all_goals first|exact K (by first|exact h.rA|exact h.rG|exact h.rM|exact h.rP|exact h.rN|exact h.rO) (by decide) (by decide)|(rw[<-List.flatMap_singleton miC x,<-jN5]at HO;simpa using HO)
theorem St.growP(hs:St w g src r s)(h:TRows w (AX g s) r.tree s ns ps)(x:MSt)(_hx:OkP w (AX g s) x)(h1:Old w w1){A' :OA}{c' :Nat}(Ns:w1.grownBy w2 (s.pA.map (·.block)))
  (hA:A'.map (·.block)=s.pA.map (·.block)\/A'.map (·.block)=some w1.heap.size) (ho:w2.ownsRow 8 111 8 (.slice A' (r.tree.steps.length+1) c') (r.tree.steps.length+1) (ps.flatMap stC++stC x)):
  St (w2.setCell ⟨g,10,none⟩ (.slice A' (r.tree.steps.length+1) c')) g src {r with tree:={r.tree with steps:=r.tree.steps++[x.s]}} {s with pA:=A',pc:=c'}/\
  Fr g s {s with pA:=A',pc:=c'} w (w2.setCell ⟨g,10,none⟩ (.slice A' (r.tree.steps.length+1) c')):=by
 refine hs.growc _ _ 10 h.rP (by decide) h1 Ns hA ho (by simp[rdC,jF]) (fun b e=>by simp[OX,e]) (fun b e=>by unfold OX at e⊢;simp only at e;rcases e with e|e|e|e|e|e|e<;>simp[e]) rfl rfl rfl rfl fun hf HO K=>⟨ns,(ps++[x]),?_⟩;constructor
 case pe=>first|exact h.pe|(rw[jN3,h.pe];rfl)
 case ne=>first|exact h.ne|(rw[jN3,h.ne];rfl)
 case po=>first|exact fun y hy=>(h.po y hy).fr hf|exact fun y hy=>(jM6 hy).elim (fun hy=>(h.po y hy).fr hf) (fun hy=>by rw[jM7 hy];exact _hx.fr hf)
 case no=>first|exact fun y hy=>(h.no y hy).fr hf|exact fun y hy=>(jM6 hy).elim (fun hy=>(h.no y hy).fr hf) (fun hy=>by rw[jM7 hy];exact _hx.fr hf)
 all_goals first|exact K (by first|exact h.rA|exact h.rG|exact h.rM|exact h.rP|exact h.rN|exact h.rO) (by decide) (by decide)|(rw[<-List.flatMap_singleton stC x,<-jN5]at HO;simpa using HO)
theorem St.growN(hs:St w g src r s)(h:TRows w (AX g s) r.tree s ns ps)(x:MNd)(_hx:OkN w (AX g s) x)(h1:Old w w1){A' :OA}{c' :Nat}(Ns:w1.grownBy w2 (s.nA.map (·.block)))
  (hA:A'.map (·.block)=s.nA.map (·.block)\/A'.map (·.block)=some w1.heap.size) (ho:w2.ownsRow 8 46 7 (.slice A' (r.tree.nodes.length+1) c') (r.tree.nodes.length+1) (ns.flatMap ndC++ndC x)):
  St (w2.setCell ⟨g,11,none⟩ (.slice A' (r.tree.nodes.length+1) c')) g src {r with tree:={r.tree with nodes:=r.tree.nodes++[x.n]}} {s with nA:=A',nc:=c'}/\
  Fr g s {s with nA:=A',nc:=c'} w (w2.setCell ⟨g,11,none⟩ (.slice A' (r.tree.nodes.length+1) c')):=by
 refine hs.growc _ _ 11 h.rN (by decide) h1 Ns hA ho (by simp[rdC,jF]) (fun b e=>by simp[OX,e]) (fun b e=>by unfold OX at e⊢;simp only at e;rcases e with e|e|e|e|e|e|e<;>simp[e]) rfl rfl rfl rfl fun hf HO K=>⟨(ns++[x]),ps,?_⟩;constructor
 case pe=>first|exact h.pe|(rw[jN3,h.pe];rfl)
 case ne=>first|exact h.ne|(rw[jN3,h.ne];rfl)
 case po=>first|exact fun y hy=>(h.po y hy).fr hf|exact fun y hy=>(jM6 hy).elim (fun hy=>(h.po y hy).fr hf) (fun hy=>by rw[jM7 hy];exact _hx.fr hf)
 case no=>first|exact fun y hy=>(h.no y hy).fr hf|exact fun y hy=>(jM6 hy).elim (fun hy=>(h.no y hy).fr hf) (fun hy=>by rw[jM7 hy];exact _hx.fr hf)
 all_goals first|exact K (by first|exact h.rA|exact h.rG|exact h.rM|exact h.rP|exact h.rN|exact h.rO) (by decide) (by decide)|(rw[<-List.flatMap_singleton ndC x,<-jN5]at HO;simpa using HO)
theorem St.growO(hs:St w g src r s)(h:TRows w (AX g s) r.tree s ns ps)(x:Int)(_hx:OkO w (AX g s) x)(h1:Old w w1){A' :OA}{c' :Nat}(Ns:w1.grownBy w2 (s.oA.map (·.block)))
  (hA:A'.map (·.block)=s.oA.map (·.block)\/A'.map (·.block)=some w1.heap.size) (ho:w2.ownsRow 8 3 1 (.slice A' (r.tree.ats.length+1) c') (r.tree.ats.length+1) (r.tree.ats.flatMap oC++oC x)):
  St (w2.setCell ⟨g,12,none⟩ (.slice A' (r.tree.ats.length+1) c')) g src {r with tree:={r.tree with ats:=r.tree.ats++[x]}} {s with oA:=A',oc:=c'}/\
  Fr g s {s with oA:=A',oc:=c'} w (w2.setCell ⟨g,12,none⟩ (.slice A' (r.tree.ats.length+1) c')):=by
 refine hs.growc _ _ 12 h.rO (by decide) h1 Ns hA ho (by simp[rdC,jF]) (fun b e=>by simp[OX,e]) (fun b e=>by unfold OX at e⊢;simp only at e;rcases e with e|e|e|e|e|e|e<;>simp[e]) rfl rfl rfl rfl fun hf HO K=>⟨ns,ps,?_⟩;constructor
 case pe=>first|exact h.pe|(rw[jN3,h.pe];rfl)
 case ne=>first|exact h.ne|(rw[jN3,h.ne];rfl)
 case po=>first|exact fun y hy=>(h.po y hy).fr hf|exact fun y hy=>(jM6 hy).elim (fun hy=>(h.po y hy).fr hf) (fun hy=>by rw[jM7 hy];exact _hx.fr hf)
 case no=>first|exact fun y hy=>(h.no y hy).fr hf|exact fun y hy=>(jM6 hy).elim (fun hy=>(h.no y hy).fr hf) (fun hy=>by rw[jM7 hy];exact _hx.fr hf)
 all_goals first|exact K (by first|exact h.rA|exact h.rG|exact h.rM|exact h.rP|exact h.rN|exact h.rO) (by decide) (by decide)|(rw[<-List.flatMap_singleton oC x,<-jN5]at HO;simpa using HO)
end
theorem Ja:∀(l:LB) (n:Nat),VT l n=n*10^l.length+VT l 0
 |[],n=>by rw[VT,VT,jN2,Nat.pow_zero,Nat.mul_one,Nat.add_zero]
 |c::l,n=>by
  rw[VT,VT,Ja l (10*n+(c.toNat-48)),Ja l (10*0+(c.toNat-48)),jK6,Nat.pow_succ];generalize 10^l.length=p;rw[Nat.mul_zero,Nat.zero_add,Nat.add_mul,Nat.add_assoc]
  congr 1
  rw[Nat.mul_comm 10 n,Nat.mul_assoc,Nat.mul_comm 10 p]
theorem xY{c:UInt8}(h:zS c=true):48<=c.toNat/\c.toNat<=57:=jM8 h
theorem uh:∀(l:LB),l.all zS=true->VT l 0<10^l.length
 |[],_=>by decide
 |c::l,h=>by
  rw[List.all_cons,Bool.and_eq_true]at h;have h1:=uh l h.2;have h2:=xY h.1;rw[VT,Ja,jK6,Nat.pow_succ,Nat.mul_zero,Nat.zero_add];have h3:(c.toNat-48)*10^l.length<=9*10^l.length:=Nat.mul_le_mul_right _ (by omega);generalize 10^l.length=p at*;omega
theorem jFm(l:LB)(n:Nat):n<=VT l n:=by
 rw[Ja];exact jL4 (Nat.le_mul_of_pos_right n (Nat.pow_pos (by decide))) (Nat.le_add_right _ _)
theorem ZQ:∀(l:LB),VT (yy l) 0=VT l 0
 |[]=>rfl
 |[a]=>rfl
 |a::b::l=>by
  unfold yy;by_cases h:a=48
  ·rw[jJ6 h,ZQ (b::l)];subst h;rfl
  ·rw[jJ5 h]
theorem xj:∀(l:LB),l.all zS=true->(yy l).all zS=true
 |[],h=>h
 |[a],h=>h
 |a::b::l,h=>by
  unfold yy;by_cases h1:a=48
  ·rw[jJ6 h1];rw[List.all_cons,Bool.and_eq_true]at h;exact xj (b::l) h.2
  ·rw[jJ5 h1];exact h
theorem jBp:∀(x y:LB),x.length=y.length->x.all zS=true->y.all zS=true->leB x y=true->VT x 0<=VT y 0
 |[],[],_,_,_,_=>jL3 _
 |[],_::_,h,_,_,_=>by cases h
 |_::_,[],h,_,_,_=>by cases h
 |a::x,b::y,h,hx,hy,hl=>by
  rw[jK6,jK6]at h;have hlen:x.length=y.length:=(by omega);rw[List.all_cons,Bool.and_eq_true]at hx hy;have ha:=xY hx.1;have hb:=xY hy.1;have h1:=uh x hx.2;rw[leB]at hl;rw[VT,VT,Ja x,Ja y,hlen];rw[hlen]at h1;simp only[Nat.mul_zero,Nat.zero_add];by_cases Ml:a.toNat<b.toNat
  ·have h3:(a.toNat-48+1)*10^y.length<=(b.toNat-48)*10^y.length:=Nat.mul_le_mul_right _ (by omega);rw[Nat.add_mul]at h3;generalize 10^y.length=p at*;omega
  ·rw[jJ5 Ml]at hl;by_cases hba:b.toNat<a.toNat
   ·rw[jJ6 hba]at hl;cases hl
   ·rw[jJ5 hba]at hl;have h4:=jBp x y hlen hx.2 hy.2 hl;have h5:a.toNat=b.toNat:=(by omega);rw[h5];omega
theorem xL:VT zH 0=9223372036854775807:=by decide+kernel
theorem jG3{l:LB}(h:jz l=true):l.all zS=true/\VT l 0<=9223372036854775807:=by
 unfold jz at h;rw[Bool.and_eq_true]at h;obtain⟨h1,h2⟩:=h;refine⟨h1,?_⟩;rw[<-ZQ l];have h3:=xj l h1;rw[Bool.or_eq_true,Bool.and_eq_true]at h2;rcases h2 with h2|⟨h2,h4⟩
 ·have h5:=uh _ h3;have h6:(yy l).length<=18:=by have:=jM8 h2;omega
  have h7:10^(yy l).length<=10^18:=Nat.pow_le_pow_right (by decide) h6;have h8:(10:Nat)^18=1000000000000000000:=(by decide);omega
 ·have h5:=jBp (yy l) zH (jM8 h2) h3 (by decide) h4;rw[xL]at h5;exact h5
end Go.Proofs.YtmmjcbbogokmfaaGreatDoor

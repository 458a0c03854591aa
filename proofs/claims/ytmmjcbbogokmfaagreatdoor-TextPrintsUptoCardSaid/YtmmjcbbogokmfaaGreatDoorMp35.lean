import Derived.Test.YtmmjcbbogokmfaaGreatDoorMp31
set_option maxRecDepth 100000
set_option maxHeartbeats 25600000
namespace Go.Proofs.YtmmjcbbogokmfaaGreatDoor
open Go.Proofs.Tryz
open Go.RowKit
theorem Va:∀(l:List Prm) (i:Nat) (s:Wr9),s.le (JK l i s)
 |[],_,s=>.refl s
 |p::l,i,s=>by
  rw[JK];exact((((KQ (s.le_put [44]) (.refl s)).trans (Wr9.le_named _ _)).trans (Wr9.le_put _ _)).trans (Wr9.le_kind _ _)).trans (Va l (i+1) _)
theorem Vl(ns:List Nd):∀(l:List Eff) (s:Wr9),s.le (zm ns l s)
 |[],s=>.refl s
 |e::l,s=>by
  rw[zm];exact((KQ ((s.le_put _).trans (Wr9.le_named _ _)) (((s.le_named _).trans (Wr9.le_put _ _)).trans (yM ns _ _))).trans (Wr9.le_put _ _)).trans (Vl ns l _)
theorem uE:∀(l:List Prm) (i:Nat) {s:Wr9},s.Ub->(JK l i s).Ub
 |[],_,_,h=>h
 |p::l,i,s,h=>by
  rw[JK];have h1:(if 0<i then s.put [44]else s).Ub:=by
   split
   ·exact h.put _
   ·exact h
  exact uE l (i+1) (uW _ ((vB _ h1).put _))
theorem jAH(w W:World)(hg:SgR w)(h8:8<=w.heap.size)(t:Tre)(s:Sl)(WC:VV w t s)(st:Wr9)(hu:st.Ub)(B:OA)(bc:Nat)(h:Rw9 w t s st B bc W)(x:MSt)(Mb:Rd w 3 x.pA x.s.params.length (x.s.params.flatMap prC))(Mf:x.s.params.length<=1000000)(Wn:Rd w 3 x.eA x.s.effects.length (x.s.effects.flatMap efC))(Fh:x.s.effects.length<=1000000)(hl:(QJ t.nodes x.s st).b.length<=jN):
  Calls prog 60 #[.pointer (some ⟨w.heap.size,0,none⟩),.agg (stC x).toArray] W (WrR w t s (QJ t.nodes x.s st) W):=by
 obtain⟨⟨name,at_,order,params,in_,inAt,when_,effects⟩,pA,pc,eA,ec⟩:=x;simp only at Mb Mf Wn Fh hl⊢;obtain⟨s1,e1⟩:∃x,x=st.put [115,116,101,112]:=⟨_,rfl⟩;obtain⟨s2,e2⟩:∃x,x=s1.named name:=⟨_,rfl⟩;obtain⟨s3,e3⟩:∃x,x=s2.put [40]:=⟨_,rfl⟩;obtain⟨s4,e4⟩:∃x,x=JK params 0 s3:=⟨_,rfl⟩;obtain⟨s5,e5⟩:∃x,x=s4.put [41]:=⟨_,rfl⟩;obtain⟨s6,e6⟩:∃x,x=s5.inn in_:=⟨_,rfl⟩;obtain⟨s7,e7⟩:∃x,x=s6.put [119,104,101,110]:=⟨_,rfl⟩;obtain⟨s8,e8⟩:∃x,x=if when_= -1 then s6 else jx t.nodes when_ s7:=⟨_,rfl⟩;obtain⟨s9,e9⟩:∃x,x=s8.put [123]:=⟨_,rfl⟩;obtain⟨sE,eE⟩:∃x,x=zm t.nodes effects s9:=⟨_,rfl⟩;obtain⟨sf,ef⟩:∃x,x=sE.put [125]:=⟨_,rfl⟩;have es:QJ t.nodes ⟨name,at_,order,params,in_,inAt,when_,effects⟩ st=sf:=by rw[ef,eE,e9,e8,e7,e6,e5,e4,e3,e2,e1];rfl
 rw[es]at hl⊢;have qE:=Yg ef hl;have q9:s9.b.length<=jN:=jL4 (by rw[eE];exact Vl _ _ _) qE;have q8:=Yg e9 q9;have q6:s6.b.length<=jN:=by
  have q:=q8;rw[e8]at q;split at q
  ·exact q
  ·exact Yg e7 (KK rfl q)
 have q5:=jHj e6 q6;have q4:=Yg e5 q5;have q3:s3.b.length<=jN:=jL4 (by rw[e4];exact Va _ _ _) q4;have q2:=Yg e3 q3;have u4:s4.Ub:=by rw[e4];exact uE _ _ (ZU e3 (by rw[e2];exact vB _ (ZU e1 hu)))
 have u6:s6.Ub:=by rw[e6];exact ZJ _ (ZU e5 u4)
 have u7:=ZU e7 u6;have u9:s9.Ub:=by
  rw[e9,e8];split
  ·exact u6.put _
  ·exact(yZ _ _ u7).put _
 have K1:=Jk w t s (x:=⟨#[115,116,101,112]⟩) e1 (ZD e2 q2);have K2:=YR hg h8 t s e2 q2;have K3:=Jk w t s (x:=⟨#[40]⟩) e3 q3;have K5:=Jk w t s (x:=⟨#[41]⟩) e5 q5;have K6:=jHv hg h8 t s e6 q6;have K9:=Jk w t s (x:=⟨#[123]⟩) e9 q9;have KF:=Jk w t s (x:=⟨#[125]⟩) ef hl;have ho:=(jQ0 NoX W).alloc (.cells #[.string name,.int .i64 at_,.int .i64 order,.slice pA params.length pc,.string in_,.int .i64 inAt,.int .i64 when_,.slice eA effects.length ec] 111);have BN:=G (jQ2 W 111 #[.string name,.int .i64 at_,.int .i64 order,.slice pA params.length pc,.string in_,.int .i64 inAt,.int .i64 when_,.slice eA effects.length ec]);have F:=G (FrW.of_old ho);have H:=G (h.old ho);have Sq:=G (fun W1 st1 B1 c1 (hp:Rw9 w t s st1 B1 c1 W1)=>hp.rdw (by decide) Mb);have RR:=G (fun W1 st1 B1 c1 (hp:Rw9 w t s st1 B1 c1 W1)=>hp.rdw (by decide) Wn);have TA:=G Mf;have RV:=G Fh;have HG:=G hg;have Sp:=G WC;have E4:=G e4;have EE:=G eE;have Q4:=G q4;have QE:=G qE;have U9:=G u9;have H8:=G h8;by_cases hw:when_= -1
 all_goals
  simp only[hw,if_true,if_false]at e8
  try have K7:=Jk w t s (x:=⟨#[119,104,101,110]⟩) e7 (KK e8 q8)
  try have K8:=qI WC e8 u7 q8
  first|have m2:=bnf hw|have m2:=bnt hw
  clear hw h ho hg hl WC Mb Wn Mf Fh hu h8 es e1 e2 e3 e4 e5 e6 e7 e9 eE ef qE q9 q8 q6 q5 q4 q3 q2 u4 u6 u7 u9
  try subst e8
  unfold stC iv at*;go_enter func60,ntmps60;go_upto_region 5 with(first|((first|(go_at_call 55;first|refine(K3.out _ _ _ H.out).mono ?_ |refine(K1.out _ _ _ H.out).mono ?_)|(go_at_call 56;refine(K2.out _ _ _ H.out).mono ?_));rintro e w1 ⟨rfl,B1,c1',hX,hf⟩;replace H:=G hX;replace F:=G (F.out.trans hf);replace BN:=G (hf.blk _ _ _ (by decide) (by decide) BN.out);have n0:=BN.out.at_ 0 (v:=.string name) rfl;have n3:=BN.out.at_ 3 (v:=.slice pA params.length pc) rfl;have n4:=BN.out.at_ 4 (v:=.string in_) rfl;have n6:=BN.out.at_ 6 (v:=.int .i64 _) rfl;have n7:=BN.out.at_ 7 (v:=.slice eA effects.length ec) rfl;clear hX hf)|fail);have F0:=F;go_loopw [4] (fun i wr=>∃(j:Nat) (st1:Wr9) (B1:OA) (c1:Nat),j<=params.length/\i=.int .i64 (j:Int)/\s4=JK (params.drop j) j st1/\Rw9 w t s st1 B1 c1 wr/\FrW w1 wr) (fun i _=>params.length-(intOf i).toNat)
  case atStart=>exact⟨0,s3,B1,c1',Nat.zero_le _,rfl,E4.out,H.out,FrW.refl _⟩
  case round=>
   obtain⟨j,st1,Bj,cj,hj,rfl,Ht,hp,hf⟩:=hrel;replace H:=G hp;replace F:=G hf;replace BN:=G (hf.blk _ _ _ (by decide) (by decide) BN.out);have n3:=BN.out.at_ 3 (v:=.slice pA params.length pc) rfl;have b0:=TA.out;by_cases hlt:j<params.length
   ·have hd:params.drop j=params[j]::params.drop (j+1):=jM9 hlt;obtain⟨b,o,hA,hc⟩:=jP (C:=prC) (fun x=>rfl) (Sq.out _ _ _ _ hp) (jJ9 hlt) hlt;have P6:∀W1 st2 B2 c2,Rw9 w t s st2 B2 c2 W1->∀i u,(prC params[j])[i]? =some u->W1.cell? ⟨b,o+(j*3+i),none⟩=some u:=fun W1 st2 B2 c2 WP i u hu=>by
     obtain⟨b2,o2,Mz,FE⟩:=jP (C:=prC) (fun x=>rfl) (Sq.out _ _ _ _ WP) (jJ9 hlt) hlt;have e1:=jL5 (hA.symm.trans Mz);have e2:b=b2:=congrArg Addr.block e1;have e3:o=o2:=congrArg Addr.off e1;rw[e2,e3];exact FE i u hu
    rw[hd,JK]at Ht;generalize params[j]=p at*;obtain⟨pn,pat,pk⟩:=p;simp only at Ht;subst hA;have Aa:=G (fun W1 st2 B2 c2 (WP:Rw9 w t s st2 B2 c2 W1)=>(show W1.cell? ⟨b,o+j*3,none⟩=some (.string pn)from P6 W1 st2 B2 c2 WP 0 _ rfl));have A8:=G (fun W1 st2 B2 c2 (WP:Rw9 w t s st2 B2 c2 W1)=>(show W1.cell? ⟨b,o+j*3+2,none⟩=some (.int .i64 pk)from P6 W1 st2 B2 c2 WP 2 _ rfl));have b1:(0:Int)<=(j:Int):=(by omega);have b2:(j:Int).toNat=j:=(by omega);have b3:(j:Int)<(params.length:Int):=(by omega);have b4:IntKind.i64.wrap ((j:Int)+1)=(j:Int)+1:=jQ3 _ (by omega);obtain⟨t0,e0⟩:∃x,x=if 0<j then st1.put [44]else st1:=⟨_,rfl⟩;obtain⟨t1,e1⟩:∃x,x=t0.named pn:=⟨_,rfl⟩;obtain⟨t2,e2⟩:∃x,x=t1.put [58]:=⟨_,rfl⟩;obtain⟨t3,e3⟩:∃x,x=t2.kind pk:=⟨_,rfl⟩;rw[<-e0,<-e1,<-e2,<-e3]at Ht;have q3:t3.b.length<=jN:=jL4 (by rw[Ht];exact Va _ _ _) Q4.out;have q2:=jGc e3 q3;have q1:=Yg e2 q2;have T1:=YR HG.out H8.out t s e1 q1;have T2:=Jk w t s (x:=⟨#[58]⟩) e2 q2;have T3:=jGr w t s e3 q3;have G5:=G Ht;have c0:=Aa.out _ _ _ _ hp;have c2:=A8.out _ _ _ _ hp;have q0:=ZD e1 q1;clear Ht hd hp hf hc P6 q3 q2 q1 e1 e2 e3;by_cases h0:0<j
    all_goals
     simp only[h0,if_true,if_false]at e0
     try have T0:=Jk w t s (x:=⟨#[44]⟩) e0 q0
     first|have b5:(0:Int)<(j:Int):=by omega|have b5:¬(0:Int)<(j:Int):=by omega
     clear h0 q0
     try subst e0
     go_wp2_with (first|((first|(go_at_call 55;first|refine(T2.out _ _ _ H.out).mono ?_ |refine(T0.out _ _ _ H.out).mono ?_)|(go_at_call 56;refine(T1.out _ _ _ H.out).mono ?_)|(go_at_call 121;refine(T3.out _ _ _ H.out).mono ?_));rintro e w1 ⟨rfl,B1,c1',hX,hf⟩;replace H:=G hX;replace F:=G (F.out.trans hf);replace BN:=G (hf.blk _ _ _ (by decide) (by decide) BN.out);have n3:=BN.out.at_ 3 (v:=.slice (some ⟨b,o,none⟩) params.length pc) rfl;have c0:=Aa.out _ _ _ _ H.out;have c2:=A8.out _ _ _ _ H.out;clear hX hf)|fail);exact⟨⟨j+1,t3,B1,c1',by omega,by rw[show((j+1:Nat):Int)=(j:Int)+1 by omega],G5.out,H.out,F.out⟩,by simp only[intOf];omega⟩
   ·obtain rfl:j=params.length:=(by omega);rw[List.drop_length,JK]at Ht;subst Ht;have n4:=BN.out.at_ 4 (v:=.string in_) rfl;have n6:=BN.out.at_ 6 (v:=.int .i64 _) rfl;have F:=G (F0.out.trans F.out);have b3:¬(params.length:Int)<(params.length:Int):=(by omega);clear hp hf;go_upto_region 19 with(first|((first|(go_at_call 55;first|refine(K9.out _ _ _ H.out).mono ?_ |refine(K7.out _ _ _ H.out).mono ?_ |refine(K5.out _ _ _ H.out).mono ?_)|(go_at_call 123;refine(K6.out _ _ _ H.out).mono ?_)|(go_at_call 122;refine(K8.out _ _ _ H.out).mono ?_));rintro e w1 ⟨rfl,B1,c1',hX,hf⟩;replace H:=G hX;replace F:=G (F.out.trans hf);replace BN:=G (hf.blk _ _ _ (by decide) (by decide) BN.out);have n4:=BN.out.at_ 4 (v:=.string in_) rfl;have n6:=BN.out.at_ 6 (v:=.int .i64 _) rfl;have n7:=BN.out.at_ 7 (v:=.slice eA effects.length ec) rfl;clear hX hf)|fail);have F0:=F;go_loopw [5] (fun i wr=>∃(j:Nat) (st1:Wr9) (B1:OA) (c1:Nat),j<=effects.length/\i=.int .i64 (j:Int)/\sE=zm t.nodes (effects.drop j) st1/\st1.Ub/\Rw9 w t s st1 B1 c1 wr/\FrW w1 wr) (fun i _=>effects.length-(intOf i).toNat)
    case atStart=>exact⟨0,s9,B1,c1',Nat.zero_le _,rfl,EE.out,U9.out,H.out,FrW.refl _⟩
    case round=>
     obtain⟨j,st1,Bk,ck,hj,rfl,Ht,Gu,hp,hf⟩:=hrel;replace H:=G hp;replace F:=G hf;replace BN:=G (hf.blk _ _ _ (by decide) (by decide) BN.out);have n7:=BN.out.at_ 7 (v:=.slice eA effects.length ec) rfl;have b0:=RV.out;by_cases hlt:j<effects.length
     ·have hd:effects.drop j=effects[j]::effects.drop (j+1):=jM9 hlt;obtain⟨b,o,hA,hc⟩:=jP (C:=efC) (fun x=>rfl) (RR.out _ _ _ _ hp) (jJ9 hlt) hlt;rw[hd,zm]at Ht;generalize effects[j]=p at*;obtain⟨en,eat,ew⟩:=p;simp only at Ht;subst hA;have p0:wr.cell? ⟨b,o+j*3,none⟩=some (.string en):=hc 0 _ rfl;have p1:wr.cell? ⟨b,o+j*3+1,none⟩=some (.int .i64 eat):=hc 1 _ rfl;have p2:wr.cell? ⟨b,o+j*3+2,none⟩=some (.int .i64 ew):=hc 2 _ rfl;have b1:(0:Int)<=(j:Int):=(by omega);have b2:(j:Int).toNat=j:=(by omega);have b3:(j:Int)<(effects.length:Int):=(by omega);have b4:IntKind.i64.wrap ((j:Int)+1)=(j:Int)+1:=jQ3 _ (by omega);have Hm:Old wr (wr.alloc (.cells #[.string en,.int .i64 eat,.int .i64 ew] 125)):=(jQ0 NoX wr).alloc _;have H:=G (hp.old Hm);have F:=G (hf.trans (FrW.of_old Hm));have BN:=G (jQ2 wr 125 #[.string en,.int .i64 eat,.int .i64 ew]);obtain⟨t1,e1⟩:∃x,x=st1.put [114,101,111,112,101,110]:=⟨_,rfl⟩;obtain⟨t2,e2⟩:∃x,x=st1.named en:=⟨_,rfl⟩;obtain⟨t3,e3⟩:∃x,x=t2.put [58,61]:=⟨_,rfl⟩;obtain⟨t4,e4⟩:∃x,x=if ew= -1 then t1.named en else jx t.nodes ew t3:=⟨_,rfl⟩;obtain⟨t5,e5⟩:∃x,x=t4.put [59]:=⟨_,rfl⟩;rw[<-e1,<-e2,<-e3,<-e4,<-e5]at Ht;have q5:t5.b.length<=jN:=jL4 (by rw[Ht];exact Vl _ _ _) QE.out;have q4:=Yg e5 q5;have u3:t3.Ub:=ZU e3 (by rw[e2];exact vB _ Gu);have u5:t5.Ub:=by
       rw[e5,e4];split
       ·exact(vB _ (ZU e1 Gu)).put _
       ·exact(yZ _ _ u3).put _
      have T5:=Jk w t s (x:=⟨#[59]⟩) e5 q5;have G5:=G Ht;have UN:=G u5;by_cases h0:ew= -1
      all_goals
       simp only[h0,if_true,if_false]at e4
       try have T1:=Jk w t s (x:=⟨#[114,101,111,112,101,110]⟩) e1 (ZD e4 q4)
       try have T4:=YR HG.out H8.out t s e4 q4
       try have T2:=YR HG.out H8.out t s e2 (Yg e3 (KK e4 q4))
       try have T3:=Jk w t s (x:=⟨#[58,61]⟩) e3 (KK e4 q4)
       try have T6:=qI Sp.out e4 u3 q4
       first|have m1:(ew== -1)=true:=beq_iff_eq.2 h0|have m1:(ew== -1)=false:=jM3 h0
       clear Ht hd hp hf hc Hm h0 Gu q5 q4 u3 u5 e1 e2 e3 e4 e5;go_wp2_with (first|((first|(go_at_call 55;first|refine(T5.out _ _ _ H.out).mono ?_ |refine(T3.out _ _ _ H.out).mono ?_ |refine(T1.out _ _ _ H.out).mono ?_)|(go_at_call 56;first|refine(T4.out _ _ _ H.out).mono ?_ |refine(T2.out _ _ _ H.out).mono ?_)|(go_at_call 122;refine(T6.out _ _ _ H.out).mono ?_));rintro e w1 ⟨rfl,B1,c1',hX,hf⟩;replace H:=G hX;replace F:=G (F.out.trans hf);replace BN:=G (hf.blk _ _ _ (by decide) (by decide) BN.out);have n0:=BN.out.at_ 0 (v:=.string en) rfl;have n2:=BN.out.at_ 2 (v:=.int .i64 ew) rfl;clear hX hf)|fail);exact⟨⟨j+1,t5,B1,c1',by omega,by rw[show((j+1:Nat):Int)=(j:Int)+1 by omega],G5.out,UN.out,H.out,F.out⟩,by simp only[intOf];omega⟩
     ·obtain rfl:j=effects.length:=(by omega);rw[List.drop_length,zm]at Ht;subst Ht;have b3:¬(effects.length:Int)<(effects.length:Int):=(by omega);clear hp hf;go_wp2_with (first|((first|(go_at_call 55;refine(KF.out _ _ _ H.out).mono ?_));rintro e w1 ⟨rfl,B1,c1',hX,hf⟩;replace H:=G hX;replace F:=G (F.out.trans hf);replace BN:=G (hf.blk _ _ _ (by decide) (by decide) BN.out);clear hX hf)|fail);go_end0;exact⟨rfl,B1,c1',H.out,F0.out.trans F.out⟩
end Go.Proofs.YtmmjcbbogokmfaaGreatDoor

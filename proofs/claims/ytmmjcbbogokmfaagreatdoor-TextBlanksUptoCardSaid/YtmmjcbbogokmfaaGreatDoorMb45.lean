import Derived.Test.YtmmjcbbogokmfaaGreatDoorMb44
import Derived.LaidLaws
import Derived.Deep.Slices
import Derived.OpenShut
import Derived.SliceStrings
import Derived.ChangeSame
set_option maxRecDepth 100000
set_option maxHeartbeats 25600000
namespace Go.Proofs.YtmmjcbbogokmfaaGreatDoor
open Go.Proofs.Tryz
open Go.RowKit
theorem jAJ(w:World)(hg:Sg w)(hT:TabW w)(h8:8<=w.heap.size)(B:OA)(d:Nat)(l:LB)(hr:Rd w 1 B l.length (l.map bv))(D:OA)(d2:Nat)(fl:LB)(hf:Rd w 1 D fl.length (fl.map bv))(P8:fl.length<=100000000)(t:Tre)(h:Is9 l t):
  Calls prog 7 #[.slice B l.length d,.slice D fl.length d2] w fun e w' =>e=.returned (.bool true)/\Old w w' :=by
 obtain⟨b,hb,Gl,Fq,Fh⟩:=jHW h fl;obtain⟨C,hC⟩:∃C,Qs fl b false 0=C:=⟨_,rfl⟩;have Fk:C.length<=11*b.length:=hC▸Fq;have Na:C.length<=60000->∃u,Is9 C u/\u.str=t.str:=hC▸Fh;have HP:=G (jFL w hg h8 B l.length d l hr h);have S7:=G (fun W (hO:Old w W) s ns ps (hx:TrF W t s ns ps)=>jGH W (hg.old hO) (hT.old hO) (jL4 h8 hO.size) hx h.sz hb);have HK:=G (fun W (hO:Old w W)=>uO W (hg.old hO) (jL4 h8 hO.size));have HB:=G (fun W s ns ps (hx:TrF W t s ns ps)=>jFY W hx h.sz rfl);have HS:=G (fun W s s2 ns ns2 ps ps2 (hx:TrF W t.str s ns ps) (hy:TrF W t.str s2 ns2 ps2)=>jBB W t.str s s2 ns ns2 ps ps2 hx hy h.sz.str);have HQ:=G (fun u (hu:Is9 C u) W (hO:Old w W) A c (hx:Rd W 1 A C.length (C.map bv))=>jFL W (hg.old hO) (jL4 h8 hO.size) A C.length c C hx hu);have Q9:=G (fun u (hu:Is9 C u) (he:u.str=t.str) W s ns ps (hx:TrF W u s ns ps)=>jFY W hx hu.sz he);have C7:=G Na;have C5:=G (And.intro Gl Fk);have HC:=G hC;have HF:=G (And.intro hf P8);have b1:((0:Int) !=0)=false:=rfl;clear hg hT h8 hr h hb Gl Fk Na hC hf P8 Fq Fh;go_enter func7,ntmps7;go_wp2_with fail;go_at_call 26;refine HP.out.mono ?_;rintro e w2 ⟨s,ns,ps,rfl,Cw,hX⟩;have NF:=jFX w2 29 [.string ⟨#[]⟩,.int .i64 0,.slice none 0 0,.slice none 0 0,.slice none 0 0,.slice none 0 0,.slice none 0 0,.slice none 0 0] (jJ t s) rfl;have Pm:=G NF.1;have RY:=G (show(prog.info? 29).map (·.size)=some (jJ t s).toArray.size from zX t s);have HZ:=G (zX t s);have Wu:=G (show(jJ t s).toArray.all (·.oneCell')=true from all_oneCell_toArray (Zt _ _));have U3:=G NF.2.1;have O3:=G (kU hX NF.2.2);have T3:=G (Cw.old NF.2.2);clear hX Cw NF HP;have S6:=G (fun W (hO:Old w W) (hx:TrF W t s ns ps)=>S7.out W hO s ns ps hx);have D6:=G (fun W (hx:TrF W t s ns ps)=>HB.out W s ns ps hx);clear S7 HB;generalize hcu:jJ t s=cu at*;clear hcu;go_upto_region 2 with(first|((with_reducible refine xO 29 (.tmp 5) (.tmp 21) ?_);refine jQ1 rfl 29 (.tmp 5) (.tmp 21) rfl w2.heap.size 0 cu.toArray rfl rfl Pm.out RY.out Wu.out ?_)|fail);clear Pm RY Wu;generalize (World.setCells _ _ _ _)=w3 at*;generalize w2.heap.size=g3 at*;have Sp:=G (Je U3.out);go_wp2_with (first|((with_reducible refine VB 29 (.tmp 5) ?_);refine uG rfl 29 (.tmp 5) rfl g3 0 rfl cu _ Sp.out underlying29 rfl HZ.out ?_)|fail);go_at_call 14;refine(S6.out _ O3.out T3.out).mono ?_;rintro e w4 ⟨A4,c4,rfl,Fx,hX⟩;have R4:=G Fx;have O4:=G (kU O3.out hX);have T4:=G (T3.out.old hX);have U4:=G (U3.out.old hX);clear hX Fx O3 T3 U3 Sp S6;have b2:((0:Int) !=0)=false:=rfl;go_upto_region 8 with(fail);have CQ:=G (fun W (hO:Old (w4.alloc (.cells #[.string ⟨#[32]⟩,.string ⟨#[9]⟩,.string ⟨#[10]⟩,.string ⟨#[13]⟩,.string ⟨#[35,10]⟩,.string ⟨#[10,9,32]⟩,.string ⟨#[35,97,34,123,255,10]⟩,.string ⟨#[32,35,32,115,116,97,103,101,32,35,10]⟩] 9)) W) j=>((jQ2 w4 9 #[.string ⟨#[32]⟩,.string ⟨#[9]⟩,.string ⟨#[10]⟩,.string ⟨#[13]⟩,.string ⟨#[35,10]⟩,.string ⟨#[10,9,32]⟩,.string ⟨#[35,97,34,123,255,10]⟩,.string ⟨#[32,35,32,115,116,97,103,101,32,35,10]⟩]).old hO).cell j);have X5:Old w4 (w4.alloc (.cells #[.string ⟨#[32]⟩,.string ⟨#[9]⟩,.string ⟨#[10]⟩,.string ⟨#[13]⟩,.string ⟨#[35,10]⟩,.string ⟨#[10,9,32]⟩,.string ⟨#[35,97,34,123,255,10]⟩,.string ⟨#[32,35,32,115,116,97,103,101,32,35,10]⟩] 9)):=(jQ0 NoX w4).alloc _;have O5:=G (kU O4.out X5);have T5:=G (T4.out.old X5);have U5:=G (U4.out.old X5);have R5:=G (R4.out.old X5);have F5:=G (HF.out.1.old O5.out);clear X5 O4 T4 U4 R4;generalize (w4.alloc _)=w5 at*;generalize w4.heap.size=g5 at*;obtain⟨i0,hi,FF,Ft,FM⟩:=info_parts jJj;go_wp2_with fail;go_loopw [11,12,13,14] (fun c q k i wr=>∃(acc:LB) (A:OA) (cc:Nat) (qq:Bool) (kk ii:Nat),c=.slice A acc.length cc/\q=.bool qq/\k=.int .i64 (kk:Int)/\i=.int .i64 (ii:Int)/\ii<=b.length/\kk<=ii/\acc++Qs fl (b.drop ii) qq kk=C/\Old w5 wr/\wr.ownsRow w5.heap.size 5 1 (.slice A acc.length cc) acc.length (acc.map bv)) (fun _ _ _ i _=>b.length-(intOf i).toNat)
 case atStart=>exact⟨[],none,0,false,0,0,rfl,rfl,rfl,rfl,Nat.zero_le _,Nat.zero_le _,HC.out,jQ0 _ _,World.ownsRow_nil _ _ _ _⟩
 case round=>
  obtain⟨acc,A,cc,q,k,i,rfl,rfl,rfl,rfl,DJ,PT,hC,hO,Hh⟩:=hrel;have HO:=G hO;have Nh:=G Hh;have HL:=G (show b.length<=10000000000000/\acc.length+(Qs fl (b.drop i) q k).length<=110000000000000 from by
   have h1:=C5.out;unfold jv at h1;refine⟨h1.1,?_⟩;rw[<-jJ4,hC];omega)
  clear hO Hh;by_cases hlt:i<b.length
  ·obtain⟨y,hy,SB⟩:=UI hlt;rw[SB]at hC HL;obtain⟨bo,oo,rfl,GE⟩:=R5.out.2 (by omega);have T1:=G (fun W (hW:Old w5 W)=>(show W.cell? ⟨bo,oo+i,none⟩=some (.int .u8 (y.toNat:Int))from ZO (GE i (bv y) (by rw[jM1,hy];rfl)) hW));have a1:(0:Int)<=(i:Int):=(by omega);have a2:(i:Int)<(b.length:Int):=(by omega);have a3:(i:Int).toNat=i:=(by omega);have a4:IntKind.i64.wrap ((i:Int)+1)=(i:Int)+1:=jQ3 _ (by have:=HL.out.1;omega);by_cases hesc:q=true/\y=92/\b.drop (i+1)≠ []
   ·obtain⟨rfl,FQ,Fa⟩:=hesc;have LY:i+1<b.length:=by
     rcases Nat.lt_or_ge (i+1) b.length with h|h
     ·exact h
     ·exact absurd (List.drop_eq_nil_of_le h) Fa
    obtain⟨x,hx,Rx⟩:=UI LY;rw[Rx,FQ,jE2]at hC HL;have C6:=G (fun W (hW:Old w5 W)=>(show W.cell? ⟨bo,oo+(i+1),none⟩=some (.int .u8 (x.toNat:Int))from ZO (GE (i+1) (bv x) (by rw[jM1,hx];rfl)) hW));have Q7:=G (show(acc++[y,x])++Qs fl (b.drop (i+1+1)) true k=C by rw[jK1,FQ];exact hC);have M63:=G (show acc.length+2<=maxLen by have:=HL.out.2;rw[jK6,jK6]at this;unfold maxLen;omega);have M47:=G (show(acc.length+2)*1<=140737488355328 by have:=HL.out.2;rw[jK6,jK6]at this;omega);have f92:((y.toNat:Int)==92)=true:=eq9 (z:=92) FQ;have d1:(0:Int)<=(i:Int)+1:=(by omega);have d2' :(i:Int)+1<(b.length:Int):=(by omega);have d3:((i:Int)+1).toNat=i+1:=(by omega);have d4:IntKind.i64.wrap ((i:Int)+1+1)=(i:Int)+1+1:=jQ3 _ (by have:=HL.out.1;omega);clear hC SB Rx hy hx GE Fa FQ;have c1:=T1.out _ HO.out;go_upto_region 15 with(fail);clear c1;refine jd (S:=fun W=>Old w5 W) 13 rfl (by kernel_rfl) HO.out.drew (fun Ha=> ?_)
    iterate 10 (refine' tOn rfl rfl (by kernel_rfl) (fun _ _ _ h=>h) rfl Ha (fun w' Hj=> ?_) ?_;rotate_left;(have c1:=T1.out _ Hj;have c2:=C6.out _ Hj;clear Hj;go_simp<;>with_reducible rfl);simp only[Act.put,jJ1,jJ2,jJ3])
    refine XL (ls' :=([true,true,true,true,true,true,true,true,true,true,false,false,false]:List Bool).toArray) rfl ?_;have HD:=G Ha;have Q5:=G (jW Nh.out (show Old wr wr.drew from(jQ0 NoX wr).drewN 1) (fun _ _ f=>f));generalize wr.drew=wd at*;refine jh 10 rfl (by kernel_rfl) (fun K hK=> ?_);go_simp;have H1:=G (HD.out.alloc (.cells #[bv y,bv x] 5));have GO:=G (Rd.row_new wd 5 1 2 [bv y,bv x] rfl);have D7:=G (Q5.out.alloc (.cells #[bv y,bv x] 5));refine hK.out _ _ H1.out (fun Ha=> ?_);clear hK K;simp only[jJ1,jJ2,jJ3];refine jh 11 rfl (by kernel_rfl) (fun K hK=> ?_);refine kR _ rfl (.tmp 56) (.tmp 66) 33 rfl w5.heap.size 5 i0 (.int .u8 0) 1 1 underlying33 hi FF Ft FM rfl (by decide) (.slice A acc.length cc) acc.length (acc.map bv) rfl D7.out (some ⟨wd.heap.size,0,none⟩) 2 2 [bv y,bv x] rfl GO.out (Ys [y,x]) M63.out M47.out H1.out.size ?_;intro A2 c2 w6 Hh hgrow Ff;have H6:=G (Kp.grown H1.out hgrow (fun k e hk=>absurd (D7.out.lt k e).1 (by omega)):Old w5 w6);have Pv:=G Hh;clear Hh hgrow Ff;refine hK.out _ _ H6.out (fun Ha=> ?_);clear hK K;simp only[Act.put,jJ1,jJ2,jJ3];refine' jM 12 rfl rfl (by kernel_rfl) (fun _ _ _ h=>h) rfl Ha (fun w' Hj=> ?_) ?_;rotate_left;(skip;clear Hj;go_simp<;>with_reducible rfl);simp only[Act.put,jJ1,jJ2,jJ3];refine wpAnyH_done (by kernel_rfl) ?_ _;clear Ha;go_wp2_with fail;go_roundw
    case rel=>exact⟨acc++[y,x],A2,c2,_,k,i+1+1,by rw[jJ4];rfl,rfl,rfl,by go_num,by omega,by omega,Q7.out,H6.out,by rw[jJ4,jN3];exact Pv.out⟩
    case measure=>simp only[intOf];omega
   obtain⟨q',MO⟩:∃q',(if y=34 then !q else q)=q' :=⟨_,rfl⟩;by_cases Fy:q' =false/\(y=32\/y=10)/\fl≠ []
   ·obtain⟨rfl,R6,Ru⟩:=Fy;obtain rfl:q=false:=by
     cases q with
     |false=>rfl
     |true=>
      exfalso;by_cases e:y=34
      ·rcases R6 with h|h<;>exact absurd (e.symm.trans h) (by decide)
      ·rw[jJ5 e]at MO;cases MO
    rw[jE0 hesc MO R6 Ru]at hC HL;have hn:=List.length_pos_iff.2 Ru;have PP:=Nat.mod_lt k hn;obtain⟨df,fo,rfl,Cp⟩:=F5.out.2 hn;obtain⟨z,hz⟩:∃z,fl[k% fl.length]? =some z:=⟨_,jJ9 PP⟩;have EQ:=G (fun W (hW:Old w5 W)=>(show W.cell? ⟨df,fo+k% fl.length,none⟩=some (.int .u8 (z.toNat:Int))from ZO (Cp _ (bv z) (by rw[jM1,hz];rfl)) hW));obtain⟨R,hR⟩:∃R,jFz fl k=R:=⟨_,rfl⟩;have Cz:rows9.getD (z.toNat% 8) []=R:=by
     rw[<-hR];unfold jFz;rw[List.getD_eq_getElem?_getD (l:=fl),hz];rfl
    rw[hR,jJ4]at HL;rw[hR]at hC;have EV:=G (fun W (hW:Old w5 W)=>(show W.cell? ⟨g5,z.toNat% 8,none⟩=some (.string ⟨R.toArray⟩)from by
     rw[CQ.out W hW,<-Cz];exact jBL ⟨z.toNat% 8,Nat.mod_lt _ (by decide)⟩))
    have Q7:=G (show(acc++R)++Qs fl (b.drop (i+1)) false (k+1)=C by rw[jK1];exact hC);have CB:(⟨R.toArray⟩:BA).size=R.length:=(by rw[<-jB,yS]);have SS:=G CB;have M63:=G (show acc.length+(⟨R.toArray⟩:BA).size<=maxLen by have:=HL.out.2;unfold maxLen;omega);have M47:=G (show acc.length+(⟨R.toArray⟩:BA).size<=140737488355328 by have:=HL.out.2;omega);have f34:((y.toNat:Int)==34)=false:=ne9 (z:=34) (fun e=>by rcases R6 with h|h<;>exact absurd (e.symm.trans h) (by decide));have f0:(0:Int)<(fl.length:Int):=(by omega);have a5:(0:Int)<=(k:Int):=(by omega);have a6:IntKind.i64.wrap ((k:Int)+1)=(k:Int)+1:=jQ3 _ (by have:=HL.out.1;omega);have r0:RowKit.wrap64 (z.toNat:Int)=(z.toNat:Int):=IntWalk.wrap64_in _ (by have:=z.toNat_lt;omega);have r1:(k:Int).tmod (fl.length:Int)=((k% fl.length:Nat):Int):=rfl;have r2:(z.toNat:Int).tmod 8=((z.toNat% 8:Nat):Int):=rfl;have r3:((k% fl.length:Nat):Int)<(fl.length:Int):=(by omega);have r4:((z.toNat% 8:Nat):Int)<8:=(by omega);have r5:(0:Int)<=((k% fl.length:Nat):Int):=(by omega);have r6:(0:Int)<=((z.toNat% 8:Nat):Int):=(by omega);have r7:((k% fl.length:Nat):Int).toNat=k% fl.length:=(by omega);have r8:((z.toNat% 8:Nat):Int).toNat=z.toNat% 8:=(by omega);have r9:((fl.length:Int)==0)=false:=jM3 (by omega);have c1:=T1.out _ HO.out;have c2:=EQ.out _ HO.out;have c3:=EV.out _ HO.out;have Lp:((y.toNat:Int)==32)=true\/((y.toNat:Int)==32)=false/\((y.toNat:Int)==10)=true:=by
     rcases R6 with rfl|rfl
     ·exact .inl rfl
     ·exact .inr ⟨rfl,rfl⟩
    clear hC hesc MO R6 SB hy GE Ru Cp hR Cz CB hn;rcases Lp with f1|⟨f1,f2⟩
    ·go_wp2_with (first|(at_builtin;refine jq _ rfl (.tmp 98) (.tmp 112) 33 9 rfl w5.heap.size 5 i0 underlying33 underlying9 hi FF Ft FM (.slice A acc.length cc) acc.length (acc.map bv) rfl Nh.out ⟨R.toArray⟩ rfl M63.out M47.out HO.out.size ?_;intro A2 c2 w6 Hh hgrow Ff;have H6:=G (Kp.grown HO.out hgrow (fun k e hk=>absurd (Nh.out.lt k e).1 (by omega)):Old w5 w6);have Pv:=G Hh;clear Hh hgrow Ff)|fail);go_roundw
     case rel=>exact⟨acc++R,A2,c2,_,k+1,i+1,by rw[jJ4,<-SS.out],rfl,by go_num,by go_num,by omega,by omega,Q7.out,H6.out,by rw[jJ4,<-SS.out,jN3];have h:=Pv.out;rw[yS]at h;exact h⟩
     case measure=>simp only[intOf];omega
    ·go_wp2_with (first|(at_builtin;refine jq _ rfl (.tmp 98) (.tmp 112) 33 9 rfl w5.heap.size 5 i0 underlying33 underlying9 hi FF Ft FM (.slice A acc.length cc) acc.length (acc.map bv) rfl Nh.out ⟨R.toArray⟩ rfl M63.out M47.out HO.out.size ?_;intro A2 c2 w6 Hh hgrow Ff;have H6:=G (Kp.grown HO.out hgrow (fun k e hk=>absurd (Nh.out.lt k e).1 (by omega)):Old w5 w6);have Pv:=G Hh;clear Hh hgrow Ff)|fail);go_roundw
     case rel=>exact⟨acc++R,A2,c2,_,k+1,i+1,by rw[jJ4,<-SS.out],rfl,by go_num,by go_num,by omega,by omega,Q7.out,H6.out,by rw[jJ4,<-SS.out,jN3];have h:=Pv.out;rw[yS]at h;exact h⟩
     case measure=>simp only[intOf];omega
   have Tf:=jEz hesc MO Fy;rw[jE1 hesc MO Fy]at hC HL;have Q7:=G (show(acc++[y])++Qs fl (b.drop (i+1)) q' k=C by rw[jK1];exact hC);have M63:=G (show acc.length+1<=maxLen by have:=HL.out.2;rw[jK6]at this;unfold maxLen;omega);have M47:=G (show(acc.length+1)*1<=140737488355328 by have:=HL.out.2;rw[jK6]at this;omega);have Mh:b.drop (i+1)=[]->¬(i:Int)+1<(b.length:Int):=fun h=>by
    have:=congrArg List.length h;rw[jK8,jN2]at this;omega
   have P7:fl=[]->¬(0:Int)<(fl.length:Int):=fun h=>by rw[h];decide
   clear hC hesc MO Fy SB hy GE;have c1:=T1.out _ HO.out;rcases Tf with⟨rfl,rfl,f1,f2,f3⟩|⟨rfl,rfl,f1,f2,f3,f4⟩|⟨rfl,rfl,f1,f2⟩|⟨rfl,rfl,f1⟩|⟨rfl,rfl,f1,f2,f3⟩|⟨rfl,rfl,f1,f2,f3⟩|⟨rfl,rfl,f1,f2,f3,f4⟩
   all_goals
    first|replace f2:=Mh f2|replace f3:=P7 f3|replace f4:=P7 f4|skip
    clear Mh P7;go_wp2_with (first|(at_builtin;refine jF _ rfl (.tmp 116) (.tmp 121) 33 rfl w5.heap.size 5 i0 (.int .u8 0) 1 1 underlying33 hi FF Ft FM rfl (by decide) (.slice A acc.length cc) acc.length (acc.map bv) rfl (Nh.out.alloc (.cells #[bv y] 5)) (some ⟨wr.heap.size,0,none⟩) 1 1 [bv y] rfl (Rd.one_new wr 5 (bv y)) (kK _ rfl) M63.out M47.out ((HO.out.alloc _).size) ?_;intro A2 c2 w6 Hh hgrow Ff;have H6:=G (Kp.grown (HO.out.alloc _) hgrow (fun k e hk=>absurd (Nh.out.lt k e).1 (by omega)):Old w5 w6);have Pv:=G Hh;clear Hh hgrow Ff)|fail);go_roundw
    case rel=>exact⟨acc++[y],A2,c2,_,k,i+1,by rw[jJ4];rfl,rfl,rfl,by go_num,by omega,by omega,Q7.out,H6.out,by rw[jJ4,jN3];exact Pv.out⟩
    case measure=>simp only[intOf];omega
  ·obtain rfl:i=b.length:=(by omega);rw[List.drop_length]at hC;have hC:acc=C:=by rw[<-hC];exact(jN7 acc).symm
   subst hC;have RC:=G (Rd.of_own Nh.out);have O6:=G (kU O5.out HO.out);have T6:=G (T5.out.old HO.out);have U6:=G (U5.out.old HO.out);clear HL Nh HO O5 T5 U5 F5 CQ R5 PT DJ hlt hi FF Ft FM HC;by_cases MZ:acc.length<=60000
   ·obtain⟨v,hv,Cb⟩:=C7.out MZ;have CU:=G (HQ.out v hv _ O6.out _ cc RC.out);have D5:=G (Q9.out v hv Cb);have b60:¬(60000:Int)<(acc.length:Int):=(by omega);clear C7 Q9 HQ RC hv Cb MZ C5 HF;go_wp2_with fail;go_at_call 26;refine CU.out.mono ?_;rintro e w7 ⟨s2,ns2,ps2,rfl,SH,hX⟩;have NF:=jFX w7 29 [.string ⟨#[]⟩,.int .i64 0,.slice none 0 0,.slice none 0 0,.slice none 0 0,.slice none 0 0,.slice none 0 0,.slice none 0 0] (jJ v s2) rfl;have Pm:=G NF.1;have RY:=G (show(prog.info? 29).map (·.size)=some (jJ v s2).toArray.size from zX v s2);have Eu:=G (zX v s2);have Wu:=G (show(jJ v s2).toArray.all (·.oneCell')=true from all_oneCell_toArray (Zt _ _));have V8:=G NF.2.1;have S8:=G (SH.old NF.2.2);have O8:=G (kU O6.out (kU hX NF.2.2));have T8:=G (T6.out.old (kU hX NF.2.2));have U8:=G (U6.out.old (kU hX NF.2.2));clear hX SH NF CU O6 T6 U6;have C8:=G (fun W (hx:TrF W v s2 ns2 ps2)=>D5.out W s2 ns2 ps2 hx);clear D5;generalize Pc:jJ v s2=cv at*;clear Pc;go_upto_region 24 with(first|((with_reducible refine xO 29 (.tmp 15) (.tmp 126) ?_);refine jQ1 rfl 29 (.tmp 15) (.tmp 126) rfl w7.heap.size 0 cv.toArray rfl rfl Pm.out RY.out Wu.out ?_)|fail);clear Pm RY Wu;generalize (World.setCells _ _ _ _)=w8 at*;generalize w7.heap.size=g8 at*;go_upto_region 26 with(fail);refine jd (S:=fun W=>Old w8 W) 17 rfl (by kernel_rfl) ((jQ0 NoX w8).drewN 1) (fun Ha=> ?_)
    iterate 7 (refine' tOn rfl rfl (by kernel_rfl) (fun _ _ _ h=>h) rfl Ha (fun w' Hj=> ?_) ?_;rotate_left;(skip;clear Hj;go_simp<;>with_reducible rfl);simp only[Act.put,jJ1,jJ2,jJ3])
    refine XL (ls' :=([true,true,true,true,true,true,true,false,false,false,false,false,false,false,false,false,false]:List Bool).toArray) rfl ?_;refine' jM 7 rfl rfl (by kernel_rfl) (fun _ _ _ h=>h) rfl Ha (fun w' Hj=>kA 29 (.tmp 5) rfl g3 0 rfl cu _ (Je (U8.out.old Hj)) underlying29 rfl HZ.out) ?_;simp only[Act.put,jJ1,jJ2,jJ3];refine' jM 9 rfl rfl (by kernel_rfl) (fun _ _ _ h=>h) rfl Ha (fun w' Hj=>kA 29 (.tmp 15) rfl g8 0 rfl cv _ (Je (V8.out.old Hj)) underlying29 rfl Eu.out) ?_;simp only[Act.put,jJ1,jJ2,jJ3];have HD:=G Ha;refine jh 8 rfl (by kernel_rfl) (fun K hK=> ?_);go_simp;go_at_call 31;refine(D6.out _ (T8.out.old HD.out)).mono ?_;rintro e va ⟨sa,na,pa,rfl,PH,hX⟩;have Va:=G (kU HD.out hX);have Ta:=G PH;clear hX PH;go_simp;refine hK.out _ _ Va.out (fun Ha=> ?_);clear hK K;simp only[jJ1,jJ2,jJ3];refine jh 10 rfl (by kernel_rfl) (fun K hK=> ?_);go_simp;go_at_call 31;refine(C8.out _ (S8.out.old Va.out)).mono ?_;rintro e vb ⟨sb,nb,pb,rfl,PH,hX⟩;have Vb:=G (kU Va.out hX);have Tb:=G PH;have Ta:=G (Ta.out.old hX);clear hX PH;go_simp;refine hK.out _ _ Vb.out (fun Ha=> ?_);clear hK K;simp only[jJ1,jJ2,jJ3];refine jh 11 rfl (by kernel_rfl) (fun K hK=> ?_);go_simp;go_at_call 30;refine(HS.out _ sa sb na nb pa pb Ta.out Tb.out).mono ?_;rintro e vc ⟨rfl,hX⟩;have Vc:=G (kU Vb.out hX);clear hX;go_simp;refine hK.out _ _ Vc.out (fun Ha=> ?_);clear hK K;simp only[jJ1,jJ2,jJ3];refine' jM 12 rfl rfl (by kernel_rfl) (fun _ _ _ h=>h) rfl Ha (fun w' Hj=> ?_) ?_;rotate_left;(skip;clear Hj;go_simp<;>with_reducible rfl);simp only[Act.put,jJ1,jJ2,jJ3];refine' jM 13 rfl rfl (by kernel_rfl) (fun _ _ _ h=>h) rfl Ha (fun w' Hj=> ?_) ?_;rotate_left;(skip;clear Hj;go_simp<;>with_reducible rfl);simp only[Act.put,jJ1,jJ2,jJ3];refine jh 14 rfl (by kernel_rfl) (fun K hK=> ?_);go_simp;go_at_call 12;refine(HK.out _ (kU O8.out Vc.out)).mono ?_;rintro e vd ⟨rfl,hX⟩;have Vd:=G (kU Vc.out hX);clear hX;go_simp;refine hK.out _ _ Vd.out (fun Ha=> ?_);clear hK K;simp only[jJ1,jJ2,jJ3];refine' jM 15 rfl rfl (by kernel_rfl) (fun _ _ _ h=>h) rfl Ha (fun w' Hj=> ?_) ?_;rotate_left;(skip;clear Hj;go_simp<;>with_reducible rfl);simp only[Act.put,jJ1,jJ2,jJ3];refine' jM 16 rfl rfl (by kernel_rfl) (fun _ _ _ h=>h) rfl Ha (fun w' Hj=> ?_) ?_;rotate_left;(skip;clear Hj;go_simp<;>with_reducible rfl);simp only[Act.put,jJ1,jJ2,jJ3];refine wpAnyH_done (by kernel_rfl) ?_ _;clear Ha;go_wp2_with fail;go_ret;exact⟨rfl,kU O8.out Vd.out⟩
   ·have EB:=G (fun A c=>Zr wr A acc.length c (by omega));have b60:(60000:Int)<(acc.length:Int):=(by omega);clear C7 Q9 HQ RC MZ C5 HF D6 HS;go_wp2_with (first|(go_at_call 26;refine(EB.out _ _).mono ?_;rintro e w7 ⟨he,hX⟩;have O7:=G (kU O6.out hX);clear hX;unfold jJ sl0 iv Tre.none_ at he;simp only[jN2,List.toArray]at he;subst he)|(go_at_call 12;refine(HK.out _ (O7.out.alloc _)).mono ?_;rintro e w8 ⟨rfl,hX⟩;have O8:=G (kU (O7.out.alloc _) hX);clear hX)|fail);go_ret;exact⟨rfl,O8.out⟩
theorem Qt(w:World)(hg:Sg w)(hT:TabW w)(h8:8<=w.heap.size)(B:OA)(d:Nat)(l:LB)(hr:Rd w 1 B l.length (l.map bv))(D:OA)(d2:Nat)(fl:LB)(hf:Rd w 1 D fl.length (fl.map bv))(P8:fl.length<=100000000):
  Calls prog 7 #[.slice B l.length d,.slice D fl.length d2] w fun e w' =>e=.returned (.bool true)/\Old w w' :=by
 by_cases h0:jDD l=0
 ·have hl:l.length<=60000:=by
   rcases Nat.lt_or_ge 60000 l.length with h|h
   ·have:=(qc (l:=l) (by omega)).1;omega
   ·exact h
  obtain⟨t,ht⟩:=jIf hl h0;exact jAJ w hg hT h8 B d l hr D d2 fl hf P8 t ht
 ·exact jCu w hg h8 B d l hr _ h0
def jJw:List LB:=[[116,121,112,101],[97,116,116,114,105,98,117,116,101],[115,116,97,103,101],[109,105,108,101,115,116,111,110,101],[115,116,101,112],[105,110],[111,112,101,110,115],[99,108,111,115,101,115],[114,101,97,99,104,101,100],[119,104,101,110],[114,101,111,112,101,110],[105,110,116],[98,111,111,108],[116,101,120,116],[116,105,109,101],[115,101,116],[111,112,116,105,111,110,97,108],[105,102],[116,104,101,110],[101,108,115,101],[111,114],[97,110,100],[110,111,116],[116,114,117,101],[102,97,108,115,101],[110,111,116,104,105,110,103],[104,97,115],[115,105,122,101],[106,111,105,110],[111,112,101,110],[99,108,111,99,107],[115,116,101,112,115],[109,105,110],[109,97,120],[100,101,102,97,117,108,116]]
def SgR(w:World):Prop:=w.rangeAt 1 0 (wvs jJw)
theorem SgR.kp{X:Nat->Prop}{w w' :World}(h:SgR w)(hk:Kp X w w')(h1:¬X 1):SgR w' :=VR h hk h1
theorem SgR.old{w w' :World}(h:SgR w)(hk:Old w w'):SgR w' :=h.kp hk (fun f=>f)
open Go.RowKit Go.ChangeShapes
theorem Jq{P:Program}{w:World}:∀{l:List (String×DataW Unit)} {ps:List MemPlace},DataW.LaidVars P w l ps->∀n d,(n,d)∈l->∃g t cs fuel p,P.globalNamed n=some g/\(P.globals[g]?).map (·.type)=some t/\w.var? P n=some cs/\DataW.trod (fun _=>()) P w 0 (fun _=>true) false fuel t cs.toList=some (d,p)
 |[],_,_,_,_,hm=>by cases hm
 |(n',d')::r,ps,h,n,d,hm=>by
  obtain⟨g,t,cs,fuel,p,q,h1,h2,h3,h4,h5,_⟩:=h;rcases jN4 hm with e|e
  ·cases e;exact⟨g,t,cs,fuel,p,h1,h2,h3,h4⟩
  ·exact Jq h5 n d e
theorem Zh{H:Type}{enc:TypeId×Value->H}{P:Program}{w:World}{base:Nat}{sp:Nat->Bool}{held:Bool}{fuel:Nat}{t e:TypeId}{n:Nat}{cs:List Value}{ts:List LB}{p:List MemPlace}
  (ht:P.underlying t=some (.array n e)) (he:P.underlying e=some .string) (DT:P.cellsOf e=1) (DS:P.cellsOf t=n)
  (h:DataW.trod enc P w base sp held fuel t cs=some (.agg (ts.map fun s=>.lit (.string s)),p)):cs=wvs ts:=by
 cases fuel with
 |zero=>simp[DataW.trod]at h
 |succ fuel=>
  simp only[DataW.trod,ht,DT,DS,Nat.mul_one]at h;split at h
  ·rename_i hl;obtain⟨xs,hm,hx⟩:=jM4 h;have V5:xs.map (·.1)=ts.map fun s=>(DataW.lit (.string s):DataW H):=by
    have:=congrArg Prod.fst hx;simpa using this
   have Td:xs.length=n:=(by simpa using Lib.mapM_length hm);have PF:ts.length=n:=by
    have:=congrArg List.length V5;simp at this;omega
   unfold wvs;apply List.ext_getElem?;intro i;by_cases hi:i<n
   ·obtain⟨b,hb,hf⟩:=Lib.mapM_at hm i i (by simp[hi]);obtain⟨s,hc,rfl,_⟩:=DataW.trod_string he hf;have h1:cs[i]? =some (.string s):=by
     have:=congrArg (·[0]?) hc;simpa [List.getElem?_take,List.getElem?_drop]using this
    have h2:(xs.map (·.1))[i]? =some (DataW.lit (.string s.data.toList):DataW H):=(by simp[hb]);rw[V5]at h2;simp only[jM1,Option.map_eq_some_iff,DataW.lit.injEq,Lit.string.injEq]at h2;obtain⟨s',Cd,e'⟩:=h2;rw[h1,jM1,Cd,e'];rfl
   ·rw[List.getElem?_eq_none (by omega),List.getElem?_eq_none (by simp;omega)]
  ·cases h
theorem jKL:prog.globalNamed "docket/text.reserved" =some 0:=by kernel_rfl
theorem jKK:prog.globalNamed "docket/text.signs" =some 2:=by kernel_rfl
theorem jKM:prog.globalNamed "math/bits.deBruijn64tab" =some 7:=by kernel_rfl
theorem jJm:(prog.globals[0]?).map (·.type)=some 205:=by kernel_rfl
theorem jJl:(prog.globals[2]?).map (·.type)=some 252:=by kernel_rfl
theorem jHR:prog.cellsOf 205=35:=by kernel_rfl
theorem jHT:prog.cellsOf 252=19:=by kernel_rfl
theorem jEu:prog.cellsOf 9=1:=by kernel_rfl
theorem Zj{W:World}{l:List (String×DataW Unit)}{n:String}{g m:Nat}{T:TypeId}{ts:List LB}(h:laidMet prog l W)(hm:(n,.agg (ts.map fun s=>.lit (.string s)))∈l)(hg:prog.globalNamed n=some g)(hT:(prog.globals[g]?).map (·.type)=some T)(hu:prog.underlying T=some (.array m 9))(hc:prog.cellsOf T=m):W.rangeAt g 0 (wvs ts):=by
 obtain⟨ps,hv,_⟩:=h;obtain⟨g',t',cs,fuel,p,h1,h2,h3,h4⟩:=Jq hv n _ hm;obtain rfl:=jL5 (hg.symm.trans h1);obtain rfl:=jL5 (hT.symm.trans h2);have e:=Zh hu underlying9 jEu hc h4;intro j v hj;rw[Nat.zero_add,World.var?_cell hg h3 j,<-Array.getElem?_toList,e];exact hj
theorem jFq{W:World}{l:List (String×DataW Unit)}(h:laidMet prog l W)(h1:("docket/text.reserved",Rows.laid_docket_text_reserved)∈l)(h2:("docket/text.signs",Rows.laid_docket_text_signs)∈l)(h3:("math/bits.deBruijn64tab",Rows.laid_math_bits_deBruijn64tab)∈l):Sg W/\8<=W.heap.size:=by
 refine⟨⟨Zj (ts:=resL) h h1 jKL jJm underlying205 jHR,Zj (ts:=signL) h h2 jKK jJl underlying252 jHT⟩,?_⟩;obtain⟨ps,hv,_⟩:=h;obtain⟨g',t',cs,fuel,p,e1,e2,e3,e4⟩:=Jq hv _ _ h3;have hlt:7<W.heap.size:=by
  unfold World.var? at e3;rw[jKM]at e3;rcases Nat.lt_or_ge 7 W.heap.size with hl|hl
  ·exact hl
  ·simp[Array.getElem?_eq_none hl]at e3
 exact hlt
noncomputable def low:Nat:=(World.holding prog default ⟨#[],#[],[]⟩).heap.size
def pow10:List Int:=[1,10,100,1000,10000,100000,1000000,10000000,100000000,1000000000,10000000000,100000000000,1000000000000,10000000000000,100000000000000,1000000000000000,10000000000000000,100000000000000000,1000000000000000000,10000000000000000000]
def bru32:List Int:=[0,1,28,2,29,14,24,3,30,22,20,15,25,17,4,8,31,27,13,23,21,19,16,7,26,12,18,6,11,5,10,9]
def bru64:List Int:=[0,1,56,2,57,49,28,3,61,58,42,50,38,29,17,4,62,47,59,36,45,43,51,22,53,39,33,30,24,18,12,5,63,55,48,27,60,41,37,16,46,35,44,21,52,32,23,11,54,26,40,15,34,20,31,10,25,14,19,9,13,8,7,6]
noncomputable def laidWorld (os:Os):World:=
 let w0:=World.holding prog os ⟨#[.cells #[.string ⟨#[105,110,118,97,108,105,100,32,115,121,110,116,97,120]⟩] 320,.cells #[.string ⟨#[118,97,108,117,101,32,111,117,116,32,111,102,32,114,97,110,103,101]⟩] 320],#[],[]⟩
 let put (h:Array Obj) (g:Nat) (cs:Array Value):Array Obj:=h.modify g fun
  | .cells _ t frozen=>.cells cs t frozen
  |o=>o
 let h0:=put w0.heap 0 (wvs resL).toArray
 let h1:=put h0 1 (wvs jJw).toArray
 let h2:=put h1 2 (wvs signL).toArray
 let h3:=put h2 3 (pow10.map fun z=>Value.int .u64 z).toArray
 let h4:=put h3 4 #[.iface 318 (.pointer (some ⟨low,0,none⟩))]
 let h5:=put h4 5 #[.iface 318 (.pointer (some ⟨low+1,0,none⟩))]
 let h6:=put h5 6 (bru32.map fun z=>Value.int .u8 z).toArray
 let h7:=put h6 7 (bru64.map fun z=>Value.int .u8 z).toArray
 {w0 with heap:=h7}
theorem gPowT:(prog.globals[3]?).map (·.type)=some 297:=by kernel_rfl
theorem jHS:prog.cellsOf 297=20:=by kernel_rfl
theorem jEt:prog.cellsOf 288=1:=by kernel_rfl
theorem jDT:(Rows.laid_internal_strconv_uint64pow10:DataW Unit)=Lib.tabData .u64 Lib.pow10Tab:=by rfl
theorem jDS{W:World}{l:List (String×DataW Unit)}(h:laidMet prog l W)(hm:("internal/strconv.uint64pow10",Rows.laid_internal_strconv_uint64pow10)∈l):TabW W:=by
 rw[jDT]at hm;obtain⟨ps,hv,_⟩:=h;obtain⟨g',t',cs,fuel,p,h1,h2,h3,h4⟩:=Jq hv _ _ hm;obtain rfl:=jL5 (gPow.symm.trans h1);obtain rfl:=jL5 (gPowT.symm.trans h2);have e:=Lib.cells_of_tab underlying297 underlying288 jEt jHS h4;unfold TabW Lib.TabIs;rw[h3]
 congr 1
 rw[<-e]
section
variable{H:Type}
theorem jEv(d:DataW H):1<=Rows.uptoBulk d:=by
 cases d with
 |lit l=>cases l<;>simp[Rows.uptoBulk]
 |nil=>simp[Rows.uptoBulk]
 |ptr d=>simp[Rows.uptoBulk]
 |slice elems spare=>simp[Rows.uptoBulk]
 |agg parts=>simp[Rows.uptoBulk]
 |iface t d=>simp[Rows.uptoBulk]
 |map entries=>simp[Rows.uptoBulk]
 |held h=>simp[Rows.uptoBulk]
theorem jEw(l:List (DataW H)):l.length<=Rows.uptoBulkAll l:=by
 induction l with
 |nil=>simp[Rows.uptoBulkAll]
 |cons x r ih=>have:=jEv x;simp only[Rows.uptoBulkAll,jK6];omega
variable{enc:TypeId×Value->H}{w:World}{fuel:Nat}{cs:List Value}{x:DataW H×List MemPlace}
abbrev Tr(enc:TypeId×Value->H)(w:World)(fuel:Nat)(t:TypeId)(cs:List Value)(x:DataW H×List MemPlace):Prop:=DataW.trod enc prog w 0 (fun _=>true) true fuel t cs=some x
theorem jHU{n:Int}(h:(Lit.int .u8 n).wf=true):((UInt8.ofNat n.toNat).toNat:Int)=n:=by
 have h1:0<=n/\n<=255:=(by simpa [Lit.wf,IntKind.min,IntKind.max,IntKind.signed,IntKind.bits]using h);rw[UInt8.toNat_ofNat'];omega
theorem Zs(h:Tr enc w fuel 33 cs x):∃A c,∃l:LB,cs=[.slice A l.length c]/\Rd w 1 A l.length (l.map bv)/\l.length<=c/\l.length+1<=Rows.uptoBulk x.1:=by
 rcases open_ints underlying33 underlying5 (by kernel_rfl) h with⟨rfl,rfl⟩|⟨a,len,cap,zs,rfl,_,Aj,_,PF,rfl,FH,Dh⟩
 ·exact⟨none,0,[],rfl,Rd.none_,jL3 _,by simp[Rows.uptoBulk]⟩
 ·simp only[if_true]at PF;have hl:((zs.take len).map fun z=>UInt8.ofNat z.toNat).length=len:=by simp;omega
  refine⟨some a,cap,(zs.take len).map fun z=>UInt8.ofNat z.toNat,by rw[hl],?_,by omega,?_⟩
  ·rw[hl];refine Rd.of_add (by rw[jK7,hl,Nat.mul_one]) (by decide) (fun j u hu=> ?_);have hj:j<len:=by
    have:=(jM5 hu).1;rw[jK7,hl]at this;exact this
   have L5:j<zs.length:=(by omega);rw[FH j L5];rw[jM1,jM1,List.getElem?_take,jJ6 hj,jJ9 L5]at hu;simp only[Option.map_some,Option.some.injEq]at hu;rw[<-hu];simp only[bv,jHU (Dh _ (jL6 L5)),List.getD,jJ9 L5,Option.getD_some]
  ·have:=jEw (lits (H:=H) .u8 (zs.take len));rw[hl];simp only[Rows.uptoBulk];simp only[lits,jK7,jK9]at this;simp only[lits];omega
end
open Go.RowKit Go.ChangeShapes Go.WideShapes
theorem Old.kept{W W' :World}(h:Old W W')(may:MemPlace->Prop):W.keptBut W' may:=by
 refine World.keptBut_mono (may:=fun _=>False) (fun _ f=>f.elim) (World.keptBut_none_iff.2 ⟨h.os,h.output,fun i hi=> ?_⟩);exact h.block i hi (fun f=>f)
section
variable{H:Type}{enc:TypeId×Value->H}{P:Program}
theorem QN{f:Func}{s:ChangeSpec}{apart fresh Lb again:Bool}{W W' :World}{args:Array Value}{v:Value}{ds gs:List (DataW H)}{before pa pv:List MemPlace}
  (hW:DataW.Whole enc P f.params.toList s.vars apart W args.toList ds gs before)
  (Mf:∀(b:Nat) (sp:Nat->Bool) (hd:Bool),DataW.TrodAll enc P W' b sp hd f.resultTypes.toList (v.resultList f.resultTypes.size) (s.fn H (ds++gs)).results [])
  (Mw:∀sp:Nat->Bool,(∀p∈before,sp p.block=true)->DataW.TrodAll enc P W' 0 sp true f.params.toList args.toList (s.fn H (ds++gs)).args pa)
  (Lq:∀sp:Nat->Bool,(∀p∈before,sp p.block=true)->DataW.TrodVars enc P W' sp s.vars (s.fn H (ds++gs)).vars pv)
  (Wj:before=pa++pv) (ho:Old W W')
  (Gk:∀(j:Nat) (t:TypeId) (r:Value),f.resultTypes[j]? =some t->(v.resultList f.resultTypes.size)[j]? =some r->Value.okWide P W' .any 0 t r):
  s.post enc P f apart fresh Lb again W args v W' :=by
 have Ht:∀p∈before,(fun b=>decide (b<W.heap.size)) p.block=true:=fun p hp=>(by simpa using hW.lt p hp);refine⟨ds,gs,before,[],pa,pv,hW,Mf _ _ _,Mw _ Ht,Lq _ Ht,World.keptBut_mono (fun p hp=>⟨hp,?_⟩) (Old.kept ho (· ∈before)),fun _=> ?_⟩
 ·rw[Wj,List.mem_append]at hp;exact Or.inr hp
 ·have hlt:=hW.lt;obtain⟨_,_,_,_,_,hz,hn⟩:=hW;refine⟨Gk,_,_,([]++pa)++pv,⟨[]++pa,pv,trodAll_append (Mw _ (fun _ _=>rfl)) (Mf _ _ _),Lq _ (fun _ _=>rfl),rfl,?_,?_⟩,?_⟩
  ·intro b off hp;have hm:MemPlace.cell b off∈before:=by rw[Wj];simpa using hp
   rw[World.frozen?_of_block (ho.block b (hlt _ hm) (fun f=>f))];exact hz b off hm
  ·intro ha;have:=hn ha;rw[Wj]at this;simpa using this
  ·intro p hp _;rw[Wj];simpa using hp
end
end Go.Proofs.YtmmjcbbogokmfaaGreatDoor

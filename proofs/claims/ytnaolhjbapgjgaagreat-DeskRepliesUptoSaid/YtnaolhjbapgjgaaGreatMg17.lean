import Derived.Test.YtnaolhjbapgjgaaGreatMg16
set_option maxRecDepth 100000
set_option maxHeartbeats 6400000
namespace Go.Proofs.YtnaolhjbapgjgaaGreat
open Go.Proofs.Tryz
open Go.RowKit
def jE9(w:World)(g C:Nat)(bs:LB)(t:BA)(n:Int)(d:LB)(c:Nat)(s0:Rs)(k:Nat)(wr:World):Prop:=
 ∃(vs:List MBind) (vA:OA) (vC:Nat) (s:Rs),CasSt w g C bs ⟨⟨#[]⟩,t,n,d,vs,vA,vC,zeroMT,zeroMT,zeroMT⟩ s wr/\vs.length=k/\k<=c/\kK bs c s0 []=kK bs (c-k) s (vs.map MBind.data)
theorem MCase.one(m:MCase):m.cells.toArray.all (·.oneCell')=true:=by
 refine all_oneCell_toArray (fun v hv=> ?_);simp only[MCase.cells,List.mem_append,List.mem_cons,List.not_mem_nil,or_false]at hv;rcases hv with(rfl|rfl|rfl)|hv|rfl|rfl|rfl|rfl
 ·rfl
 ·rfl
 ·rfl
 ·exact jf _ v hv
 ·rfl
 ·rfl
 ·rfl
 ·rfl
theorem jFJ{ops:Array Oper}{rest:List Oper}{o:Oper}{a:Act}{w:World}{Q:Exit->Act->World->Prop}(hg:o.guard=none)(x:Operand)(ho:o.op=.buildSlice 41 1 #[(0,x)])(p:MBind)
  (hx:a.eval x=.agg p.cells.toArray) (h:wpList prog ops Q rest (a.put o.dst (.slice (some ⟨w.heap.size,0,none⟩) 1 1)) (w.alloc (.cells p.cells.toArray 108))):wpList prog ops Q (o::rest) a w:=by
 refine wpList_plain hg fun K hK=> ?_;have hr:(Instr.buildSlice 41 1 #[(0,.agg p.cells.toArray)]).run prog w=.ok (.slice (some ⟨w.heap.size,0,none⟩) 1 1) (w.alloc (.cells p.cells.toArray 108)):=by
  obtain⟨i,hi,hz,hs,hb⟩:=info_parts Zn;refine run_buildSlice w 41 108 1 _ _ i _ underlying41 hi hz (by rw[hs];simp) (by rw[hs];omega) ?_;rw[hs];have:=Great.fill_whole (s:=5) (by decide) [.agg p.cells.toArray] ((Array.range (1*5)).map ((Value.agg #[.string ⟨#[]⟩,.int .i64 0,.int .i64 0,.string ⟨#[]⟩,.slice none 0 0]).cells[· % (Value.agg #[.string ⟨#[]⟩,.int .i64 0,.int .i64 0,.string ⟨#[]⟩,.slice none 0 0]).cells.size]!)) (fun v hv=>by rw[List.mem_singleton.1 hv];rfl) (by simp);simpa [Value.cells]using this
 unfold Oper.wp execOp;simp only[ho,Sem.run_bind,List.map_toArray,List.map_cons,List.map_nil,hx,hr,Result.andThen_ok];exact hK _ _ h
theorem jFN(w:World)(g:Nat)(bs:LB)(s:Rs)(h:Rr w g bs s):
  Calls prog 89 #[.pointer (some ⟨g,0,none⟩)] w (jJN w g bs (Jy bs s)):=by
 have HT:=G (show Jy bs s=qB bs (js bs s).1 (yp bs (js bs s).2).1 (kq bs (yp bs (js bs s).2).2)from rfl);have NV:=h.lt;have GP:=h.fits.2;have HS:=G (show CasSt w g (w.heap.size+1) bs zeroMC s ((w.alloc (.cells #[.string ⟨#[]⟩,.string ⟨#[]⟩,.int .i64 0,.int .u8 0,.int .u8 0,.int .u8 0,.int .u8 0,.int .u8 0,.int .u8 0,.int .u8 0,.int .u8 0,.int .u8 0,.int .u8 0,.int .u8 0,.int .u8 0,.int .u8 0,.int .u8 0,.int .u8 0,.int .u8 0,.int .u8 0,.int .u8 0,.int .u8 0,.int .u8 0,.int .u8 0,.int .u8 0,.int .u8 0,.int .u8 0,.int .u8 0,.int .u8 0,.int .u8 0,.int .u8 0,.int .u8 0,.int .u8 0,.int .u8 0,.int .u8 0,.slice none 0 0,.slice none 0 0,.slice none 0 0,.slice none 0 0] 43)).alloc (.cells #[.string ⟨#[]⟩,.string ⟨#[]⟩,.int .i64 0,.int .u8 0,.int .u8 0,.int .u8 0,.int .u8 0,.int .u8 0,.int .u8 0,.int .u8 0,.int .u8 0,.int .u8 0,.int .u8 0,.int .u8 0,.int .u8 0,.int .u8 0,.int .u8 0,.int .u8 0,.int .u8 0,.int .u8 0,.int .u8 0,.int .u8 0,.int .u8 0,.int .u8 0,.int .u8 0,.int .u8 0,.int .u8 0,.int .u8 0,.int .u8 0,.int .u8 0,.int .u8 0,.int .u8 0,.int .u8 0,.int .u8 0,.int .u8 0,.slice none 0 0,.slice none 0 0,.slice none 0 0,.slice none 0 0] 43))from by
  have MT:=jQ2 w 43 zeroCasL.toArray;have GC:=jQ2 (w.alloc (.cells zeroCasL.toArray 43)) 43 zeroCasL.toArray;rw[show(w.alloc (.cells zeroCasL.toArray 43)).heap.size=w.heap.size+1 by simp]at GC;exact⟨⟨MT.alloc _,h.old (((jQ0 NoX w).alloc _).alloc _),((jQ0 _ w).alloc _).alloc _,h.lt⟩,by rw[QD];exact GC,World.ownsRow_nil _ _ _ _,jy,fun v hv=>(by cases hv),Nat.lt_succ_self _⟩)
 generalize Jy bs s=TV at*;clear h;go_enter func89,ntmps89;go_wp2_with fail;generalize (w.alloc _).alloc _=W at*;have HW:=G (fun W' (hR:Rr W' g bs s)=>ZU W' g bs s hR);have U6:=G (Kb bs s);refine(HW.out _ HS.out.st.rr).mono ?_;clear HW;generalize js bs s=t1 at*;obtain⟨ty,s1⟩:=t1;simp only at HT U6⊢;rintro e w1 ⟨rfl,Fd,Fc⟩;replace HS:=G (HS.out.step Fd Fc);clear Fd Fc;have HW:=G (fun W' (hR:Rr W' g bs s1)=>qp W' g bs s1 hR);go_wp2_with fail;refine(HW.out _ HS.out.st.rr).mono ?_;clear HW;generalize yp bs s1=t2 at*;obtain⟨n,s2⟩:=t2;simp only at HT⊢;rintro e w2 ⟨rfl,Fd,Fc⟩;replace HS:=G (HS.out.step Fd Fc);clear Fd Fc;have HW:=G (fun W' (hR:Rr W' g bs s2)=>yR W' g bs s2 hR);have HL:=G (kU bs s2);unfold qB at HT;go_wp2_with fail;refine(HW.out _ HS.out.st.rr).mono ?_;clear HW;generalize kq bs s2=t3 at*;obtain⟨d,s3⟩:=t3;simp only at HT HL⊢;rintro e w3 ⟨rfl,Fd,Fc⟩;replace HS:=G (HS.out.step Fd Fc);clear Fd Fc;have u1:=HS.out.blk.at_ 1 (v:=.string ⟨#[]⟩) rfl;have z1:=HS.out.blk.frozen 1;have u2:=HS.out.blk.at_ 2 (v:=.int .i64 0) rfl;have z2:=HS.out.blk.frozen 2;have Cf:=G ((HS.out.type_ ty).count n);have hU:=G (Cf.out.blk.there 3 (jA d).toArray.size (by rw[jJ8,jJ8,MCase.len Cf.out.chain,jB,HL.out];decide));have Fh:=G (show(prog.info? 40).map (·.size)=some (jA d).length by rw[jB,HL.out];exact jO);have To:=G (Cf.out.dig d HL.out);have HW:=G (fun W' (hR:Rr W' g bs s3)=>vm W' g bs s3 hR);have HN:=G (ku bs 1 s3);go_wp2_with (first|((with_reducible refine jF 40 (.tmp 15) (.tmp 12) ?_);refine jQ1 rfl 40 (.tmp 15) (.tmp 12) rfl (w.heap.size+1) 3 (jA d).toArray rfl rfl hU.out Fh.out (kV _) ?_)|fail);clear HS Cf u1 z1 u2 z2 hU Fh;have HS:=G (show CasSt w g (w.heap.size+1) bs ⟨⟨#[]⟩,ty,n,d,[],none,0,zeroMT,zeroMT,zeroMT⟩ s3 _ from To.out);clear To;generalize ((w3.setCell _ _).setCell _ _).setCells _ _ _=W3 at*;refine(HW.out _ HS.out.st.rr).mono ?_;clear HW;generalize tkN bs 1 s3=t4 at*;obtain⟨c,s4⟩:=t4;simp only at HT HN⊢;rintro e w4 ⟨rfl,Fd,Fc⟩;replace HS:=G (HS.out.step Fd Fc);have Sb:c<256:=by have:=HN.out;omega
 clear Fd Fc HN;generalize hCC:w.heap.size+1=C at*;have HC:=G hCC;clear hCC;obtain⟨i0,hi,Fz,Ft,FC⟩:=info_parts Zn;go_wp2_with fail;go_loopw [18] (fun i wr=>∃k:Nat,i=.int .u8 k/\jE9 w g C bs ty n d c s4 k wr) (fun i _=>c-(intOf i).toNat)
 case atStart=>exact⟨0,rfl,[],none,0,s4,HS.out,rfl,Nat.zero_le _,rfl⟩
 case round=>
  obtain⟨k,rfl,vs,vA,vC,s,hS,Fc,Bo,FM⟩:=hrel;clear HS;have HS:=G hS;have HK:=G Fc;have Fs:=G FM;clear hS Fc FM;by_cases hM:k<c
  ·obtain⟨q,hm⟩:∃q,c-k=q+1:=⟨c-k-1,by omega⟩;rw[hm,kK]at Fs;have Hm:=G hm;clear hm;have TQ:IntKind.u8.wrap ((k:Int)+1)=(k:Int)+1:=IntWalk.u8_in _ (by omega);have HW:=G (fun W' (hR:Rr W' g bs s)=>ZU W' g bs s hR);have Mn:=G (Kb bs s);go_wp2_with fail;refine(HW.out _ HS.out.st.rr).mono ?_;clear HW;generalize js bs s=t5 at*;obtain⟨nm,s5⟩:=t5;simp only at Fs Mn⊢;rintro e w5 ⟨rfl,Fd,Fc⟩;replace HS:=G (HS.out.step Fd Fc);clear Fd Fc;have HW:=G (fun W' (hR:Rr W' g bs s5)=>jDA W' g bs s5 hR);have U8:=G (Xa bs s5);go_wp2_with fail;refine(HW.out _ HS.out.st.rr).mono ?_;clear HW;generalize jc bs s5=t6 at*;obtain⟨⟨vk,vn,vt,vl⟩,s6⟩:=t6;simp only at Fs U8;rintro e w6 ⟨A6,c6,OF,NQ,WA,Nc,Wi,NG⟩;simp only[vV]at OF NQ WA Nc Wi;subst OF;have Hv:=G (show MBind.Ok w6 (JQ C vA) ⟨nm,⟨⟨vk,vn,vt,vl⟩,A6,c6⟩⟩from⟨⟨NQ,fun hn ad e hx=>WA hn ad e (by
    rcases hx with hx|hx
    ·have:=HS.out.blk.lt;omega
    ·exact(jY HS.out.own hx).2),Nc,by have:=U8.out;simp only;omega⟩,by have:=Mn.out;simp only;omega⟩)
   replace HS:=G (HS.out.step Wi NG);clear NQ WA Nc Wi NG;have NT:=(jQ0 NoX w6).alloc (.cells #[.int .i64 vk,.int .i64 vn,.string vt,.slice A6 vl.length c6] 29);have Wd:=G NT;replace Hv:=G (Hv.out.turn (X' :=JQ C vA) NT (fun _ _ f=>f.elim) (fun _ _ e=>e));replace HS:=G (HS.out.old NT);clear NT;have CG:=G (jQ2 w6 29 #[.int .i64 vk,.int .i64 vn,.string vt,.slice A6 vl.length c6]);go_upto_region 7 with(fail);generalize w6.alloc _=W6 at*;generalize w6.heap.size=vb at*;have v0:=CG.out.at_ 0 (v:=.int .i64 vk) rfl;have v1:=CG.out.at_ 1 (v:=.int .i64 vn) rfl;have v2:=CG.out.at_ 2 (v:=.string vt) rfl;have v3:=CG.out.at_ 3 (v:=.slice A6 vl.length c6) rfl;have Im:=G (show W6.ownsRow (C+1) 108 5 (.slice vA k vC) k (vs.flatMap MBind.cells)from by have h:=HS.out.own;simp only[HK.out]at h;exact h);have FU:=G (show k+1<=maxLen by unfold maxLen;omega);have FV:=G (show(k+1)*72<=140737488355328 by omega);have Gg:=G (show C+1<=W6.heap.size from HS.out.blk.lt);have WF:=G (show(MCase.cells ⟨⟨#[]⟩,ty,n,d,vs,vA,vC,zeroMT,zeroMT,zeroMT⟩)[35]? =some (.slice vA k vC)by rw[<-HK.out];exact jh [.string ⟨#[]⟩,.string ty,.int .i64 n] _ d HS.out.chain 35 0 rfl);have c35:=HS.out.blk.at_ 35 (by rw[jJ7];exact WF.out);have z35:=HS.out.blk.frozen 35;have NA:=G (HS.out.blk.alloc (.cells (MBind.cells ⟨nm,⟨⟨vk,vn,vt,vl⟩,A6,c6⟩⟩).toArray 108));have V5:=G (NA.out.at_ 35 (by rw[jJ7];exact WF.out));have Ff:some C≠(Value.slice vA k vC).ownBlock:=by
    rw[jE];intro e;have:=(jY Im.out e.symm).1;omega
   go_wp2_with (first|refine jFJ rfl (.tmp 31) rfl ⟨nm,⟨⟨vk,vn,vt,vl⟩,A6,c6⟩⟩ rfl ?_ |(at_builtin;refine jJ _ rfl (.tmp 28) (.tmp 32) 41 rfl (C+1) 108 i0 _ 5 72 underlying41 hi Fz Ft FC rfl (by decide) (.slice vA k vC) k _ rfl (Im.out.alloc _) _ 1 1 (MBind.cells ⟨nm,⟨⟨vk,vn,vt,vl⟩,A6,c6⟩⟩) rfl (Rd.row_new _ _ 5 1 _ rfl) (MBind.one _) FU.out FV.out (jL4 Gg.out (by simp)) ?_;intro A7 c7 w8 Hi hgrow Fo;have M8:=hgrow.cell (a:=⟨C,35,none⟩) V5.out Ff;have Wo:w8.frozen? ⟨C,35,none⟩=false:=(World.frozen?_of_block (hgrow.block C NA.out.lt Ff)).trans (NA.out.frozen 35))|fail);rw[jE]at hgrow Fo;have Bi:=(jQ0 NoX W6).alloc (.cells (MBind.cells ⟨nm,⟨⟨vk,vn,vt,vl⟩,A6,c6⟩⟩).toArray 108);have No:=G ((HS.out.old Bi).grow (v:=⟨nm,⟨⟨vk,vn,vt,vl⟩,A6,c6⟩⟩) hgrow Fo (by simp only[HK.out,List.flatMap_append,List.flatMap_singleton];exact Hi) (Hv.out.turn Bi (fun _ _ f=>f.elim) (fun _ _ e=>e)));simp only[HK.out]at No;have Fl:=G (fun(W' :World) (h:W' =w8.setCell ⟨C,35,none⟩ (.slice A7 (k+1) c7))=>show jE9 w g C bs ty n d c s4 (k+1) W' from
    ⟨vs++[⟨nm,⟨⟨vk,vn,vt,vl⟩,A6,c6⟩⟩],A7,c7,s6,h▸No.out,by rw[jJ4,HK.out];rfl,by omega,by rw[Fs.out,show c-(k+1)=q by have:=Hm.out;omega,List.map_append];rfl⟩)
   clear Hi hgrow Fo FU FV Im Bi Gg c35 z35 Ff M8 Wo HS NA V5 No WF Fs v0 v1 v2 v3;go_roundw
   case rel=>exact⟨k+1,by go_num,Fl.out _ rfl⟩
   case measure=>simp[intOf];omega
  ·obtain rfl:k=c:=(by omega);have NO:=G (show TV=qC bs ty n d (vs.map MBind.data,s)by rw[HT.out,Fs.out,Nat.sub_self];rfl);unfold qC at NO;simp only at NO;clear HT Fs;have HW:=G (fun W' (hR:Rr W' g bs s)=>Yy W' g bs s hR);go_wp2_with fail;refine(HW.out _ HS.out.st.rr).mono ?_;clear HW;generalize jr bs s=t5 at*;obtain⟨l5,s5⟩:=t5;simp only at NO;rintro e w5 ⟨⟨k5,A5,c5⟩,Oo,rfl,D4,Fd,Fc⟩;simp only at Oo Fd;subst Oo;simp only[MTexts.sl];have hX:∀b,b<w5.heap.size->JQ C vA b->b<wr.heap.size:=fun b _ hx=>by
    rcases hx with hx|hx
    ·have:=HS.out.blk.lt;omega
    ·exact(jY HS.out.own hx).2
   have H5:=G (D4.turn (X' :=JQ C vA) (jQ0 NoX w5) (fun _ _ f=>f.elim) hX);replace HS:=G (HS.out.step Fd Fc);clear Fd Fc D4 hX;have HW:=G (fun W' (hR:Rr W' g bs s5)=>Yy W' g bs s5 hR);go_wp2_with fail;refine(HW.out _ HS.out.st.rr).mono ?_;clear HW;generalize jr bs s5=t6 at*;obtain⟨l6,s6⟩:=t6;simp only at NO;rintro e w6 ⟨⟨k6,A6,c6⟩,On,rfl,D0,Fd,Fc⟩;simp only at On Fd;subst On;simp only[MTexts.sl];have hX:∀b,b<w6.heap.size->JQ C vA b->b<w5.heap.size:=fun b _ hx=>by
    rcases hx with hx|hx
    ·have:=HS.out.blk.lt;omega
    ·exact(jY HS.out.own hx).2
   have H6:=G (D0.turn (X' :=JQ C vA) (jQ0 NoX w6) (fun _ _ f=>f.elim) hX);have hgC:g<C:=by have:=HS.out.lt;have:=HS.out.st.lt;omega
   replace H5:=G (H5.out.turn (X' :=JQ C vA) Fc (fun b _ e=>.inl (by have:b=g:=e;omega)) (fun _ _ e=>e));replace HS:=G (HS.out.step Fd Fc);clear Fd Fc D0 hX;have HW:=G (fun W' (hR:Rr W' g bs s6)=>Yy W' g bs s6 hR);go_wp2_with fail;refine(HW.out _ HS.out.st.rr).mono ?_;clear HW;generalize jr bs s6=t7 at*;obtain⟨l7,s7⟩:=t7;simp only at NO;rintro e w7 ⟨⟨k7,A7,c7⟩,Om,rfl,CZ,Fd,Fc⟩;simp only at Om Fd;subst Om;simp only[MTexts.sl];have hX:∀b,b<w7.heap.size->JQ C vA b->b<w6.heap.size:=fun b _ hx=>by
    rcases hx with hx|hx
    ·have:=HS.out.blk.lt;omega
    ·exact(jY HS.out.own hx).2
   have H7:=G (CZ.turn (X' :=JQ C vA) (jQ0 NoX w7) (fun _ _ f=>f.elim) hX);replace H5:=G (H5.out.turn (X' :=JQ C vA) Fc (fun b _ e=>.inl (by have:b=g:=e;omega)) (fun _ _ e=>e));replace H6:=G (H6.out.turn (X' :=JQ C vA) Fc (fun b _ e=>.inl (by have:b=g:=e;omega)) (fun _ _ e=>e));replace HS:=G (HS.out.step Fd Fc);clear Fd Fc CZ hX;have u36:=HS.out.blk.at_ 36 (by rw[jJ7];exact jh [.string ⟨#[]⟩,.string ty,.int .i64 n] _ d HS.out.chain 35 1 rfl);have u37:=HS.out.blk.at_ 37 (by rw[jJ7];exact jh [.string ⟨#[]⟩,.string ty,.int .i64 n] _ d HS.out.chain 35 2 rfl);have u38:=HS.out.blk.at_ 38 (by rw[jJ7];exact jh [.string ⟨#[]⟩,.string ty,.int .i64 n] _ d HS.out.chain 35 3 rfl);have z36:=HS.out.blk.frozen 36;have z37:=HS.out.blk.frozen 37;have z38:=HS.out.blk.frozen 38;have No:=G (HS.out.three ⟨k5,A5,c5⟩ ⟨k6,A6,c6⟩ ⟨k7,A7,c7⟩);have k3:=(((jQ0 (fun b=>b=C) w7).setCell (p:=⟨C,36,none⟩) (fun _=>rfl) (.slice A5 k5.length c5)).setCell (p:=⟨C,37,none⟩) (fun _=>rfl) (.slice A6 k6.length c6)).setCell (p:=⟨C,38,none⟩) (fun _=>rfl) (.slice A7 k7.length c7);replace H5:=G (H5.out.turn (X' :=JQ C vA) k3 (fun b _ e=>.inl (by omega)) (fun _ _ e=>e));replace H6:=G (H6.out.turn (X' :=JQ C vA) k3 (fun b _ e=>.inl (by omega)) (fun _ _ e=>e));replace H7:=G (H7.out.turn (X' :=JQ C vA) k3 (fun b _ e=>.inl (by omega)) (fun _ _ e=>e));have Fn:=G No.out.blk.range;have Fi:=G (MCase.len No.out.chain);have HHt:=G (No.out.st.told (MCase.cells ⟨⟨#[]⟩,ty,n,d,vs,vA,vC,⟨k5,A5,c5⟩,⟨k6,A6,c6⟩,⟨k7,A7,c7⟩⟩) (by rw[Fi.out];rfl));have HZ:=G (fun w' (ht:ToldR 43 (MCase.cells ⟨⟨#[]⟩,ty,n,d,vs,vA,vC,⟨k5,A5,c5⟩,⟨k6,A6,c6⟩,⟨k7,A7,c7⟩⟩) w g bs s7 (((w7.setCell ⟨C,36,none⟩ (.slice A5 k5.length c5)).setCell ⟨C,37,none⟩ (.slice A6 k6.length c6)).setCell ⟨C,38,none⟩ (.slice A7 k7.length c7)) w')=>show jJN w g bs TV (.returned (.agg (MCase.cells ⟨⟨#[]⟩,ty,n,d,vs,vA,vC,⟨k5,A5,c5⟩,⟨k6,A6,c6⟩,⟨k7,A7,c7⟩⟩).toArray)) w' from by
    have hwC:=No.out.lt;have hy:∀b:Nat,b=w.heap.size->JQ C vA b:=fun b e=>.inl (by omega);have hx:∀b:Nat,b<w.heap.size->JQ C vA b:=fun b e=>.inl (by omega);refine⟨⟨⟨#[]⟩,ty,n,d,vs,vA,vC,⟨k5,A5,c5⟩,⟨k6,A6,c6⟩,⟨k7,A7,c7⟩⟩,by rw[NO.out];rfl,rfl,⟨No.out.chain,fun v hv=>(No.out.vals v hv).turn ht.st (fun b _=>hy b) (fun b _=>hx b),?_,?_,H5.out.turn ht.st (fun b _=>hy b) (fun b _=>hx b),H6.out.turn ht.st (fun b _=>hy b) (fun b _=>hx b),H7.out.turn ht.st (fun b _=>hy b) (fun b _=>hx b),?_⟩,?_,ht.kp⟩
    ·exact(Rd.of_own No.out.own).kp ht.st (fun hn ad e hb=>by
      have:=(jY No.out.own (b:=ad.block) (by rw[show vA=some ad from e];rfl)).1;have:ad.block=w.heap.size:=hb;omega)
    ·exact fun hn ad e hb=>by
      have:=(jY No.out.own (b:=ad.block) (by rw[show vA=some ad from e];rfl)).1;omega
    ·refine⟨?_,?_,Kn⟩
     ·show vs.length<=_;have:=HK.out;omega
     ·have:=U6.out;show ty.size<=_;omega
    ·rw[NO.out];exact ht.rr)
   have FD:=G (MCase.one ⟨⟨#[]⟩,ty,n,d,vs,vA,vC,⟨k5,A5,c5⟩,⟨k6,A6,c6⟩,⟨k7,A7,c7⟩⟩);generalize MCase.cells ⟨⟨#[]⟩,ty,n,d,vs,vA,vC,⟨k5,A5,c5⟩,⟨k6,A6,c6⟩,⟨k7,A7,c7⟩⟩=mc at*;have GV:=G (show(prog.info? 43).map (·.size)=some mc.length by rw[Fi.out];kernel_rfl);have hU:=G (No.out.st.th mc (by rw[Fi.out];rfl));clear k3;go_wp2_with (first|((with_reducible refine jT 43 (.tmp 3) ?_);refine jK rfl 43 (.tmp 3) rfl C 0 rfl mc _ Fn.out underlying43 rfl GV.out ?_)|((with_reducible refine jF 43 (.tmp 2) (.tmp 45) ?_);refine jQ1 rfl 43 (.tmp 2) (.tmp 45) rfl w.heap.size 0 mc.toArray rfl rfl hU.out GV.out FD.out ?_)|fail);refine YB (g:=w.heap.size) (cs:=mc.toArray) rfl rfl HHt.out.box underlying43 rfl (by rw[jJ8];exact GV.out) rfl ?_;exact HZ.out _ HHt.out
def JL(wA:OA)(low:Nat)(p:Way):MWay:=⟨p.a,p.b,p.ds,if p.ds.length=0 then wA else wA.map (·.add (low*32)),p.ds.length⟩
def kJ(wA:OA):Nat->List Way->List MWay
 |_,[]=>[]
 |low,p::ps=>JL wA low p::kJ wA (low+p.ds.length) ps
def yq(ps:List Way)(k:Nat):Nat:=(ju (ps.take k)).length
theorem vI(wA:OA):∀(ps:List Way) (low:Nat),(kJ wA low ps).length=ps.length
 |[],_=>rfl
 |_::ps,_=>by simp[kJ,vI wA ps]
theorem Jh(wA:OA):∀(ps:List Way) (low k:Nat) (h:k<ps.length),(kJ wA low ps)[k]'(by rw[vI];exact h)=JL wA (low+yq ps k) ps[k]
 |[],_,_,h=>by simp at h
 |p::ps,low,0,_=>by simp[kJ,yq,ju]
 |p::ps,low,k+1,h=>by
  simp only[kJ,List.getElem_cons_succ];rw[Jh wA ps (low+p.ds.length) k (by simpa using h)]
  congr 1
  simp only[yq,ju,List.take_succ_cons,jL9,jJ4];omega
theorem KO(wA:OA):∀(ps:List Way) (low:Nat),(kJ wA low ps).map MWay.data=ps
 |[],_=>rfl
 |_::ps,_=>by
  simp only[kJ,List.map_cons,KO wA ps];rfl
theorem uD:∀(ps:List Way) (low k:Nat) (h:k<ps.length),(zB low ps)[k]'(by rw[zS];exact h)=low+yq ps k+ps[k].ds.length
 |[],_,_,h=>by simp at h
 |p::ps,low,0,_=>by simp[zB,yq,ju]
 |p::ps,low,k+1,h=>by
  simp only[zB,List.getElem_cons_succ];rw[uD ps (low+p.ds.length) k (by simpa using h)];simp only[yq,ju,List.take_succ_cons,jL9,jJ4];omega
theorem Yx(ps:List Way)(k:Nat)(h:k<ps.length):yq ps (k+1)=yq ps k+ps[k].ds.length:=by
 simp only[yq,ju,jK2 h,List.flatMap_append,List.flatMap_singleton,jJ4]
theorem jAb(ps:List Way)(k:Nat):yq ps k<=(ju ps).length:=by
 have e:ju ps=ju (ps.take k)++ju (ps.drop k):=by
  simp only[ju,<-List.flatMap_append,List.take_append_drop]
 rw[e,jJ4];exact Nat.le_add_right _ _
def jDv(wA:OA)(ps:List Way)(k:Nat):List Value:=((kJ wA 0 ps).take k).flatMap MWay.cells++(ps.drop k).flatMap Vh
theorem jDt(wA:OA)(ps:List Way):jDv wA ps 0=ps.flatMap Vh:=by simp[jDv]
theorem jDu(wA:OA)(ps:List Way):jDv wA ps ps.length=(kJ wA 0 ps).flatMap MWay.cells:=by
 have e:=vI wA ps 0;rw[jDv,List.drop_length,jK4 (by omega)];simp
theorem ua(wA:OA)(ps:List Way)(k:Nat)(h:k<=ps.length):(((kJ wA 0 ps).take k).flatMap MWay.cells).length=k*3:=by
 rw[flat_len MWay.cells 3 _ (fun _ _=>rfl),jK9,vI]
 congr 1
 omega
theorem jF2(wA:OA)(ps:List Way)(k:Nat)(h:k<ps.length):(jDv wA ps k).set (k*3+2) (.slice (JL wA (yq ps k) ps[k]).A ps[k].ds.length ps[k].ds.length)=jDv wA ps (k+1):=by
 have hm:k<(kJ wA 0 ps).length:=by rw[vI];exact h
 have hg:=Jh wA ps 0 k h;rw[Nat.zero_add]at hg;unfold jDv;rw[List.set_append_right _ _ (by rw[ua wA ps k (by omega)];omega),ua wA ps k (by omega),Nat.add_sub_cancel_left,List.drop_eq_getElem_cons h,jK2 hm,hg,List.flatMap_append,List.flatMap_singleton,jK1,jL9];rfl
theorem jF3(wA:OA)(ps:List Way)(k:Nat)(h:k<=ps.length):(jDv wA ps k).length=ps.length*3:=by
 rw[jDv,jJ4,ua wA ps k h,flat_len Vh 3 _ (fun _ _=>rfl),jK8,<-Nat.add_mul]
 congr 1
 omega
structure PieTwo(w:World)(g I:Nat)(bs:LB)(nm:BA)(first:Int)(before:LB)(evs:List Part)(ps:List Way)(wA:OA)(wC:Nat)(nA:OA)(nC:Nat)(eA:OA)(eC:Nat)(pA:OA)(pC:Nat)(s:Rs)(k:Nat)(wr:World):Prop where
 st:DecR 61 zeroPieL w g bs s wr
 blk:Blk wr I 61 (ZO nm first before eA evs.length eC pA ps.length pC).toArray
 own:Own4 (I+1) wr wA (ju ps).length wC ((ju ps).flatMap jA) nA ps.length nC ((zB 0 ps).map fun(n:Nat)=>.int .i64 (n:Int)) eA evs.length eC (evs.map Part.sl) pA ps.length pC (jDv wA ps k)
 ev:∀p∈evs,p.Ok wr (qN I wA nA eA pA)
 lt:g<I
 bef:before.length=32
section
variable{w:World}{g I:Nat}{bs:LB}{nm:BA}{first:Int}{before:LB}{evs:List Part}{ps:List Way}{wA:OA}{wC:Nat}{nA:OA}{nC:Nat}{eA:OA}{eC:Nat}{pA:OA}{pC:Nat}{s:Rs}{k:Nat}{wr w' :World}
theorem PieLoop.two(h:PieLoop w g I bs nm first before evs (ju ps) (zB 0 ps) ps wA wC nA nC eA eC pA pC s wr):PieTwo w g I bs nm first before evs ps wA wC nA nC eA eC pA pC s 0 wr:=
 ⟨h.st,h.blk,by
  have:=h.own;rw[zS]at this;rw[jDt];exact this,h.ev,h.lt,h.bef⟩
theorem PieTwo.old(h:PieTwo w g I bs nm first before evs ps wA wC nA nC eA eC pA pC s k wr)(hk:Old wr w'):PieTwo w g I bs nm first before evs ps wA wC nA nC eA eC pA pC s k w' :=
 ⟨h.st.still hk,h.blk.old hk,h.own.old hk,fun p hp=>(h.ev p hp).turn hk (fun _ _ f=>f.elim) (fun _ _ e=>e),h.lt,h.bef⟩
theorem PieTwo.put{pb:Nat}(h:PieTwo w g I bs nm first before evs ps wA wC nA nC eA eC (some ⟨pb,0,none⟩) pC s k wr)(hk:k<ps.length):
  PieTwo w g I bs nm first before evs ps wA wC nA nC eA eC (some ⟨pb,0,none⟩) pC s (k+1) (wr.setCell ⟨pb,k*3+2,none⟩ (.slice (JL wA (yq ps k) ps[k]).A ps[k].ds.length ps[k].ds.length)):=by
 obtain⟨h1,h2⟩:=h.own.p.stored (k*3+2) (.slice (JL wA (yq ps k) ps[k]).A ps[k].ds.length ps[k].ds.length);rw[jF2 wA ps k hk]at h1;have hg:wr.grownBy (wr.setCell ⟨pb,k*3+2,none⟩ (.slice (JL wA (yq ps k) ps[k]).A ps[k].ds.length ps[k].ds.length)) ((some (⟨pb,0,none⟩:Addr)).map (·.block)):=h2;exact⟨h.st.put (kM hg) (fun b e=>by have:=(jY h.own.p e).1;have:=h.lt;omega),h.blk.kp (kM hg) (fun e=>by have:=(jY h.own.p e).1;omega),h.own.growP hg h1,
  fun p hp=>(h.ev p hp).turn (kM hg) (fun _ _ e=>.inr (.inr (.inr (.inr e)))) (fun _ _ e=>e),h.lt,h.bef⟩
end
theorem jIF{t:TypeId}(ht:prog.underlying t=some (.slice (prog.elem t))){s:Nat}(hs:∀w,(sizeOf (prog.elem t)).run prog w=.ok s w)(A:OA)(len c l h:Nat)(hlh:l<=h)(hh:h<=c)(w:World):
  (Instr.slice t (.slice A len c) (some (.int .i64 (l:Int))) (some (.int .i64 (h:Int))) (some (.int .i64 (h:Int)))).run prog w=.ok (.slice (if h=l then A else A.map (·.add (l*s))) (h-l) (h-l)) w:=by
 rw[run_slice_lhm (ht:=ht) (h0:=by omega) (h1:=by omega) (h2:=by omega) (h3:=by omega),hs];simp[sliced]
theorem jGl:prog.underlying 49=some (.slice (prog.elem 49)):=by kernel_rfl
theorem jFY(w:World):(sizeOf (prog.elem 49)).run prog w=.ok 32 w:=by kernel_rfl
theorem jGJ(wA:OA)(low:Nat)(p:Way):(if low+p.ds.length=low then wA else wA.map (·.add (low*32)))=(JL wA low p).A:=by
 unfold JL;by_cases h:p.ds.length=0
 ·simp[h]
 ·simp only[jJ5 h];rw[jJ5 (by omega)]
theorem jH0{w:World}{base:Nat}{wA:OA}{wC:Nat}{ps:List Way}(h:w.ownsRow base 40 32 (.slice wA (ju ps).length wC) (ju ps).length ((ju ps).flatMap jA))(hd:∀p∈ps,Dgs p.ds)(k:Nat)(hk:k<ps.length):
  Rd w 32 (JL wA (yq ps k) ps[k]).A ps[k].ds.length (ps[k].ds.flatMap jA)/\Av (fun b=>b<base) ps[k].ds.length (JL wA (yq ps k) ps[k]).A:=by
 have Ad:=hd ps[k] (jL6 hk);have Fu:=jAb ps (k+1);rw[Yx ps k hk]at Fu;have hdw:Dgs (ju ps):=by
  intro d Po;obtain⟨p,hp,Bf⟩:=List.mem_flatMap.1 Po;exact hd p hp d Bf
 rcases Nat.eq_zero_or_pos ps[k].ds.length with h0|h0
 ·refine⟨⟨by rw[flat_len jA 32 _ Ad.cells],fun hn=>by omega⟩,fun hn=>by omega⟩
 ·obtain⟨g,cap,hv,N0,_⟩:=h.form (by omega);have hA:wA=some ⟨g,0,none⟩:=(by injection hv);subst hA;have hmA:(JL (some ⟨g,0,none⟩) (yq ps k) ps[k]).A=some ⟨g,yq ps k*32,none⟩:=by
   unfold JL;simp only[jJ5 (show¬ps[k].ds.length=0 by omega),Option.map_some,Addr.add_lit,Nat.zero_add]
  rw[hmA];refine⟨⟨by rw[flat_len jA 32 _ Ad.cells],fun _=>⟨g,_,rfl,fun j u hu=> ?_⟩⟩,fun _ ad e hx=> ?_⟩
  ·have hj:=(List.getElem?_eq_some_iff.1 hu).1;rw[flat_len jA 32 _ Ad.cells]at hj;have hc:=h.cells (g:=g) rfl (yq ps k*32+j) u (by
    have e1:(ju ps).flatMap jA=(ju (ps.take k)).flatMap jA++(ps[k].ds.flatMap jA++(ju (ps.drop (k+1))).flatMap jA):=by
     conv=>lhs;rw[<-List.take_append_drop k ps,List.drop_eq_getElem_cons hk]
     simp only[ju,List.flatMap_append,jL9]
    have MM:((ju (ps.take k)).flatMap jA).length=yq ps k*32:=by
     rw[flat_len jA 32 _ (fun d Po=>by
      rw[jB];obtain⟨p,hp,Bf⟩:=List.mem_flatMap.1 Po;exact hd p (List.mem_of_mem_take hp) d Bf)]
     rfl
    rw[e1,List.getElem?_append_right (by omega),MM,Nat.add_sub_cancel_left,List.getElem?_append_left (by rw[flat_len jA 32 _ Ad.cells];exact hj)];exact hu)
   rw[Addr.add_lit,Nat.zero_add]at hc;exact hc
  ·injection e with e;subst e;simp only at hx;omega
end Go.Proofs.YtnaolhjbapgjgaaGreat

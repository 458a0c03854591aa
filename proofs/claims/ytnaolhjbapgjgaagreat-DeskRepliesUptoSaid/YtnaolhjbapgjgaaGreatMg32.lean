import Derived.Test.YtnaolhjbapgjgaaGreatMg31
set_option maxRecDepth 100000
set_option maxHeartbeats 6400000
namespace Go.Proofs.YtnaolhjbapgjgaaGreat
open Go.Proofs.Tryz
open Go.RowKit
def okO(l:List MHap):Bool:=l.all fun h=>decide (0<=h.op/\h.op<=255)
def Xt(l:List MHap):Option LB:=if l.length<=65535/\okO l=true then some (be 2 l.length++l.flatMap zM)else none
theorem jGZ(l:List MHap)(k:Nat):((l.take k).flatMap zM).length<=(l.flatMap zM).length:=by
 conv=>rhs;rw[<-List.take_append_drop k l,List.flatMap_append,jJ4]
 omega
theorem Grew.drew{w w1:World}{base:Nat}{A A1:OA}{l1:LB}{c1:Nat}(h:Grew w base A w1 l1 A1 c1):Grew w base A w1.drew l1 A1 c1:=h.trans (Grew.old (jQ0 NoX w1).drew (Grew.refl_ h.row.drew))
theorem QW(op:Int)(NS:op=1\/op=2)(w:World)(base:Nat)(l:LB)(A:OA)(c:Nat)(h:BRow w base l A c)(hl:l.length<=10)(cl:List Value)(num:Int)(B:OA)(d:Nat)(hap:List MHap)(h4:cl[4]? =some (.int .i64 num))(h5:cl[5]? =some (.slice B hap.length d))
  (Fa:Rd w 2 B hap.length (hap.flatMap MHap.cells)) (FA:Av (From base) hap.length B) (Mt:∀h∈hap,h.name.size<=2147483647) (Fj:(hap.flatMap zM).length<=9000000000):
  Calls prog 34 #[.slice A l.length c,.int .i64 op,.agg cl.toArray] w (VA w base A l ((Xt hap).map (be8 num++ ·))):=by
 have HB:=G (jQ2 w 63 cl.toArray);have H0:=G (h.alloc (.cells cl.toArray 63));have Ho:=G ((jQ0 NoX w).alloc (.cells cl.toArray 63));have Fy:=G Fa;have FW:=G FA;have MC:=G Mt;have GS:=G Fj;have Hl:=G hl;have H4:=G (show∀W,Blk W w.heap.size 63 cl.toArray->W.cell? ⟨w.heap.size,4,none⟩=some (.int .i64 num)from fun W hb=>hb.at_ 4 (by rw[jJ7];exact h4));have H5:=G (show∀W,Blk W w.heap.size 63 cl.toArray->W.cell? ⟨w.heap.size,5,none⟩=some (.slice B hap.length d)from fun W hb=>hb.at_ 5 (by rw[jJ7];exact h5));have HD:=G (show(Xt hap).map (be8 num++ ·)=if hap.length<=65535/\okO hap=true then some (be8 num++(be 2 hap.length++hap.flatMap zM))else none by
  unfold Xt;split<;>rfl)
 clear h Fa FA Mt Fj hl h4 h5;generalize (Xt hap).map (be8 num++ ·)=R at*;have c5:=H5.out _ HB.out;by_cases hv:hap.length<=65535
 case neg=>
  have hY:=G (show R=none by rw[HD.out,jJ5 (fun h=>hv h.1)]);have Hk:=G (Ho.out.mono (Y:=From base) (fun _ _ f=>f.elim));have AY:(65535:Int)<(hap.length:Int):=(by omega);clear hv;rcases NS with rfl|rfl
  all_goals
   go_enter func34,ntmps34;go_wp2;go_ret;exact .inr ⟨hY.out,rfl,Hk.out⟩
 have AY:¬(65535:Int)<(hap.length:Int):=(by omega);have Hv:=G hv;clear hv;rcases NS with rfl|rfl
 all_goals
  go_enter func34,ntmps34;go_upto_region 6 with(fail);have HO:=G H0.out.drew;have XO:=G HB.out.drew;have CC:=G (Kp.drew (Ho.out.mono (Y:=From base) (fun _ _ f=>f.elim)));have N5:=G (Kp.drew Ho.out);generalize w.alloc _=W at*;have NH:=XO.out;have c4:=H4.out _ NH;have c5:=H5.out _ NH;clear Ho H0 HB
  go_region_held3 (fun w' =>w'.cell? ⟨w.heap.size,4,none⟩=some (.int .i64 num)/\w'.cell? ⟨w.heap.size,5,none⟩=some (.slice B hap.length d)) (first|exact⟨c4,c5⟩|fail)
   (first
    |(go_at_call_of 32 (Value.int .i64 8);(with_reducible refine(uk _ num).mono ?_);rintro e w3 ⟨B3,d3,rfl,r3,a3,o3⟩;have Sf:=NH.old o3;have c4:=H4.out _ Sf;have c5:=H5.out _ Sf)
    |(refine kv (.tmp 17) (.tmp 20) (HO.out.old o3) r3 ?_ rfl rfl rfl rfl ?_;(rw[jC];have:=Hl.out;omega);intro l4 A4 c4' w4 e4 h4;have Se:=Sf.grew (HO.out.old o3) h4 (by decide);have c4:=H4.out _ Se;have c5:=H5.out _ Se)
    |(go_at_call_of 32 (Value.int .i64 2);(with_reducible refine(jAd _ _).mono ?_);rintro e w5 ⟨B5,d5,rfl,r5,a5,o5⟩;have Sd:=Se.old o5;have c4:=H4.out _ Sd;have c5:=H5.out _ Sd)
    |(refine kv (.tmp 21) (.tmp 25) (h4.row.old o5) r5 ?_ rfl rfl rfl rfl ?_;(rw[e4.out,jJ4,jC,jC];have:=Hl.out;omega);intro l6 A6 c6 w6 e6 h6;have Sc:=Sd.grew (h4.row.old o5) h6 (by decide);have c4:=H4.out _ Sc;have c5:=H5.out _ Sc)
    |fail)
  all_goals
   have G6:=G ((Grew.old o3 h4).trans (Grew.old o5 h6));have E6:=G (show l6=l++(be8 num++be 2 hap.length)by
    rw[e6.out,e4.out,jK1,YI hap.length (by have:=Hv.out;omega)];rfl)
   have X6:=G Sc;clear h4 h6 o3 o5 r3 r5 a3 a5 e4 e6 c4 NH Sf Se Sd Sc;have BT:=G (show∀W' :World,Kp (From base) W.drew W' ->∀k,(hM:k<hap.length)->∃b o,B=some ⟨b,o,none⟩/\W'.rangeAt b (o+k*2) hap[k].cells from fun W' hk k hM=>by
    obtain⟨b,o,N7,FK⟩:=(Fy.out.kp (CC.out.trans hk (fun _ _ h=>h)) FW.out).elem (f:=MHap.cells) (fun _ _=>rfl) rfl hM;exact⟨b,o,N7,FK⟩)
   go_wp2;go_loopw [0,7] (fun b i wr=>∃(k:Nat) (out:LB) (A' :OA) (c' :Nat),k<=hap.length/\i=.int .i64 k/\b=.slice A' out.length c' /\okO (hap.take k)=true/\out=l6++((hap.take k).flatMap zM)/\Grew W.drew base A wr out A' c') (fun _ i _=>hap.length-(intOf i).toNat)
   case atStart=>exact⟨0,l6,A6,c6,by omega,rfl,rfl,rfl,by simp,G6.out⟩
   case round=>
    clear c5;obtain⟨k,out,A',c',hk,rfl,rfl,Fp,G0,hG⟩:=hrel;have HG:=G hG;have GF:=G G0;have Fv:=G Fp;have Fi:=G (show out.length<=9000000020 by
     rw[G0,E6.out];have:=jGZ hap k;have:=GS.out;have:=Hl.out;simp only[jJ4,jG,jC];omega)
    have XR:=G (XO.out.grew HO.out hG (by decide));have c5:=H5.out _ XR.out;clear hG G0 Fp;by_cases hM:k<hap.length
    ·obtain⟨b,o,N7,FK⟩:=BT.out wr (HG.out.from_ HO.out) k hM;have FJ:=MC.out _ (jL6 hM);have Fm:=G (show l6++((hap.take (k+1)).flatMap zM)=(out++[UInt8.ofNat hap[k].op.toNat])++lp 4 (sb hap[k].name)by
      rw[GF.out,kD zM hap k hM,zM];simp[be])
     have C9:=G (show okO (hap.take (k+1))=decide (0<=hap[k].op/\hap[k].op<=255)by
      have:=Fv.out;rw[okO]at this;rw[jK2 hM,okO,List.all_append,this];simp)
     have hY:=G (show¬(0<=hap[k].op/\hap[k].op<=255)->R=none from fun GH=>by
      rw[HD.out,jJ5];rintro ⟨_,h⟩;rw[okO,List.all_eq_true]at h;exact GH (of_decide_eq_true (h _ (jL6 hM))))
     generalize hap[k]=y at*;obtain⟨op,name⟩:=y;have q0:=FK 0 _ rfl;have q1:=FK 1 _ rfl;simp only[Nat.add_zero]at q0 q1 Fm C9 hY FJ;have Fh:=G FJ;have b1:(0:Int)<=(k:Int):=(by omega);have b2:(k:Int)<(hap.length:Int):=(by omega);have b3:(k:Int).toNat=k:=(by omega);have b5:(k:Int)<=65535:=by have:=Hv.out;omega
     rw[N7]at c5;clear FK N7 FJ;have HbN:=G (jQ2 wr 105 #[.int .i64 op,.string name]);have Aw:=G ((jQ0 NoX wr).alloc (.cells #[.int .i64 op,.string name] 105));have WG:=G (HG.out.row.alloc (.cells #[.int .i64 op,.string name] 105));have GN:=G (HG.out.trans (Grew.old Aw.out (Grew.refl_ WG.out)));have KN:=G (CC.out.trans (GN.out.from_ HO.out) (fun _ _ h=>h));by_cases hy:0<=op/\op<=255
     ·have ID:=G (show okO (hap.take (k+1))=true by rw[C9.out];exact jK5 hy);obtain⟨Lm,LM⟩:=hy;have LP:¬op<0:=(by omega);have SM:¬(255:Int)<op:=(by omega);have O0:IntKind.u8.wrap op=op:=IntWalk.u8_in _ (by omega);have FD:=G (show Value.int .u8 op=bv (UInt8.ofNat op.toNat)by
       rw[zO,Nat.mod_eq_of_lt (by omega)];congr 1;omega)
      go_upto_region 13 with(fail);clear c5 q0 q1;generalize (wr.alloc _)=W1 at*;have Tp:=G WG.out.drew;have GC:=HbN.out.drew;have d0:=GC.at_ 0 (v:=.int .i64 op) rfl;have d1:=GC.at_ 1 (v:=.string name) rfl
      go_region_held3 (fun w' =>w'.cell? ⟨wr.heap.size,0,none⟩=some (.int .i64 op)/\w'.cell? ⟨wr.heap.size,1,none⟩=some (.string name)) (first|exact⟨d0,d1⟩|exact⟨cal d0 _,cal d1 _⟩|fail)
       (first
        |(refine Uz (.tmp 47) (.tmp 51) Tp.out FD.out ?_ rfl rfl rfl rfl ?_;(have:=Fi.out;omega);intro l2 A2 c2 w2 e2 h2;have FG:=(GC.alloc _).grew (Tp.out.alloc _) h2 (by decide);have d0:=FG.at_ 0 (v:=.int .i64 op) rfl;have d1:=FG.at_ 1 (v:=.string name) rfl)
        |(go_at_call_of 65 (Value.string name);(with_reducible refine(Kh _ base l2 A2 c2 name h2.row ?_ Fh.out).mono ?_);(rw[e2.out,jJ4];have:=Fi.out;simp only[List.length_singleton];omega);rintro e w3 ⟨l3,A3,c3,e3,rfl,h3⟩;have L9:=FG.grew h2.row h3 (by decide);have d0:=L9.at_ 0 (v:=.int .i64 op) rfl;have d1:=L9.at_ 1 (v:=.string name) rfl)
        |fail)
      all_goals
       have G3:=G (GN.out.drew.trans ((Grew.old ((jQ0 NoX _).alloc _) h2).trans h3));have E3:=G (show l3=l6++((hap.take (k+1)).flatMap zM)by rw[e3.out,e2.out,Fm.out]);clear d0 d1 GC FG L9 h2 h3 e2 e3;go_wp2;go_roundw
       case rel=>exact⟨k+1,l3,A3,c3,by omega,by go_num,rfl,ID.out,E3.out,G3.out⟩
       case measure=>simp[intOf];omega
     ·have HZ:=G (show VA w base A l R (.returned (.slice none 0 0)) (wr.alloc (.cells #[.int .i64 op,.string name] 105))from .inr ⟨hY.out hy,rfl,KN.out⟩);by_cases Lm:op<0
      ·go_wp2;go_ret;exact HZ.out
      ·have LM:(255:Int)<op:=(by omega);go_wp2;go_ret;exact HZ.out
    ·obtain rfl:k=hap.length:=(by omega);have HZ:=G (show VA w base A l R (.returned (.slice A' out.length c')) wr from by
      have hg:=Fv.out;rw[List.take_length]at hg;have ho:=GF.out;rw[List.take_length,E6.out]at ho;exact .inl ⟨be8 num++(be 2 hap.length++hap.flatMap zM),out,A',c',by rw[HD.out,jJ6 ⟨Hv.out,hg⟩],G (by rw[ho];simp only[jK1]),rfl,Grew.old N5.out HG.out⟩)
     go_wp2;go_ret;exact HZ.out
def jBL(op:Nat)(p:Rep):Option LB:=
 if op=1\/op=2 then(Xt p.hap).map (be8 p.number++ ·)else if op=3 then ZL p.case_ else jCr op p
def xk(op:Nat)(p:Rep):Option LB:=
 if p.err=0 then(jBL op p).bind fun l=>if 2+l.length<=4194304 then some l else none
 else if op<=2/\JD p.err=false then yo [p.pa,p.pb,p.pc]else some []
def qR(op:Int)(p:Rep):Option LB:=
 if 1<=op/\op<=12/\0<=p.err/\p.err<=65535 then(xk op.toNat p).map (be 2 p.err.toNat++ ·)else none
def Nearly(a b:Option LB):Prop:=a=b\/(a=none/\∀x,b=some x->4194304<x.length)
theorem UR{α:Type}(f:α->LB)(l:List α)(x:α)(hx:x∈l):(f x).length<=(l.flatMap f).length:=by
 obtain⟨s,t,rfl⟩:=List.append_of_mem hx;simp only[List.flatMap_append,jL9,jJ4];omega
theorem uj(l:List BA)(hl:l.length<=255):kg l=some (Ky l)\/(kg l=none/\4194304<(Ky l).length):=by
 by_cases h:okT l=true
 ·left;rw[kg,jJ6 ⟨hl,h⟩,Ky,show be 1 l.length=[UInt8.ofNat l.length]by simp[be],YK,<-List.flatMap_def]
 ·right;refine⟨jJ5 fun k=>h k.2,?_⟩;rw[okT,List.all_eq_true]at h;have⟨s,hs,h⟩:∃s∈l,4194304<s.size:=by
   refine Classical.byContradiction fun hn=>h fun s hs=>jK5 (Classical.byContradiction fun hx=>hn ⟨s,hs,by omega⟩)
  have:=UR (fun t=>lp 4 (sb t)) l s hs;rw[jV,jH]at this;rw[Ky,jJ4];omega
theorem Ue(c:Cas):Nearly (YX c) (ZL c):=by
 unfold YX ZL;by_cases hv:c.values.length<=255/\(c.values.all fun b=>decide (jS b.2=0))=true
 case neg=>
  rw[jJ5 hv,jJ5]
  ·exact .inl rfl
  ·rintro ⟨_,h1,h2⟩;refine hv ⟨h1,?_⟩;rw[List.all_eq_true]at h2⊢;intro b hb;have:=h2 b hb;rw[zA,decide_eq_true_eq]at this;exact jK5 this.2
 rw[jJ6 hv];by_cases hL:c.open_.length<=255/\c.closed.length<=255/\c.reached.length<=255
 case neg=>
  rw[jJ5 hL];left;split
  ·have:three (kg c.open_) (kg c.closed) (kg c.reached)=none:=by
    have GH:∀l:List BA,¬l.length<=255->kg l=none:=fun l h=>jJ5 fun k=>h k.1;by_cases h1:c.open_.length<=255
    ·by_cases h2:c.closed.length<=255
     ·rw[GH _ (fun h3=>hL ⟨h1,h2,h3⟩)];unfold three;cases kg c.open_ <;>cases kg c.closed<;>rfl
     ·rw[GH _ h2];unfold three;cases kg c.open_ <;>rfl
    ·rw[GH _ h1];rfl
   rw[this];rfl
  ·rfl
 rw[jJ6 hL];by_cases hT:c.type_.size<=4194304
 case neg=>
  right;refine⟨jJ5 fun h=>hT h.1,fun x hx=> ?_⟩;obtain rfl:=jL5 hx;rw[jJ4,vz,jJ4,jV,jH];omega
 by_cases hB:c.values.all zA=true
 case neg=>
  right;refine⟨jJ5 fun h=>hB h.2.2,fun x hx=> ?_⟩;obtain rfl:=jL5 hx;rw[List.all_eq_true]at hB;have⟨b,hb,h⟩:∃b∈c.values,4194304<b.1.size:=by
   refine Classical.byContradiction fun hn=>hB fun b hb=> ?_;have h2:=hv.2;rw[List.all_eq_true]at h2;rw[zA];exact jK5 ⟨Classical.byContradiction fun hx=>hn ⟨b,hb,by omega⟩,of_decide_eq_true (h2 b hb)⟩
  have:=UR vu c.values b hb;rw[vu,jJ4,jV,jH]at this;simp only[jJ4,vz];omega
 rw[jJ6 ⟨hT,hv.1,hB⟩];rcases uj _ hL.1 with h1|⟨h1,Ns⟩<;>rcases uj _ hL.2.1 with h2|⟨h2,Nx⟩<;>rcases uj _ hL.2.2 with h3|⟨h3,LD⟩<;>rw[h1,h2,h3]
 ·exact .inl rfl
 all_goals
  refine .inr ⟨rfl,fun x hx=> ?_⟩;obtain rfl:=jL5 hx;simp only[jJ4];omega
theorem jB1(l:List MHap):Nearly (zm l) (Xt l):=by
 unfold zm Xt;by_cases h:l.length<=65535/\okO l=true
 case neg=>
  left;rw[jJ5 h,jJ5];rintro ⟨h1,h2⟩;refine h ⟨h1,?_⟩;rw[okO,List.all_eq_true];rw[okH,List.all_eq_true]at h2;exact fun x hx=>jK5 ⟨(of_decide_eq_true (h2 x hx)).1,(of_decide_eq_true (h2 x hx)).2.1⟩
 rw[jJ6 h];by_cases hB:okH l=true
 ·rw[jJ6 ⟨h.1,hB⟩];exact .inl rfl
 ·right;refine⟨jJ5 fun k=>hB k.2,fun x hx=> ?_⟩;obtain rfl:=jL5 hx;rw[okH,List.all_eq_true]at hB;have⟨b,hb,h⟩:∃b∈l,4194304<b.name.size:=by
   refine Classical.byContradiction fun hn=>hB fun b hb=> ?_;have h2:=h.2;rw[okO,List.all_eq_true]at h2;have h3:=of_decide_eq_true (h2 b hb);exact jK5 ⟨h3.1,h3.2,Classical.byContradiction fun hx=>hn ⟨b,hb,by omega⟩⟩
  have:=UR zM l b hb;rw[zM,jJ4,jV,jH]at this;rw[jJ4];omega
theorem Nearly.map{a b:Option LB}(h:Nearly a b)(l:LB):Nearly (a.map (l++ ·)) (b.map (l++ ·)):=by
 rcases h with rfl|⟨rfl,h⟩
 ·exact .inl rfl
 ·refine .inr ⟨rfl,fun x hx=> ?_⟩;cases b with
  |none=>cases hx
  |some y=>
   obtain rfl:=jL5 hx;have:=h y rfl;rw[jJ4];omega
theorem Nearly.cut{a b:Option LB}(h:Nearly a b):(a.bind fun l=>if 2+l.length<=4194304 then some l else none)=b.bind fun l=>if 2+l.length<=4194304 then some l else none:=by
 rcases h with rfl|⟨rfl,h⟩
 ·rfl
 ·cases b with
  |none=>rfl
  |some y=>
   have:=h y rfl;exact(jJ5 (by omega)).symm
theorem Xo(op:Nat)(p:Rep):Nearly (jCr op p) (jBL op p):=by
 unfold jBL;by_cases h:op=1\/op=2
 ·rw[jJ6 h,jCr,jJ6 h];exact(jB1 _).map _
 ·rw[jJ5 h];by_cases h3:op=3
  ·rw[jJ6 h3,jCr,jJ5 h,jJ6 h3];exact Ue _
  ·rw[jJ5 h3];exact .inl rfl
theorem jF7{l:List Int}{x:LB}(h:yo l=some x):x.length=l.length*4:=by
 unfold yo at h;split at h
 ·obtain rfl:=jL5 h;exact YP l
 ·cases h
theorem jDk(op:Int)(p:Rep):qR op p=vr op p:=by
 unfold qR vr;by_cases h:1<=op/\op<=12/\0<=p.err/\p.err<=65535
 case neg=>rw[jJ5 h,jJ5 h]
 rw[jJ6 h,jJ6 h];have hb:(xk op.toNat p)=(YZ op.toNat p).bind fun l=>if 2+l.length<=4194304 then some l else none:=by
  unfold xk YZ;by_cases he:p.err=0
  ·rw[jJ6 he,jJ6 he];exact(Xo _ p).cut.symm
  ·rw[jJ5 he,jJ5 he];split
   ·generalize hP:yo [p.pa,p.pb,p.pc]=P;cases P with
    |none=>rfl
    |some x=>
     have:=jF7 hP;exact(jJ6 (by rw[this];simp)).symm
   ·rfl
 rw[hb];cases YZ op.toNat p with
 |none=>rfl
 |some x=>simp only[jL2];split<;>rfl
theorem jDb(w:World)(base:Nat)(l:LB)(A:OA)(c:Nat)(h:BRow w base l A c)(hl:l.length<=10)(cl cs:List Value)(b:Option LB)(hs:Sub cl 146 cs)(FJ:(prog.info? 51).map (·.size)=some cs.length)(hf:∀W,Old w W->Calls prog 69 #[.agg cs.toArray] W (MaybeB W b))(hb:∀r,b=some r->r.length<=9000000000):
  Calls prog 34 #[.slice A l.length c,.int .i64 8,.agg cl.toArray] w (VA w base A l b):=by
 have H:=G h;have HB:=G (hs.range (jQ2 w 63 cl.toArray));have GQ:=G FJ;have HF:=G hf;have Hl:=G hl;have Hb:=G hb;clear h hs FJ hf hl hb;go_enter func34,ntmps34;go_wp2_with (first|((with_reducible refine jT 51 (.tmp 110) ?_);refine jK rfl 51 (.tmp 110) rfl w.heap.size 146 rfl cs _ HB.out underlying51 rfl GQ.out ?_)|((with_reducible refine ji 51 (.tmp 110) ?_);refine jK rfl 51 (.tmp 110) rfl w.heap.size 146 rfl cs _ HB.out underlying51 rfl GQ.out ?_)|fail);have Ho:=G ((jQ0 NoX w).alloc (.cells cl.toArray 63));refine(HF.out _ Ho.out).mono ?_;rintro e w2 (⟨r,A2,c2,e1,GO,rfl,hr,ho⟩|⟨e1,rfl,ho⟩)
 ·obtain⟨g,rfl,_⟩:=hr.some_ GO;have E1:=G e1;have FH:=G (Ho.out.old ho);have HS:=G (zX w2 base l A c (H.out.old FH.out) _ c2 r hr.rd (by have:=Hl.out;have:=Hb.out r e1;omega));clear e1 GO hr ho;go_wp2_with fail;refine HS.out.mono ?_;rintro e w3 ⟨l3,A3,c3,e3,rfl,h3⟩;have E3:=G e3.out;have G3:=G (Grew.old FH.out h3);clear e3 h3;go_wp2;go_ret;exact .inl ⟨r,l3,A3,c3,E1.out,G E3.out,rfl,G3.out⟩
 ·have E1:=G e1;have FH:=G (Ho.out.old ho);clear e1 ho;go_wp2_with fail;refine(zY w2 _).mono ?_;rintro e w3 ⟨rfl,rfl⟩;go_wp2;go_ret;exact .inr ⟨E1.out,rfl,FH.out.mono (fun _ _ f=>f.elim)⟩
theorem jDa(w:World)(base:Nat)(l:LB)(A:OA)(c:Nat)(h:BRow w base l A c)(hl:l.length<=10)(cl cs:List Value)(b:Option LB)(hs:Sub cl 149 cs)(FJ:(prog.info? 53).map (·.size)=some cs.length)(hf:∀W,Old w W->Calls prog 70 #[.agg cs.toArray] W (MaybeB W b))(hb:∀r,b=some r->r.length<=9000000000):
  Calls prog 34 #[.slice A l.length c,.int .i64 9,.agg cl.toArray] w (VA w base A l b):=by
 have H:=G h;have HB:=G (hs.range (jQ2 w 63 cl.toArray));have GQ:=G FJ;have HF:=G hf;have Hl:=G hl;have Hb:=G hb;clear h hs FJ hf hl hb;go_enter func34,ntmps34;go_wp2_with (first|((with_reducible refine jT 53 (.tmp 117) ?_);refine jK rfl 53 (.tmp 117) rfl w.heap.size 149 rfl cs _ HB.out underlying53 rfl GQ.out ?_)|((with_reducible refine ji 53 (.tmp 117) ?_);refine jK rfl 53 (.tmp 117) rfl w.heap.size 149 rfl cs _ HB.out underlying53 rfl GQ.out ?_)|fail);have Ho:=G ((jQ0 NoX w).alloc (.cells cl.toArray 63));refine(HF.out _ Ho.out).mono ?_;rintro e w2 (⟨r,A2,c2,e1,GO,rfl,hr,ho⟩|⟨e1,rfl,ho⟩)
 ·obtain⟨g,rfl,_⟩:=hr.some_ GO;have E1:=G e1;have FH:=G (Ho.out.old ho);have HS:=G (zX w2 base l A c (H.out.old FH.out) _ c2 r hr.rd (by have:=Hl.out;have:=Hb.out r e1;omega));clear e1 GO hr ho;go_wp2_with fail;refine HS.out.mono ?_;rintro e w3 ⟨l3,A3,c3,e3,rfl,h3⟩;have E3:=G e3.out;have G3:=G (Grew.old FH.out h3);clear e3 h3;go_wp2;go_ret;exact .inl ⟨r,l3,A3,c3,E1.out,G E3.out,rfl,G3.out⟩
 ·have E1:=G e1;have FH:=G (Ho.out.old ho);clear e1 ho;go_wp2_with fail;refine(zY w2 _).mono ?_;rintro e w3 ⟨rfl,rfl⟩;go_wp2;go_ret;exact .inr ⟨E1.out,rfl,FH.out.mono (fun _ _ f=>f.elim)⟩
theorem jBX(w:World)(base:Nat)(l:LB)(A:OA)(c:Nat)(h:BRow w base l A c)(hl:l.length<=10)(cl cs:List Value)(b:Option LB)(hs:Sub cl 220 cs)(FJ:(prog.info? 61).map (·.size)=some cs.length)(hf:∀W,Old w W->Calls prog 72 #[.agg cs.toArray] W (MaybeB W b))(hb:∀r,b=some r->r.length<=9000000000):
  Calls prog 34 #[.slice A l.length c,.int .i64 11,.agg cl.toArray] w (VA w base A l b):=by
 have H:=G h;have HB:=G (hs.range (jQ2 w 63 cl.toArray));have GQ:=G FJ;have HF:=G hf;have Hl:=G hl;have Hb:=G hb;clear h hs FJ hf hl hb;go_enter func34,ntmps34;go_wp2_with (first|((with_reducible refine jT 61 (.tmp 131) ?_);refine jK rfl 61 (.tmp 131) rfl w.heap.size 220 rfl cs _ HB.out underlying61 rfl GQ.out ?_)|((with_reducible refine ji 61 (.tmp 131) ?_);refine jK rfl 61 (.tmp 131) rfl w.heap.size 220 rfl cs _ HB.out underlying61 rfl GQ.out ?_)|fail);have Ho:=G ((jQ0 NoX w).alloc (.cells cl.toArray 63));refine(HF.out _ Ho.out).mono ?_;rintro e w2 (⟨r,A2,c2,e1,GO,rfl,hr,ho⟩|⟨e1,rfl,ho⟩)
 ·obtain⟨g,rfl,_⟩:=hr.some_ GO;have E1:=G e1;have FH:=G (Ho.out.old ho);have HS:=G (zX w2 base l A c (H.out.old FH.out) _ c2 r hr.rd (by have:=Hl.out;have:=Hb.out r e1;omega));clear e1 GO hr ho;go_wp2_with fail;refine HS.out.mono ?_;rintro e w3 ⟨l3,A3,c3,e3,rfl,h3⟩;have E3:=G e3.out;have G3:=G (Grew.old FH.out h3);clear e3 h3;go_wp2;go_ret;exact .inl ⟨r,l3,A3,c3,E1.out,G E3.out,rfl,G3.out⟩
 ·have E1:=G e1;have FH:=G (Ho.out.old ho);clear e1 ho;go_wp2_with fail;refine(zY w2 _).mono ?_;rintro e w3 ⟨rfl,rfl⟩;go_wp2;go_ret;exact .inr ⟨E1.out,rfl,FH.out.mono (fun _ _ f=>f.elim)⟩
theorem jBY(w:World)(base:Nat)(l:LB)(A:OA)(c:Nat)(h:BRow w base l A c)(hl:l.length<=10)(cl cs:List Value)(b:Option LB)(hs:Sub cl 152 cs)(FJ:(prog.info? 57).map (·.size)=some cs.length)(hf:∀W,Old w W->Calls prog 71 #[.agg cs.toArray] W (MaybeB W b))(hb:∀r,b=some r->r.length<=9000000000):
  Calls prog 34 #[.slice A l.length c,.int .i64 10,.agg cl.toArray] w (VA w base A l b):=by
 have H:=G h;have HB:=G (hs.range (jQ2 w 63 cl.toArray));have GQ:=G FJ;have HF:=G hf;have Hl:=G hl;have Hb:=G hb;clear h hs FJ hf hl hb;go_enter func34,ntmps34;go_wp2_with (first|((with_reducible refine jT 57 (.tmp 124) ?_);refine jK rfl 57 (.tmp 124) rfl w.heap.size 152 rfl cs _ HB.out underlying57 rfl GQ.out ?_)|((with_reducible refine ji 57 (.tmp 124) ?_);refine jK rfl 57 (.tmp 124) rfl w.heap.size 152 rfl cs _ HB.out underlying57 rfl GQ.out ?_)|fail);have Ho:=G ((jQ0 NoX w).alloc (.cells cl.toArray 63));refine(HF.out _ Ho.out).mono ?_;rintro e w2 (⟨r,A2,c2,e1,GO,rfl,hr,ho⟩|⟨e1,rfl,ho⟩)
 ·obtain⟨g,rfl,_⟩:=hr.some_ GO;have E1:=G e1;have FH:=G (Ho.out.old ho);have HS:=G (zX w2 base l A c (H.out.old FH.out) _ c2 r hr.rd (by have:=Hl.out;have:=Hb.out r e1;omega));clear e1 GO hr ho;go_wp2_with fail;refine HS.out.mono ?_;rintro e w3 ⟨l3,A3,c3,e3,rfl,h3⟩;have E3:=G e3.out;have G3:=G (Grew.old FH.out h3);clear e3 h3;go_wp2;go_ret;exact .inl ⟨r,l3,A3,c3,E1.out,G E3.out,rfl,G3.out⟩
 ·have E1:=G e1;have FH:=G (Ho.out.old ho);clear e1 ho;go_wp2_with fail;refine(zY w2 _).mono ?_;rintro e w3 ⟨rfl,rfl⟩;go_wp2;go_ret;exact .inr ⟨E1.out,rfl,FH.out.mono (fun _ _ f=>f.elim)⟩
theorem jDd(w:World)(base:Nat)(l:LB)(A:OA)(c:Nat)(h:BRow w base l A c)(hl:l.length<=10)(cl cs:List Value)(b:Option LB)(hs:Sub cl 47 cs)(FJ:(prog.info? 48).map (·.size)=some cs.length)(hf:∀W,Old w W->Calls prog 68 #[.agg cs.toArray] W (MaybeB W b))(hb:∀r,b=some r->r.length<=9000000000):
  Calls prog 34 #[.slice A l.length c,.int .i64 6,.agg cl.toArray] w (VA w base A l b):=by
 have H:=G h;have HB:=G (hs.range (jQ2 w 63 cl.toArray));have GQ:=G FJ;have HF:=G hf;have Hl:=G hl;have Hb:=G hb;clear h hs FJ hf hl hb;go_enter func34,ntmps34;go_wp2_with (first|((with_reducible refine jT 48 (.tmp 79) ?_);refine jK rfl 48 (.tmp 79) rfl w.heap.size 47 rfl cs _ HB.out underlying48 rfl GQ.out ?_)|((with_reducible refine ji 48 (.tmp 79) ?_);refine jK rfl 48 (.tmp 79) rfl w.heap.size 47 rfl cs _ HB.out underlying48 rfl GQ.out ?_)|fail);have Ho:=G ((jQ0 NoX w).alloc (.cells cl.toArray 63));refine(HF.out _ Ho.out).mono ?_;rintro e w2 (⟨r,A2,c2,e1,GO,rfl,hr,ho⟩|⟨e1,rfl,ho⟩)
 ·obtain⟨g,rfl,_⟩:=hr.some_ GO;have E1:=G e1;have FH:=G (Ho.out.old ho);have HS:=G (zX w2 base l A c (H.out.old FH.out) _ c2 r hr.rd (by have:=Hl.out;have:=Hb.out r e1;omega));clear e1 GO hr ho;go_wp2_with fail;refine HS.out.mono ?_;rintro e w3 ⟨l3,A3,c3,e3,rfl,h3⟩;have E3:=G e3.out;have G3:=G (Grew.old FH.out h3);clear e3 h3;go_wp2;go_ret;exact .inl ⟨r,l3,A3,c3,E1.out,G E3.out,rfl,G3.out⟩
 ·have E1:=G e1;have FH:=G (Ho.out.old ho);clear e1 ho;go_wp2_with fail;refine(zY w2 _).mono ?_;rintro e w3 ⟨rfl,rfl⟩;go_wp2;go_ret;exact .inr ⟨E1.out,rfl,FH.out.mono (fun _ _ f=>f.elim)⟩
theorem jDf(w:World)(base:Nat)(l:LB)(A:OA)(c:Nat)(h:BRow w base l A c)(hl:l.length<=10)(cl:List Value)(B:OA)(m:LB)(d:Nat)(hs:cl[45]? =some (.slice B m.length d))(hr:Rd w 1 B m.length (m.map bv))(hm:m.length<=5000000000000):
  Calls prog 34 #[.slice A l.length c,.int .i64 4,.agg cl.toArray] w (VA w base A l (some m)):=by
 have H:=G h;have Ho:=G ((jQ0 NoX w).alloc (.cells cl.toArray 63));have c45:=(jQ2 w 63 cl.toArray).at_ 45 (v:=.slice B m.length d) (by rw[jJ7];exact hs);have Hr:=G (hr.old Ho.out);have Hl:=G hl;have Hm:=G hm;clear h hs hr hl hm;go_enter func34,ntmps34;go_wp2_with (first|(at_builtin;refine ja (.tmp 65) (.tmp 67) (H.out.old Ho.out) Hr.out (by have:=Hl.out;have:=Hm.out;omega) rfl rfl rfl rfl ?_;intro l2 A2 c2 w2 e2 h2;have E2:=G e2.out;have G2:=G (Grew.old Ho.out h2);clear e2 h2)|fail);go_ret;exact .inl ⟨m,l2,A2,c2,rfl,G E2.out,rfl,G2.out⟩
theorem jDe(w:World)(base:Nat)(l:LB)(A:OA)(c:Nat)(h:BRow w base l A c)(hl:l.length<=10)(cl:List Value)(n:Int)(hs:cl[46]? =some (.int .i64 n)):
  Calls prog 34 #[.slice A l.length c,.int .i64 5,.agg cl.toArray] w (VA w base A l (some (be8 n))):=by
 have H:=G h;have Ho:=G ((jQ0 NoX w).alloc (.cells cl.toArray 63));have c46:=(jQ2 w 63 cl.toArray).at_ 46 (v:=.int .i64 n) (by rw[jJ7];exact hs);have Hl:=G hl;clear h hs hl;go_enter func34,ntmps34;go_wp2_with fail;refine(uk _ n).mono ?_;rintro e w1 ⟨B1,d1,rfl,r1,a1,o1⟩;have FE:=G (Ho.out.old o1);have R1:=G r1;clear o1 r1 a1;go_wp2_with (first|(at_builtin;refine ja (.tmp 71) (.tmp 74) (H.out.old FE.out) R1.out (by rw[jC];have:=Hl.out;omega) rfl rfl rfl rfl ?_;intro l2 A2 c2 w2 e2 h2;have E2:=G e2.out;have G2:=G (Grew.old FE.out h2);clear e2 h2)|fail);go_ret;exact .inl ⟨be8 n,l2,A2,c2,rfl,G E2.out,rfl,G2.out⟩
theorem jDc(w:World)(base:Nat)(l:LB)(A:OA)(c:Nat)(h:BRow w base l A c)(hl:l.length<=10)(cl:List Value)(m:MNote)(hs:Sub cl 47 m.cells)(Hu:m.Ok w (From base))
  (FJ: -9223372036854775808<=m.head.size/\m.head.size<=9223372036854775807) (Gk: -9223372036854775808<=m.head.clock/\m.head.clock<=9223372036854775807) (hb:∀r,yU m.head m.signs=some r->r.length<=9000000000):
  Calls prog 34 #[.slice A l.length c,.int .i64 7,.agg cl.toArray] w (VA w base A l (jFD m.head m.signs)):=by
 have Hw:=G h;have H1:=G (h.alloc (.cells cl.toArray 63));have HB:=G (jQ2 w 63 cl.toArray);have Ho:=G ((jQ0 NoX w).alloc (.cells cl.toArray 63));have Hs:=G hs;have Hl:=G hl;have Hb:=G hb;have S0:=G (show Sub cl 47 m.head.cells from by
  have h1:=Sub.mid_ [] m.head.cells [.slice m.A m.signs.length m.c] 0 rfl;have h2:Sub m.cells 0 m.head.cells:=(by simpa [MNote.cells]using h1);exact hs.trans h2)
 have S98:=G (show cl[145]? =some (.slice m.A m.signs.length m.c)from hs 98 _ ((Sub.end_ m.head.cells [.slice m.A m.signs.length m.c] 98 Hu.head.len) 0 _ rfl));have Hz:=G (show(prog.info? 45).map (·.size)=some m.head.cells.length by rw[Hu.head.len];kernel_rfl);have DJ:=G (show(prog.info? 48).map (·.size)=some m.cells.length by rw[MNote.cells,jJ4,Hu.head.len];kernel_rfl);have We:=G (fun W=>jEb W m.head Hu.head FJ Gk);have FH:=G (fun(W:World) {l2:LB} {A2:OA} {c2:Nat} (hG:Grew w base A W l2 A2 c2)=>hG.from_ h);have HF:=G (fun W (F:Kp (From base) w W)=>xd W m ⟨Hu.head,Hu.rd.kp F Hu.av,fun _ _ _ f=>f,Hu.big⟩);have HP:=G (show jFD m.head m.signs=if 0<m.signs.length\/Ql m.head=false then(yU m.head m.signs).map fun x=>1::x else some [0]from rfl);have Tp:=G (show∀(W:World) (v:UInt8),W.heap.size=w.heap.size+1->Rd (W.alloc (.cells #[bv v] 5)) 1 (some ⟨w.heap.size+1,0,none⟩) ([v]:LB).length (([v]:LB).map bv)from fun W v e=>by
  have h:=Rd.one_new W 5 (bv v);rw[e]at h;exact h)
 have c145:=HB.out.at_ 145 (by rw[jJ7];exact S98.out);have Fn:=G (S0.out.range HB.out);clear h hs Hu FJ Gk hl hb;generalize jFD m.head m.signs=PB at*;generalize yU m.head m.signs=NB at*;generalize Ql m.head=z at*;generalize m.signs.length=sl at*;have Gy:0<sl\/(sl=0/\z=false)\/(sl=0/\z=true):=by
  by_cases h:0<sl
  ·exact .inl h
  ·cases z
   ·exact .inr (.inl ⟨by omega,rfl⟩)
   ·exact .inr (.inr ⟨by omega,rfl⟩)
 rcases Gy with h0|⟨rfl,rfl⟩|⟨rfl,rfl⟩
 ·have LF:=G (show PB=NB.map fun x=>1::x by rw[HP.out,jJ6 (.inl h0)]);have g0:¬(sl:Int)=0:=(by omega);clear HP h0;go_enter func34,ntmps34;go_wp2_with (first|((with_reducible refine jT 45 (.tmp 92) ?_);refine jK rfl 45 (.tmp 92) rfl w.heap.size 47 rfl m.head.cells _ Fn.out underlying45 rfl Hz.out ?_)|((with_reducible refine ji 45 (.tmp 92) ?_);refine jK rfl 45 (.tmp 92) rfl w.heap.size 47 rfl m.head.cells _ Fn.out underlying45 rfl Hz.out ?_)|((with_reducible refine jM 45 ?_);refine jX rfl 45 rfl _ (vj _) ?_)|((with_reducible refine zi .eql 45 45 (.tmp 93) (.tmp 94) ?_);refine xL rfl 45 45 (.tmp 93) (.tmp 94) rfl _ zeroHdL.toArray rfl rfl JO z (We.out _) ?_)|fail|fail);have Pp:(w.alloc (.cells cl.toArray 63)).drew.rangeAt w.heap.size 47 m.cells:=Hs.out.range HB.out.drew;refine je (S:=fun w' =>w'.rangeAt w.heap.size 47 m.cells) 8 rfl (by kernel_rfl) Pp (fun H9=> ?_);refine' jP 0 rfl rfl (by kernel_rfl) (fun _ _ _ h=>h) rfl H9 (fun w' hJ=> ?_) ?_;rotate_left
  ·(clear hJ;go_simp<;>with_reducible rfl)
  simp only[Act.put,jJ1,jJ2,jJ3];refine' jP 3 rfl rfl (by kernel_rfl) (fun _ _ _ h=>h) rfl H9 (fun w' hJ=> ?_) ?_;rotate_left
  ·(clear hJ;go_simp<;>with_reducible rfl)
  simp only[Act.put,jJ1,jJ2,jJ3];refine' jP 4 rfl rfl (by kernel_rfl) (fun _ _ _ h=>h) rfl H9 (fun w' hJ=>jl 48 (.tmp 103) rfl w.heap.size 47 rfl m.cells _ hJ underlying48 rfl DJ.out) ?_;simp only[Act.put,jJ1,jJ2,jJ3];refine jU 1 rfl (by kernel_rfl) (fun K hK=> ?_);go_simp;refine hK.out _ _ (Hs.out.range (HB.out.drew.alloc _)) (fun H9=> ?_);clear hK K;refine jU 2 rfl (by kernel_rfl) (fun K hK=> ?_);refine kv (.tmp 100) (.tmp 101) (d:=1) (H1.out.drew.alloc _) (Tp.out _ 1 (by simp)) ?_ rfl rfl rfl rfl ?_
  ·have:=Hl.out;simp;omega
  intro l2 A2 c2 w2 e2 h2;have E2:=G e2.out;have G2:=G (Grew.old (Ho.out.drew.alloc _) h2);have Nq:=G ((HB.out.drew.alloc _).grew (H1.out.drew.alloc _) h2 (by decide));have HN:=G (HF.out _ (FH.out _ G2.out));clear e2 h2;go_simp;refine hK.out _ _ (Hs.out.range Nq.out) (fun H9=> ?_);clear hK K;refine jU 5 rfl (by kernel_rfl) (fun K hK=> ?_);go_simp;go_at_call 68;refine HN.out.mono ?_;rintro e w3 (⟨r,A3,c3,e1,GO,rfl,hr,ho⟩|⟨e1,rfl,ho⟩)
  ·obtain⟨g,rfl,_⟩:=hr.some_ GO;have E1:=G (show PB=some (1::r)by rw[LF.out,e1];rfl);have Gq:=G ho;have HS:=G (zX w3 base l2 A2 c2 (G2.out.row.old ho) _ c3 r hr.rd (by have:=Hl.out;have:=Hb.out r e1;rw[E2.out,jJ4,List.length_singleton];omega));clear e1 GO hr ho;go_simp;refine hK.out _ _ (Hs.out.range (Nq.out.old Gq.out)) (fun H9=> ?_);clear hK K;refine jU 6 rfl (by kernel_rfl) (fun K hK=> ?_);go_simp;go_at_call 67;refine HS.out.mono ?_;rintro e w4 ⟨l4,A4,c4,e4,rfl,h4⟩;have E4:=G (show l4=l++1::r by rw[e4.out,E2.out,jK1];rfl);have G4:=G (G2.out.trans (Grew.old Gq.out h4));have BF:=Hs.out.range ((Nq.out.old Gq.out).grew (G2.out.row.old Gq.out) h4 (by decide));clear e4 h4;go_simp;refine hK.out _ _ BF (fun H9=> ?_);clear hK K;refine' jP 7 rfl rfl (by kernel_rfl) (fun _ _ _ h=>h) rfl H9 (fun w' hJ=> ?_) ?_;rotate_left
   ·(clear hJ;go_simp<;>with_reducible rfl)
   simp only[Act.put,jJ1,jJ2,jJ3];refine wpAnyH_done (by kernel_rfl) ?_ _;go_wp2;go_ret;exact .inl ⟨_,l4,A4,c4,E1.out,G E4.out,rfl,G4.out⟩
  ·have E1:=G (show PB=none by rw[LF.out,e1];rfl);have K3:=G ((G2.out.from_ Hw.out).old ho);have Gq:=G ho;clear e1 ho;go_simp;refine hK.out _ _ (Hs.out.range (Nq.out.old Gq.out)) (fun H9=> ?_);clear hK K;refine jU 6 rfl (by kernel_rfl) (fun K hK=> ?_);go_simp;go_at_call 67;refine(zY w3 _).mono ?_;rintro e w4 ⟨rfl,rfl⟩;go_simp;refine hK.out _ _ (Hs.out.range (Nq.out.old Gq.out)) (fun H9=> ?_);clear hK K;refine' jP 7 rfl rfl (by kernel_rfl) (fun _ _ _ h=>h) rfl H9 (fun w' hJ=> ?_) ?_;rotate_left
   ·(clear hJ;go_simp<;>with_reducible rfl)
   simp only[Act.put,jJ1,jJ2,jJ3];refine wpAnyH_done (by kernel_rfl) ?_ _;go_wp2;go_ret;exact .inr ⟨E1.out,rfl,K3.out⟩
 ·have LF:=G (show PB=NB.map fun x=>1::x by rw[HP.out,jJ6 (.inr rfl)]);clear HP;go_enter func34,ntmps34;go_wp2_with (first|((with_reducible refine jT 45 (.tmp 92) ?_);refine jK rfl 45 (.tmp 92) rfl w.heap.size 47 rfl m.head.cells _ Fn.out underlying45 rfl Hz.out ?_)|((with_reducible refine ji 45 (.tmp 92) ?_);refine jK rfl 45 (.tmp 92) rfl w.heap.size 47 rfl m.head.cells _ Fn.out underlying45 rfl Hz.out ?_)|((with_reducible refine jM 45 ?_);refine jX rfl 45 rfl _ (vj _) ?_)|((with_reducible refine zi .eql 45 45 (.tmp 93) (.tmp 94) ?_);refine xL rfl 45 45 (.tmp 93) (.tmp 94) rfl _ zeroHdL.toArray rfl rfl JO false (We.out _) ?_)|fail|fail);have Pp:(w.alloc (.cells cl.toArray 63)).drew.rangeAt w.heap.size 47 m.cells:=Hs.out.range HB.out.drew;refine je (S:=fun w' =>w'.rangeAt w.heap.size 47 m.cells) 8 rfl (by kernel_rfl) Pp (fun H9=> ?_);refine' jP 0 rfl rfl (by kernel_rfl) (fun _ _ _ h=>h) rfl H9 (fun w' hJ=> ?_) ?_;rotate_left
  ·(clear hJ;go_simp<;>with_reducible rfl)
  simp only[Act.put,jJ1,jJ2,jJ3];refine' jP 3 rfl rfl (by kernel_rfl) (fun _ _ _ h=>h) rfl H9 (fun w' hJ=> ?_) ?_;rotate_left
  ·(clear hJ;go_simp<;>with_reducible rfl)
  simp only[Act.put,jJ1,jJ2,jJ3];refine' jP 4 rfl rfl (by kernel_rfl) (fun _ _ _ h=>h) rfl H9 (fun w' hJ=>jl 48 (.tmp 103) rfl w.heap.size 47 rfl m.cells _ hJ underlying48 rfl DJ.out) ?_;simp only[Act.put,jJ1,jJ2,jJ3];refine jU 1 rfl (by kernel_rfl) (fun K hK=> ?_);go_simp;refine hK.out _ _ (Hs.out.range (HB.out.drew.alloc _)) (fun H9=> ?_);clear hK K;refine jU 2 rfl (by kernel_rfl) (fun K hK=> ?_);refine kv (.tmp 100) (.tmp 101) (d:=1) (H1.out.drew.alloc _) (Tp.out _ 1 (by simp)) ?_ rfl rfl rfl rfl ?_
  ·have:=Hl.out;simp;omega
  intro l2 A2 c2 w2 e2 h2;have E2:=G e2.out;have G2:=G (Grew.old (Ho.out.drew.alloc _) h2);have Nq:=G ((HB.out.drew.alloc _).grew (H1.out.drew.alloc _) h2 (by decide));have HN:=G (HF.out _ (FH.out _ G2.out));clear e2 h2;go_simp;refine hK.out _ _ (Hs.out.range Nq.out) (fun H9=> ?_);clear hK K;refine jU 5 rfl (by kernel_rfl) (fun K hK=> ?_);go_simp;go_at_call 68;refine HN.out.mono ?_;rintro e w3 (⟨r,A3,c3,e1,GO,rfl,hr,ho⟩|⟨e1,rfl,ho⟩)
  ·obtain⟨g,rfl,_⟩:=hr.some_ GO;have E1:=G (show PB=some (1::r)by rw[LF.out,e1];rfl);have Gq:=G ho;have HS:=G (zX w3 base l2 A2 c2 (G2.out.row.old ho) _ c3 r hr.rd (by have:=Hl.out;have:=Hb.out r e1;rw[E2.out,jJ4,List.length_singleton];omega));clear e1 GO hr ho;go_simp;refine hK.out _ _ (Hs.out.range (Nq.out.old Gq.out)) (fun H9=> ?_);clear hK K;refine jU 6 rfl (by kernel_rfl) (fun K hK=> ?_);go_simp;go_at_call 67;refine HS.out.mono ?_;rintro e w4 ⟨l4,A4,c4,e4,rfl,h4⟩;have E4:=G (show l4=l++1::r by rw[e4.out,E2.out,jK1];rfl);have G4:=G (G2.out.trans (Grew.old Gq.out h4));have BF:=Hs.out.range ((Nq.out.old Gq.out).grew (G2.out.row.old Gq.out) h4 (by decide));clear e4 h4;go_simp;refine hK.out _ _ BF (fun H9=> ?_);clear hK K;refine' jP 7 rfl rfl (by kernel_rfl) (fun _ _ _ h=>h) rfl H9 (fun w' hJ=> ?_) ?_;rotate_left
   ·(clear hJ;go_simp<;>with_reducible rfl)
   simp only[Act.put,jJ1,jJ2,jJ3];refine wpAnyH_done (by kernel_rfl) ?_ _;go_wp2;go_ret;exact .inl ⟨_,l4,A4,c4,E1.out,G E4.out,rfl,G4.out⟩
  ·have E1:=G (show PB=none by rw[LF.out,e1];rfl);have K3:=G ((G2.out.from_ Hw.out).old ho);have Gq:=G ho;clear e1 ho;go_simp;refine hK.out _ _ (Hs.out.range (Nq.out.old Gq.out)) (fun H9=> ?_);clear hK K;refine jU 6 rfl (by kernel_rfl) (fun K hK=> ?_);go_simp;go_at_call 67;refine(zY w3 _).mono ?_;rintro e w4 ⟨rfl,rfl⟩;go_simp;refine hK.out _ _ (Hs.out.range (Nq.out.old Gq.out)) (fun H9=> ?_);clear hK K;refine' jP 7 rfl rfl (by kernel_rfl) (fun _ _ _ h=>h) rfl H9 (fun w' hJ=> ?_) ?_;rotate_left
   ·(clear hJ;go_simp<;>with_reducible rfl)
   simp only[Act.put,jJ1,jJ2,jJ3];refine wpAnyH_done (by kernel_rfl) ?_ _;go_wp2;go_ret;exact .inr ⟨E1.out,rfl,K3.out⟩
 ·have LF:=G (show PB=some [0]by rw[HP.out,jJ5 (by simp)]);clear HP;go_enter func34,ntmps34;go_wp2_with (first|((with_reducible refine jT 45 (.tmp 92) ?_);refine jK rfl 45 (.tmp 92) rfl w.heap.size 47 rfl m.head.cells _ Fn.out underlying45 rfl Hz.out ?_)|((with_reducible refine ji 45 (.tmp 92) ?_);refine jK rfl 45 (.tmp 92) rfl w.heap.size 47 rfl m.head.cells _ Fn.out underlying45 rfl Hz.out ?_)|((with_reducible refine jM 45 ?_);refine jX rfl 45 rfl _ (vj _) ?_)|((with_reducible refine zi .eql 45 45 (.tmp 93) (.tmp 94) ?_);refine xL rfl 45 45 (.tmp 93) (.tmp 94) rfl _ zeroHdL.toArray rfl rfl JO true (We.out _) ?_)|(at_builtin;refine ja (.tmp 97) (.tmp 98) (d:=1) (H1.out.alloc _) (Tp.out _ 0 (by simp)) (by have:=Hl.out;simp;omega) rfl rfl rfl rfl ?_;intro l2 A2 c2 w2 e2 h2;have E2:=G e2.out;have G2:=G (Grew.old (Ho.out.alloc _) h2);clear e2 h2)|fail);go_ret;exact .inl ⟨[0],l2,A2,c2,LF.out,G E2.out,rfl,G2.out⟩
theorem Yd{bs:LB}{most kind:Nat}{s:Rs}(h:kH bs most kind=some s):bs.length<=most:=by
 unfold kH at h;split at h
 ·cases h
 ·omega
theorem Kt{α β:Type}{o:Option α}{f:α->Option β}{y:β}(h:o.bind f=some y):∃x,o=some x:=by
 cases o with
 |none=>cases h
 |some x=>exact⟨x,rfl⟩
theorem jH5{x:Way}{r:LB}(hd:Dgs x.ds)(h:jAh x.a x.b x.ds=some r):r.length<=9000:=by
 obtain⟨_,e⟩:=Kt (uG hd h);exact Yd e
theorem jIH{x:Way}{r:LB}(hd:Dgs x.ds)(h:jAr x.a x.b x.ds=some r):r.length<=9000:=by
 obtain⟨_,e⟩:=Kt (uH hd h);exact Yd e
theorem jIA{x:Idx}{r:LB}(hx:x.Ok)(h:qj x=some r):r.length<=9000:=by
 obtain⟨_,e⟩:=Kt (Kr hx h);exact Yd e
theorem jDz{x:Pie}{r:LB}(hb:x.before.length=32)(Pn:∀q∈x.pfs,Dgs q.ds)(h:vR x=some r):r.length<=2097152:=by
 obtain⟨_,e⟩:=Kt (Kq hb Pn h);exact Yd e
theorem jAX{h:Hd}{l:List Sgn}{r:LB}(hk:h.Ok)(hn:yU h l=some r):r.length<=2000:=by
 unfold yU at hn;split at hn
 ·rename_i hc;obtain rfl:=jL5 hn;simp only[jJ4,jC,KA,(zQ l).length_eq];have:(vh h).length<=200:=(by simp[vh,jC,jG,hk.log,hk.root,hk.index]);have:=hc.2.2.1;omega
 ·cases hn
theorem Xu(w:World)(base:Nat)(l:LB)(A:OA)(c:Nat)(h:BRow w base l A c)(Ff:l≠ [])(hl:l.length<=10)(op:Nat)(NS:1<=op/\op<=12)(m:MReply)(Hu:m.Ok w (From base))(WW:(m.hap.flatMap zM).length<=9000000000):
  Calls prog 34 #[.slice A l.length c,.int .i64 (op:Int),.agg m.cells.toArray] w (VA w base A l (jBL op m.data)):=by
 have Y5:op=1\/op=2\/op=3\/op=4\/op=5\/op=6\/op=7\/op=8\/op=9\/op=10\/op=11\/op=12:=(by omega);have RJ:∀W,Old w W->m.Ok W NoX:=fun W ho=>Hu.turn ho (fun _ _ f=>f.elim) (fun _ _ f=>f.elim);rcases Y5 with rfl|rfl|rfl|rfl|rfl|rfl|rfl|rfl|rfl|rfl|rfl|rfl
 ·exact QW 1 (.inl rfl) w base l A c h hl m.cells m.number m.hA m.hC m.hap MReply.s4 MReply.s5 Hu.rdH Hu.avH Hu.bigH.1 WW
 ·exact QW 2 (.inr rfl) w base l A c h hl m.cells m.number m.hA m.hC m.hap MReply.s4 MReply.s5 Hu.rdH Hu.avH Hu.bigH.1 WW
 ·exact jDg w base l A c h Ff hl m.cells m.case_ MReply.c6 Hu.case_
 ·exact jDf w base l A c h hl m.cells m.raw.A m.raw.l m.raw.c (Hu.r45 0 _ rfl) Hu.raw.rd (by have:=Hu.raw.big;omega)
 ·exact jDe w base l A c h hl m.cells m.size (Hu.r45 1 _ rfl)
 ·exact jDd w base l A c h hl m.cells m.note.cells _ Hu.n47 (by rw[MNote.len Hu.note.head];kernel_rfl) (fun W ho=>xd W m.note (RJ W ho).note) (fun r e=>by have:=jAX Hu.note.head e;omega)
 ·exact jDc w base l A c h hl m.cells m.note Hu.n47 Hu.note Hu.hd.1 Hu.hd.2 (fun r e=>by have:=jAX Hu.note.head e;omega)
 ·exact jDb w base l A c h hl m.cells m.inc.cells _ Hu.i146 (by kernel_rfl) (fun W ho=>jAL W m.inc (RJ W ho).inc) (fun r e=>by have:=jH5 (x:=m.inc.data) Hu.inc.dgs e;omega)
 ·exact jDa w base l A c h hl m.cells m.con.cells _ Hu.c149 (by kernel_rfl) (fun W ho=>jAN W m.con (RJ W ho).con) (fun r e=>by have:=jIH (x:=m.con.data) Hu.con.dgs e;omega)
 ·exact jBY w base l A c h hl m.cells (m.idx.cells m.iA m.iC) _ Hu.x152 (by rw[Hu.idx.len];exact jd) (fun W ho=>jAM W m.idx m.iA m.iC Hu.idx (Hu.rdI.old ho)) (fun r e=>by have:=jIA Hu.idx e;omega)
 ·exact jBX w base l A c h hl m.cells m.pie.cells _ Hu.p220 (by rw[MPiece.len Hu.pie.before];exact jj) (fun W ho=>jAI W m.pie (RJ W ho).pie) (fun r e=>by have:=jDz (x:=m.pie.data) Hu.pie.before Hu.rep.pfs e;omega)
 ·exact jBW w base l A c h m.cells
theorem jFs(w:World)(op:Int)(cs:List Value)(er:Int)(h0:cs[0]? =some (.int .i64 er))(GH:¬(1<=op/\op<=12/\0<=er/\er<=65535)):
  Calls prog 12 #[.int .i64 op,.agg cs.toArray] w (MaybeB w none):=by
 have hb:=jQ2 w 63 cs.toArray;have hc:=hb.at_ 0 (by rw[jJ7];exact h0);have Ho:=G ((jQ0 NoX w).alloc (.cells cs.toArray 63));clear hb h0;by_cases h1:1<=op
 ·have Ns:¬op<1:=(by omega);by_cases h2:op<=12
  ·have Nx:¬(12:Int)<op:=(by omega);by_cases h3:0<=er
   ·have LD:¬er<0:=(by omega);have h4:(65535:Int)<er:=(by omega);clear GH;go_enter func12,ntmps12;go_wp2;go_ret;exact .inr ⟨rfl,rfl,Ho.out⟩
   ·have LD:er<0:=(by omega);clear GH;go_enter func12,ntmps12;go_wp2;go_ret;exact .inr ⟨rfl,rfl,Ho.out⟩
  ·have Nx:(12:Int)<op:=(by omega);clear GH;go_enter func12,ntmps12;go_wp2;go_ret;exact .inr ⟨rfl,rfl,Ho.out⟩
 ·have Ns:op<1:=(by omega);clear GH;go_enter func12,ntmps12;go_wp2;go_ret;exact .inr ⟨rfl,rfl,Ho.out⟩
theorem jDQ(w:World)(op:Nat)(m:MReply)(X:Nat->Prop)(Hu:m.Ok w X)(NS:1<=op/\op<=12)(FZ:0<=m.err/\m.err<=65535)(WW:(m.hap.flatMap zM).length<=9000000000):
  Calls prog 12 #[.int .i64 (op:Int),.agg m.cells.toArray] w (MaybeB w (qR op m.data)):=by
 have HR:=G (show qR op m.data=(xk op m.data).map (be 2 m.err.toNat++ ·)by
  rw[qR,jJ6 ⟨by omega,by omega,FZ.1,FZ.2⟩];rfl)
 have HB:=G (show xk op m.data=if m.err=0 then(jBL op m.data).bind fun l=>if 2+l.length<=4194304 then some l else none else if op<=2/\JD m.err=false then yo [m.pa,m.pb,m.pc]else some []from rfl);have Hb:=G (jQ2 w 63 m.cells.toArray);have Ho:=G ((jQ0 NoX w).alloc (.cells m.cells.toArray 63));have hc:=Hb.out.at_ 0 (v:=.int .i64 m.err) rfl;have Fh:=G (show(prog.info? 63).map (·.size)=some m.cells.length by rw[Hu.len];exact kj);have HK:=G (fun W base (ho:Old w W) (hb:w.heap.size<=base)=>Hu.turn (X' :=From base) ho (fun _ _ f=>f.elim) (fun b Nj h=>by have:base<=b:=h;omega));have S0:=G (show m.cells[0]? =some (.int .i64 m.err)from rfl);have S1:=G (show m.cells[1]? =some (.int .i64 m.pa)from rfl);have S2:=G (show m.cells[2]? =some (.int .i64 m.pb)from rfl);have S3:=G (show m.cells[3]? =some (.int .i64 m.pc)from rfl);have HF:=G (fun W base l A c h Ff hl hk=>Xu W base l A c h Ff hl op NS m hk WW);generalize qR op m.data=RB at*;generalize jBL op m.data=AB at*;generalize xk op m.data=BB at*;clear Hu WW;obtain⟨e0,e1⟩:=FZ;obtain⟨o0,o1⟩:=NS;have n1:¬(op:Int)<1:=(by omega);have n2:¬(12:Int)<(op:Int):=(by omega);have n3:¬m.err<0:=(by omega);have n4:¬(65535:Int)<m.err:=(by omega);have em:(m.err% 18446744073709551616).toNat=m.err.toNat:=(by rw[Int.emod_eq_of_lt e0 (by omega)]);have Hem:=G em;clear em;generalize m.err=er at*;generalize m.cells=cs at*;go_enter func12,ntmps12;go_wp2_with fail;have hM:=Hb.out.lt;generalize w.alloc _=W at*;refine(jAd W er).mono ?_;rintro e w1 ⟨B1,d1,rfl,r1,a1,o1'⟩;rw[Hem.out]at r1⊢;have NP:=G (Ho.out.old o1');have Gt:=G (Hb.out.old o1');have HE:=G (show BRow (w1.alloc (.cells #[] 5)) w1.heap.size ([]:LB) (some ⟨w1.heap.size,0,none⟩) 0 from BRow.new w1 [] (by simp));have Wn:=G (r1.old ((jQ0 NoX w1).alloc (.cells #[] 5)));have HbE:=G (Gt.out.alloc (.cells #[] 5));have HOE:=G (NP.out.alloc (.cells #[] 5));have NN:=G (show w.heap.size<=w1.heap.size from NP.out.size);clear r1 a1 o1' hc Hb Ho;go_upto_region 5 with(first|(at_builtin;refine ja (.tmp 27) (.tmp 28) (l:=[]) HE.out Wn.out (by rw[jC];decide) rfl rfl rfl rfl ?_;intro l2 A2 c2 w2 e2 h2)|fail);have Hx:=G (HbE.out.grew HE.out h2 (by decide));have MH:=G (From.old HOE.out (h2.from_ HE.out) NN.out);have E2:=G (show l2=be 2 er.toNat by rw[e2.out];rfl);have R2:=G h2.row;have L2:=G (show l2.length=2 by rw[E2.out,jC]);have N2:=G (show l2≠ []from fun e=>by have:=L2.out;rw[e]at this;exact absurd this (by decide));generalize w1.heap.size=base at*;clear h2 e2 HE Wn HbE HOE NP Gt;have hc:=Hx.out.at_ 0 (by rw[jJ7];exact S0.out);have FS:=Hx.out.at_ 1 (by rw[jJ7];exact S1.out);have Gz:=Hx.out.at_ 2 (by rw[jJ7];exact S2.out);have WN:=Hx.out.at_ 3 (by rw[jJ7];exact S3.out);have MD:=G Hx.out.range;by_cases hz:er=0
 ·rw[jJ6 hz]at HB;rw[HB.out]at HR;have b0:(er !=0)=false:=(by simpa using hz);have HC:=G (HF.out w2 base l2 A2 c2 R2.out N2.out (by rw[L2.out];decide) (HK.out w2 base MH.out NN.out));clear HB FS Gz WN HF HK hz;go_wp2_with (first|((with_reducible refine jT 63 (.tmp 3) ?_);refine jK rfl 63 (.tmp 3) rfl w.heap.size 0 rfl cs _ MD.out underlying63 rfl Fh.out ?_)|((with_reducible refine ji 63 (.tmp 3) ?_);refine jK rfl 63 (.tmp 3) rfl w.heap.size 0 rfl cs _ MD.out underlying63 rfl Fh.out ?_)|fail);refine HC.out.mono ?_;clear HC MD;rintro e w3 (⟨r,out,A3,c3,e3,e4,rfl,hG⟩|⟨e3,rfl,hk⟩)
  ·have Lk:=G (From.old MH.out (hG.from_ R2.out) NN.out);have E4:=G (show out=be 2 er.toNat++r by rw[e4.out,E2.out]);have HL:=G (show out.length=2+r.length by rw[E4.out,jJ4,jC]);have G3:=G hG.row;have E3:=G e3;clear hG e4 e3;by_cases Fj:2+r.length<=4194304
   ·have Nj:¬(4194304:Int)<(out.length:Int):=by have:=HL.out;omega
    have HZ:=G (MaybeB.some_ (w:=w) (show RB=some (be 2 er.toNat++r)by rw[HR.out,E3.out,jL2,jJ6 Fj];rfl) E4.out (fun e=>by have:=congrArg List.length e;rw[jJ4,jC]at this;simp at this) G3.out NN.out Lk.out);clear Fj;go_wp2;go_ret;exact HZ.out
   ·have Nj:(4194304:Int)<(out.length:Int):=by have:=HL.out;omega
    have hY:=G (show RB=none by rw[HR.out,E3.out,jL2,jJ5 Fj];rfl);clear Fj;go_wp2;go_ret;exact .inr ⟨hY.out,rfl,Lk.out⟩
  ·have Lk:=G (From.old MH.out hk NN.out);have hY:=G (show RB=none by rw[HR.out,e3];rfl);clear hk e3;go_wp2;go_ret;exact .inr ⟨hY.out,rfl,Lk.out⟩
 ·rw[jJ5 hz]at HB;have b0:(er !=0)=true:=(by simpa using hz);clear HF MD hz;have Rp:=G (show BB=some []->MaybeB w RB (.returned (.slice A2 l2.length c2)) w2 from fun e=>MaybeB.some_ (show RB=some (be 2 er.toNat++[])by rw[HR.out,e];rfl) (by rw[E2.out,List.append_nil]) (fun e=>by have:=congrArg List.length e;rw[jJ4,jC]at this;simp at this) R2.out NN.out MH.out);by_cases h2:op<=2
  case neg=>
   have g2:(2:Int)<(op:Int):=(by omega);have HZ:=G (Rp.out (by rw[HB.out,jJ5 (fun h=>h2 h.1)]));clear h2;go_wp2;go_ret;exact HZ.out
  have g2:¬(2:Int)<(op:Int):=(by omega);have HA:=G (fun W=>xl W er);go_wp2_with fail;refine(HA.out _).mono ?_;rintro e w2b ⟨rfl,rfl⟩;have By:decide (er=240\/er=241\/er=242)=JD er:=rfl;rw[By];clear By;cases NW:JD er with
  |true=>
   have HZ:=G (Rp.out (by rw[HB.out,jJ5 (fun h=>by rw[NW]at h;exact absurd h.2 (by decide))]));clear NW;go_wp2;go_ret;exact HZ.out
  |false=>
   rw[jJ6 ⟨h2,NW⟩]at HB;rw[HB.out]at HR;clear NW HB h2 Rp HA;have Ti:=G (jQ2 w2 3 #[.int .i64 m.pa,.int .i64 m.pb,.int .i64 m.pc]);have RI:=G (R2.out.alloc (.cells #[.int .i64 m.pa,.int .i64 m.pb,.int .i64 m.pc] 3));have OI:=G (MH.out.alloc (.cells #[.int .i64 m.pa,.int .i64 m.pb,.int .i64 m.pc] 3));generalize m.pa=a at*;generalize m.pb=b at*;generalize m.pc=c at*;go_wp2;clear hc FS Gz WN;generalize w2.alloc _=W3 at*;go_loopw [5,7] (fun v i wr=>∃(k:Nat) (out:LB) (A' :OA) (c' :Nat),k<=3/\i=.int .i64 k/\v=.slice A' out.length c' /\(([a,b,c].take k).all fun n=>decide (0<=n/\n<=4294967295))=true/\out=l2++(([a,b,c].take k).flatMap fun n=>be 4 n.toNat)/\Grew W3 base A2 wr out A' c') (fun _ i _=>3-(intOf i).toNat)
   case atStart=>exact⟨0,l2,A2,c2,by omega,rfl,rfl,rfl,by simp,Grew.refl_ RI.out⟩
   case round=>
    obtain⟨k,out,A',c',hk,rfl,rfl,Fp,G0,hG⟩:=hrel;have GF:=G G0;have HG:=G hG;have HOr:=G (From.old OI.out (hG.from_ RI.out) NN.out);have Fi:=G (show out.length<=20 by rw[G0,jJ4,YP,jK9,L2.out];simp only[jK6,List.length_nil];omega);by_cases hM:k<3
    ·have GY:k< [a,b,c].length:=hM;have Fw:=(Ti.out.grew RI.out hG (by decide)).at_ k (v:=.int .i64 [a,b,c][k]) (by
      have:k=0\/k=1\/k=2:=(by omega);rcases this with rfl|rfl|rfl<;>rfl)
     have Fm:=G (show l2++(([a,b,c].take (k+1)).flatMap fun n=>be 4 n.toNat)=out++be 4 [a,b,c][k].toNat by
      rw[G0,kD (fun n:Int=>be 4 n.toNat) [a,b,c] k GY];simp)
     have Fv:=G (show(([a,b,c].take (k+1)).all fun n=>decide (0<=n/\n<=4294967295))=decide (0<=[a,b,c][k]/\ [a,b,c][k]<=4294967295)by
      rw[jK2 GY,List.all_append,Fp];simp)
     have hY:=G (show¬(0<=[a,b,c][k]/\ [a,b,c][k]<=4294967295)->RB=none from fun hn=>by
      rw[HR.out,yo,jJ5]
      ·rfl
      ·intro h;rw[List.all_eq_true]at h;exact hn (by simpa using h _ (jL6 GY)))
     clear hG G0 Fp;generalize [a,b,c][k]=y at*;have b1:(0:Int)<=(k:Int):=(by omega);have b2:(k:Int)<3:=(by omega);have b3:(k:Int).toNat=k:=(by omega);by_cases hy:0<=y/\y<=4294967295
     ·have C9:=G (Fv.out.trans (jK5 hy));obtain⟨Lm,LM⟩:=hy;have LP:¬y<0:=(by omega);have SM:¬(4294967295:Int)<y:=(by omega);have Hym:=G (show(y% 18446744073709551616).toNat=y.toNat by rw[Int.emod_eq_of_lt Lm (by omega)]);go_wp2_with fail;refine(jAc wr y).mono ?_;rintro e w4 ⟨B4,d4,rfl,r4,a4,o4⟩;rw[Hym.out]at r4⊢;have R4:=G r4;have O4:=G o4;clear r4 a4 o4 Fw;go_wp2_with (first|(at_builtin;refine ja (.tmp 67) (.tmp 72) (HG.out.row.old O4.out) R4.out (by rw[jC];have:=Fi.out;omega) rfl rfl rfl rfl ?_;intro l5 A5 c5 w5 e5 h5)|fail);have G5:=G (HG.out.trans (Grew.old O4.out h5));have E5:=G (show l5=l2++(([a,b,c].take (k+1)).flatMap fun n=>be 4 n.toNat)by rw[e5.out,Fm.out]);clear e5 h5;go_roundw
      case rel=>exact⟨k+1,l5,A5,c5,by omega,by go_num,rfl,C9.out,E5.out,G5.out⟩
      case measure=>simp[intOf];omega
     ·have HZ:=G (show MaybeB w RB (.returned (.slice none 0 0)) wr from .inr ⟨hY.out hy,rfl,HOr.out⟩);by_cases Lm:y<0
      ·go_wp2;go_ret;exact HZ.out
      ·have LM:(4294967295:Int)<y:=(by omega);go_wp2;go_ret;exact HZ.out
    ·obtain rfl:k=3:=(by omega);have PY:([a,b,c].all fun n=>decide (0<=n/\n<=4294967295))=true:=Fp;have HZ:=G (show MaybeB w RB (.returned (.slice A' out.length c')) wr from
      MaybeB.some_ (show RB=some (be 2 er.toNat++([a,b,c].flatMap fun n=>be 4 n.toNat))by rw[HR.out,yo,jJ6 PY];rfl) (by rw[G0,E2.out];rfl) (fun e=>by have:=congrArg List.length e;rw[jJ4,jC]at this;simp at this) HG.out.row NN.out HOr.out)
     clear hG G0 Fp PY;go_wp2;go_ret;exact HZ.out
theorem jAH(w:World)(op:Int)(m:MReply)(X:Nat->Prop)(Hu:m.Ok w X)(WW:(m.hap.flatMap zM).length<=9000000000):
  Calls prog 12 #[.int .i64 op,.agg m.cells.toArray] w (MaybeB w (vr op m.data)):=by
 rw[<-jDk];by_cases h:1<=op/\op<=12/\0<=m.err/\m.err<=65535
 ·obtain⟨n,rfl⟩:=Int.eq_ofNat_of_zero_le (show 0<=op by omega);exact jDQ w n m X Hu ⟨by omega,by omega⟩ h.2.2 WW
 ·have:qR op m.data=none:=jJ5 h;rw[this];exact jFs w op m.cells m.err MReply.s0 h
end Go.Proofs.YtnaolhjbapgjgaaGreat

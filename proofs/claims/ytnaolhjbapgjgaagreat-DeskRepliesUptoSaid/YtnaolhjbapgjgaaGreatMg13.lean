import Derived.Test.YtnaolhjbapgjgaaGreatMg12
set_option maxRecDepth 100000
set_option maxHeartbeats 6400000
namespace Go.Proofs.YtnaolhjbapgjgaaGreat
open Go.Proofs.Tryz
open Go.RowKit
structure MTexts where
 l:List BA
 A:OA
 c:Nat
def MTexts.sl(m:MTexts):Value:=.slice m.A m.l.length m.c
structure MTexts.Ok(w:World)(X:Nat->Prop)(m:MTexts):Prop where
 rd:Rd w 1 m.A m.l.length (m.l.map sv)
 av:Av X m.l.length m.A
 cap:m.l.length<=m.c
 small:∀k,k<m.l.length->(m.l.getD k ByteArray.empty).size<=2147483647
 big:m.l.length<=1000000000000
structure MBind where
 name:BA
 v:MVal
def MBind.cells(m:MBind):List Value:=.string m.name::m.v.cells
structure MBind.Ok(w:World)(X:Nat->Prop)(m:MBind):Prop where
 v:m.v.Ok w X
 small:m.name.size<=2147483647
structure MCase where
 name:BA
 type_:BA
 count:Int
 chain:LB
 values:List MBind
 vA:OA
 vC:Nat
 open_:MTexts
 closed:MTexts
 reached:MTexts
def MCase.cells(m:MCase):List Value:=[.string m.name,.string m.type_,.int .i64 m.count]++(jA m.chain++[.slice m.vA m.values.length m.vC,m.open_.sl,m.closed.sl,m.reached.sl])
structure MCase.Ok(w:World)(X:Nat->Prop)(m:MCase):Prop where
 chain:m.chain.length=32
 values:∀v∈m.values,MBind.Ok w X v
 rdV:Rd w 5 m.vA m.values.length (m.values.flatMap MBind.cells)
 avV:Av X m.values.length m.vA
 open_:m.open_.Ok w X
 closed:m.closed.Ok w X
 reached:m.reached.Ok w X
 big:m.values.length<=1000000000000/\m.type_.size<=2147483647/\m.name.size<=2147483647
section
variable{w w1:World}{g:Nat}{r r1:Option Nat}{X:Nat->Prop}
theorem KF.val{m:MVal}(h:KF w g r w1 r1)(k:m.Ok w (WX g r)):m.Ok w1 (WX g r1):=k.step h.kp h.fr
theorem KF.texts{m:MTexts}(h:KF w g r w1 r1)(k:m.Ok w (WX g r)):m.Ok w1 (WX g r1):=⟨h.rd k.rd k.av,h.av k.rd (by decide) k.av,k.cap,k.small,k.big⟩
theorem KF.bind_{m:MBind}(h:KF w g r w1 r1)(k:m.Ok w (WX g r)):m.Ok w1 (WX g r1):=⟨h.val k.v,k.small⟩
theorem KF.case_{m:MCase}(h:KF w g r w1 r1)(k:m.Ok w (WX g r)):m.Ok w1 (WX g r1):=
 ⟨k.chain,fun v hv=>h.bind_ (k.values v hv),h.rd k.rdV k.avV,h.av k.rdV (by decide) k.avV,h.texts k.open_,h.texts k.closed,h.texts k.reached,k.big⟩
end
structure Cas where
 name:BA
 type_:BA
 count:Int
 chain:LB
 values:List (BA×Val)
 open_:List BA
 closed:List BA
 reached:List BA
def MBind.data(m:MBind):BA×Val:=(m.name,m.v.v)
def MCase.data(m:MCase):Cas:=⟨m.name,m.type_,m.count,m.chain,m.values.map MBind.data,m.open_.l,m.closed.l,m.reached.l⟩
def vu(b:BA×Val):LB:=lp 4 (sb b.1)++yX b.2
def zA(b:BA×Val):Bool:=decide (b.1.size<=4194304/\jS b.2=0)
def vz(c:Cas):LB:=lp 4 (sb c.type_)++(be8 c.count++(c.chain++(be 1 c.values.length++c.values.flatMap vu)))
def three(a b c:Option LB):Option LB:=a.bind fun x=>b.bind fun y=>c.map fun z=>x++(y++z)
def YX(c:Cas):Option LB:=
 if c.type_.size<=4194304/\c.values.length<=255/\c.values.all zA=true then(three (kg c.open_) (kg c.closed) (kg c.reached)).map fun l=>vz c++l else none
theorem jEq(l:List (BA×Val)):∀k,k<=l.length->(l.take k).all zA=true->((l.take k).flatMap vu).length<=k*4294308:=by
 intro k
 induction k with
 |zero=>intro _ _;simp
 |succ k ih=>
  intro hk h;have GY:k<l.length:=(by omega);rw[jK2 GY,List.all_append,Bool.and_eq_true]at h;have h1:=ih (by omega) h.1;have h2:=h.2;simp only[List.all_cons,List.all_nil,Bool.and_true,zA,decide_eq_true_eq]at h2;have h3:=Zz _ h2.2;rw[kD vu l k GY,jJ4,vu,jJ4,jV,jH];omega
theorem jh(pre post:List Value)(d:LB)(hd:d.length=32)(n i:Nat)(hn:pre.length+32=n):(pre++(jA d++post))[n+i]? =post[i]? :=by
 rw[<-jK1,List.getElem?_append_right (by rw[jJ4,jB,hd];omega),jJ4,jB,hd]
 congr 1
 omega
theorem jCT(w:World)(g:Nat)(r:Option Nat)(bs:LB)(m:MCase)(hW:Wr w g r bs)(hl:bs.length<=200000000000)(Hu:m.Ok w (WX g r)):
  Calls prog 55 #[.pointer (some ⟨g,0,none⟩),.agg m.cells.toArray] w (LayP w g r bs (YX m.data) 6000000000):=by
 obtain⟨hbV,hbT,_⟩:=Hu.big;have Hl:=G hl;have s1:m.cells[1]? =some (.string m.type_):=rfl;have s2:m.cells[2]? =some (.int .i64 m.count):=rfl;have S3:=G (show Sub m.cells 3 (jA m.chain)from Sub.mid_ _ _ _ 3 rfl);have s35:m.cells[35]? =some (.slice m.vA m.values.length m.vC):=jh [.string m.name,.string m.type_,.int .i64 m.count] _ m.chain Hu.chain 35 0 rfl;have s36:m.cells[36]? =some m.open_.sl:=jh [.string m.name,.string m.type_,.int .i64 m.count] _ m.chain Hu.chain 35 1 rfl;have s37:m.cells[37]? =some m.closed.sl:=jh [.string m.name,.string m.type_,.int .i64 m.count] _ m.chain Hu.chain 35 2 rfl;have s38:m.cells[38]? =some m.reached.sl:=jh [.string m.name,.string m.type_,.int .i64 m.count] _ m.chain Hu.chain 35 3 rfl;have Fh:=G (show(prog.info? 40).map (·.size)=some (jA m.chain).length by rw[jB,Hu.chain];exact jO);have Hb:=G (jQ2 w 43 m.cells.toArray);have Ho:=G ((jQ0 NoX w).alloc (.cells m.cells.toArray 43));have Hx:=G (yx hW (jL3 w.heap.size));have Fe:=G Hu;have Sv:=G ((KF.of Ho.out).case_ Hu);have HS:=G (And.intro s1 (And.intro s2 (And.intro s35 (And.intro s36 (And.intro s37 s38)))));clear s1 s2 s35 s36 s37 s38 Hu hl;generalize m.cells=cs at*;go_enter func55,ntmps55;have FS:=Hb.out.at_ 1 (by rw[jJ7];exact HS.out.1);have Ly:=Hb.out.at_ 35 (by rw[jJ7];exact HS.out.2.2.1);have hY:=G (show¬(m.type_.size<=4194304/\m.values.length<=255/\(m.values.map MBind.data).all zA=true)->YX m.data=none from fun h=>by
  rw[YX,jJ5];simpa [MCase.data]using h)
 have FT:=G (show m.type_.size<=4194304/\m.values.length<=255/\(m.values.map MBind.data).all zA=true->YX m.data=(three (kg m.open_.l) (kg m.closed.l) (kg m.reached.l)).map fun l=>vz m.data++l from fun h=>by
  rw[YX,jJ6 (by simpa [MCase.data]using h)];rfl)
 have Tg:=G (show vz m.data=lp 4 (sb m.type_)++(be8 m.count++(m.chain++(be 1 m.values.length++(m.values.map MBind.data).flatMap vu)))by simp[vz,MCase.data]);generalize YX m.data=CB at*;generalize vz m.data=CH at*;have Nt:=Rd.arr_new (w.alloc (.cells cs.toArray 43)) 9 [.string m.type_];have WB:=Av.new (n:=1) (hW.old Ho.out);rw[show(w.alloc (.cells cs.toArray 43)).heap.size=w.heap.size+1 by simp]at Nt WB;have Re:=G Nt;have Rx:=G WB;clear Nt WB;go_wp2_with fail;refine(YT _ g r bs _ 1 [m.type_] ((hW.old Ho.out).old ((jQ0 _ _).alloc _)) (by have:=Hl.out;omega) Re.out Rx.out (by simp) (fun j hj=>by
  simp only[jK6,List.length_nil]at hj;obtain rfl:j=0:=(by omega);exact hbT)).mono ?_
 intro e w1 ht;have SZ:=KF.of (g:=g) (r:=r) ((jQ0 NoX (w.alloc (.cells cs.toArray 43))).alloc (.cells #[.string m.type_] 9));rcases ht.one with⟨rfl,hs,HU⟩|⟨rfl,hs,HU⟩
 ·obtain⟨r1,FF,f1⟩:=HU.kf;have F:=G (SZ.trans f1);clear ht HU f1 SZ FS Ly Re Rx;generalize w.alloc _=W at*;have GC:=F.out.blk Hb.out Hx.out;have Ly:=GC.at_ 35 (by rw[jJ7];exact HS.out.2.2.1);by_cases Gf:m.values.length<=255
  ·have SN:¬((255:Int)<(m.values.length:Int)):=(by omega);have Gz:=GC.at_ 2 (by rw[jJ7];exact HS.out.2.1);have NC:=G FF;have Rl:=G (show(bs++lp 4 (sb m.type_)).length<=300000000000 by
    have:=Hl.out;rw[jJ4,jV,jH];omega)
   clear FF GC;go_wp2_with fail;refine(Jk _ g r1 _ _ 1 1 [m.count] rfl (NC.out.old ((jQ0 _ _).alloc _)) (by have:=Rl.out;omega) (Rd.arr_new _ _ [.int .i64 m.count]) (Av.new NC.out) (by omega)).mono ?_;rintro e w2 ⟨rfl,HU⟩;obtain⟨r2,GE,f2⟩:=HU.kf;have F2:=G (F.out.trans ((KF.of ((jQ0 NoX w1).alloc _)).trans f2));have LK:=G GE;clear HU f2 GE Gz Ly F NC;rw[show xu [m.count]=be8 m.count by simp[xu]]at LK;have FG:=F2.out.blk Hb.out Hx.out;have Fn:=G (S3.out.range FG);go_wp2_with (first|refine jK rfl 40 (.tmp 25) rfl w.heap.size 3 rfl (jA m.chain) _ Fn.out underlying40 rfl Fh.out ?_ |refine VK rfl (.tmp 26) rfl m.chain Fe.out.chain rfl ?_ |fail);refine(yg _ g r2 _ _ 1 1 [m.chain] rfl (fun d hd=>by rw[List.mem_singleton.1 hd];exact Fe.out.chain) (LK.out.old ((jQ0 _ _).alloc _)) (by have:=Rl.out;rw[jJ4,jG];omega) (by omega) (by
    have:=Rd.row_new w2 40 32 1 (jA m.chain) (by rw[jB,Fe.out.chain]);simpa using this) (Av.new LK.out)).mono ?_
   rintro e w3 ⟨rfl,HU⟩;obtain⟨r3,G8,f3⟩:=HU.kf;have F3:=G (F2.out.trans ((KF.of ((jQ0 NoX w2).alloc _)).trans f3));rw[List.flatten_singleton]at G8;have Mf:=G G8;clear HU f3 G8 FG Fn F2 LK;have L9:=F3.out.blk Hb.out Hx.out;have Ly:=L9.at_ 35 (by rw[jJ7];exact HS.out.2.2.1);have e8:IntKind.u8.wrap (m.values.length:Int)=m.values.length:=IntWalk.u8_in _ (by omega);have Td:=G (show(bs++lp 4 (sb m.type_)++be8 m.count++m.chain).length<=310000000000 by
    have:=Rl.out;rw[jJ4,jJ4,jG,Fe.out.chain];omega)
   clear L9;go_wp2_with fail;refine(kY _ g r3 _ (m.values.length:Int) (by omega) (by omega) Mf.out (by have:=Td.out;omega)).mono ?_;rintro e w4 ⟨rfl,HU⟩;obtain⟨r4,M2,f4⟩:=HU.kf;have F4:=G (F3.out.trans f4);rw[jL1]at M2;have DV:=G (F4.out.step M2);clear HU f4 M2 Ly F3 Mf;have Q4:=F4.out.blk Hb.out Hx.out;have Ly:=Q4.at_ 35 (by rw[jJ7];exact HS.out.2.2.1);generalize L0:bs++lp 4 (sb m.type_)++be8 m.count++m.chain++be 1 m.values.length=pp at*;have RK:=G L0;have St:=G (show pp.length<=320000000000 by
    have:=Td.out;rw[<-L0,jJ4,jC];omega)
   clear L0 Q4;go_wp2;go_loopw [38] (fun i wr=>∃k:Nat,k<=m.values.length/\i=.int .i64 k/\((m.values.map MBind.data).take k).all zA=true/\WStep W g r wr (pp++((m.values.map MBind.data).take k).flatMap vu)) (fun i _=>m.values.length-(intOf i).toNat)
   case atStart=>exact⟨0,by omega,rfl,rfl,by simpa using DV.out⟩
   case round=>
    clear Ly;obtain⟨k,hk,rfl,Fp,HU⟩:=hrel;have TM:k<=(m.values.map MBind.data).length:=(by simpa using hk);have hlen:=jEq _ k TM Fp;have LU:=G (show(pp++((m.values.map MBind.data).take k).flatMap vu).length<=330000000000 by
     have:=St.out;rw[jJ4];omega)
    by_cases hM:k<m.values.length
    ·obtain⟨r',Ml,f'⟩:=HU.kf;have Gm:=f'.case_ Sv.out;obtain⟨b,o,N7,FK⟩:=Gm.rdV.elem (f:=MBind.cells) (fun _ _=>rfl) rfl hM;have TD:k<(m.values.map MBind.data).length:=(by simpa using hM);have TT:(m.values.map MBind.data)[k]=m.values[k].data:=(by simp);have Fm:=G (show pp++((m.values.map MBind.data).take (k+1)).flatMap vu=((pp++((m.values.map MBind.data).take k).flatMap vu)++lp 4 (sb m.values[k].name))++yX m.values[k].v.v by
      rw[kD vu _ k TD,TT,vu,MBind.data];simp)
     have Fv:=G (show((m.values.map MBind.data).take (k+1)).all zA=decide (m.values[k].name.size<=4194304/\jS m.values[k].v.v=0)by
      rw[jK2 TD,List.all_append,Fp,TT];simp[zA,MBind.data])
     have LH:=G (show¬(m.values[k].name.size<=4194304/\jS m.values[k].v.v=0)->CB=none from fun GH=>hY.out (fun h=>by
      have h1:=h.2.2;rw[List.all_eq_true]at h1;have h2:=h1 _ (jL6 TD);rw[TT]at h2;simp only[zA,MBind.data]at h2;exact GH (of_decide_eq_true h2)))
     have Ng:=G (show∃x,pp++((m.values.map MBind.data).take k).flatMap vu=bs++x from⟨lp 4 (sb m.type_)++(be8 m.count++(m.chain++(be 1 m.values.length++((m.values.map MBind.data).take k).flatMap vu))),by rw[<-RK.out];simp only[jK1]⟩);have GU:=Gm.values _ (jL6 hM);generalize m.values[k]=y at*;obtain⟨name,⟨⟨vk,vn,vt,vs⟩,mA,mc⟩⟩:=y;have M0:=GU.small;have q0:=FK 0 _ rfl;have q1:=FK 1 _ rfl;have q2:=FK 2 _ rfl;have q3:=FK 3 _ rfl;have q4:=FK 4 _ rfl;simp only[Nat.add_zero]at q0 q1 q2 q3 q4 Fm Fv LH M0;generalize pp++((m.values.map MBind.data).take k).flatMap vu=cc at*;have Il:=G GU.v;have F:=G f';have O6:=N7;clear Fp FK hlen Gm GU TT HU f' N7;rw[O6];have b1:(0:Int)<=(k:Int):=(by omega);have b2:(k:Int)<(m.values.length:Int):=(by omega);have b3:(k:Int).toNat=k:=(by omega);have b5:(k:Int)<=255:=(by omega);have ho:=(jQ0 NoX wr).alloc (.cells #[.string name,.int .i64 vk,.int .i64 vn,.string vt,.slice mA vs.length mc] 108);have NH:=jQ2 wr 108 #[.string name,.int .i64 vk,.int .i64 vn,.string vt,.slice mA vs.length mc];have Nt:=Rd.arr_new (wr.alloc (.cells #[.string name,.int .i64 vk,.int .i64 vn,.string vt,.slice mA vs.length mc] 108)) 9 [.string name];have WB:=Av.new (n:=1) (Ml.old ho);rw[show(wr.alloc (.cells #[.string name,.int .i64 vk,.int .i64 vn,.string vt,.slice mA vs.length mc] 108)).heap.size=wr.heap.size+1 by simp]at Nt WB;have Re:=G Nt;have Rx:=G WB;have Sw:=G ho;have CF:=G NH;have Hxb:=G (yx Ml (jL3 wr.heap.size));have HW' :=G Ml;clear Nt WB ho NH Ml O6;go_wp2_with fail;refine(YT _ g r' cc _ 1 [name] ((HW'.out.old Sw.out).old ((jQ0 _ _).alloc _)) (by have:=LU.out;omega) Re.out Rx.out (by simp) (fun j hj=>by
      simp only[jK6,List.length_nil]at hj;obtain rfl:j=0:=(by omega);exact M0)).mono ?_
     intro e w5 ht;have SZ:=KF.of (g:=g) (r:=r') (Sw.out.alloc (.cells #[.string name] 9));rcases ht.one with⟨rfl,hs,HU⟩|⟨rfl,hs,HU⟩
     ·obtain⟨r5,NI,f5⟩:=HU.kf;have Nr:=((CF.out.alloc (.cells #[.string name] 9))).kp f5.kp Hxb.out;have d1:=Nr.at_ 1 (v:=.int .i64 vk) rfl;have d2:=Nr.at_ 2 (v:=.int .i64 vn) rfl;have d3:=Nr.at_ 3 (v:=.string vt) rfl;have d4:=Nr.at_ 4 (v:=.slice mA vs.length mc) rfl;have Fx:=G (SZ.trans f5);have F5:=G (F.out.trans Fx.out);have GU:=Fx.out.val Il.out;have Eq:=G (show(cc++lp 4 (sb name)).length<=340000000000 by
       have:=LU.out;rw[jJ4,jV,jH];omega)
      have Hs:=G hs;clear ht HU f5 SZ Nr hs Re Rx q0 q1 q2 q3 q4;by_cases hR:jS ⟨vk,vn,vt,vs⟩=0
      ·have HP:=G (jHm ⟨vk,vn,vt,vs⟩ mA mc g r5 _ _ NI (jL4 Eq.out (by decide)) GU.rd GU.av GU.cap GU.big hR);simp only[vV]at HP;clear GU NI;go_wp2_with fail;refine HP.out.mono ?_;rintro e w6 ⟨rfl,HU⟩;obtain⟨r6,MB,f6⟩:=HU.kf;have Fq:=G ((F5.out.trans f6).step MB);have HR:=G hR;clear HU f6 MB d1 d2 d3 d4 HP hR;go_wp2;go_roundw
       case rel=>exact⟨k+1,by omega,by go_num,by rw[Fv.out];exact jK5 ⟨Hs.out,HR.out⟩,by rw[Fm.out];exact Fq.out⟩
       case measure=>simp[intOf];omega
      ·have HP:=G (jF4 ⟨vk,vn,vt,vs⟩ mA mc g w5 GU.rd GU.cap GU.big hR);simp only[vV]at HP;have DB:(jS ⟨vk,vn,vt,vs⟩ !=0)=true:=(by simpa using hR);have HC:=G (LH.out (fun h=>hR h.2));clear GU LH Fv;generalize jS ⟨vk,vn,vt,vs⟩=z at DB HP;go_wp2_with fail;refine HP.out.mono ?_;rintro e w6 ⟨rfl,FN⟩;have HZ:=G (show LayP w g r bs CB 6000000000 (.returned (.bool false)) w6 from by
        obtain⟨x,hx⟩:=Ng.out;rw[hx,jK1]at NI;exact .inr ⟨HC.out,rfl,_,WStep.after Ho.out ((F5.out.old FN).step (NI.old FN))⟩)
       clear FN NI d1 d2 d3 d4 HP;go_wp2;go_ret;exact HZ.out
     ·have HZ:=G (show LayP w g r bs CB 6000000000 (.returned (.bool false)) w5 from by
       obtain⟨r5,NI,f5⟩:=HU.kf;obtain⟨x,hx⟩:=Ng.out;rw[hx]at NI;exact .inr ⟨LH.out (fun h=>by omega),rfl,x,WStep.after Ho.out ((F.out.trans (SZ.trans f5)).step NI)⟩)
      clear ht HU SZ q0 q1 q2 q3 q4;go_wp2;go_ret;exact HZ.out
    ·obtain rfl:k=m.values.length:=(by omega);rw[jK4 (by simp)]at HU Fp hlen LU;obtain⟨r',Ml,f'⟩:=HU.kf;have HY:=G (FT.out ⟨hs,Gf,Fp⟩);have Az:=G (show CH.length<=1200000000 by
      rw[Tg.out];simp only[jJ4,jV,jH,jG,jC,Fe.out.chain];omega)
     have Ng:=G (show pp++(m.values.map MBind.data).flatMap vu=bs++CH by rw[<-RK.out,Tg.out];simp only[jK1]);rw[Ng.out]at Ml;have Gm:=f'.case_ Sv.out;have NW:=f'.blk Hb.out Hx.out;have X8:=NW.at_ 36 (by rw[jJ7];exact HS.out.2.2.2.1);have Rm:=G (show(bs++CH).length<=330000000000 by rw[<-Ng.out];exact LU.out);have HN:=G (qe wr g r' _ m.open_.A m.open_.c m.open_.l Ml (by have:=Rm.out;omega) Gm.open_.rd Gm.open_.av Gm.open_.small Gm.open_.big);have F:=G f';simp only[MTexts.sl]at X8;clear HU Fp hlen Gm NW Ml f' FT hY DV F4 hs;go_wp2_with fail;refine HN.out.mono ?_;rintro e w7 (⟨l7,Df,Oj,rfl,PK⟩|⟨Dd,rfl,l7,PK⟩)
     ·obtain⟨r7,P6,f7⟩:=PK.kf;have F7:=G (F.out.trans f7);have Gm:=F7.out.case_ Sv.out;have X7:=(F7.out.blk Hb.out Hx.out).at_ 37 (by rw[jJ7];exact HS.out.2.2.2.2.1);have HN:=G (qe w7 g r7 _ m.closed.A m.closed.c m.closed.l P6 (by have:=Rm.out;rw[jJ4];omega) Gm.closed.rd Gm.closed.av Gm.closed.small Gm.closed.big);simp only[MTexts.sl]at X7;have H7:=G (And.intro Df Oj);clear PK f7 P6 Gm F Df Oj X8;go_wp2_with fail;refine HN.out.mono ?_;rintro e w8 (⟨l8,PU,Oi,rfl,PJ⟩|⟨Dc,rfl,l8,PJ⟩)
      ·obtain⟨r8,MV,f8⟩:=PJ.kf;have F8:=G (F7.out.trans f8);have Gm:=F8.out.case_ Sv.out;have X2:=(F8.out.blk Hb.out Hx.out).at_ 38 (by rw[jJ7];exact HS.out.2.2.2.2.2);have HN:=G (qe w8 g r8 _ m.reached.A m.reached.c m.reached.l MV (by have:=Rm.out;have:=H7.out.2;rw[jJ4,jJ4];omega) Gm.reached.rd Gm.reached.av Gm.reached.small Gm.reached.big);simp only[MTexts.sl]at X2;have H8:=G (And.intro PU Oi);clear PJ f8 MV Gm F7 PU Oi X7;go_wp2_with fail;refine HN.out.mono ?_;rintro e w9 (⟨l9,SP,hn9,rfl,PI⟩|⟨Db,rfl,l9,PI⟩)
       ·have HZ:=G (show LayP w g r bs CB 6000000000 (.returned (.bool true)) w9 from by
         obtain⟨r9,MA,f9⟩:=PI.kf;refine .inl ⟨CH++(l7++(l8++l9)),by rw[HY.out,H7.out.1,H8.out.1,SP];rfl,?_,rfl,?_⟩
         ·have:=Az.out;have:=H7.out.2;have:=H8.out.2;simp only[jJ4];omega
         ·simp only[jK1]at MA;exact WStep.after Ho.out ((F8.out.trans f9).step MA))
        clear PI SP hn9 X2;go_wp2;go_ret;exact HZ.out
       ·have HZ:=G (show LayP w g r bs CB 6000000000 (.returned (.bool false)) w9 from by
         obtain⟨r9,MA,f9⟩:=PI.kf;simp only[jK1]at MA;exact .inr ⟨by rw[HY.out,H7.out.1,H8.out.1,Db];rfl,rfl,_,WStep.after Ho.out ((F8.out.trans f9).step MA)⟩)
        clear PI Db X2;go_wp2;go_ret;exact HZ.out
      ·have HZ:=G (show LayP w g r bs CB 6000000000 (.returned (.bool false)) w8 from by
        obtain⟨r9,MA,f9⟩:=PJ.kf;simp only[jK1]at MA;exact .inr ⟨by rw[HY.out,H7.out.1,Dc];rfl,rfl,_,WStep.after Ho.out ((F7.out.trans f9).step MA)⟩)
       clear PJ Dc X7;go_wp2;go_ret;exact HZ.out
     ·have HZ:=G (show LayP w g r bs CB 6000000000 (.returned (.bool false)) w7 from by
       obtain⟨r9,MA,f9⟩:=PK.kf;simp only[jK1]at MA;exact .inr ⟨by rw[HY.out,Dd];rfl,rfl,_,WStep.after Ho.out ((F.out.trans f9).step MA)⟩)
      clear PK Dd X8;go_wp2;go_ret;exact HZ.out
  ·have SN:(255:Int)<(m.values.length:Int):=(by omega);have HZ:=G (show LayP w g r bs CB 6000000000 (.returned (.bool false)) w1 from
    .inr ⟨hY.out (fun h=>Gf h.2.1),rfl,_,WStep.after Ho.out (F.out.step FF)⟩)
   clear GC;go_wp2;go_ret;exact HZ.out
 ·have HZ:=G (show LayP w g r bs CB 6000000000 (.returned (.bool false)) w1 from
   .inr ⟨hY.out (fun h=>by omega),rfl,[],by rw[List.append_nil];exact WStep.after (Ho.out.alloc _) HU⟩)
  clear ht HU SZ;go_wp2;go_ret;exact HZ.out
structure MPiece where
 case_:BA
 first:Int
 before:LB
 evs:List Part
 eA:OA
 eC:Nat
 pfs:List MWay
 pA:OA
 pC:Nat
def MPiece.cells(m:MPiece):List Value:=[.string m.case_,.int .i64 m.first]++(jA m.before++[.slice m.eA m.evs.length m.eC,.slice m.pA m.pfs.length m.pC])
structure Part.Ok(w:World)(X:Nat->Prop)(p:Part):Prop where
 rd:Rd w 1 p.A p.l.length (p.l.map bv)
 av:Av X p.l.length p.A
 big:p.l.length<=2147483647
structure MPiece.Ok(w:World)(X:Nat->Prop)(m:MPiece):Prop where
 before:m.before.length=32
 evs:∀p∈m.evs,Part.Ok w X p
 rdE:Rd w 1 m.eA m.evs.length (m.evs.map Part.sl)
 avE:Av X m.evs.length m.eA
 pfs:∀p∈m.pfs,MWay.Ok w X p
 rdP:Rd w 3 m.pA m.pfs.length (m.pfs.flatMap MWay.cells)
 avP:Av X m.pfs.length m.pA
 big:m.evs.length<=2147483647/\m.pfs.length<=2147483647/\m.case_.size<=2147483647
structure Pie where
 case_:BA
 first:Int
 before:LB
 evs:List LB
 pfs:List Way
def MPiece.data(m:MPiece):Pie:=⟨m.case_,m.first,m.before,m.evs.map Part.l,m.pfs.map MWay.data⟩
def ZN(e:LB)(p:Way):Prow:=⟨none,e.length,0,p.a,p.b,none,p.ds.length,0⟩
def jAY(e:Part)(p:MWay):Prow:=⟨e.A,e.l.length,e.c,p.a,p.b,p.A,p.ds.length,p.c⟩
def jFU(r:Prow):Prow:=⟨none,r.n,0,r.size,r.num,none,r.k,0⟩
def JS(e:LB)(p:Way):LB:=be8 p.b++(lp 4 e++p.ds.flatten)
def kw:List Way->Int
 |[]=>0
 |x::_=>x.a
def yS(p:Pie):LB:=be 1 51++(lp 1 (sb p.case_)++((be8 p.first++p.before)++(be8 (kw p.pfs)++be 4 p.evs.length)))
def UE(p:Pie):Bool:=decide (p.evs.length≠0/\p.evs.length=p.pfs.length/\yQ p.case_ p.first p.before (List.zipWith ZN p.evs p.pfs)=p.evs.length)
def vR(p:Pie):Option LB:=if UE p=true then some (yS p++(List.zipWith JS p.evs p.pfs).flatten)else none
theorem YC(f sz:Int):∀(rs:List Prow) (i b:Nat) (prev:Int),vH f sz i b prev (rs.map jFU)=vH f sz i b prev rs
 |[],_,_,_=>rfl
 |r::rs,i,b,prev=>by
  simp only[List.map_cons,vH];rw[YC f sz rs];rfl
theorem Xf(rs:List Prow):vp (rs.map jFU)=vp rs:=by cases rs<;>rfl
theorem ZK(s:BA)(f:Int)(d:LB)(rs:List Prow):yQ s f d (rs.map jFU)=yQ s f d rs:=by
 unfold yQ;rw[YC,Xf]
theorem Yk:∀(es:List Part) (ps:List MWay),(List.zipWith jAY es ps).map jFU=List.zipWith ZN (es.map Part.l) (ps.map MWay.data)
 |[],_=>by simp
 |_::_,[]=>by simp
 |e::es,p::ps=>by
  simp only[List.zipWith_cons_cons,List.map_cons,Yk es ps];rfl
theorem qS(f sz:Int):∀(rs:List Prow) (i b:Nat) (prev:Int),vH f sz i b prev rs=i+rs.length->(∀r∈rs,Jb r.n r.size r.num r.k sz=true)/\(i<=1000->i+rs.length<=1000)
 |[],i,_,_,_=>⟨(fun r hr=>by cases hr),fun h=>by simpa using h⟩
 |r::rs,i,b,prev,h=>by
  rw[vH]at h;split at h
  ·simp at h
  ·next hs=>
   have h1:=qS f sz rs (i+1) (b+(12+r.n+32*r.k)) r.num (by rw[h,jK6];omega);have Tv:zW f sz i (b+(12+r.n+32*r.k)) prev r=false:=(by simpa using hs);unfold zW at Tv;have Nw:=of_decide_eq_false Tv;have a1:Jb r.n r.size r.num r.k sz=true:=by
    cases hh:Jb r.n r.size r.num r.k sz with
    |true=>rfl
    |false=>exact absurd (.inr (.inr (.inl hh))) Nw
   have a2:i≠1000:=fun e=>Nw (.inl e);refine⟨fun x hx=> ?_,fun hi=> ?_⟩
   ·rcases List.mem_cons.1 hx with rfl|hx
    ·exact a1
    ·exact h1.1 x hx
   ·have:=h1.2 (by omega);rw[jK6];omega
theorem qP{n k:Nat}{a b size:Int}(h:Jb n a b k size=true):k<=41/\n<=65536/\1<=n/\yA a b=some k/\a=size:=by
 have h' :=of_decide_eq_true h;obtain⟨h1,h2,h3,h4⟩:=h';have:k<=41:=by
  unfold yA at h1;split at h1
  ·injection h1 with h1;have:=Zs a.toNat b.toNat 41 0 0;omega
  ·cases h1
 exact⟨this,h4,h3,h1,h2⟩
theorem Ki{s:BA}{f:Int}{d:LB}{rs:List Prow}(h:yQ s f d rs=rs.length)(h0:rs.length≠0):yE s f d=true/\rs.length<=1000/\∀r∈rs,r.k<=41/\r.n<=65536/\1<=r.n/\yA r.size r.num=some r.k/\r.size=vp rs:=by
 unfold yQ at h;split at h
 ·next hb=>
  have h1:=qS f (vp rs) rs 0 (54+s.size) 0 (by rw[h];omega);exact⟨hb,by have:=h1.2 (by omega);omega,fun r hr=>qP (h1.1 r hr)⟩
 ·omega
theorem Jq{s:BA}{f:Int}{d:LB}(h:yE s f d=true):s.size<=64:=by
 unfold yE kT at h;simp only[Bool.and_eq_true,decide_eq_true_eq]at h;exact h.1.1
section
variable{m:MPiece}
theorem MPiece.s0(m:MPiece):m.cells[0]? =some (.string m.case_):=rfl
theorem MPiece.s1(m:MPiece):m.cells[1]? =some (.int .i64 m.first):=rfl
theorem MPiece.s2(m:MPiece):Sub m.cells 2 (jA m.before):=Sub.mid_ [.string m.case_,.int .i64 m.first] _ _ 2 rfl
theorem MPiece.len(h:m.before.length=32):m.cells.length=36:=by simp[MPiece.cells,jB,h]
theorem MPiece.s34(h:m.before.length=32):m.cells[34]? =some (.slice m.eA m.evs.length m.eC):=jh [.string m.case_,.int .i64 m.first] _ m.before h 34 0 rfl
theorem MPiece.s35(h:m.before.length=32):m.cells[35]? =some (.slice m.pA m.pfs.length m.pC):=jh [.string m.case_,.int .i64 m.first] _ m.before h 34 1 rfl
theorem MPiece.one(m:MPiece):m.cells.toArray.all (·.oneCell')=true:=by
 refine all_oneCell_toArray (fun v hv=> ?_);simp only[MPiece.cells,List.mem_append,List.mem_cons,List.not_mem_nil,or_false]at hv;rcases hv with(rfl|rfl)|hv|rfl|rfl
 ·rfl
 ·rfl
 ·exact jf _ v hv
 ·rfl
 ·rfl
end
theorem yO(es:List Part)(ps:List MWay)(h:es.length=ps.length):(List.zipWith jAY es ps).length=es.length:=by rw[List.length_zipWith];omega
theorem Xq:∀(es:List Part) (ps:List MWay),es.length=ps.length->(List.zipWith jAY es ps).map Prow.ev=es.map Part.sl
 |[],[],_=>rfl
 |[],_::_,h=>by simp at h
 |_::_,[],h=>by simp at h
 |e::es,p::ps,h=>by
  simp only[List.zipWith_cons_cons,List.map_cons,Xq es ps (by simpa using h)];rfl
theorem Xp:∀(es:List Part) (ps:List MWay),es.length=ps.length->(List.zipWith jAY es ps).flatMap Prow.pf=ps.flatMap MWay.cells
 |[],[],_=>rfl
 |[],_::_,h=>by simp at h
 |_::_,[],h=>by simp at h
 |e::es,p::ps,h=>by
  simp only[List.zipWith_cons_cons,jL9,Xp es ps (by simpa using h)];rfl
theorem jDR(es:List Part)(ps:List MWay)(he:∀p∈es,p.l.length<=2147483647)(hp:∀p∈ps,p.ds.length<=2147483647):∀r∈List.zipWith jAY es ps,r.Ok:=by
 intro r hr;obtain⟨k,hk,rfl⟩:=List.getElem_of_mem hr;rw[List.getElem_zipWith];rw[List.length_zipWith]at hk;exact⟨he _ (jL6 (by omega)),hp _ (jL6 (by omega))⟩
def Kx(es:List Part)(ps:List MWay)(k:Nat):LB:=((List.zipWith JS (es.map Part.l) (ps.map MWay.data)).take k).flatten
theorem xb(es:List Part)(ps:List MWay)(k:Nat)(he:k<es.length)(hp:k<ps.length):Kx es ps (k+1)=Kx es ps k++JS es[k].l ps[k].data:=by
 unfold Kx;have hl:k<(List.zipWith JS (es.map Part.l) (ps.map MWay.data)).length:=by simp only[List.length_zipWith,jK7];omega
 rw[jK2 hl,List.flatten_append,List.flatten_singleton,List.getElem_zipWith,List.getElem_map,List.getElem_map]
theorem jDT(es:List Part)(ps:List MWay)(h:es.length=ps.length):Kx es ps es.length=(List.zipWith JS (es.map Part.l) (ps.map MWay.data)).flatten:=by
 unfold Kx;rw[jK4 (by simp only[List.length_zipWith,jK7];omega)]
theorem jj:(prog.info? 61).map (·.size)=some 36:=by kernel_rfl
theorem jBC:∀(es:List Part) (ps:List MWay),es.length=ps.length->vp (List.zipWith jAY es ps)=kw (ps.map MWay.data)
 |[],[],_=>rfl
 |[],_::_,h=>by simp at h
 |_::_,[],h=>by simp at h
 |e::es,p::ps,_=>rfl
theorem jBE:∀(ps:List MWay) (h:0<ps.length),(ps[0]'h).a=kw (ps.map MWay.data)
 |[],h=>by simp at h
 |_::_,_=>rfl
structure PieAt(w3:World)(g:Nat)(hd:LB)(es:List Part)(ps:List MWay)(k:Nat)(wr:World):Prop where
 le:k<=es.length
 st:∃r,KF w3 g none wr r/\Wr wr g r (hd++Kx es ps k)
theorem qO{es:List Part}{ps:List MWay}(hl:es.length=ps.length)(he:∀p∈es,p.l.length<=65536)(hp:∀p∈ps,p.ds.length<=41/\Dgs p.ds):∀k,k<=es.length->(Kx es ps k).length<=k*70000
 |0,_=>by simp[Kx]
 |k+1,hk=>by
  have h1:=qO hl he hp k (by omega);rw[xb es ps k (by omega) (by omega),jJ4,JS,jJ4,jJ4,jV,jG];have h2:=he es[k] (jL6 _);have h3:=hp (ps[k]'(by omega)) (jL6 _);have h4:=h3.2.flat;simp only[MWay.data];omega
theorem Qv(w:World)(m:MPiece)(X:Nat->Prop)(Hu:m.Ok w X):
  Calls prog 61 #[.agg m.cells.toArray] w (XU w (vR m.data) 100000000):=by
 have Hb:=G (jQ2 w 61 m.cells.toArray);have Ho:=G ((jQ0 NoX w).alloc (.cells m.cells.toArray 61));have HI:=G (show vR m.data=if UE m.data=true then some (yS m.data++(List.zipWith JS (m.evs.map Part.l) (m.pfs.map MWay.data)).flatten)else none from rfl);have HK:=G (show UE m.data=decide (m.evs.length≠0/\m.evs.length=m.pfs.length/\yQ m.case_ m.first m.before (List.zipWith ZN (m.evs.map Part.l) (m.pfs.map MWay.data))=m.evs.length)by
  simp[UE,MPiece.data])
 have HH:=G (show yS m.data=be 1 51++(lp 1 (sb m.case_)++((be8 m.first++m.before)++(be8 (kw (m.pfs.map MWay.data))++be 4 m.evs.length)))by rw[yS];simp only[MPiece.data,jK7]);generalize vR m.data=IB at*;generalize UE m.data=pk at*;generalize yS m.data=hd at*;have Fe:=G Hu;have S0:=G m.s0;have S1:=G m.s1;have S2:=G m.s2;have S34:=G (MPiece.s34 Hu.before);have S35:=G (MPiece.s35 Hu.before);have So:=G (show(prog.info? 40).map (·.size)=some (jA m.before).length by rw[jB,Hu.before];exact jO);obtain⟨By,hbp,OJ⟩:=Hu.big;clear Hu;generalize m.cells=cl at*;have c34:=Hb.out.at_ 34 (by rw[jJ7];exact S34.out);have c35:=Hb.out.at_ 35 (by rw[jJ7];exact S35.out);by_cases h0:m.evs.length=0
 ·have hY:=G (show IB=none by rw[HI.out,HK.out,jK3 (fun h=>h.1 h0)];rfl);rw[h0]at c34;clear HI HK HH S34;go_enter func61,ntmps61;go_wp2
  go_ret2
  exact .inr ⟨170,hY.out,by decide,rfl,Ho.out⟩
 have Al:((m.evs.length:Int)==0)=false:=beq_eq_false_iff_ne.2 (by omega);by_cases hl:m.evs.length=m.pfs.length
 case neg=>
  have hY:=G (show IB=none by rw[HI.out,HK.out,jK3 (fun h=>hl h.2.1)];rfl);have Dh:((m.evs.length:Int) !=(m.pfs.length:Int))=true:=by simp;omega
  clear HI HK HH S34 S35 h0 hl;go_enter func61,ntmps61;go_wp2
  go_ret2
  exact .inr ⟨170,hY.out,by decide,rfl,Ho.out⟩
 have c0:=Hb.out.at_ 0 (by rw[jJ7];exact S0.out);have c1:=Hb.out.at_ 1 (by rw[jJ7];exact S1.out);have Fn:=G (S2.out.range Hb.out);have Cg:=G (fun W (ho:Old w W)=>QY W m.case_ m.first m.before Fe.out.before (by omega) m.eA m.pA m.eC m.pC (List.zipWith jAY m.evs m.pfs) (jDR m.evs m.pfs (fun p hp=>(Fe.out.evs p hp).big) (fun p hp=>(Fe.out.pfs p hp).big))
  (by rw[yO _ _ hl,Xq _ _ hl];exact Fe.out.rdE.old ho) (by rw[yO _ _ hl,Xp _ _ hl,hl];exact Fe.out.rdP.old ho) (by rw[yO _ _ hl];omega))
 rw[yO _ _ hl]at Cg;rw[<-Yk,ZK]at HK;have Wf:=G (fun h=>Ki (s:=m.case_) (f:=m.first) (d:=m.before) (rs:=List.zipWith jAY m.evs m.pfs) (by rw[yO _ _ hl];exact h) (by rw[yO _ _ hl];exact h0));rw[yO _ _ hl]at Wf;have Hl:=G hl;rw[<-hl]at c35 S35;have T8:=G Fe.out.rdP;rw[<-hl]at T8;have Ff:((m.evs.length:Int) !=(m.evs.length:Int))=false:=(by simp);clear hl hbp;generalize yQ m.case_ m.first m.before (List.zipWith jAY m.evs m.pfs)=R at*;generalize hN:m.evs.length=N at*;have HN:=G hN;clear hN;go_enter func61,ntmps61;go_wp2_with (first|((with_reducible refine ji 40 (.tmp 25) ?_);refine jK rfl 40 (.tmp 25) rfl w.heap.size 2 rfl (jA m.before) _ Fn.out underlying40 rfl So.out ?_)|fail);generalize w.alloc _=W at*;refine(Cg.out W Ho.out).mono ?_;rintro e w1 ⟨rfl,F0⟩;have Gt:=G (Hb.out.old F0);have FE:=G (Ho.out.old F0);clear F0 Hb Ho Cg c0 c1 c34 c35 Fn;by_cases hR:R=N
 case neg=>
  have hY:=G (show IB=none by rw[HI.out,HK.out,jK3 (fun h=>hR h.2.2)];rfl);have OU:((R:Int) !=(N:Int))=true:=by simp;omega
  clear hR HI HK HH;go_wp2
  go_ret2
  exact .inr ⟨170,hY.out,by decide,rfl,FE.out⟩
 subst hR;have Fm:=G (show IB=some (hd++(List.zipWith JS (m.evs.map Part.l) (m.pfs.map MWay.data)).flatten)by
  rw[HI.out,HK.out,jK5 ⟨h0,Hl.out,rfl⟩];rfl)
 obtain⟨M1,U0,GG⟩:=Wf.out rfl;have LS:=G GG;have Y3:=Jq M1;clear HI HK Wf GG M1;have IG:=G (show∀p∈m.evs,p.l.length<=65536 from fun p hp=>by
  obtain⟨k,hk,rfl⟩:=List.getElem_of_mem hp;have hZ:k<m.pfs.length:=by have:=HN.out;have:=Hl.out;omega
  have:=LS.out (jAY m.evs[k] m.pfs[k]) (by
   have h:=jL6 (l:=List.zipWith jAY m.evs m.pfs) (n:=k) (by rw[List.length_zipWith];omega)
   rwa [List.getElem_zipWith]at h)
  exact this.2.1)
 have Ij:=G (show∀p∈m.pfs,p.ds.length<=41/\Dgs p.ds from fun p hp=>by
  refine⟨?_,(Fe.out.pfs p hp).dgs⟩;obtain⟨k,hk,rfl⟩:=List.getElem_of_mem hp;have hZ:k<m.evs.length:=by have:=HN.out;have:=Hl.out;omega
  have:=LS.out (jAY m.evs[k] m.pfs[k]) (by
   have h:=jL6 (l:=List.zipWith jAY m.evs m.pfs) (n:=k) (by rw[List.length_zipWith];omega)
   rwa [List.getElem_zipWith]at h)
  exact this.1)
 have Hz0:=G (jBC m.evs m.pfs (by rw[HN.out];exact Hl.out));have hN0:0<R:=(by omega);have hR4:IntKind.u32.wrap (R:Int)=R:=IntWalk.u32_in _ (by omega);go_wp2_with fail;refine(Yu _).mono ?_;rintro e w3 ⟨rfl,G8,Gj⟩;have GT:=G (Gt.out.old Gj);have C1:=G (FE.out.old Gj);have hM:=Gt.out.lt;have Ih:=G (show Rd w3 1 m.eA R (m.evs.map Part.sl)from by have h:=Fe.out.rdE;rw[HN.out]at h;exact(h.old FE.out).old Gj);have Z7:=G ((T8.out.old FE.out).old Gj);have HaE:=G (show Av (WX w1.heap.size none) R m.eA from by have h:=Fe.out.rdE;rw[HN.out]at h;exact Av.own (h.old FE.out) (by decide) (jL3 _));have IR:=G (Av.own (T8.out.old FE.out) (by decide) (jL3 w1.heap.size));have Hx:=G (show¬WX w1.heap.size none w.heap.size from by
  rintro (e|e)
  ·omega
  ·cases e)
 have HE3:=G (show∀p∈m.evs,Rd w3 1 p.A p.l.length (p.l.map bv)/\Av (WX w1.heap.size none) p.l.length p.A from fun p hp=>
  ⟨((Fe.out.evs p hp).rd.old FE.out).old Gj,Av.own ((Fe.out.evs p hp).rd.old FE.out) (by decide) (jL3 _)⟩)
 have HP3:=G (show∀p∈m.pfs,Rd w3 32 p.A p.ds.length (p.ds.flatMap jA)/\Av (WX w1.heap.size none) p.ds.length p.A from fun p hp=>
  ⟨((Fe.out.pfs p hp).rd.old FE.out).old Gj,Av.own ((Fe.out.pfs p hp).rd.old FE.out) (by decide) (jL3 _)⟩)
 have Mf:=G G8;have V4:=G (show w.heap.size<=w1.heap.size from FE.out.size);clear G8 Gj Gt FE;generalize w1.heap.size=g at*;go_wp2_with fail;refine(kY _ g none [] 51 (by decide) (by decide) Mf.out (by simp)).mono ?_;rintro e w4 ⟨rfl,HU⟩;rw[show []++be 1 (51:Int).toNat=be 1 51 from rfl]at HU;obtain⟨r4,M2,f4⟩:=HU.kf;have F4:=G f4;have Lg:=G M2;have c0:=(f4.blk GT.out Hx.out).at_ 0 (by rw[jJ7];exact S0.out);clear HU M2 f4;go_wp2_with fail;refine(Qa _ g r4 _ m.case_ Lg.out (by simp[jC]) (by omega)).mono ?_;rintro e w5 ⟨rfl,HU⟩;obtain⟨r5,NI,f5⟩:=HU.kf;have F5:=G (F4.out.trans f5);have Ph:=G NI;have Nr:=F5.out.blk GT.out Hx.out;have c1:=Nr.at_ 1 (by rw[jJ7];exact S1.out);have Fn:=G (S2.out.range Nr);have Le:=G (show(be 1 51++lp 1 (sb m.case_)).length<=1000 by simp only[jJ4,jC,jV,jH];omega);clear HU NI f5 F4 Lg c0 Nr;go_wp2_with (first|((with_reducible refine ji 40 (.tmp 45) ?_);refine jK rfl 40 (.tmp 45) rfl w.heap.size 2 rfl (jA m.before) _ Fn.out underlying40 rfl So.out ?_)|refine VK rfl (.tmp 46) rfl m.before Fe.out.before rfl ?_ |fail);refine(vQ _ g r5 _ m.first _ 1 1 [m.before] rfl (fun d hd=>by rw[List.mem_singleton.1 hd];exact Fe.out.before) (Ph.out.old ((jQ0 _ _).alloc _)) (by have:=Le.out;omega) (by omega) (by
  have:=Rd.row_new w5 40 32 1 (jA m.before) (by rw[jB,Fe.out.before]);simpa using this) (Av.new Ph.out)).mono ?_
 rintro e w6 ⟨rfl,HU⟩;rw[List.flatten_singleton]at HU;obtain⟨r6,MB,f6⟩:=HU.kf;have F6:=G (F5.out.trans ((KF.of ((jQ0 NoX w5).alloc _)).trans f6));have PD:=G MB;have X9:=F6.out.blk GT.out Hx.out;have c35:=X9.at_ 35 (by rw[jJ7];exact S35.out);obtain⟨pb,po,RF,CP⟩:=(F6.out.rd Z7.out IR.out).elem (f:=MWay.cells) (fun _ _=>rfl) Hl.out.symm (k:=0) (by have:=Hl.out;omega);rw[RF]at c35;have q0:=CP 0 _ rfl;have HpA:=G RF;have Sq:=G (show(m.pfs[0]'(by have:=Hl.out;omega)).a=kw (m.pfs.map MWay.data)from jBE _ _);rw[Sq.out]at q0;rw[Nat.zero_mul,Nat.add_zero]at q0;have Iu:=G (show(be 1 51++lp 1 (sb m.case_)++(be8 m.first++m.before)).length<=2000 by have h5:=Le.out;simp only[jJ4,jG,Fe.out.before]at h5⊢;omega);generalize (kw (m.pfs.map MWay.data))=sz at*;have i0:(0:Int)<(R:Int):=(by omega);clear HU MB f6 F5 Ph c1 Fn RF CP Sq X9;go_wp2_with fail;refine(vQ _ g r6 _ sz none 0 0 [] rfl (fun d hd=>by cases hd) PD.out (by have:=Iu.out;omega) (by omega) Rd.none_ (fun h=>absurd h (by simp))).mono ?_;rintro e w7 ⟨rfl,HU⟩;rw[List.flatten_nil,List.append_nil]at HU;obtain⟨r7,P6,f7⟩:=HU.kf;have F7:=G (F6.out.trans f7);have Pg:=G P6;clear HU P6 f7 F6 PD q0 c35;go_wp2_with fail;refine(qW _ g r7 _ (R:Int) (by omega) (by omega) Pg.out (by have:=Iu.out;rw[jJ4,jG];omega)).mono ?_;rintro e w8 ⟨rfl,HU⟩;rw[jL1]at HU;obtain⟨r8,MV,f8⟩:=HU.kf;have F8:=G (F7.out.trans f8);have Hq:=G (show be 1 51++lp 1 (sb m.case_)++(be8 m.first++m.before)++be8 sz++be 4 R=hd by rw[HH.out];simp);rw[Hq.out]at MV;have Az:=G (show hd.length<=2020 by rw[<-Hq.out];have:=Iu.out;rw[jJ4,jJ4,jG,jC];omega);have c34:=(F8.out.blk GT.out Hx.out).at_ 34 (by rw[jJ7];exact S34.out);have Me:=G (show PieAt w3 g hd m.evs m.pfs 0 w8 from⟨Nat.zero_le _,r8,F8.out,by simpa [Kx]using MV⟩);clear HU MV f8 F7 Pg HH Hq F8;go_wp2_with fail;go_loopw [63,6,7] (fun i _ _ wr=>∃k:Nat,i=.int .i64 k/\PieAt w3 g hd m.evs m.pfs k wr) (fun i _ _ _=>R-(intOf i).toNat)
 case atStart=>exact⟨0,rfl,Me.out⟩
 case round=>
  obtain⟨k,rfl,Fo⟩:=hrel;have GY:=Fo.le;rw[HN.out]at GY;obtain⟨r,hF,hW⟩:=Fo.st;have HF:=G hF;have HW:=G hW;clear Fo Me hF hW c34;by_cases hM:k<R
  ·have TO:k<m.evs.length:=by have:=HN.out;omega
   have FQ:k<m.pfs.length:=by have:=Hl.out;omega
   have hb:=HF.out.blk GT.out Hx.out;have c35:=hb.at_ 35 (by rw[jJ7];exact S35.out);obtain⟨eb,eo,u,BM,hu,Q1⟩:=(HF.out.rd Ih.out HaE.out).at_ hM;have CL:u=m.evs[k].sl:=by
    rw[jM1,jJ9 TO]at hu;simpa using hu.symm
   subst CL;obtain⟨pb2,po2,BH,FK⟩:=(HF.out.rd Z7.out IR.out).elem (f:=MWay.cells) (fun _ _=>rfl) Hl.out.symm (k:=k) FQ;have DU:=G (show hd++Kx m.evs m.pfs (k+1)=hd++Kx m.evs m.pfs k++be8 m.pfs[k].b++lp 4 m.evs[k].l++m.pfs[k].ds.flatten by
    rw[xb m.evs m.pfs k TO FQ,JS];simp[MWay.data])
   have Fi:=G (show(hd++Kx m.evs m.pfs k).length<=100000000 by
    have h1:=qO (by rw[HN.out];exact Hl.out) IG.out Ij.out k (by omega);have:=Az.out;rw[jJ4];omega)
   have He:=G (HE3.out m.evs[k] (jL6 TO));have Hp:=G (HP3.out m.pfs[k] (jL6 FQ));have Hpd:=G (Ij.out m.pfs[k] (jL6 FQ));have IJ:=G (IG.out m.evs[k] (jL6 TO));have Ea:=G BH;have Id:=G (show∀w' r',KF w3 g none w' r' ->w'.cell? ⟨pb2,po2+k*3+2,none⟩=some (.slice m.pfs[k].A m.pfs[k].ds.length m.pfs[k].c)from fun w' r' F=>by
    obtain⟨pb3,po3,e3,Gl⟩:=(F.rd Z7.out IR.out).elem (f:=MWay.cells) (fun _ _=>rfl) Hl.out.symm (k:=k) FQ;rw[Ea.out]at e3;injection e3 with e3;injection e3 with e4 e5;subst e4 e5;exact Gl 2 _ rfl)
   have Fn:=G FK;rw[BH]at c35;rw[show m.evs[k].sl=.slice m.evs[k].A m.evs[k].l.length m.evs[k].c from rfl]at Q1;have HEA:=G BM;rw[BM];have i1:(0:Int)<=(k:Int):=(by omega);have i2:(k:Int)<(R:Int):=(by omega);have i3:(k:Int).toNat=k:=(by omega);have q1:=FK 1 _ rfl;clear hu FK BH BM hb;generalize m.evs[k]=ev at*;generalize m.pfs[k]=pf at*;generalize hd++Kx m.evs m.pfs k=cs at*;go_wp2_with fail;refine(vQ _ g r cs pf.b none 0 0 [] rfl (fun d hd=>by cases hd) HW.out (by have:=Fi.out;omega) (by omega) Rd.none_ (fun h=>absurd h (by simp))).mono ?_;rintro e w9 ⟨rfl,HU⟩;rw[List.flatten_nil,List.append_nil]at HU;obtain⟨r9,MA,f9⟩:=HU.kf;have F9:=G (HF.out.trans f9);have HW9:=G MA;have Hl9:=G (show(cs++be8 pf.b).length<=100000008 by have:=Fi.out;rw[jJ4,jG];omega);clear HU MA f9 HF HW q1 c35 Q1;go_wp2_with fail;refine(jAs _ g r9 _ ev.A ev.l.length ev.c ev.l 65536 HW9.out (by have:=Hl9.out;omega) (F9.out.rd He.out.1 He.out.2) (F9.out.av He.out.1 (by decide) He.out.2) (by have:=IJ.out;omega) (by have:=IJ.out;omega)).mono ?_;rintro e w10 ⟨rfl,HU⟩;obtain⟨r10,DA,f10⟩:=HU.kf;have F10:=G (F9.out.trans f10);have IS:=G DA;have Iw:=G (show(cs++be8 pf.b++lp 4 ev.l).length<=100065548 by have:=Hl9.out;have:=IJ.out;rw[jJ4,jV];omega);have hb:=F10.out.blk GT.out Hx.out;have c35:=hb.at_ 35 (by rw[jJ7];exact S35.out);rw[Ea.out]at c35;have q2:=Id.out w10 r10 F10.out;clear HU DA f10 F9 HW9 hb;go_wp2_with fail;refine(yg _ g r10 _ pf.A pf.ds.length pf.c pf.ds rfl Hpd.out.2 IS.out (by have:=Iw.out;omega) (by have:=Hpd.out.1;omega) (F10.out.rd Hp.out.1 Hp.out.2) (F10.out.av Hp.out.1 (by decide) Hp.out.2)).mono ?_;rintro e w11 ⟨rfl,HU⟩;obtain⟨r11,Y1,f11⟩:=HU.kf;rw[<-DU.out]at Y1;have Fl:=G (show PieAt w3 g hd m.evs m.pfs (k+1) w11 from⟨by omega,r11,F10.out.trans f11,Y1⟩);clear HU Y1 f11 c35 q2;go_wp2;go_roundw
   case rel=>exact⟨k+1,by go_num,Fl.out⟩
   case measure=>simp[intOf];omega
  ·obtain rfl:k=R:=(by omega);have Hq:=G (show IB=some (hd++Kx m.evs m.pfs k)by rw[Fm.out,<-jDT _ _ (by rw[HN.out];exact Hl.out),HN.out]);have hlen:(hd++Kx m.evs m.pfs k).length<=100000000:=by
    have h1:=qO (by rw[HN.out];exact Hl.out) IG.out Ij.out k (by have:=HN.out;omega);have:=Az.out;rw[jJ4];omega
   generalize hd++Kx m.evs m.pfs k=q at*;have HO:=G (show Old w wr from C1.out.trans HF.out.kp (fun b hb hx=>by
    rcases hx with hx|hx
    ·have:=V4.out;omega
    ·cases hx))
   go_wp2_with fail;refine(JE _ g r q HW.out (by omega)).mono ?_;rintro e w10 ⟨A8,c8,rfl,Hi,NF⟩;have HZ:=G (show XU w IB 100000000 (.returned (.tuple #[.slice A8 q.length c8,.int .i64 0])) w10 from
    .inl ⟨q,A8,c8,Hq.out,hlen,rfl,Rd.of_own Hi,fun hn ad e hx=>vd Hi hn ad e (jL8 hx HO.out.size),HO.out.old NF⟩)
   clear Hi NF hlen;go_wp2
   go_ret2
   exact HZ.out
end Go.Proofs.YtnaolhjbapgjgaaGreat

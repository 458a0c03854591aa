import Derived.Test.YtnaolhjbapgjgaaGreatMg33
import Derived.Deep.Slices
import Derived.OpenShut
import Derived.SliceStrings
import Derived.ChangeSame
set_option maxRecDepth 100000
set_option maxHeartbeats 6400000
namespace Go.Proofs.YtnaolhjbapgjgaaGreat
open Go.Proofs.Tryz
open Go.RowKit
structure ToldC(cs:List Value)(m:MReply):Prop where
 c5:cs[5]? =some (.slice m.hA m.hap.length m.hC)
 c6:cs[6]? =some (.string m.case_.name)
 c7:cs[7]? =some (.string m.case_.type_)
 c41:cs[41]? =some (.slice m.case_.vA m.case_.values.length m.case_.vC)
 c42:cs[42]? =some (.slice m.case_.open_.A m.case_.open_.l.length m.case_.open_.c)
 c43:cs[43]? =some (.slice m.case_.closed.A m.case_.closed.l.length m.case_.closed.c)
 c44:cs[44]? =some (.slice m.case_.reached.A m.case_.reached.l.length m.case_.reached.c)
 c45:cs[45]? =some (.slice m.raw.A m.raw.l.length m.raw.c)
 c145:cs[145]? =some (.slice m.note.A m.note.signs.length m.note.c)
 c148:cs[148]? =some (.slice m.inc.A m.inc.ds.length m.inc.c)
 c151:cs[151]? =some (.slice m.con.A m.con.ds.length m.con.c)
 c219:cs[219]? =some (.slice m.iA m.idx.way.length m.iC)
 c254:cs[254]? =some (.slice m.pie.eA m.pie.evs.length m.pie.eC)
 c255:cs[255]? =some (.slice m.pie.pA m.pie.pfs.length m.pie.pC)
theorem MReply.Ok.told{w:World}{X:Nat->Prop}{m:MReply}(h:m.Ok w X):ToldC m.cells m:=by
 have hc:=h.case_.chain;have e35:m.case_.cells[35]? =some (.slice m.case_.vA m.case_.values.length m.case_.vC):=jh [.string m.case_.name,.string m.case_.type_,.int .i64 m.case_.count] _ m.case_.chain hc 35 0 rfl;have e36:m.case_.cells[36]? =some (.slice m.case_.open_.A m.case_.open_.l.length m.case_.open_.c):=jh [.string m.case_.name,.string m.case_.type_,.int .i64 m.case_.count] _ m.case_.chain hc 35 1 rfl;have e37:m.case_.cells[37]? =some (.slice m.case_.closed.A m.case_.closed.l.length m.case_.closed.c):=jh [.string m.case_.name,.string m.case_.type_,.int .i64 m.case_.count] _ m.case_.chain hc 35 2 rfl;have e38:m.case_.cells[38]? =some (.slice m.case_.reached.A m.case_.reached.l.length m.case_.reached.c):=jh [.string m.case_.name,.string m.case_.type_,.int .i64 m.case_.count] _ m.case_.chain hc 35 3 rfl;have n98:m.note.cells[98]? =some (.slice m.note.A m.note.signs.length m.note.c):=by
  have:=(Sub.end_ m.note.head.cells [.slice m.note.A m.note.signs.length m.note.c] 98 h.note.head.len) 0 _ rfl;exact this
 have hi:=h.idx;have i67:(m.idx.cells m.iA m.iC)[67]? =some (.slice m.iA m.idx.way.length m.iC):=by
  have:=(Sub.end_ ([.string m.idx.case_,.bool m.idx.found,.int .i64 m.idx.count]++(jA m.idx.chain++jA m.idx.bitmap)) [.slice m.iA m.idx.way.length m.iC] 67 (by simp[jB,hi.chain,hi.bitmap])) 0 _ rfl;simpa [Idx.cells]using this
 exact⟨MReply.s5,MReply.c6 0 _ rfl,MReply.c6 1 _ rfl,MReply.c6 35 _ e35,MReply.c6 36 _ e36,MReply.c6 37 _ e37,MReply.c6 38 _ e38,h.r45 0 _ rfl,h.n47 98 _ n98,h.i146 2 _ rfl,h.c149 2 _ rfl,h.x152 67 _ i67,h.p220 34 _ (MPiece.s34 h.pie.before),h.p220 35 _ (MPiece.s35 h.pie.before)⟩
theorem MTexts.Ok.each{w:World}{X:Nat->Prop}{m:MTexts}(h:m.Ok w X):∀x∈m.l,x.size<=9223372036854775807:=by
 intro x hx;obtain⟨k,hk,rfl⟩:=List.getElem_of_mem hx;have:=h.small k hk;rw[List.getD,jJ9 hk]at this;simp only[Option.getD_some]at this;omega
theorem jCz(w:World)(left:Int)(m:MReply)(h1: -1<=left)(h2:left<=2147483647)(Hu:m.Ok w NoX)(hv:∀v∈m.case_.values,Vx v.v.v):
  Calls prog 11 #[.int .i64 left,.agg m.cells.toArray] w (jFA w):=by
 have Hn:=G (show(prog.info? 63).map (·.size)=some m.cells.length by rw[Hu.len];kernel_rfl);have HT:=G Hu.told;have Fe:=G Hu;have Hv:=G hv;clear Hu hv;generalize m.cells=cs at*;have Hb:=G (jQ2 w 63 cs.toArray);have Ho:=G ((jQ0 NoX w).alloc (.cells cs.toArray 63));go_enter func11,ntmps11;go_upto_region 1 with(fail);generalize w.alloc _=W at*;have c45:=Hb.out.at_ 45 (by rw[jJ7];exact HT.out.c45);have Bc:=Fe.out.raw.big;have e1:IntKind.i64.wrap (1000+(m.raw.l.length:Int))=1000+(m.raw.l.length:Int):=jQ3 _ (by omega);go_wp2_with fail;refine(yP W left (1000+(m.raw.l.length:Int)) h1 h2 (by omega)).mono ?_;rintro e w' ⟨r1,rfl,a1,a1',rfl⟩;clear c45 e1 Bc;go_upto_block 0 with fail;go_cut [0] (fun x wx=>∃r:Int,x=.int .i64 r/\ -1<=r/\r<=2147483647/\Old W wx)
 case first=>
  go_wp2_with fail;go_loopw [0,5] (fun x i wr=>∃(j:Nat) (r:Int),j<=m.hap.length/\i=.int .i64 j/\x=.int .i64 r/\ -1<=r/\r<=2147483647/\wr=W) (fun _ i _=>m.hap.length-(intOf i).toNat)
  case atStart=>exact⟨0,r1,Nat.zero_le _,rfl,rfl,a1,a1',rfl⟩
  case round=>
   obtain⟨j,r,hj,rfl,rfl,Fd,Fb,rfl⟩:=hrel;have c5:=Hb.out.at_ 5 (by rw[jJ7];exact HT.out.c5);have Ox:(j:Int)<=1000000000000:=by have:=Fe.out.bigH.2;omega
   by_cases hM:j<m.hap.length
   ·have S7:(j:Int)<(m.hap.length:Int):=(by omega);by_cases Mj:r<0
    ·have N0:¬(0:Int)<=r:=(by omega);go_wp2_with fail;go_meet
     case rel=>exact⟨r,rfl,Fd,Fb,jQ0 _ _⟩
    ·have N0:(0:Int)<=r:=(by omega);obtain⟨b,o,N7,FK⟩:=(Fe.out.rdH.old Ho.out).elem (f:=MHap.cells) (fun _ _=>rfl) rfl hM;have Du:=Fe.out.bigH.1 _ (jL6 hM);have q1:=FK 1 _ rfl;generalize m.hap[j]=y at*;rw[N7]at c5;have e1:IntKind.i64.wrap (10+(y.name.size:Int))=10+(y.name.size:Int):=jQ3 _ (by omega);clear FK N7;go_wp2_with fail;refine(yP wr r (10+(y.name.size:Int)) Fd Fb (by omega)).mono ?_;rintro e w' ⟨r2,rfl,b1,b2,rfl⟩;clear e1 q1;go_wp2;go_roundw
     case rel=>exact⟨j+1,r2,by omega,by go_num,rfl,b1,b2,trivial⟩
     case measure=>simp[intOf];omega
   ·obtain rfl:j=m.hap.length:=(by omega);go_wp2_with fail;go_meet
    case rel=>exact⟨r,rfl,Fd,Fb,jQ0 _ _⟩
 case rest=>
  obtain⟨r2,rfl,a2,a2',FL⟩:=hcut;have FH:=G FL;have c6:=jW (Hb.out.at_ 6 (by rw[jJ7];exact HT.out.c6)) FL;have c7:=jW (Hb.out.at_ 7 (by rw[jJ7];exact HT.out.c7)) FL;have OJ:=Fe.out.case_.big;have e1:IntKind.i64.wrap ((m.case_.type_.size:Int)+(m.case_.name.size:Int))=(m.case_.type_.size:Int)+(m.case_.name.size:Int):=jQ3 _ (by omega);clear FL;go_wp2_with fail;refine(yP wc r2 ((m.case_.type_.size:Int)+(m.case_.name.size:Int)) a2 a2' (by omega)).mono ?_;rintro e w' ⟨r3,rfl,a3,a3',rfl⟩;clear c6 c7 e1 OJ;go_upto_block 2 with fail;go_cut [0] (fun x wx=>∃r:Int,x=.int .i64 r/\ -1<=r/\r<=2147483647/\Old W wx)
  case first=>
   go_wp2_with fail;go_loopw [0,6] (fun x i wr=>∃(j:Nat) (r:Int),j<=m.case_.values.length/\i=.int .i64 j/\x=.int .i64 r/\ -1<=r/\r<=2147483647/\Old W wr) (fun _ i _=>m.case_.values.length-(intOf i).toNat)
   case atStart=>exact⟨0,r3,Nat.zero_le _,rfl,rfl,a3,a3',FH.out⟩
   case round=>
    obtain⟨j,r,hj,rfl,rfl,Fd,Fb,RG⟩:=hrel;have c41:=jW (Hb.out.at_ 41 (by rw[jJ7];exact HT.out.c41)) RG;have Ox:(j:Int)<=1000000000000:=by have:=Fe.out.case_.big.1;omega
    have Ld:=G RG;clear RG;by_cases hM:j<m.case_.values.length
    ·have S7:(j:Int)<(m.case_.values.length:Int):=(by omega);by_cases Mj:r<0
     ·have N0:¬(0:Int)<=r:=(by omega);go_wp2_with fail;go_meet
      case rel=>exact⟨r,rfl,Fd,Fb,Ld.out⟩
     ·have N0:(0:Int)<=r:=(by omega);obtain⟨b,o,N7,FK⟩:=((Fe.out.case_.rdV.old Ho.out).old Ld.out).elem (f:=MBind.cells) (fun _ _=>rfl) rfl hM;have Du:=Fe.out.case_.values _ (jL6 hM);have Mt:=Hv.out _ (jL6 hM);have Mz:=Du.small;generalize m.case_.values[j]=y at*;obtain⟨name,⟨⟨vk,vn,vt,vs⟩,mA,mc⟩⟩:=y;have q0:=FK 0 _ rfl;have q1:=FK 1 _ rfl;have q2:=FK 2 _ rfl;have q3:=FK 3 _ rfl;have q4:=FK 4 _ rfl;simp only[Nat.add_zero]at q0 q1 q2 q3 q4 Mz Mt;have Fu:=zG (n:=(name.size:Int)) Fb (by omega);have HR:=G (fun W' =>YA W' r (name.size:Int) Fd Fb (by omega));have HV:=G (fun W' (hw:Old wr W')=>UJ W' (yJ r (name.size:Int)) ⟨vk,vn,vt,vs⟩ mA mc Fu.2 Fu.1 (((Du.v.rd.old Ho.out).old Ld.out).old hw) Mt);simp only[vV]at HV;rw[N7]at c41;clear FK N7 Du Mt Fu;go_upto_region 10 with(fail);have HVd:=G (HV.out wr.drew (jQ0 NoX wr).drew)
      go_region_held3 (fun w' =>w'.cell? ⟨w.heap.size,41,none⟩=some (.slice (some ⟨b,o,none⟩) m.case_.values.length m.case_.vC)/\w'.cell? ⟨b,o+j*5,none⟩=some (.string name)/\w'.cell? ⟨b,o+j*5+1,none⟩=some (.int .i64 vk)/\w'.cell? ⟨b,o+j*5+2,none⟩=some (.int .i64 vn)/\w'.cell? ⟨b,o+j*5+3,none⟩=some (.string vt)/\w'.cell? ⟨b,o+j*5+4,none⟩=some (.slice mA vs.length mc)) (first|exact⟨c41,q0,q1,q2,q3,q4⟩|exact⟨jW c41 GX,jW q0 GX,jW q1 GX,jW q2 GX,jW q3 GX,jW q4 GX⟩|fail)
       (first
        |(go_at_call 10;refine(HR.out _).mono ?_;rintro e w4 ⟨rfl,rfl⟩)
        |(go_at_call_of 29 (Value.string vt);refine HVd.out.mono ?_;rintro e w5 ⟨r5,rfl,b5,b5',Da⟩;have GX:Old wr w5:=(jQ0 NoX wr).drew.old Da)
        |fail)
      all_goals
       have NM:=G (Ld.out.old GX);clear GX Da c41 q0 q1 q2 q3 q4;go_wp2;go_roundw
       case rel=>exact⟨j+1,r5,by omega,by go_num,rfl,b5,b5',NM.out⟩
       case measure=>simp[intOf];omega
    ·obtain rfl:j=m.case_.values.length:=(by omega);go_wp2_with fail;go_meet
     case rel=>exact⟨r,rfl,Fd,Fb,Ld.out⟩
  case rest=>
   obtain⟨r4,rfl,a4,a4',Gv⟩:=hcut;have Wl:=G Gv;have c42:=jW (Hb.out.at_ 42 (by rw[jJ7];exact HT.out.c42)) Gv;have c43:=jW (Hb.out.at_ 43 (by rw[jJ7];exact HT.out.c43)) Gv;have c44:=jW (Hb.out.at_ 44 (by rw[jJ7];exact HT.out.c44)) Gv;have k1:=Jz m.case_.open_.l r4 a4 a4';have k2:=Jz m.case_.closed.l _ k1.1 k1.2;have k3:=Jz m.case_.reached.l _ k2.1 k2.2;have T1:=G (fun W' (hw:Old wc W')=>Vs W' r4 m.case_.open_.A m.case_.open_.c m.case_.open_.l.length m.case_.open_.l a4 a4' (((Fe.out.case_.open_.rd.old Ho.out).old Wl.out).old hw) rfl (Fe.out.case_.open_.each));have T2:=G (fun W' (hw:Old wc W')=>Vs W' (vN r4 m.case_.open_.l) m.case_.closed.A m.case_.closed.c m.case_.closed.l.length m.case_.closed.l k1.1 k1.2 (((Fe.out.case_.closed.rd.old Ho.out).old Wl.out).old hw) rfl (Fe.out.case_.closed.each));have T3:=G (fun W' (hw:Old wc W')=>Vs W' (vN (vN r4 m.case_.open_.l) m.case_.closed.l) m.case_.reached.A m.case_.reached.c m.case_.reached.l.length m.case_.reached.l k2.1 k2.2 (((Fe.out.case_.reached.rd.old Ho.out).old Wl.out).old hw) rfl (Fe.out.case_.reached.each));clear Gv;generalize vN r4 m.case_.open_.l=x1 at*;generalize vN x1 m.case_.closed.l=x2 at*;generalize vN x2 m.case_.reached.l=r5 at*;go_wp2_with fail;go_quiet (first|(go_at_call_of 30 (Value.int .i64 r4);refine Calls.quiet_of_same ((T1.out _ ((jQ0 NoX wc).drewN _)).mono (fun _ _ h=>⟨h.1,h.2.symm⟩)))|(go_at_call_of 30 (Value.int .i64 x1);refine Calls.quiet_of_same ((T2.out _ ((jQ0 NoX wc).drewN _)).mono (fun _ _ h=>⟨h.1,h.2.symm⟩)))|(go_at_call_of 30 (Value.int .i64 x2);refine Calls.quiet_of_same ((T3.out _ ((jQ0 NoX wc).drewN _)).mono (fun _ _ h=>⟨h.1,h.2.symm⟩)))|fail);clear T1 T2 T3 c42 c43 c44;clear k1 k2;have NM:=G (Wl.out.drewN nq);generalize wc.drewN nq=w5 at*;have c254:=jW (Hb.out.at_ 254 (by rw[jJ7];exact HT.out.c254)) NM.out;have HL:=G (jBt w5 r5 m.pie.eA m.pie.eC m.pie.evs.length m.pie.evs k3.1 k3.2 ((Fe.out.pie.rdE.old Ho.out).old NM.out) (fun p hp=>(Fe.out.pie.evs p hp).big) (by have:=Fe.out.pie.big;omega));go_wp2_with fail;refine HL.out.mono ?_;rintro e w' ⟨r6,rfl,a6,a6',rfl⟩;clear HL c254;go_upto_block 4 with fail;go_cut [0] (fun x wx=>∃r:Int,x=.int .i64 r/\ -1<=r/\r<=2147483647/\Old W wx)
   case first=>
    go_wp2_with fail;go_loopw [0,7] (fun x i wr=>∃(j:Nat) (r:Int),j<=m.pie.pfs.length/\i=.int .i64 j/\x=.int .i64 r/\ -1<=r/\r<=2147483647/\Old W wr) (fun _ i _=>m.pie.pfs.length-(intOf i).toNat)
    case atStart=>exact⟨0,r6,Nat.zero_le _,rfl,rfl,a6,a6',NM.out⟩
    case round=>
     obtain⟨j,r,hj,rfl,rfl,Fd,Fb,RG⟩:=hrel;have c255:=jW (Hb.out.at_ 255 (by rw[jJ7];exact HT.out.c255)) RG;have Ox:(j:Int)<=1000000000000:=by have:=Fe.out.pie.big;omega
     have Ld:=G RG;clear RG;by_cases hM:j<m.pie.pfs.length
     ·have S7:(j:Int)<(m.pie.pfs.length:Int):=(by omega);by_cases Mj:r<0
      ·have N0:¬(0:Int)<=r:=(by omega);go_wp2_with fail;go_meet
       case rel=>exact⟨r,rfl,Fd,Fb,Ld.out⟩
      ·have N0:(0:Int)<=r:=(by omega);obtain⟨b,o,N7,FK⟩:=((Fe.out.pie.rdP.old Ho.out).old Ld.out).elem (f:=MWay.cells) (fun _ _=>rfl) rfl hM;have Du:=(Fe.out.pie.pfs _ (jL6 hM)).big;have q2:=FK 2 _ rfl;generalize m.pie.pfs[j]=y at*;rw[N7]at c255;have e1:IntKind.i64.wrap (50+(y.ds.length:Int))=50+(y.ds.length:Int):=jQ3 _ (by omega);clear FK N7;go_wp2_with fail;refine(yP wr r (50+(y.ds.length:Int)) Fd Fb (by omega)).mono ?_;rintro e w' ⟨r7,rfl,b1,b2,rfl⟩;clear e1 q2;go_wp2;go_roundw
       case rel=>exact⟨j+1,r7,by omega,by go_num,rfl,b1,b2,Ld.out⟩
       case measure=>simp[intOf];omega
     ·obtain rfl:j=m.pie.pfs.length:=(by omega);go_wp2_with fail;go_meet
      case rel=>exact⟨r,rfl,Fd,Fb,Ld.out⟩
   case rest=>
    obtain⟨r8,rfl,a8,a8',NF⟩:=hcut;have c145:=jW (Hb.out.at_ 145 (by rw[jJ7];exact HT.out.c145)) NF;have c148:=jW (Hb.out.at_ 148 (by rw[jJ7];exact HT.out.c148)) NF;have c151:=jW (Hb.out.at_ 151 (by rw[jJ7];exact HT.out.c151)) NF;have c219:=jW (Hb.out.at_ 219 (by rw[jJ7];exact HT.out.c219)) NF;have Ho8:=G NF;have GC:=Fe.out.note.big;have FG:=Fe.out.inc.big;have L9:=Fe.out.con.big;have Q4:=Fe.out.idx.big.1;have e1:IntKind.i64.wrap ((m.note.signs.length:Int)+(m.inc.ds.length:Int))=(m.note.signs.length:Int)+(m.inc.ds.length:Int):=jQ3 _ (by omega);have e2:IntKind.i64.wrap ((m.con.ds.length:Int)+(m.idx.way.length:Int))=(m.con.ds.length:Int)+(m.idx.way.length:Int):=jQ3 _ (by omega);clear NF;go_wp2_with fail;refine(yP wc r8 ((m.note.signs.length:Int)+(m.inc.ds.length:Int)) a8 a8' (by omega)).mono ?_;rintro e w' ⟨r9,rfl,a9,a9',rfl⟩;go_wp2_with fail;refine(yP wc r9 ((m.con.ds.length:Int)+(m.idx.way.length:Int)) a9 a9' (by omega)).mono ?_;rintro e w' ⟨r10,rfl,a10,a10',rfl⟩;go_wp2;go_ret;exact⟨r10,rfl,a10,a10',Ho.out.old Ho8.out⟩
theorem BRow.cap{w:World}{base:Nat}{l:LB}{A:OA}{c:Nat}(h:BRow w base l A c):l.length<=c:=by
 rcases h.own.2 with⟨hv,_⟩|⟨g,cap,cur,hv,_,_,hn,_⟩
 ·injection hv with _ h1 h2;omega
 ·injection hv with _ _ h2;omega
theorem Qw(w:World)(op:Int)(m:MReply)(A:OA)(c:Nat)(bs:LB)(Hu:m.Ok w NoX)(hv:∀v∈m.case_.values,Vx v.v.v)(WW:(m.hap.flatMap zM).length<=9000000000)(Fa:Rd w 1 A bs.length (bs.map bv))(hc:bs.length<=c)(hl:bs.length<=2147483647):
  Calls prog 4 #[.int .i64 op,.agg m.cells.toArray,.slice A bs.length c] w fun e w' =>e=.returned (.bool true)/\Old w w' :=by
 have HA:=G (fun W (ho:Old w W)=>jCz W 2147483647 m (by decide) (by decide) (Hu.turn (X' :=NoX) ho (fun _ _ f=>f.elim) (fun _ _ f=>f)) hv);have HE:=G (fun W (ho:Old w W)=>jCD W op m NoX (Hu.turn ho (fun _ _ f=>f.elim) (fun _ _ f=>f)));have HQ:=G (fun W (ho:Old w W)=>jAH W op m NoX (Hu.turn ho (fun _ _ f=>f.elim) (fun _ _ f=>f)) WW);have HR:=G (fun W (ho:Old w W)=>qH W op A c bs (Fa.old ho) hc hl);have Hz:=G (show∀l,vr op m.data=some l->l.length<=4194304 from fun l h=>uE h);have Hn:=G (show(prog.info? 63).map (·.size)=some m.cells.length by rw[Hu.len];exact kj);clear Hu hv WW Fa hc hl;generalize m.cells=cs at*;generalize vr op m.data=ob at*;have Hb:=G (jQ2 w 63 cs.toArray);have Ho:=G ((jQ0 NoX w).alloc (.cells cs.toArray 63));go_enter func4,ntmps4;go_wp2_with (first|refine jK rfl 63 (.tmp 4) rfl w.heap.size 0 rfl cs _ Hb.out.range underlying63 rfl Hn.out ?_ |fail);generalize w.alloc _=W at*;refine(HA.out W Ho.out).mono ?_;rintro e w1 ⟨r1,rfl,h1,Ns,F0⟩;have Hb:=G (Hb.out.old F0);have Ho:=G (Ho.out.old F0);clear F0;go_wp2_with fail;refine(yP w1 r1 bs.length h1 Ns (by omega)).mono ?_;rintro e w2 ⟨r2,rfl,h2,Nx,rfl⟩;by_cases Mj:r2<0
 ·go_wp2;go_ret;exact⟨rfl,Ho.out⟩
 ·go_wp2_with (first|refine jK rfl 63 (.tmp 4) rfl w.heap.size 0 rfl cs _ Hb.out.range underlying63 rfl Hn.out ?_ |fail);refine(HE.out w1 Ho.out).mono ?_;rintro e w2 (⟨l,A1,c1,Mv,hlen,rfl,Hi,FA,Mk,FL⟩|⟨GH,rfl,FL⟩)
  ·have Hb:=G (Hb.out.old FL);have Ho:=G (Ho.out.old FL);have Sw:=G Mv;have HX:=G Hi;clear FL Mv Hi FA Mk;go_wp2_with (first|refine jK rfl 63 (.tmp 4) rfl w.heap.size 0 rfl cs _ Hb.out.range underlying63 rfl Hn.out ?_ |fail);refine(HQ.out w2 Ho.out).mono ?_;rintro e w3 (⟨l',A2,c2,P3,Ff,rfl,Fg,Gj⟩|⟨GH,rfl,Gj⟩)
   ·obtain rfl:l=l' :=jL5 (Sw.out.symm.trans P3);obtain⟨g,rfl,_⟩:=Fg.some_ Ff;have Fu:=Hz.out l P3;have HL:=G (jEM w3 A1 c1 g c2 l (HX.out.old Gj) Fg.rd (by omega));have Ho:=G (Ho.out.old Gj);have HW:=G (fun W' (ho:Old w3 W')=>qH W' op (some ⟨g,0,none⟩) c2 l ((Fg.old ho).rd) Fg.cap (by omega));clear Gj P3 Ff Fg Fu;go_wp2_with fail;refine HL.out.mono ?_;rintro e w4 ⟨rfl,Gv⟩;have Li:=G (HR.out w4 (Ho.out.old Gv));have Wl:=G Gv;clear Gv;go_wp2_with fail;refine Li.out.mono ?_;rintro e w5 ⟨rfl,GX⟩;have Ph:=G (HW.out w5 (Wl.out.old GX));have NM:=G GX;clear GX;go_wp2_with fail;refine Ph.out.mono ?_;rintro e w6 ⟨rfl,FN⟩;go_wp2;go_ret;exact⟨rfl,((Ho.out.old Wl.out).old NM.out).old FN⟩
   ·rw[Sw.out]at GH;cases GH
  ·have Hb:=G (Hb.out.old FL);have Ho:=G (Ho.out.old FL);have Sw:=G GH;clear FL GH;go_wp2_with (first|refine jK rfl 63 (.tmp 4) rfl w.heap.size 0 rfl cs _ Hb.out.range underlying63 rfl Hn.out ?_ |fail);refine(HQ.out w2 Ho.out).mono ?_;rintro e w3 (⟨l',A2,c2,P3,Ff,rfl,Fg,Gj⟩|⟨GH,rfl,Gj⟩)
   ·rw[Sw.out]at P3;cases P3
   ·have HL:=G (jGQ w3);have Ho:=G (Ho.out.old Gj);have HW:=G (fun W' (ho:Old w3 W')=>qH W' op none 0 [] Rd.none_ (jL3 _) (by decide));clear Gj GH;go_wp2_with fail;refine HL.out.mono ?_;rintro e w4 ⟨rfl,Gv⟩;have Li:=G (HR.out w4 (Ho.out.old Gv));have Wl:=G Gv;clear Gv;go_wp2_with fail;refine Li.out.mono ?_;rintro e w5 ⟨rfl,GX⟩;have Ph:=G (HW.out w5 (Wl.out.old GX));have NM:=G GX;clear GX;go_wp2_with fail;refine Ph.out.mono ?_;rintro e w6 ⟨rfl,FN⟩;go_wp2;go_ret;exact⟨rfl,((Ho.out.old Wl.out).old NM.out).old FN⟩
open Go.RowKit Go.ChangeShapes
section
variable{H:Type}
theorem jG0(d:DataW H):1<=Rows.uptoBulk d:=by
 cases d with
 |lit l=>cases l<;>simp[Rows.uptoBulk]
 |nil=>simp[Rows.uptoBulk]
 |ptr d=>simp[Rows.uptoBulk]
 |slice elems spare=>simp[Rows.uptoBulk]
 |agg zI=>simp[Rows.uptoBulk]
 |iface t d=>simp[Rows.uptoBulk]
 |map entries=>simp[Rows.uptoBulk]
 |held h=>simp[Rows.uptoBulk]
theorem qu{d:DataW H}{l:List (DataW H)}(h:d∈l):Rows.uptoBulk d<=Rows.uptoBulkAll l:=by
 induction l with
 |nil=>cases h
 |cons x r ih=>
  simp only[Rows.uptoBulkAll];cases List.mem_cons.1 h with
  |inl e=>subst e;omega
  |inr e=>have:=ih e;omega
theorem uw(l:List (DataW H)):l.length<=Rows.uptoBulkAll l:=by
 induction l with
 |nil=>simp[Rows.uptoBulkAll]
 |cons x r ih=>have:=jG0 x;simp only[Rows.uptoBulkAll,jK6];omega
variable{enc:TypeId×Value->H}{w:World}{fuel:Nat}{cs:List Value}{x:DataW H×List MemPlace}
abbrev Tr(enc:TypeId×Value->H)(w:World)(fuel:Nat)(t:TypeId)(cs:List Value)(x:DataW H×List MemPlace):Prop:=DataW.trod enc prog w 0 (fun _=>true) true fuel t cs=some x
theorem qZ{t:TypeId}{fs:Array Field}(ht:prog.underlying t=some (.struct fs))(h:Tr enc w fuel t cs x):
  cs.length=prog.cellsOf t/\∀(i:Nat) (ft:TypeId) (o:Nat),(fs[i]?).map (fun f=>(f.type,f.offset))=some (ft,o)->∃n y,Tr enc w n ft ((cs.drop o).take (prog.cellsOf ft)) y/\Rows.uptoBulk y.1+1<=Rows.uptoBulk x.1:=by
 obtain⟨xs,n,_,rfl,hl,hlen,hf⟩:=DataW.trod_struct ht h;refine⟨hl,fun i ft o hi=> ?_⟩;obtain⟨f,Oy,e⟩:=Option.map_eq_some_iff.1 hi;injection e with e1 e2;subst e1 e2;have hM:i<xs.length:=by rw[hlen];exact(Array.getElem?_eq_some_iff.1 Oy).1
 have h1:=hf i f Oy;rw[jJ9 hM]at h1;refine⟨n,xs[i],h1,?_⟩;have:=qu (List.mem_map_of_mem (f:=fun y:DataW H×List MemPlace=>y.1) (jL6 hM));simp only[Rows.uptoBulk];omega
theorem kb{t:TypeId}(ht:prog.underlying t=some (.int .i64))(h:Tr enc w fuel t cs x):∃n:Int,cs=[.int .i64 n]/\ -9223372036854775808<=n/\n<=9223372036854775807:=by
 obtain⟨n,rfl,_,hw⟩:=DataW.trod_int ht h;refine⟨n,rfl,?_⟩;simpa [Lit.wf,IntKind.min,IntKind.max,IntKind.signed,IntKind.bits]using hw
theorem zd(h:Tr enc w fuel 9 cs x):∃s:ByteArray,cs=[.string s]/\s.size+1<=Rows.uptoBulk x.1:=by
 obtain⟨s,rfl,rfl,hw⟩:=DataW.trod_string underlying9 h;refine⟨s,rfl,?_⟩;have e:s.data.toList.length=s.size:=by rw[Array.length_toList];rfl
 simp only[Rows.uptoBulk];omega
theorem jEn{n:Int}(h:(Lit.int .u8 n).wf=true):((UInt8.ofNat n.toNat).toNat:Int)=n:=by
 have h1:0<=n/\n<=255:=(by simpa [Lit.wf,IntKind.min,IntKind.max,IntKind.signed,IntKind.bits]using h);rw[UInt8.toNat_ofNat'];omega
theorem Ys(h:Tr enc w fuel 22 cs x):∃A c,∃l:LB,cs=[.slice A l.length c]/\Rd w 1 A l.length (l.map bv)/\l.length<=c/\l.length+1<=Rows.uptoBulk x.1:=by
 rcases open_ints underlying22 underlying5 (by kernel_rfl) h with⟨rfl,rfl⟩|⟨a,len,cap,zs,rfl,_,Ou,_,LW,rfl,Fw,hwf⟩
 ·exact⟨none,0,[],rfl,Rd.none_,jL3 _,by simp[Rows.uptoBulk]⟩
 ·simp only[if_true]at LW;have hl:((zs.take len).map fun z=>UInt8.ofNat z.toNat).length=len:=by simp;omega
  refine⟨some a,cap,(zs.take len).map fun z=>UInt8.ofNat z.toNat,by rw[hl],?_,by omega,?_⟩
  ·rw[hl];refine Rd.of_add (by rw[jK7,hl,Nat.mul_one]) (by decide) (fun j u hu=> ?_);have hj:j<len:=by
    have:=(List.getElem?_eq_some_iff.1 hu).1;rw[jK7,hl]at this;exact this
   have ST:j<zs.length:=(by omega);rw[Fw j ST];rw[jM1,jM1,List.getElem?_take,jJ6 hj,jJ9 ST]at hu;simp only[Option.map_some,Option.some.injEq]at hu;rw[<-hu];simp only[bv,jEn (hwf _ (jL6 ST)),List.getD,jJ9 ST,Option.getD_some]
  ·have:=uw (lits (H:=H) .u8 (zs.take len));rw[hl];simp only[Rows.uptoBulk];simp only[lits,jK7,jK9]at this;simp only[lits];omega
theorem Kk(h:Tr enc w fuel 27 cs x):∃A c,∃l:List ByteArray,cs=[.slice A l.length c]/\Rd w 1 A l.length (l.map sv)/\l.length<=c/\l.length+1<=Rows.uptoBulk x.1/\∀s∈l,s.size+1<=Rows.uptoBulk x.1:=by
 rcases open_strings underlying27 underlying9 (by kernel_rfl) h with⟨rfl,rfl⟩|⟨a,len,cap,ss,rfl,_,Ou,_,LW,rfl,Fw,_⟩
 ·exact⟨none,0,[],rfl,Rd.none_,jL3 _,by simp[Rows.uptoBulk],fun s hs=>by cases hs⟩
 ·simp only[if_true]at LW;have hl:(ss.take len).length=len:=by simp;omega
  refine⟨some a,cap,ss.take len,by rw[hl],?_,by omega,?_,fun s hs=> ?_⟩
  ·rw[hl];refine Rd.of_add (by rw[jK7,hl,Nat.mul_one]) (by decide) (fun j u hu=> ?_);have hj:j<len:=by
    have:=(List.getElem?_eq_some_iff.1 hu).1;rw[jK7,hl]at this;exact this
   have ST:j<ss.length:=(by omega);rw[Fw j ST];rw[jM1,List.getElem?_take,jJ6 hj,jJ9 ST]at hu;simp only[Option.map_some,Option.some.injEq]at hu;rw[<-hu];simp only[sv,List.getD,jJ9 ST,Option.getD_some]
  ·have:=uw (strs (H:=H) (ss.take len));rw[hl];simp only[Rows.uptoBulk];simp only[strs,jK7,jK9]at this;simp only[strs];omega
  ·have h1:=qu (List.mem_map_of_mem (f:=fun s=>DataW.lit (H:=H) (.string s.data.toList)) hs);have e:s.data.toList.length=s.size:=by rw[Array.length_toList];rfl
   simp only[Rows.uptoBulk]at h1;simp only[Rows.uptoBulk,strs];omega
theorem jGp:prog.cellsOf 3=1:=by kernel_rfl
theorem jEg:prog.cellsOf 26=1:=by kernel_rfl
theorem Uc:prog.cellsOf 9=1:=by kernel_rfl
theorem jCR:prog.cellsOf 27=1:=by kernel_rfl
theorem jCQ:prog.cellsOf 29=4:=by kernel_rfl
theorem Zj{α:Type}{l:List α}{n:Nat}(h:l.length=n+1):∃a t,l=a::t/\t.length=n:=by
 cases l with
 |nil=>simp at h
 |cons a t=>exact⟨a,t,rfl,by simpa using h⟩
theorem jBi(h:Tr enc w fuel 29 cs x)(hB:Rows.uptoBulk x.1<=1048576):∃m:MVal,cs=m.cells/\m.Ok w NoX/\Vx m.v:=by
 obtain⟨hl,hf⟩:=qZ underlying29 h;rw[jCQ]at hl;obtain⟨n0,y0,h0,b0⟩:=hf 0 26 0 rfl;obtain⟨n1,y1,h1,b1⟩:=hf 1 3 1 rfl;obtain⟨n2,y2,h2,b2⟩:=hf 2 9 2 rfl;obtain⟨n3,y3,h3,b3⟩:=hf 3 27 3 rfl;obtain⟨c0,l0,rfl,hl0⟩:=Zj hl;obtain⟨c1,l1,rfl,TL⟩:=Zj hl0;obtain⟨c2,l2,rfl,S9⟩:=Zj TL;obtain⟨c3,l3,rfl,Ov⟩:=Zj S9;obtain rfl:=List.eq_nil_of_length_eq_zero Ov;simp only[jEg,jGp,Uc,jCR,List.drop_zero,List.drop_succ_cons,List.take_succ_cons,List.take_zero]at h0 h1 h2 h3;obtain⟨k,e0,_⟩:=kb underlying26 h0;obtain⟨n,e1,_⟩:=kb underlying3 h1;obtain⟨t,e2,s2⟩:=zd h2;obtain⟨A,c,l,e3,Fa,hc,s3,s4⟩:=Kk h3;simp only[List.cons.injEq,and_true]at e0 e1 e2 e3;subst e0 e1 e2 e3;exact⟨⟨⟨k,n,t,l⟩,A,c⟩,rfl,⟨Fa,Av.no _ _,hc,by simp only;omega⟩,by simp only;omega,fun s hs=>by have:=s4 s hs;omega⟩
end
theorem jGm(cs:List Value)(o k:Nat):(cs.drop o).take k++cs.drop (o+k)=cs.drop o:=by
 rw[<-List.drop_drop];exact List.take_append_drop _ _
theorem jI6(k:Nat)(hk:0<k)(f:Nat->List Value):∀(n:Nat),(∀i,i<n->(f i).length=k)->((List.range n).flatMap f).length=n*k/\∀j u,((List.range n).flatMap f)[j]? =some u->∃i r,i<n/\r<k/\j=i*k+r/\(f i)[r]? =some u
 |0,_=>⟨by simp,fun j u h=>by simp at h⟩
 |n+1,hf=>by
  obtain⟨h1,h2⟩:=jI6 k hk f n (fun i hi=>hf i (by omega));have hn:=hf n (by omega);rw[List.range_succ,List.flatMap_append];have e:List.flatMap f [n]=f n:=(by simp);rw[e];refine⟨by rw[jJ4,h1,hn,Nat.succ_mul],fun j u hu=> ?_⟩;by_cases hj:j<n*k
  ·rw[List.getElem?_append_left (by rw[h1];exact hj)]at hu;obtain⟨i,r,hi,hr,hjr,hv⟩:=h2 j u hu;exact⟨i,r,by omega,hr,hjr,hv⟩
  ·rw[List.getElem?_append_right (by rw[h1];omega),h1]at hu;have:=(List.getElem?_eq_some_iff.1 hu).1;exact⟨n,j-n*k,by omega,by omega,by omega,hu⟩
section
variable{H:Type}{enc:TypeId×Value->H}{w:World}{fuel:Nat}{cs:List Value}{x:DataW H×List MemPlace}
theorem jAt{α:Type}(g:Nat->α)(wt:α->Nat)(D:Nat->DataW H):∀l:List Nat,(∀i∈l,wt (g i)<=Rows.uptoBulk (D i))->((l.map g).map wt).sum<=Rows.uptoBulkAll (l.map D)
 |[],_=>by simp[Rows.uptoBulkAll]
 |i::l,h=>by
  have h1:=jAt g wt D l (fun j hj=>h j (List.mem_cons_of_mem _ hj));have h2:=h i (List.mem_cons_self ..);simp only[List.map_cons,List.sum_cons,Rows.uptoBulkAll];omega
theorem xr{α:Type}[Inhabited α]{ts e:TypeId}{k:Nat}(f:α->List Value)(Pr:α->Prop)(wt:α->Nat)(hf:∀a,Pr a->(f a).length=k)(ht:prog.underlying ts=some (.slice e))(hc:prog.cellsOf e=k)(hk:0<k)
  (each:∀(cs:List Value) (fuel:Nat) (x:DataW H×List MemPlace),Tr enc w fuel e cs x->Rows.uptoBulk x.1<=1048576->∃a,cs=f a/\Pr a/\wt a<=Rows.uptoBulk x.1) (h:Tr enc w fuel ts cs x) (hB:Rows.uptoBulk x.1<=1048576):
  ∃A c,∃l:List α,cs=[.slice A l.length c]/\Rd w k A l.length (l.flatMap f)/\l.length<=c/\l.length<=1048576/\(∀v∈l,Pr v)/\(l.map wt).sum<=1048576:=by
 rcases Deep.open_slice ht h with⟨rfl,rfl⟩|⟨a,len,cap,m,n,D,Pl,rfl,_,Ou,_,hm,rfl,hx⟩
 ·exact⟨none,0,[],rfl,Rd.none_,jL3 _,Nat.zero_le _,fun v hv=>(by cases hv),by simp⟩
 ·simp only[if_true]at hm;subst hm;rw[hc]at hx;simp only[Rows.uptoBulk]at hB;have hlen:=uw ((List.range len).map D);rw[jK7,List.length_range]at hlen;obtain⟨g,hg⟩:=Deep.choose_lt (n:=len) (p:=fun i (v:α)=>w.cells? 0 (a.add (i*k)) k=some (f v)/\Pr v/\wt v<=Rows.uptoBulk (D i)) (fun i hi=>by
   obtain⟨cs',h1,h2⟩:=hx i (by omega);have hb:=qu (List.mem_map_of_mem (f:=D) (List.mem_range.2 hi));obtain⟨v,rfl,h3,h4⟩:=each _ _ _ h2 (by simp only;omega);exact⟨v,h1,h3,h4⟩)
  have hl:((List.range len).map g).length=len:=(by simp);refine⟨some a,m,(List.range len).map g,by rw[hl],?_,by omega,by omega,fun v hv=> ?_,?_⟩
  ·rw[hl,List.flatMap_map];obtain⟨h1,h2⟩:=jI6 k hk (fun i=>f (g i)) len (fun i hi=>hf _ (hg i hi).2.1);refine Rd.of_add h1 hk (fun j u hu=> ?_);obtain⟨i,r,hi,hr,rfl,hv⟩:=h2 j u hu;have h3:=(World.cells?_some (hg i hi).1).2.2 r hr;rw[jCp]at h3;rw[h3];exact hv
  ·obtain⟨i,hi,rfl⟩:=List.mem_map.1 hv;exact(hg i (List.mem_range.1 hi)).2.1
  ·have:=jAt g wt D (List.range len) (fun i hi=>(hg i (List.mem_range.1 hi)).2.2);omega
theorem KJ{α:Type}[Inhabited α]{ts e:TypeId}{k:Nat}(f:α->List Value)(Pr:α->Prop)(hf:∀a,Pr a->(f a).length=k)(ht:prog.underlying ts=some (.slice e))(hc:prog.cellsOf e=k)(hk:0<k)
  (each:∀(cs:List Value) (fuel:Nat) (x:DataW H×List MemPlace),Tr enc w fuel e cs x->Rows.uptoBulk x.1<=1048576->∃a,cs=f a/\Pr a) (h:Tr enc w fuel ts cs x) (hB:Rows.uptoBulk x.1<=1048576):
  ∃A c,∃l:List α,cs=[.slice A l.length c]/\Rd w k A l.length (l.flatMap f)/\l.length<=c/\l.length<=1048576/\∀v∈l,Pr v:=by
 obtain⟨A,c,l,h1,h2,h3,h4,h5,_⟩:=xr f Pr (fun _=>0) hf ht hc hk (fun cs fuel x h hB=>by
  obtain⟨a,e1,e2⟩:=each cs fuel x h hB;exact⟨a,e1,e2,Nat.zero_le _⟩) h hB
 exact⟨A,c,l,h1,h2,h3,h4,h5⟩
theorem jBo(h:Tr enc w fuel 4 cs x):∃b,cs=[.bool b]:=by
 obtain⟨b,e,_⟩:=DataW.trod_bool underlying4 h;exact⟨b,e⟩
theorem kB{t:TypeId}{fs:Array Field}{K:Nat}(ht:prog.underlying t=some (.struct fs))(hK:prog.cellsOf t=K)(h:Tr enc w fuel t cs x):
  cs.length=K/\∀(i:Nat) (ft:TypeId) (o k:Nat),(fs[i]?).map (fun f=>(f.type,f.offset))=some (ft,o)->prog.cellsOf ft=k->∃n y,Tr enc w n ft ((cs.drop o).take k) y/\Rows.uptoBulk y.1+1<=Rows.uptoBulk x.1:=by
 obtain⟨a,b⟩:=qZ ht h;exact⟨by rw[a,hK],fun i ft o k h1 h2=>h2▸b i ft o h1⟩
def KT(cs:List Value):List Nat->Nat->List Value
 |[],_=>[]
 |[k],o=>(cs.drop o).take k
 |k::q::ks,o=>(cs.drop o).take k++KT cs (q::ks) (o+k)
theorem XC(cs:List Value):∀(ks:List Nat) (o:Nat),cs.length=o+ks.sum->cs.drop o=KT cs ks o
 |[],o,h=>List.drop_eq_nil_of_le (by simp at h;omega)
 |[k],o,h=>(jK4 (by rw[jK8];simp at h;omega)).symm
 |k::q::ks,o,h=>by
  rw[KT,<-XC cs (q::ks) (o+k) (by simp only[List.sum_cons]at h⊢;omega)];exact(jGm cs o k).symm
theorem vB(cs:List Value)(ks:List Nat)(h:cs.length=ks.sum):cs=KT cs ks 0:=by
 have:=XC cs ks 0 (by rw[h,Nat.zero_add])
 rwa [List.drop_zero]at this
def jHL:Value->UInt8
 | .int _ n=>UInt8.ofNat n.toNat
 |_=>0
theorem ko(h:Tr enc w fuel 40 cs x):∃d:LB,cs=jA d/\d.length=32:=by
 obtain⟨xs,m,_,_,hl,hx,hi⟩:=DataW.trod_array underlying40 h;rw[show prog.cellsOf 40=32 from by kernel_rfl]at hl;rw[show prog.cellsOf 5=1 from by kernel_rfl]at hi;refine⟨cs.map jHL,?_,by rw[jK7,hl]⟩;refine List.ext_getElem (by simp[jA]) (fun i h1 h2=> ?_);have hM:i<32:=(by omega);have h3:=hi i hM;rw[Nat.mul_one,jJ9 (by omega)]at h3;obtain⟨n,e,_,hw⟩:=DataW.trod_int underlying5 h3;have e2:cs[i]=.int .u8 n:=by
  have e3:((cs.drop i).take 1)[0]? =some (.int .u8 n):=by rw[e];rfl
  rw[List.getElem?_take,jJ6 (by decide),List.getElem?_drop,Nat.add_zero,jJ9 h1]at e3;exact jL5 e3
 simp only[jA,List.getElem_map,e2,jHL,bv,jEn hw]
theorem ug(h:Tr enc w fuel 40 cs x)(_hB:Rows.uptoBulk x.1<=1048576):∃d:LB,cs=jA d/\d.length=32:=ko h
theorem qd(h:Tr enc w fuel 49 cs x)(hB:Rows.uptoBulk x.1<=1048576):∃A c,∃l:List LB,cs=[.slice A l.length c]/\Rd w 32 A l.length (l.flatMap jA)/\l.length<=c/\l.length<=1048576/\∀v∈l,v.length=32:=by
 haveI:Inhabited LB:=⟨[]⟩
 exact KJ (k:=32) jA (fun v:LB=>v.length=32) (fun a h=>by rw[jB,h]) underlying49 (by kernel_rfl) (by decide) (fun cs fuel x h hB=>ug h hB) h hB
theorem jBl(h:Tr enc w fuel 37 cs x)(_hB:Rows.uptoBulk x.1<=1048576):∃a b c:Int,cs=[.int .i64 a,.int .i64 b,.int .i64 c]:=by
 obtain⟨hl,hf⟩:=kB (K:=3) underlying37 (by kernel_rfl) h;obtain⟨n0,y0,h0,b0⟩:=hf 0 3 0 1 rfl (by kernel_rfl);obtain⟨n1,y1,h1,b1⟩:=hf 1 3 1 1 rfl (by kernel_rfl);obtain⟨n2,y2,h2,b2⟩:=hf 2 3 2 1 rfl (by kernel_rfl);have FO:=vB cs [1,1,1] hl;simp only[KT,Nat.reduceAdd]at FO;obtain⟨z0,e0,lo0,Cw⟩:=kb underlying3 h0;obtain⟨z1,e1,lo1,Dl⟩:=kb underlying3 h1;obtain⟨z2,e2,lo2,PX⟩:=kb underlying3 h2;rw[e0,e1,e2]at FO;clear hf h0 e0 h1 e1 h2 e2;exact⟨z0,z1,z2,FO⟩
theorem uf(h:Tr enc w fuel 105 cs x)(hB:Rows.uptoBulk x.1<=1048576):∃m:MHap,cs=m.cells/\m.name.size<=1048576/\m.name.size<=Rows.uptoBulk x.1:=by
 obtain⟨hl,hf⟩:=kB (K:=2) underlying105 (by kernel_rfl) h;obtain⟨n0,y0,h0,b0⟩:=hf 0 3 0 1 rfl (by kernel_rfl);obtain⟨n1,y1,h1,b1⟩:=hf 1 9 1 1 rfl (by kernel_rfl);have FO:=vB cs [1,1] hl;simp only[KT,Nat.reduceAdd]at FO;obtain⟨z0,e0,lo0,Cw⟩:=kb underlying3 h0;obtain⟨s1,e1,l1⟩:=zd h1;rw[e0,e1]at FO;clear hf h0 e0 h1 e1;exact⟨⟨z0,s1⟩,FO,by simp only;omega,by simp only;omega⟩
theorem jD9(h:Tr enc w fuel 38 cs x)(hB:Rows.uptoBulk x.1<=1048576):∃A c,∃l:List MHap,cs=[.slice A l.length c]/\Rd w 2 A l.length (l.flatMap MHap.cells)/\l.length<=c/\l.length<=1048576/\(∀v∈l,v.name.size<=1048576)/\(l.map (fun v:MHap=>v.name.size)).sum<=1048576:=by
 haveI:Inhabited MHap:=⟨⟨0,⟨#[]⟩⟩⟩
 exact xr (k:=2) MHap.cells (fun v:MHap=>v.name.size<=1048576) (fun v:MHap=>v.name.size) (fun _ _=>rfl) underlying38 (by kernel_rfl) (by decide) (fun cs fuel x h hB=>uf h hB) h hB
theorem xC(h:Tr enc w fuel 108 cs x)(hB:Rows.uptoBulk x.1<=1048576):∃m:MBind,cs=m.cells/\m.Ok w NoX/\Vx m.v.v:=by
 obtain⟨hl,hf⟩:=kB (K:=5) underlying108 (by kernel_rfl) h;obtain⟨n0,y0,h0,b0⟩:=hf 0 9 0 1 rfl (by kernel_rfl);obtain⟨n1,y1,h1,b1⟩:=hf 1 29 1 4 rfl (by kernel_rfl);have FO:=vB cs [1,4] hl;simp only[KT,Nat.reduceAdd]at FO;obtain⟨s0,e0,l0⟩:=zd h0;obtain⟨m1,e1,k1,v1⟩:=jBi h1 (by omega);rw[e0,e1]at FO;clear hf h0 e0 h1 e1;exact⟨⟨s0,m1⟩,FO,⟨k1,by simp only;omega⟩,v1⟩
theorem jBp(h:Tr enc w fuel 41 cs x)(hB:Rows.uptoBulk x.1<=1048576):∃A c,∃l:List (MBind),cs=[.slice A l.length c]/\Rd w 5 A l.length (l.flatMap MBind.cells)/\l.length<=c/\l.length<=1048576/\∀v∈l,v.Ok w NoX/\Vx v.v.v:=by
 haveI:Inhabited (MBind):=⟨⟨⟨#[]⟩,⟨⟨0,0,⟨#[]⟩,[]⟩,none,0⟩⟩⟩
 exact KJ (k:=5) MBind.cells (fun v:MBind=>v.Ok w NoX/\Vx v.v.v) (fun _ _=>rfl) underlying41 (by kernel_rfl) (by decide) (fun cs fuel x h hB=>xC h hB) h hB
theorem Yi{A:OA}{c:Nat}{l:List BA}{n:Nat}(hr:Rd w 1 A l.length (l.map sv))(hc:l.length<=c)(h1:l.length+1<=n)(h2:∀s∈l,s.size+1<=n)(hn:n<=1048576):(⟨l,A,c⟩:MTexts).Ok w NoX:=
 ⟨hr,Av.no _ _,hc,fun k hk=>by
  have Na:k<l.length:=hk;have:=h2 l[k] (jL6 Na);simp only[List.getD,jJ9 Na,Option.getD_some];omega,by simp only;omega⟩
theorem jEA(h:Tr enc w fuel 43 cs x)(hB:Rows.uptoBulk x.1<=1048576):∃m:MCase,cs=m.cells/\m.Ok w NoX/\∀v∈m.values,Vx v.v.v:=by
 obtain⟨hl,hf⟩:=kB (K:=39) underlying43 (by kernel_rfl) h;obtain⟨n0,y0,h0,b0⟩:=hf 0 9 0 1 rfl (by kernel_rfl);obtain⟨n1,y1,h1,b1⟩:=hf 1 9 1 1 rfl (by kernel_rfl);obtain⟨n2,y2,h2,b2⟩:=hf 2 3 2 1 rfl (by kernel_rfl);obtain⟨n3,y3,h3,b3⟩:=hf 3 40 3 32 rfl (by kernel_rfl);obtain⟨n4,y4,h4,b4⟩:=hf 4 41 35 1 rfl (by kernel_rfl);obtain⟨n5,y5,h5,b5⟩:=hf 5 27 36 1 rfl (by kernel_rfl);obtain⟨n6,y6,h6,b6⟩:=hf 6 27 37 1 rfl (by kernel_rfl);obtain⟨n7,y7,h7,b7⟩:=hf 7 27 38 1 rfl (by kernel_rfl);have FO:=vB cs [1,1,1,32,1,1,1,1] hl;simp only[KT,Nat.reduceAdd]at FO;obtain⟨s0,e0,l0⟩:=zd h0;obtain⟨s1,e1,l1⟩:=zd h1;obtain⟨z2,e2,lo2,PX⟩:=kb underlying3 h2;obtain⟨d3,e3,l3⟩:=ko h3;obtain⟨A4,c4,s4,e4,r4,cp4,l4,f4⟩:=jBp h4 (by omega);obtain⟨A5,c5,s5,e5,r5,cp5,l5,f5⟩:=Kk h5;obtain⟨A6,c6,s6,e6,r6,cp6,l6,f6⟩:=Kk h6;obtain⟨A7,c7,s7,e7,r7,cp7,l7,f7⟩:=Kk h7;rw[e0,e1,e2,e3,e4,e5,e6,e7]at FO;clear hf h0 e0 h1 e1 h2 e2 h3 e3 h4 e4 h5 e5 h6 e6 h7 e7;exact⟨⟨s0,s1,z2,d3,s4,A4,c4,⟨s5,A5,c5⟩,⟨s6,A6,c6⟩,⟨s7,A7,c7⟩⟩,FO,⟨l3,fun v hv=>(f4 v hv).1,r4,Av.no _ _,Yi r5 cp5 l5 f5 (by omega),Yi r6 cp6 l6 f6 (by omega),Yi r7 cp7 l7 f7 (by omega),by simp only;omega⟩,fun v hv=>(f4 v hv).2⟩
theorem jD8(h:Tr enc w fuel 45 cs x)(_hB:Rows.uptoBulk x.1<=1048576):∃m:Hd,cs=m.cells/\m.Ok/\((-9223372036854775808<=m.size/\m.size<=9223372036854775807)/\(-9223372036854775808<=m.clock/\m.clock<=9223372036854775807)):=by
 obtain⟨hl,hf⟩:=kB (K:=98) underlying45 (by kernel_rfl) h;obtain⟨n0,y0,h0,b0⟩:=hf 0 40 0 32 rfl (by kernel_rfl);obtain⟨n1,y1,h1,b1⟩:=hf 1 3 32 1 rfl (by kernel_rfl);obtain⟨n2,y2,h2,b2⟩:=hf 2 40 33 32 rfl (by kernel_rfl);obtain⟨n3,y3,h3,b3⟩:=hf 3 40 65 32 rfl (by kernel_rfl);obtain⟨n4,y4,h4,b4⟩:=hf 4 3 97 1 rfl (by kernel_rfl);have FO:=vB cs [32,1,32,32,1] hl;simp only[KT,Nat.reduceAdd]at FO;obtain⟨d0,e0,l0⟩:=ko h0;obtain⟨z1,e1,lo1,Dl⟩:=kb underlying3 h1;obtain⟨d2,e2,l2⟩:=ko h2;obtain⟨d3,e3,l3⟩:=ko h3;obtain⟨z4,e4,lo4,hi4⟩:=kb underlying3 h4;rw[e0,e1,e2,e3,e4]at FO;clear hf h0 e0 h1 e1 h2 e2 h3 e3 h4 e4;exact⟨⟨d0,z1,d2,d3,z4⟩,FO,⟨l0,l2,l3⟩,⟨lo1,Dl⟩,⟨lo4,hi4⟩⟩
theorem xB(h:Tr enc w fuel 165 cs x)(_hB:Rows.uptoBulk x.1<=1048576):∃m:Sgn,cs=m.cells/\True:=by
 obtain⟨hl,hf⟩:=kB (K:=64) underlying165 (by kernel_rfl) h;obtain⟨n0,y0,h0,b0⟩:=hf 0 40 0 32 rfl (by kernel_rfl);obtain⟨n1,y1,h1,b1⟩:=hf 1 40 32 32 rfl (by kernel_rfl);have FO:=vB cs [32,32] hl;simp only[KT,Nat.reduceAdd]at FO;obtain⟨d0,e0,l0⟩:=ko h0;obtain⟨d1,e1,l1⟩:=ko h1;rw[e0,e1]at FO;clear hf h0 e0 h1 e1;exact⟨⟨d0,d1,l0,l1⟩,FO,trivial⟩
theorem jBj(h:Tr enc w fuel 46 cs x)(hB:Rows.uptoBulk x.1<=1048576):∃A c,∃l:List (Sgn),cs=[.slice A l.length c]/\Rd w 64 A l.length (l.flatMap Sgn.cells)/\l.length<=c/\l.length<=1048576/\∀v∈l,True:=by
 haveI:Inhabited (Sgn):=⟨⟨zC,zC,by decide,by decide⟩⟩
 exact KJ (k:=64) Sgn.cells (fun v:Sgn=>True) (fun a _=>a.len) underlying46 (by kernel_rfl) (by decide) (fun cs fuel x h hB=>xB h hB) h hB
theorem jD6(h:Tr enc w fuel 48 cs x)(hB:Rows.uptoBulk x.1<=1048576):∃m:MNote,cs=m.cells/\m.Ok w NoX/\((-9223372036854775808<=m.head.size/\m.head.size<=9223372036854775807)/\(-9223372036854775808<=m.head.clock/\m.head.clock<=9223372036854775807)):=by
 obtain⟨hl,hf⟩:=kB (K:=99) underlying48 (by kernel_rfl) h;obtain⟨n0,y0,h0,b0⟩:=hf 0 45 0 98 rfl (by kernel_rfl);obtain⟨n1,y1,h1,b1⟩:=hf 1 46 98 1 rfl (by kernel_rfl);have FO:=vB cs [98,1] hl;simp only[KT,Nat.reduceAdd]at FO;obtain⟨m0,e0,k0,v0⟩:=jD8 h0 (by omega);obtain⟨A1,c1,s1,e1,r1,cp1,l1,f1⟩:=jBj h1 (by omega);rw[e0,e1]at FO;clear hf h0 e0 h1 e1;exact⟨⟨m0,s1,A1,c1⟩,FO,⟨k0,r1,Av.no _ _,by simp only;omega⟩,v0⟩
theorem jAT(h:Tr enc w fuel 51 cs x)(hB:Rows.uptoBulk x.1<=1048576):∃m:MWay,cs=m.cells/\m.Ok w NoX:=by
 obtain⟨hl,hf⟩:=kB (K:=3) underlying51 (by kernel_rfl) h;obtain⟨n0,y0,h0,b0⟩:=hf 0 3 0 1 rfl (by kernel_rfl);obtain⟨n1,y1,h1,b1⟩:=hf 1 3 1 1 rfl (by kernel_rfl);obtain⟨n2,y2,h2,b2⟩:=hf 2 49 2 1 rfl (by kernel_rfl);have FO:=vB cs [1,1,1] hl;simp only[KT,Nat.reduceAdd]at FO;obtain⟨z0,e0,lo0,Cw⟩:=kb underlying3 h0;obtain⟨z1,e1,lo1,Dl⟩:=kb underlying3 h1;obtain⟨A2,c2,s2,e2,r2,cp2,l2,f2⟩:=qd h2 (by omega);rw[e0,e1,e2]at FO;clear hf h0 e0 h1 e1 h2 e2;exact⟨⟨z0,z1,s2,A2,c2⟩,FO,⟨f2,r2,Av.no _ _,by simp only;omega⟩⟩
theorem jGB(h:Tr enc w fuel 53 cs x)(hB:Rows.uptoBulk x.1<=1048576):∃m:MWay,cs=m.cells/\m.Ok w NoX:=by
 obtain⟨hl,hf⟩:=kB (K:=3) underlying53 (by kernel_rfl) h;obtain⟨n0,y0,h0,b0⟩:=hf 0 3 0 1 rfl (by kernel_rfl);obtain⟨n1,y1,h1,b1⟩:=hf 1 3 1 1 rfl (by kernel_rfl);obtain⟨n2,y2,h2,b2⟩:=hf 2 49 2 1 rfl (by kernel_rfl);have FO:=vB cs [1,1,1] hl;simp only[KT,Nat.reduceAdd]at FO;obtain⟨z0,e0,lo0,Cw⟩:=kb underlying3 h0;obtain⟨z1,e1,lo1,Dl⟩:=kb underlying3 h1;obtain⟨A2,c2,s2,e2,r2,cp2,l2,f2⟩:=qd h2 (by omega);rw[e0,e1,e2]at FO;clear hf h0 e0 h1 e1 h2 e2;exact⟨⟨z0,z1,s2,A2,c2⟩,FO,⟨f2,r2,Av.no _ _,by simp only;omega⟩⟩
theorem ue(h:Tr enc w fuel 51 cs x)(hB:Rows.uptoBulk x.1<=1048576):∃m:MWay,cs=m.cells/\m.Ok w NoX:=jAT h hB
theorem jD7(h:Tr enc w fuel 59 cs x)(hB:Rows.uptoBulk x.1<=1048576):∃A c,∃l:List (MWay),cs=[.slice A l.length c]/\Rd w 3 A l.length (l.flatMap MWay.cells)/\l.length<=c/\l.length<=1048576/\∀v∈l,v.Ok w NoX:=by
 haveI:Inhabited (MWay):=⟨⟨0,0,[],none,0⟩⟩
 exact KJ (k:=3) MWay.cells (fun v:MWay=>v.Ok w NoX) (fun _ _=>rfl) underlying59 (by kernel_rfl) (by decide) (fun cs fuel x h hB=>ue h hB) h hB
theorem Qd(h:Tr enc w fuel 22 cs x)(hB:Rows.uptoBulk x.1<=1048576):∃m:Part,cs=[m.sl]/\m.Ok w NoX:=by
 obtain⟨A,c,l,e,r,_,hl⟩:=Ys h;exact⟨⟨A,l,c⟩,e,r,Av.no _ _,by simp only;omega⟩
theorem jGA(h:Tr enc w fuel 58 cs x)(hB:Rows.uptoBulk x.1<=1048576):∃A c,∃l:List (Part),cs=[.slice A l.length c]/\Rd w 1 A l.length (l.flatMap (fun p:Part=>[p.sl]))/\l.length<=c/\l.length<=1048576/\∀v∈l,v.Ok w NoX:=by
 haveI:Inhabited (Part):=⟨⟨none,[],0⟩⟩
 exact KJ (k:=1) (fun p:Part=>[p.sl]) (fun v:Part=>v.Ok w NoX) (fun _ _=>rfl) underlying58 (by kernel_rfl) (by decide) (fun cs fuel x h hB=>Qd h hB) h hB
theorem jBn(h:Tr enc w fuel 55 cs x)(_hB:Rows.uptoBulk x.1<=1048576):∃(z:Int) (d:LB),cs=.int .i64 z::jA d/\ -9223372036854775808<=z/\z<=9223372036854775807/\d.length=32:=by
 obtain⟨hl,hf⟩:=kB (K:=33) underlying55 (by kernel_rfl) h;obtain⟨n0,y0,h0,b0⟩:=hf 0 3 0 1 rfl (by kernel_rfl);obtain⟨n1,y1,h1,b1⟩:=hf 1 40 1 32 rfl (by kernel_rfl);have FO:=vB cs [1,32] hl;simp only[KT,Nat.reduceAdd]at FO;obtain⟨z0,e0,lo0,Cw⟩:=kb underlying3 h0;obtain⟨d1,e1,l1⟩:=ko h1;rw[e0,e1]at FO;clear hf h0 e0 h1 e1;exact⟨z0,d1,FO,lo0,Cw,l1⟩
theorem jF9(h:Tr enc w fuel 57 cs x)(hB:Rows.uptoBulk x.1<=1048576):∃(m:Idx) (A:OA) (c:Nat),cs=m.cells A c/\m.Ok/\Rd w 32 A m.way.length (m.way.flatMap jA):=by
 obtain⟨hl,hf⟩:=kB (K:=68) underlying57 (by kernel_rfl) h;obtain⟨n0,y0,h0,b0⟩:=hf 0 9 0 1 rfl (by kernel_rfl);obtain⟨n1,y1,h1,b1⟩:=hf 1 4 1 1 rfl (by kernel_rfl);obtain⟨n2,y2,h2,b2⟩:=hf 2 55 2 33 rfl (by kernel_rfl);obtain⟨n3,y3,h3,b3⟩:=hf 3 40 35 32 rfl (by kernel_rfl);obtain⟨n4,y4,h4,b4⟩:=hf 4 49 67 1 rfl (by kernel_rfl);have FO:=vB cs [1,1,33,32,1] hl;simp only[KT,Nat.reduceAdd]at FO;obtain⟨s0,e0,l0⟩:=zd h0;obtain⟨z1,e1⟩:=jBo h1;obtain⟨z2,d2,e2,lo2,PX,l2⟩:=jBn h2 (by omega);obtain⟨d3,e3,l3⟩:=ko h3;obtain⟨A4,c4,s4,e4,r4,cp4,l4,f4⟩:=qd h4 (by omega);rw[e0,e1,e2,e3,e4]at FO;clear hf h0 e0 h1 e1 h2 e2 h3 e3 h4 e4;exact⟨⟨s0,z1,z2,d2,d3,s4⟩,A4,c4,by rw[FO];simp[Idx.cells],⟨l2,l3,f4,⟨lo2,PX⟩,by simp only;omega⟩,r4⟩
theorem jIE(l:List Part):l.flatMap (fun p:Part=>[p.sl])=l.map Part.sl:=by
 induction l with
 |nil=>rfl
 |cons a r ih=>rw[jL9,ih];rfl
theorem jBm(h:Tr enc w fuel 61 cs x)(hB:Rows.uptoBulk x.1<=1048576):∃m:MPiece,cs=m.cells/\m.Ok w NoX:=by
 obtain⟨hl,hf⟩:=kB (K:=36) underlying61 (by kernel_rfl) h;obtain⟨n0,y0,h0,b0⟩:=hf 0 9 0 1 rfl (by kernel_rfl);obtain⟨n1,y1,h1,b1⟩:=hf 1 3 1 1 rfl (by kernel_rfl);obtain⟨n2,y2,h2,b2⟩:=hf 2 40 2 32 rfl (by kernel_rfl);obtain⟨n3,y3,h3,b3⟩:=hf 3 58 34 1 rfl (by kernel_rfl);obtain⟨n4,y4,h4,b4⟩:=hf 4 59 35 1 rfl (by kernel_rfl);have FO:=vB cs [1,1,32,1,1] hl;simp only[KT,Nat.reduceAdd]at FO;obtain⟨s0,e0,l0⟩:=zd h0;obtain⟨z1,e1,lo1,Dl⟩:=kb underlying3 h1;obtain⟨d2,e2,l2⟩:=ko h2;obtain⟨A3,c3,s3,e3,r3,cp3,l3,f3⟩:=jGA h3 (by omega);obtain⟨A4,c4,s4,e4,r4,cp4,l4,f4⟩:=jD7 h4 (by omega);rw[e0,e1,e2,e3,e4]at FO;clear hf h0 e0 h1 e1 h2 e2 h3 e3 h4 e4;rw[jIE]at r3;exact⟨⟨s0,z1,d2,s3,A3,c3,s4,A4,c4⟩,FO,⟨l2,f3,r3,Av.no _ _,f4,r4,Av.no _ _,by simp only;omega⟩⟩
theorem jBk(h:Tr enc w fuel 63 cs x)(hB:Rows.uptoBulk x.1<=1048576):∃m:MReply,cs=m.cells/\m.Ok w NoX/\(∀v∈m.case_.values,Vx v.v.v)/\m.hap.length<=1048576/\(m.hap.map (fun v:MHap=>v.name.size)).sum<=1048576:=by
 obtain⟨hl,hf⟩:=kB (K:=256) underlying63 (by kernel_rfl) h;obtain⟨n0,y0,h0,b0⟩:=hf 0 23 0 1 rfl (by kernel_rfl);obtain⟨n1,y1,h1,b1⟩:=hf 1 37 1 3 rfl (by kernel_rfl);obtain⟨n2,y2,h2,b2⟩:=hf 2 3 4 1 rfl (by kernel_rfl);obtain⟨n3,y3,h3,b3⟩:=hf 3 38 5 1 rfl (by kernel_rfl);obtain⟨n4,y4,h4,b4⟩:=hf 4 43 6 39 rfl (by kernel_rfl);obtain⟨n5,y5,h5,b5⟩:=hf 5 22 45 1 rfl (by kernel_rfl);obtain⟨n6,y6,h6,b6⟩:=hf 6 3 46 1 rfl (by kernel_rfl);obtain⟨n7,y7,h7,b7⟩:=hf 7 48 47 99 rfl (by kernel_rfl);obtain⟨n8,y8,h8,b8⟩:=hf 8 51 146 3 rfl (by kernel_rfl);obtain⟨n9,y9,h9,b9⟩:=hf 9 53 149 3 rfl (by kernel_rfl);obtain⟨n10,y10,NY,b10⟩:=hf 10 57 152 68 rfl (by kernel_rfl);obtain⟨n11,y11,NX,b11⟩:=hf 11 61 220 36 rfl (by kernel_rfl);have FO:=vB cs [1,3,1,1,39,1,1,99,3,3,68,36] hl;simp only[KT,Nat.reduceAdd]at FO;obtain⟨z0,e0,lo0,Cw⟩:=kb underlying23 h0;obtain⟨p1,q1,r1,e1⟩:=jBl h1 (by omega);obtain⟨z2,e2,lo2,PX⟩:=kb underlying3 h2;obtain⟨A3,c3,s3,e3,r3,cp3,l3,f3,w3⟩:=jD9 h3 (by omega);obtain⟨m4,e4,k4,v4⟩:=jEA h4 (by omega);obtain⟨A5,c5,s5,e5,r5,cp5,l5⟩:=Ys h5;obtain⟨z6,e6,lo6,hi6⟩:=kb underlying3 h6;obtain⟨m7,e7,k7,v7⟩:=jD6 h7 (by omega);obtain⟨m8,e8,k8⟩:=jAT h8 (by omega);obtain⟨m9,e9,k9⟩:=jGB h9 (by omega);obtain⟨m10,A10,c10,e10,k10,r10⟩:=jF9 NY (by omega);obtain⟨m11,e11,k11⟩:=jBm NX (by omega);rw[e0,e1,e2,e3,e4,e5,e6,e7,e8,e9,e10,e11]at FO;clear hf h0 e0 h1 e1 h2 e2 h3 e3 h4 e4 h5 e5 h6 e6 h7 e7 h8 e8 h9 e9 NY e10 NX e11;exact⟨⟨z0,p1,q1,r1,z2,s3,A3,c3,m4,⟨A5,s5,c5⟩,z6,m7,m8,m9,m10,A10,c10,m11⟩,by rw[FO];simp[MReply.cells,Part.sl],⟨r3,Av.no _ _,⟨fun v hv=>by have:=f3 v hv;omega,by simp only;omega⟩,k4,⟨r5,Av.no _ _,by simp only;omega⟩,k7,v7,k8,k9,k10,r10,Av.no _ _,k11⟩,v4,by simp only;omega,w3⟩
end
open Go.RowKit Go.ChangeShapes Go.WideShapes
theorem Old.kept{W W' :World}(h:Old W W')(may:MemPlace->Prop):W.keptBut W' may:=by
 refine World.keptBut_mono (may:=fun _=>False) (fun _ f=>f.elim) (World.keptBut_none_iff.2 ⟨h.os,h.output,fun i hi=> ?_⟩);exact h.block i hi (fun f=>f)
section
variable{H:Type}{enc:TypeId×Value->H}{P:Program}
theorem UA{f:Func}{s:ChangeSpec}{apart fresh Sl jCo:Bool}{W W' :World}{args:Array Value}{v:Value}{ds gs:List (DataW H)}{before pa pv:List MemPlace}
  (hW:DataW.Whole enc P f.params.toList s.vars apart W args.toList ds gs before)
  (CQ:∀(b:Nat) (sp:Nat->Bool) (hd:Bool),DataW.TrodAll enc P W' b sp hd f.resultTypes.toList (v.resultList f.resultTypes.size) (s.fn H (ds++gs)).results [])
  (Q6:∀sp:Nat->Bool,(∀p∈before,sp p.block=true)->DataW.TrodAll enc P W' 0 sp true f.params.toList args.toList (s.fn H (ds++gs)).args pa)
  (SH:∀sp:Nat->Bool,(∀p∈before,sp p.block=true)->DataW.TrodVars enc P W' sp s.vars (s.fn H (ds++gs)).vars pv)
  (LO:before=pa++pv) (ho:Old W W')
  (Hu:∀(j:Nat) (t:TypeId) (r:Value),f.resultTypes[j]? =some t->(v.resultList f.resultTypes.size)[j]? =some r->Value.okWide P W' .any 0 t r):
  s.post enc P f apart fresh Sl jCo W args v W' :=by
 have Fk:∀p∈before,(fun b=>decide (b<W.heap.size)) p.block=true:=fun p hp=>(by simpa using hW.lt p hp);refine⟨ds,gs,before,[],pa,pv,hW,CQ _ _ _,Q6 _ Fk,SH _ Fk,World.keptBut_mono (fun p hp=>⟨hp,?_⟩) (Old.kept ho (· ∈before)),fun _=> ?_⟩
 ·rw[LO,List.mem_append]at hp;exact Or.inr hp
 ·have hM:=hW.lt;obtain⟨_,_,_,_,_,hz,hn⟩:=hW;refine⟨Hu,_,_,([]++pa)++pv,⟨[]++pa,pv,trodAll_append (Q6 _ (fun _ _=>rfl)) (CQ _ _ _),SH _ (fun _ _=>rfl),rfl,?_,?_⟩,?_⟩
  ·intro b off hp;have hm:MemPlace.cell b off∈before:=by rw[LO];simpa using hp
   rw[World.frozen?_of_block (ho.block b (hM _ hm) (fun f=>f))];exact hz b off hm
  ·intro ha;have:=hn ha;rw[LO]at this;simpa using this
  ·intro p hp _;rw[LO];simpa using hp
end
end Go.Proofs.YtnaolhjbapgjgaaGreat

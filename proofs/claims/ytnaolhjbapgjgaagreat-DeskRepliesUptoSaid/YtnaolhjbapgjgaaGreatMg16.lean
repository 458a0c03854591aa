import Derived.Test.YtnaolhjbapgjgaaGreatMg15
set_option maxRecDepth 100000
set_option maxHeartbeats 6400000
namespace Go.Proofs.YtnaolhjbapgjgaaGreat
open Go.Proofs.Tryz
open Go.RowKit
section
variable{w w' :World}{X X' Y:Nat->Prop}
theorem Rd.turn{s n:Nat}{A:OA}{xs:List Value}(hr:Rd w s A n xs)(hs:0<s)(ha:Av X n A)(hk:Kp Y w w')(Nh:∀b,b<w.heap.size->Y b->X b):Rd w' s A n xs:=
 hr.kp hk (fun hn ad e hy=>ha hn ad e (Nh _ (hr.lt hs hn e) hy))
theorem Av.turn{s n:Nat}{A:OA}{xs:List Value}(ha:Av X n A)(hr:Rd w s A n xs)(hs:0<s)(hx:∀b,b<w.heap.size->X' b->X b):Av X' n A:=
 fun hn ad e hy=>ha hn ad e (hx _ (hr.lt hs hn e) hy)
theorem MVal.Ok.turn{m:MVal}(h:m.Ok w X)(hk:Kp Y w w')(Nh:∀b,b<w.heap.size->Y b->X b)(hx:∀b,b<w.heap.size->X' b->X b):m.Ok w' X' :=
 ⟨h.rd.turn (by decide) h.av hk Nh,h.av.turn h.rd (by decide) hx,h.cap,h.big⟩
theorem MTexts.Ok.turn{m:MTexts}(h:m.Ok w X)(hk:Kp Y w w')(Nh:∀b,b<w.heap.size->Y b->X b)(hx:∀b,b<w.heap.size->X' b->X b):m.Ok w' X' :=
 ⟨h.rd.turn (by decide) h.av hk Nh,h.av.turn h.rd (by decide) hx,h.cap,h.small,h.big⟩
theorem MBind.Ok.turn{m:MBind}(h:m.Ok w X)(hk:Kp Y w w')(Nh:∀b,b<w.heap.size->Y b->X b)(hx:∀b,b<w.heap.size->X' b->X b):m.Ok w' X' :=
 ⟨h.v.turn hk Nh hx,h.small⟩
theorem MCase.Ok.turn{m:MCase}(h:m.Ok w X)(hk:Kp Y w w')(Nh:∀b,b<w.heap.size->Y b->X b)(hx:∀b,b<w.heap.size->X' b->X b):m.Ok w' X' :=
 ⟨h.chain,fun v hv=>(h.values v hv).turn hk Nh hx,h.rdV.turn (by decide) h.avV hk Nh,h.avV.turn h.rdV (by decide) hx,h.open_.turn hk Nh hx,h.closed.turn hk Nh hx,h.reached.turn hk Nh hx,h.big⟩
theorem MNote.Ok.turn{m:MNote}(h:m.Ok w X)(hk:Kp Y w w')(Nh:∀b,b<w.heap.size->Y b->X b)(hx:∀b,b<w.heap.size->X' b->X b):m.Ok w' X' :=
 ⟨h.head,h.rd.turn (by decide) h.av hk Nh,h.av.turn h.rd (by decide) hx,h.big⟩
theorem MWay.Ok.turn{m:MWay}(h:m.Ok w X)(hk:Kp Y w w')(Nh:∀b,b<w.heap.size->Y b->X b)(hx:∀b,b<w.heap.size->X' b->X b):m.Ok w' X' :=
 ⟨h.dgs,h.rd.turn (by decide) h.av hk Nh,h.av.turn h.rd (by decide) hx,h.big⟩
theorem MPiece.Ok.turn{m:MPiece}(h:m.Ok w X)(hk:Kp Y w w')(Nh:∀b,b<w.heap.size->Y b->X b)(hx:∀b,b<w.heap.size->X' b->X b):m.Ok w' X' :=
 ⟨h.before,fun p hp=>(h.evs p hp).turn hk Nh hx,h.rdE.turn (by decide) h.avE hk Nh,h.avE.turn h.rdE (by decide) hx,fun p hp=>(h.pfs p hp).turn hk Nh hx,h.rdP.turn (by decide) h.avP hk Nh,h.avP.turn h.rdP (by decide) hx,h.big⟩
theorem MReply.Ok.turn{m:MReply}(h:m.Ok w X)(hk:Kp Y w w')(Nh:∀b,b<w.heap.size->Y b->X b)(hx:∀b,b<w.heap.size->X' b->X b):m.Ok w' X' :=
 ⟨h.rdH.turn (by decide) h.avH hk Nh,h.avH.turn h.rdH (by decide) hx,h.bigH,h.case_.turn hk Nh hx,h.raw.turn hk Nh hx,h.note.turn hk Nh hx,h.hd,h.inc.turn hk Nh hx,h.con.turn hk Nh hx,h.idx,h.rdI.turn (by decide) h.avI hk Nh,h.avI.turn h.rdI (by decide) hx,h.pie.turn hk Nh hx⟩
end
def Vk(w:World)(o:Option LB)(e:Ending)(w' :World):Prop:=
 (∃l A c,o=some l/\l.length<=4194304/\e=.returned (.tuple #[.slice A l.length c,.int .i64 0])/\Rd w' 1 A l.length (l.map bv)/\Av (fun k=>k<w.heap.size) l.length A/\l.length<=c/\Old w w')\/
 (o=none/\e=.returned (.tuple #[.slice none 0 0,.int .i64 240])/\Old w w')
theorem jCC(w:World)(op:Int)(cs:List Value)(er:Int)(h0:cs[0]? =some (.int .i64 er))(GH:¬(1<=op/\op<=12/\0<=er/\er<=65535)):
  Calls prog 7 #[.int .i64 op,.agg cs.toArray] w (Vk w none):=by
 have hb:=jQ2 w 63 cs.toArray;have hc:=hb.at_ 0 (by rw[jJ7];exact h0);have Ho:=G ((jQ0 NoX w).alloc (.cells cs.toArray 63));clear hb h0;by_cases h1:1<=op
 ·have Ns:¬op<1:=(by omega);by_cases h2:op<=12
  ·have Nx:¬(12:Int)<op:=(by omega);by_cases h3:0<=er
   ·have LD:¬er<0:=(by omega);have h4:(65535:Int)<er:=(by omega);clear GH;go_enter func7,ntmps7;go_wp2
    go_ret2
    exact .inr ⟨rfl,rfl,Ho.out⟩
   ·have LD:er<0:=(by omega);clear GH;go_enter func7,ntmps7;go_wp2
    go_ret2
    exact .inr ⟨rfl,rfl,Ho.out⟩
  ·have Nx:(12:Int)<op:=(by omega);clear GH;go_enter func7,ntmps7;go_wp2
   go_ret2
   exact .inr ⟨rfl,rfl,Ho.out⟩
 ·have Ns:op<1:=(by omega);clear GH;go_enter func7,ntmps7;go_wp2
  go_ret2
  exact .inr ⟨rfl,rfl,Ho.out⟩
theorem UT(w:World)(op:Nat)(m:MReply)(X:Nat->Prop)(Hu:m.Ok w X)(NS:1<=op/\op<=12)(FZ:0<=m.err/\m.err<=65535):
  Calls prog 7 #[.int .i64 (op:Int),.agg m.cells.toArray] w (Vk w (vr op m.data)):=by
 have HR:=G (show vr op m.data=(YZ op m.data).bind fun l=>if 2+l.length<=4194304 then some (be 2 m.err.toNat++l)else none by
  rw[vr,jJ6 ⟨by omega,by omega,FZ.1,FZ.2⟩];rfl)
 have HB:=G (show YZ op m.data=if m.err=0 then jCr op m.data else if op<=2/\JD m.err=false then yo [m.pa,m.pb,m.pc]else some []from rfl);have Hb:=G (jQ2 w 63 m.cells.toArray);have Ho:=G ((jQ0 NoX w).alloc (.cells m.cells.toArray 63));have hc:=Hb.out.at_ 0 (v:=.int .i64 m.err) rfl;have Fh:=G (show(prog.info? 63).map (·.size)=some m.cells.length by rw[Hu.len];exact kj);have C1:=G (Hu.turn (X' :=fun k=>w.heap.size<=k) Ho.out (fun _ _ f=>f.elim) (fun b hb h=>by omega));have S0:=G (show m.cells[0]? =some (.int .i64 m.err)from rfl);have S1:=G (show m.cells[1]? =some (.int .i64 m.pa)from rfl);have S2:=G (show m.cells[2]? =some (.int .i64 m.pb)from rfl);have S3:=G (show m.cells[3]? =some (.int .i64 m.pc)from rfl);have Ts:=G (fun W g r bs hW hl hk=>XJ W g r bs op m hW hl NS hk);generalize vr op m.data=RB at*;generalize jCr op m.data=AB at*;generalize YZ op m.data=BB at*;clear Hu;obtain⟨e0,e1⟩:=FZ;obtain⟨o0,o1⟩:=NS;have n1:¬(op:Int)<1:=(by omega);have n2:¬(12:Int)<(op:Int):=(by omega);have n3:¬m.err<0:=(by omega);have n4:¬(65535:Int)<m.err:=(by omega);have e16:IntKind.u16.wrap m.err=m.err:=IntWalk.u16_in _ (by omega);generalize m.err=er at*;generalize m.cells=cs at*;go_enter func7,ntmps7;go_wp2_with fail;generalize w.alloc _=W at*;refine(Yu W).mono ?_;rintro e w1 ⟨rfl,FF,F0⟩;have Gt:=G (Hb.out.old F0);have hM:=Hb.out.lt;have Hx:=G (show¬WX W.heap.size none w.heap.size from by
  rintro (e|e)
  ·omega
  ·cases e)
 have FE:=G (Ho.out.old F0);have V4:=G (show w.heap.size<=W.heap.size from Ho.out.size);have Pb:=G (C1.out.turn (X' :=WX W.heap.size none) F0 (fun _ _ f=>f.elim) (fun b hb h=>by
  rcases h with h|h
  ·omega
  ·cases h))
 clear hc F0 Hb Ho C1;generalize W.heap.size=g at*;have hc:=Gt.out.at_ 0 (by rw[jJ7];exact S0.out);go_wp2_with fail;refine(YE _ g none [] er e0 (by omega) FF (by simp)).mono ?_;rintro e w2 ⟨rfl,HU⟩;rw[List.nil_append]at HU;obtain⟨r2,GE,f2⟩:=HU.kf;have F2:=G f2;have LK:=G GE;have FG:=f2.blk Gt.out Hx.out;have Pa:=G (Pb.out.turn (X' :=WX g r2) f2.kp (fun _ _ h=>h) (fun b hb h=>by
  rcases h with h|h
  ·exact .inl h
  ·rcases f2.fr with e|⟨k,e,hk⟩
   ·rw[e]at h;exact .inr h
   ·rw[e]at h;injection h with h;omega))
 have MD:=G FG.range;clear hc;have hc:=FG.at_ 0 (by rw[jJ7];exact S0.out);have FS:=FG.at_ 1 (by rw[jJ7];exact S1.out);have Gz:=FG.at_ 2 (by rw[jJ7];exact S2.out);have WN:=FG.at_ 3 (by rw[jJ7];exact S3.out);clear HU GE f2 FG FF Pb;by_cases hz:er=0
 ·rw[jJ6 hz]at HB;rw[HB.out]at HR;have b0:(er==0)=true:=(by simpa using hz);clear HB FS Gz WN e16;go_wp2_with (first|((with_reducible refine jT 63 (.tmp 3) ?_);refine jK rfl 63 (.tmp 3) rfl w.heap.size 0 rfl cs _ MD.out underlying63 rfl Fh.out ?_)|fail);refine(Ts.out w2 g r2 _ LK.out (by rw[jC];decide) Pa.out).mono ?_;clear Ts MD Pa hz;intro e w3 TI;rcases TI with⟨l,Sg,WV,rfl,HU⟩|⟨Sg,rfl,l,HU⟩
  ·obtain⟨r3,G8,f3⟩:=HU.kf;have Wx:(be 2 er.toNat++l).length=2+l.length:=(by rw[jJ4,jC]);have Nf:=G (show Old w w3 from FE.out.trans (F2.out.trans f3).kp (fun b hb h=>by
    rcases h with h|h
    ·have:=V4.out;omega
    ·cases h))
   have Pw:=G Wx;clear HU f3 Wx;generalize hq:be 2 er.toNat++l=q at*;have Hq:=G hq;have Mf:=G G8;have HL:=G (ul w3 g r3 q G8);clear hq G8;go_wp2_with fail;refine HL.out.mono ?_;rintro e w4 ⟨rfl,rfl⟩;by_cases Fj:2+l.length<=4194304
   ·have Nj:¬(4194304:Int)<(q.length:Int):=by have:=Pw.out;omega
    have Fm:=G (show RB=some q by rw[HR.out,Sg,jL2,jJ6 Fj,Hq.out]);have HA:=G (JE w3 g r3 q Mf.out (by have:=Pw.out;omega));go_wp2_with fail;refine HA.out.mono ?_;rintro e w5 ⟨A,c,rfl,Hi,GX⟩;have HZ:=G (show Vk w RB (.returned (.tuple #[.slice A q.length c,.int .i64 0])) w5 from
     .inl ⟨q,A,c,Fm.out,by have:=Pw.out;omega,rfl,Rd.of_own Hi,fun hn ad e hx=>vd Hi hn ad e (jL8 hx Nf.out.size),zy Hi,Nf.out.old GX⟩)
    clear Hi GX Fj;go_wp2
    go_ret2
    exact HZ.out
   ·have Nj:(4194304:Int)<(q.length:Int):=by have:=Pw.out;omega
    have hY:=G (show RB=none by rw[HR.out,Sg,jL2,jJ5 Fj]);clear Fj;go_wp2
    go_ret2
    exact .inr ⟨hY.out,rfl,Nf.out⟩
  ·obtain⟨r3,G8,f3⟩:=HU.kf;have Nf:=G (show Old w w3 from FE.out.trans (F2.out.trans f3).kp (fun b hb h=>by
    rcases h with h|h
    ·have:=V4.out;omega
    ·cases h))
   have hY:=G (show RB=none by rw[HR.out,Sg];rfl);clear HU f3 G8;go_wp2
   go_ret2
   exact .inr ⟨hY.out,rfl,Nf.out⟩
 ·rw[jJ5 hz]at HB;have b0:(er==0)=false:=(by simpa using hz);clear Ts MD Pa e16;by_cases h2:op<=2
  ·have g2:(op:Int)<=2:=(by omega);have AQ:=G (fun W=>jAv W er);go_wp2_with fail;refine(AQ.out _).mono ?_;rintro e w2b ⟨rfl,rfl⟩;cases NW:JD er with
   |false=>
    rw[jJ6 ⟨h2,NW⟩]at HB;rw[HB.out]at HR;have HP:=G (jBg w2 g r2 _ m.pa m.pb m.pc LK.out (by rw[jC];decide));clear NW HB hz;go_wp2_with fail;refine HP.out.mono ?_;clear HP hc FS Gz WN;intro e w3 TI;rcases TI with⟨l,Sg,WV,rfl,HU⟩|⟨Sg,rfl,l,HU⟩
    ·obtain⟨r3,G8,f3⟩:=HU.kf;have Wx:(be 2 er.toNat++l).length=2+l.length:=(by rw[jJ4,jC]);have Nf:=G (show Old w w3 from FE.out.trans (F2.out.trans f3).kp (fun b hb h=>by
      rcases h with h|h
      ·have:=V4.out;omega
      ·cases h))
     have Pw:=G Wx;clear HU f3 Wx;generalize hq:be 2 er.toNat++l=q at*;have Hq:=G hq;have Mf:=G G8;have HL:=G (ul w3 g r3 q G8);clear hq G8;go_wp2_with fail;refine HL.out.mono ?_;rintro e w4 ⟨rfl,rfl⟩;by_cases Fj:2+l.length<=4194304
     ·have Nj:¬(4194304:Int)<(q.length:Int):=by have:=Pw.out;omega
      have Fm:=G (show RB=some q by rw[HR.out,Sg,jL2,jJ6 Fj,Hq.out]);have HA:=G (JE w3 g r3 q Mf.out (by have:=Pw.out;omega));go_wp2_with fail;refine HA.out.mono ?_;rintro e w5 ⟨A,c,rfl,Hi,GX⟩;have HZ:=G (show Vk w RB (.returned (.tuple #[.slice A q.length c,.int .i64 0])) w5 from
       .inl ⟨q,A,c,Fm.out,by have:=Pw.out;omega,rfl,Rd.of_own Hi,fun hn ad e hx=>vd Hi hn ad e (jL8 hx Nf.out.size),zy Hi,Nf.out.old GX⟩)
      clear Hi GX Fj;go_wp2
      go_ret2
      exact HZ.out
     ·have Nj:(4194304:Int)<(q.length:Int):=by have:=Pw.out;omega
      have hY:=G (show RB=none by rw[HR.out,Sg,jL2,jJ5 Fj]);clear Fj;go_wp2
      go_ret2
      exact .inr ⟨hY.out,rfl,Nf.out⟩
    ·obtain⟨r3,G8,f3⟩:=HU.kf;have Nf:=G (show Old w w3 from FE.out.trans (F2.out.trans f3).kp (fun b hb h=>by
      rcases h with h|h
      ·have:=V4.out;omega
      ·cases h))
     have hY:=G (show RB=none by rw[HR.out,Sg];rfl);clear HU f3 G8;go_wp2
     go_ret2
     exact .inr ⟨hY.out,rfl,Nf.out⟩
   |true=>
    rw[jJ5 (fun h=>by rw[NW]at h;cases h.2)]at HB;rw[HB.out]at HR;clear NW HB hz FS Gz WN;have Nf:=G (show Old w w2 from FE.out.trans F2.out.kp (fun b hb h=>by
     rcases h with h|h
     ·have:=V4.out;omega
     ·cases h))
    have Hq:=G (show RB=some (be 2 er.toNat)by rw[HR.out,jL2,jJ6 (by decide),List.append_nil]);have S6:(be 2 er.toNat).length=2:=jC _ _;generalize be 2 er.toNat=q at*;have HL:=G (ul w2 g r2 q LK.out);have HA:=G (JE w2 g r2 q LK.out (by omega));have Ii:=G S6;rw[S6]at HL;clear S6;go_wp2_with fail;refine HL.out.mono ?_;rintro e w4 ⟨rfl,rfl⟩;go_wp2_with fail;refine HA.out.mono ?_;rintro e w5 ⟨A,c,rfl,Hi,GX⟩;have HZ:=G (show Vk w RB (.returned (.tuple #[.slice A q.length c,.int .i64 0])) w5 from
     .inl ⟨q,A,c,Hq.out,by have:=Ii.out;omega,rfl,Rd.of_own Hi,fun hn ad e hx=>vd Hi hn ad e (jL8 hx Nf.out.size),zy Hi,Nf.out.old GX⟩)
    clear Hi GX;go_wp2
    go_ret2
    exact HZ.out
  ·have g2:¬(op:Int)<=2:=(by omega);rw[jJ5 (fun h=>h2 h.1)]at HB;rw[HB.out]at HR;clear HB hz FS Gz WN;have Nf:=G (show Old w w2 from FE.out.trans F2.out.kp (fun b hb h=>by
    rcases h with h|h
    ·have:=V4.out;omega
    ·cases h))
   have Hq:=G (show RB=some (be 2 er.toNat)by rw[HR.out,jL2,jJ6 (by decide),List.append_nil]);have S6:(be 2 er.toNat).length=2:=jC _ _;generalize be 2 er.toNat=q at*;have HL:=G (ul w2 g r2 q LK.out);have HA:=G (JE w2 g r2 q LK.out (by omega));have Ii:=G S6;rw[S6]at HL;clear S6;go_wp2_with fail;refine HL.out.mono ?_;rintro e w4 ⟨rfl,rfl⟩;go_wp2_with fail;refine HA.out.mono ?_;rintro e w5 ⟨A,c,rfl,Hi,GX⟩;have HZ:=G (show Vk w RB (.returned (.tuple #[.slice A q.length c,.int .i64 0])) w5 from
    .inl ⟨q,A,c,Hq.out,by have:=Ii.out;omega,rfl,Rd.of_own Hi,fun hn ad e hx=>vd Hi hn ad e (jL8 hx Nf.out.size),zy Hi,Nf.out.old GX⟩)
   clear Hi GX;go_wp2
   go_ret2
   exact HZ.out
theorem jCD(w:World)(op:Int)(m:MReply)(X:Nat->Prop)(Hu:m.Ok w X):Calls prog 7 #[.int .i64 op,.agg m.cells.toArray] w (Vk w (vr op m.data)):=by
 by_cases h:1<=op/\op<=12/\0<=m.err/\m.err<=65535
 ·obtain⟨n,rfl⟩:=Int.eq_ofNat_of_zero_le (show 0<=op by omega);exact UT w n m X Hu (by omega) h.2.2
 ·rw[show vr op m.data=none from jJ5 h];exact jCC w op m.cells m.err rfl h
theorem jW{w w' :World}{p:Addr}{v:Value}(h:w.cell? p=some v)(ho:Old w w'):w'.cell? p=some v:=
 (World.cell?_of_block (ho.block p.block (Jm h) (fun f=>f))).trans h
def yJ(left n:Int):Int:=if left<0\/left<n then-1 else left-n
theorem zG{left n:Int}(h:left<=2147483647)(hn:0<=n):yJ left n<=2147483647/\ -1<=yJ left n:=by
 unfold yJ;split<;>omega
theorem jDV{left n:Int}(h:left<0):yJ left n= -1:=by rw[yJ,jJ6 (.inl h)]
theorem YA(w:World)(left n:Int)(h1: -1<=left)(h2:left<=2147483647)(hn:0<=n):
  Calls prog 10 #[.int .i64 left,.int .i64 n] w fun e w' =>e=.returned (.int .i64 (yJ left n))/\w=w' :=by
 by_cases h3:left<0
 ·rw[jDV h3];go_enter func10,ntmps10;go_wp2;go_ret;exact⟨rfl,rfl⟩
 ·by_cases h4:left<n
  ·rw[yJ,jJ6 (.inr h4)];go_enter func10,ntmps10;go_wp2;go_ret;exact⟨rfl,rfl⟩
  ·rw[yJ,jJ5 (by omega)];have e:IntKind.i64.wrap (left-n)=left-n:=jQ3 _ (by omega);go_enter func10,ntmps10;go_wp2;go_ret;exact⟨by simp,rfl⟩
def vN(left:Int):List BA->Int
 |[]=>left
 |x::l=>if left<0 then left else vN (yJ (yJ left 1) x.size) l
theorem Jz:∀(l:List BA) (left:Int),-1<=left->left<=2147483647-> -1<=vN left l/\vN left l<=2147483647
 |[],left,h1,h2=>⟨h1,h2⟩
 |x::l,left,h1,h2=>by
  rw[vN];split
  ·exact⟨h1,h2⟩
  ·have a:=zG (n:=1) h2 (by decide);have b:=zG (n:=x.size) a.1 (by omega);exact Jz l _ b.2 b.1
theorem jA4(l:List BA)(left:Int)(h:left<0):vN left l=left:=by
 cases l with
 |nil=>rfl
 |cons x l=>rw[vN,jJ6 h]
theorem Vs(w:World)(left:Int)(A:OA)(c n:Nat)(l:List BA)(h1: -1<=left)(h2:left<=2147483647)(hr:Rd w 1 A n (l.map sv))(hn:n=l.length)(hx:∀x∈l,x.size<=9223372036854775807):
  Calls prog 30 #[.int .i64 left,.slice A n c] w fun e w' =>e=.returned (.int .i64 (vN left l))/\w=w' :=by
 have Hn:=G hn;have Hx:=G hx;clear hn hx;go_enter func30,ntmps30;go_wp2_with fail;go_loop [0,5] (fun x i=>∃(j:Nat) (lf:Int),j<=n/\i=.int .i64 j/\x=.int .i64 lf/\ -1<=lf/\lf<=2147483647/\vN left l=vN lf (l.drop j)/\(j:Int)+lf<=2147483647) (fun _ i=>n-(intOf i).toNat)
 case atStart=>exact⟨0,left,Nat.zero_le _,rfl,rfl,h1,h2,rfl,by omega⟩
 case round=>
  obtain⟨j,lf,hj,rfl,rfl,TL,S9,FM,Lp⟩:=hrel;by_cases hM:j<n
  ·have S7:(j:Int)<(n:Int):=(by omega);by_cases Mj:lf<0
   ·have Z5:=G (show vN left l=lf by rw[FM,jA4 _ _ Mj]);clear FM;have N0:¬(0:Int)<=lf:=(by omega);go_wp2;go_ret;exact⟨by rw[Z5.out];rfl,rfl⟩
   ·have N0:(0:Int)<=lf:=(by omega);obtain⟨b,o,rfl,hx⟩:=hr.text (k:=j) hM;have SO:j<l.length:=by have:=Hn.out;omega
    have hd:l.drop j=l.getD j ByteArray.empty::l.drop (j+1):=by
     rw[List.drop_eq_getElem_cons SO];simp[List.getD,jJ9 SO]
    have Fh:=G (Hx.out (l.getD j ByteArray.empty) (by simp[List.getD,jJ9 SO]));have Fs:=G (show vN left l=vN (yJ (yJ lf 1) (l.getD j ByteArray.empty).size) (l.drop (j+1))by rw[FM,hd,vN,jJ5 Mj]);clear FM hd;generalize l.getD j ByteArray.empty=x at*;have ha:=zG (n:=1) S9 (by decide);have hb:=zG (n:=x.size) ha.1 (by omega);have En:=G (show yJ lf 1<=lf-1 by unfold yJ;split<;>omega);have Iq:=G (show yJ (yJ lf 1) x.size<=lf-1 by
     have:=En.out;unfold yJ;split
     ·omega
     ·have h3:yJ lf 1=lf-1\/yJ lf 1= -1:=by unfold yJ;split<;>simp
      unfold yJ at*;omega)
    have R1:=G (YA w lf 1 TL S9 (by decide));have R2:=G (YA w (yJ lf 1) x.size ha.2 ha.1 (by omega));go_wp2_with fail;refine R1.out.mono ?_;rintro e w' ⟨rfl,rfl⟩;go_wp2_with fail;refine R2.out.mono ?_;rintro e w' ⟨rfl,rfl⟩;generalize yJ (yJ lf 1) (x.size:Int)=lf2 at*;generalize yJ lf 1=lf1 at*;have hj1:IntKind.i64.wrap ((j:Int)+1)=(j:Int)+1:=jQ3 _ (by omega);go_wp2;go_round
    case rel=>exact⟨j+1,lf2,by omega,by go_num,rfl,hb.2,hb.1,Fs.out,by have:=Iq.out;omega⟩
    case measure=>simp[intOf];omega
  ·obtain rfl:j=n:=(by omega);have Z5:=G (show vN left l=lf by rw[FM,Hn.out,List.drop_length];rfl);clear FM;go_wp2;go_ret;exact⟨by rw[Z5.out];rfl,rfl⟩
theorem jAF(w:World)(A B:OA)(c d:Nat)(x:LB)(hx:Rd w 1 A x.length (x.map bv))(hy:Rd w 1 B x.length (x.map bv))(hl:x.length<=1000000000000):
  Calls prog 9 #[.slice A x.length c,.slice B x.length d] w fun e w' =>e=.returned (.bool true)/\Old w w' :=by
 have h:=qK w A B c d x x hx hy hl
 rwa [jK5 rfl]at h
theorem uX(w:World)(A B:OA)(c d:Nat)(x:List Dg)(hx:Rd w 32 A x.length (x.flatMap jA))(hy:Rd w 32 B x.length (x.flatMap jA))(hl:x.length<=1000000000000)(hd:Dgs x):
  Calls prog 81 #[.slice A x.length c,.slice B x.length d] w fun e w' =>e=.returned (.bool true)/\Old w w' :=
 jFe w A B c d x hx hy hl (fun e he W=>uu e (hd e he) W) (fun e he=>by rw[jB];exact hd e he)
theorem uW(w:World)(A B:OA)(c d:Nat)(x:List BA)(hx:Rd w 1 A x.length (x.map sv))(hy:Rd w 1 B x.length (x.map sv))(hl:x.length<=1000000000000):
  Calls prog 134 #[.slice A x.length c,.slice B x.length d] w fun e w' =>e=.returned (.bool true)/\Old w w' :=by
 have h:=QM w A B c d x x hx hy hl
 rwa [jK5 rfl]at h
theorem MWay.Ok.old3{w w' :World}{X:Nat->Prop}{m:MWay}(h:m.Ok w X)(ho:Old w w'):m.Ok w' X:=⟨h.dgs,h.rd.old ho,h.av,h.big⟩
theorem jAE(w:World)(m1 m2:MWay)(X Y:Nat->Prop)(h1:m1.Ok w X)(h2:m2.Ok w Y)(hd:m1.data=m2.data):
  Calls prog 79 #[.agg m1.cells.toArray,.agg m2.cells.toArray] w fun e w' =>e=.returned (.bool true)/\Old w w' :=by
 obtain⟨a,b,ds,A,c⟩:=m1;obtain⟨a2,b2,ds2,A2,c2⟩:=m2;simp only[MWay.data,Way.mk.injEq]at hd;obtain⟨rfl,rfl,rfl⟩:=hd;have HS:=G (fun W (ho:Old w W)=>uX W A A2 c c2 ds (h1.rd.old ho) (h2.rd.old ho) (by have:=h1.big;simp only at this;omega) h1.dgs);have Ho:=G (((jQ0 NoX w).alloc (.cells #[.int .i64 a,.int .i64 b,.slice A ds.length c] 51)).alloc (.cells #[.int .i64 a,.int .i64 b,.slice A2 ds.length c2] 51));clear h1 h2;simp only[MWay.cells]at*;go_enter func79,ntmps79;go_wp2_with fail;refine(HS.out _ Ho.out).mono ?_;rintro e w1 ⟨rfl,F0⟩;go_wp2;go_ret;exact⟨by simp,Ho.out.old F0⟩
structure PieH(W:World)(B:Nat)(s:BA)(f:Int)(bf:List Value)(eA:OA)(en eC:Nat)(pA:OA)(pn pC:Nat):Prop where
 c0:W.cell? ⟨B,0,none⟩=some (.string s)
 c1:W.cell? ⟨B,1,none⟩=some (.int .i64 f)
 r2:W.rangeAt B 2 bf
 c34:W.cell? ⟨B,34,none⟩=some (.slice eA en eC)
 c35:W.cell? ⟨B,35,none⟩=some (.slice pA pn pC)
theorem PieH.of{W:World}{B:Nat}{m:MPiece}(hb:Blk W B 61 m.cells.toArray)(h:m.before.length=32):PieH W B m.case_ m.first (jA m.before) m.eA m.evs.length m.eC m.pA m.pfs.length m.pC:=by
 have hc:∀(i:Nat) (v:Value),m.cells[i]? =some v->W.cell? ⟨B,i,none⟩=some v:=fun i v e=>hb.at_ i (by rw[jJ7];exact e);exact⟨hc 0 _ rfl,hc 1 _ rfl,m.s2.range hb,hc 34 _ (MPiece.s34 h),hc 35 _ (MPiece.s35 h)⟩
theorem PieH.old{W W' :World}{B:Nat}{s:BA}{f:Int}{bf:List Value}{eA pA:OA}{en eC pn pC:Nat}(h:PieH W B s f bf eA en eC pA pn pC)(ho:Old W W'):PieH W' B s f bf eA en eC pA pn pC:=
 ⟨jW h.c0 ho,jW h.c1 ho,jo h.r2 ho,jW h.c34 ho,jW h.c35 ho⟩
structure PieE(W:World)(B1 B2:Nat)(e1 e2 p1 p2:Value)(b1 o1 b2 o2 b3 o3 b4 o4:Nat)(v1 v2:Value)(y1 y2:List Value):Prop where
 a34:W.cell? ⟨B1,34,none⟩=some e1
 a35:W.cell? ⟨B1,35,none⟩=some p1
 b34:W.cell? ⟨B2,34,none⟩=some e2
 b35:W.cell? ⟨B2,35,none⟩=some p2
 q1:W.cell? ⟨b1,o1,none⟩=some v1
 q2:W.cell? ⟨b2,o2,none⟩=some v2
 r1:W.rangeAt b3 o3 y1
 r2:W.rangeAt b4 o4 y2
theorem PieE.old{W W' :World}{B1 B2:Nat}{e1 e2 p1 p2:Value}{b1 o1 b2 o2 b3 o3 b4 o4:Nat}{v1 v2:Value}{y1 y2:List Value}(h:PieE W B1 B2 e1 e2 p1 p2 b1 o1 b2 o2 b3 o3 b4 o4 v1 v2 y1 y2)(ho:Old W W'):PieE W' B1 B2 e1 e2 p1 p2 b1 o1 b2 o2 b3 o3 b4 o4 v1 v2 y1 y2:=
 ⟨jW h.a34 ho,jW h.a35 ho,jW h.b34 ho,jW h.b35 ho,jW h.q1 ho,jW h.q2 ho,jo h.r1 ho,jo h.r2 ho⟩
theorem jEG{α β:Type}{f:α->β}{x y:List α}(h:x.map f=y.map f){k:Nat}(h1:k<x.length)(h2:k<y.length):f x[k]=f y[k]:=by
 have:=congrArg (fun l=>l[k]?) h;simp only[jM1,jJ9 h1,jJ9 h2,Option.map_some,Option.some.injEq]at this;exact this
theorem UI{α β:Type}{f:α->β}{x y:List α}(h:x.map f=y.map f):x.length=y.length:=by
 have:=congrArg List.length h;simpa using this
theorem jFa(w:World)(m1 m2:MPiece)(X Y:Nat->Prop)(h1:m1.Ok w X)(h2:m2.Ok w Y)(hd:m1.data=m2.data)(MM:m1.evs.length<=m1.pfs.length):
  Calls prog 80 #[.agg m1.cells.toArray,.agg m2.cells.toArray] w fun e w' =>e=.returned (.bool true)/\Old w w' :=by
 have SX:=(jQ2 w 61 m1.cells.toArray).alloc (.cells m2.cells.toArray 61);have P5:=jQ2 (w.alloc (.cells m1.cells.toArray 61)) 61 m2.cells.toArray;rw[show(w.alloc (.cells m1.cells.toArray 61)).heap.size=w.heap.size+1 by simp]at P5;have Ho:=G (((jQ0 NoX w).alloc (.cells m1.cells.toArray 61)).alloc (.cells m2.cells.toArray 61));have P1:=G (PieH.of SX h1.before);have P2:=G (PieH.of P5 h2.before);clear SX P5;generalize FS:m1.cells=cs1 at*;generalize Gz:m2.cells=cs2 at*;clear FS Gz;obtain⟨ca,fi,bf,es,eA,eC,ps,pA,pC⟩:=m1;obtain⟨ca2,fi2,bf2,es2,eB,eD,ps2,pB,pD⟩:=m2;simp only[MPiece.data,Pie.mk.injEq]at hd;obtain⟨rfl,rfl,rfl,TX,LO⟩:=hd;have H1:=G h1;have H2:=G h2;have Fu:=UI TX;have Bm:=UI LO;have Af:=h1.before;have Fj:=h1.big;simp only at P1 P2 MM Af Fj;rw[<-Fu,<-Bm]at P2;have Nz:=G Fu;have Hlp:=G Bm;have IH:=G TX;have ME:=G LO;have As:=G MM;have GS:=G Fj;have We:=G (uu bf Af);have Fh:=G (show(prog.info? 40).map (·.size)=some (jA bf).length by rw[jB,Af];exact jO);have g1:((es.length:Int) !=(es.length:Int))=false:=(by simp);have g2:((ps.length:Int) !=(ps.length:Int))=false:=(by simp);have g3:(fi !=fi)=false:=(by simp);clear h1 h2 Fu Bm TX LO MM Af Fj;generalize jA bf=db at*;go_enter func80,ntmps80;go_upto_region 1 with(fail);generalize (w.alloc _).alloc _=W at*;have c0:=P1.out.c0;have c1:=P1.out.c1;have c34:=P1.out.c34;have c35:=P1.out.c35;have d0:=P2.out.c0;have d1:=P2.out.c1;have d34:=P2.out.c34;have d35:=P2.out.c35;go_wp2_with (first
  |((with_reducible refine ji 40 (.tmp 19) ?_);refine jK rfl 40 (.tmp 19) rfl w.heap.size 2 rfl db _ P1.out.r2 underlying40 rfl Fh.out ?_)
  |((with_reducible refine ji 40 (.tmp 21) ?_);refine jK rfl 40 (.tmp 21) rfl (w.heap.size+1) 2 rfl db _ P2.out.r2 underlying40 rfl Fh.out ?_)
  |((with_reducible refine zi .neq 40 40 (.tmp 20) (.tmp 22) ?_);refine Vo rfl 40 40 (.tmp 20) (.tmp 22) rfl _ _ rfl rfl yB true (We.out _) ?_)
  |fail)
 clear c0 c1 c34 c35 d0 d1 d34 d35;go_loopw [5] (fun i wr=>∃k:Nat,k<=es.length/\i=.int .i64 k/\Old W wr) (fun i _=>es.length-(intOf i).toNat)
 case atStart=>exact⟨0,by omega,rfl,jQ0 _ _⟩
 case round=>
  obtain⟨k,hk,rfl,Fk⟩:=hrel;have c34:=(P1.out.old Fk).c34;have Pq:=(Ho.out.old Fk);have GR:=G Fk;have b5:(k:Int)<=1000000000000:=by have:=GS.out.1;omega
  by_cases hM:k<es.length
  ·have Wv:k<es2.length:=by have:=Nz.out;omega
   have TG:k<ps.length:=by have:=As.out;omega
   have TF:k<ps2.length:=by have:=Hlp.out;omega
   obtain⟨b1,o1,rfl,q1⟩:=(H1.out.rdE.old Pq).part hM hM;obtain⟨b2,o2,rfl,q2⟩:=(H2.out.rdE.old Pq).part Wv Wv;obtain⟨b3,o3,rfl,r3⟩:=(H1.out.rdP.old Pq).elem (f:=MWay.cells) (fun _ _=>rfl) rfl TG;obtain⟨b4,o4,rfl,r4⟩:=(H2.out.rdP.old Pq).elem (f:=MWay.cells) (fun _ _=>rfl) rfl TF;have k1:=H1.out.evs _ (jL6 hM);have k2:=H2.out.evs _ (jL6 Wv);have k3:=H1.out.pfs _ (jL6 TG);have k4:=H2.out.pfs _ (jL6 TF);have e1:=jEG IH.out hM Wv;have e2:=jEG ME.out TG TF;simp only at q1 q2 r3 r4 k1 k2 k3 k4 e1 e2;generalize es[k]=p1 at*;generalize es2[k]=p2 at*;generalize ps[k]=y1 at*;generalize ps2[k]=y2 at*;obtain⟨A1,l,n1⟩:=p1;obtain⟨A2,l2,n2⟩:=p2;simp only at e1;subst e1;have HSb:=G (fun W' (ho:Old W W')=>jAF W' A1 A2 n1 n2 l ((k1.rd.old Ho.out).old ho) ((k2.rd.old Ho.out).old ho) (by have:=k1.big;simp only at this;omega));have AJ:=G (fun W' (ho:Old W W')=>jAE W' y1 y2 X Y ((k3.old3 Ho.out).old3 ho) ((k4.old3 Ho.out).old3 ho) e2);have hE:PieE wr w.heap.size (w.heap.size+1) (.slice (some ⟨b1,o1,none⟩) es.length eC) (.slice (some ⟨b2,o2,none⟩) es.length eD) (.slice (some ⟨b3,o3,none⟩) ps.length pC) (.slice (some ⟨b4,o4,none⟩) ps.length pD) b1 (o1+k) b2 (o2+k) b3 (o3+k*3) b4 (o4+k*3) (.slice A1 l.length n1) (.slice A2 l.length n2) y1.cells y2.cells:=
    ⟨c34,(P1.out.old Fk).c35,(P2.out.old Fk).c34,(P2.out.old Fk).c35,q1,q2,r3,r4⟩
   have b6:(0:Int)<=(k:Int):=(by omega);have b7:(k:Int)<(es.length:Int):=(by omega);have b9:(k:Int)<(ps.length:Int):=(by omega);have b8:(k:Int).toNat=k:=(by omega);have HE:=G hE;have Sp:=G (show(prog.info? 51).map (·.size)=some y1.cells.length by kernel_rfl);have So:=G (show(prog.info? 51).map (·.size)=some y2.cells.length by kernel_rfl);generalize y1.cells=z1 at*;generalize y2.cells=z2 at*;clear Fk Pq q1 q2 r3 r4 k1 k2 k3 k4 e2 hE H1 H2 P1 P2;go_upto_region 6 with(fail);refine je (S:=fun w' =>PieE w' w.heap.size (w.heap.size+1) (.slice (some ⟨b1,o1,none⟩) es.length eC) (.slice (some ⟨b2,o2,none⟩) es.length eD) (.slice (some ⟨b3,o3,none⟩) ps.length pC) (.slice (some ⟨b4,o4,none⟩) ps.length pD) b1 (o1+k) b2 (o2+k) b3 (o3+k*3) b4 (o4+k*3) (.slice A1 l.length n1) (.slice A2 l.length n2) z1 z2) 26 rfl (by kernel_rfl) (HE.out.old (jQ0 NoX wr).drew) (fun H9=> ?_);have DO:=G (GR.out.drew);clear c34
   iterate 10 (refine' tOn rfl rfl (by kernel_rfl) (fun _ _ _ h=>h) rfl H9 (fun w' hJ=> ?_) ?_;rotate_left;(have s0:=hJ.a34;have s1:=hJ.b34;have s2:=hJ.q1;have s3:=hJ.q2;clear hJ;go_simp<;>with_reducible rfl);simp only[Act.put,jJ1,jJ2,jJ3])
   refine VP rfl (by kernel_rfl) (by decide) (fun K hK=> ?_);go_simp;go_at_call 9;refine(HSb.out _ DO.out).mono ?_;rintro e w1 ⟨rfl,F0⟩;have FE:=G (DO.out.old F0);have ER:=G ((HE.out.old (jQ0 NoX wr).drew).old F0);clear F0 HE;go_simp;refine hK.out _ _ ER.out (fun H9=> ?_);clear hK K
   iterate 6 (refine' tOn rfl rfl (by kernel_rfl) (fun _ _ _ h=>h) rfl H9 (fun w' hJ=> ?_) ?_;rotate_left;(have s0:=hJ.a35;have s1:=hJ.b35;clear hJ;go_simp<;>with_reducible rfl);simp only[Act.put,jJ1,jJ2,jJ3])
   refine' tOn rfl rfl (by kernel_rfl) (fun _ _ _ h=>h) rfl H9 (fun w' hJ=>jl 51 (.tmp 66) rfl b3 (o3+k*3) rfl z1 _ hJ.r1 underlying51 rfl Sp.out) ?_;simp only[Act.put,jJ1,jJ2,jJ3]
   iterate 4 (refine' tOn rfl rfl (by kernel_rfl) (fun _ _ _ h=>h) rfl H9 (fun w' hJ=> ?_) ?_;rotate_left;(have s0:=hJ.a35;have s1:=hJ.b35;clear hJ;go_simp<;>with_reducible rfl);simp only[Act.put,jJ1,jJ2,jJ3])
   refine' tOn rfl rfl (by kernel_rfl) (fun _ _ _ h=>h) rfl H9 (fun w' hJ=>jl 51 (.tmp 71) rfl b4 (o4+k*3) rfl z2 _ hJ.r2 underlying51 rfl So.out) ?_;simp only[Act.put,jJ1,jJ2,jJ3];refine VP rfl (by kernel_rfl) (by decide) (fun K hK=> ?_);go_simp;go_at_call 79;refine(AJ.out _ FE.out).mono ?_;rintro e w2 ⟨rfl,FL⟩;have FH:=G (FE.out.old FL);have HE2:=G (ER.out.old FL);clear FL ER;go_simp;refine hK.out _ _ HE2.out (fun H9=> ?_);clear hK K
   iterate 2 (refine' tOn rfl rfl (by kernel_rfl) (fun _ _ _ h=>h) rfl H9 (fun w' hJ=> ?_) ?_;rotate_left;(clear hJ;go_simp<;>with_reducible rfl);simp only[Act.put,jJ1,jJ2,jJ3])
   refine wpAnyH_done (by kernel_rfl) ?_ _;go_wp2;go_roundw
   case rel=>exact⟨k+1,by omega,by go_num,FH.out⟩
   case measure=>simp[intOf];omega
  ·obtain rfl:k=es.length:=(by omega);clear Fk Pq;go_wp2;go_ret;exact⟨rfl,Ho.out.old GR.out⟩
theorem MCase.Ok.old3{w w' :World}{X:Nat->Prop}{m:MCase}(h:m.Ok w X)(ho:Old w w'):m.Ok w' NoX:=h.turn ho (fun _ _ f=>f.elim) (fun _ _ f=>f.elim)
structure CasH(W:World)(B:Nat)(m:MCase)(n:Nat):Prop where
 c0:W.cell? ⟨B,0,none⟩=some (.string m.name)
 c1:W.cell? ⟨B,1,none⟩=some (.string m.type_)
 c2:W.cell? ⟨B,2,none⟩=some (.int .i64 m.count)
 r3:W.rangeAt B 3 (jA m.chain)
 c35:W.cell? ⟨B,35,none⟩=some (.slice m.vA n m.vC)
 c36:W.cell? ⟨B,36,none⟩=some (.slice m.open_.A m.open_.l.length m.open_.c)
 c37:W.cell? ⟨B,37,none⟩=some (.slice m.closed.A m.closed.l.length m.closed.c)
 c38:W.cell? ⟨B,38,none⟩=some (.slice m.reached.A m.reached.l.length m.reached.c)
theorem CasH.of{W:World}{B:Nat}{m:MCase}(hb:Blk W B 43 m.cells.toArray)(h:m.chain.length=32):CasH W B m m.values.length:=by
 have hc:∀(i:Nat) (v:Value),m.cells[i]? =some v->W.cell? ⟨B,i,none⟩=some v:=fun i v e=>hb.at_ i (by rw[jJ7];exact e);have S3:Sub m.cells 3 (jA m.chain):=Sub.mid_ _ _ _ 3 rfl;exact⟨hc 0 _ rfl,hc 1 _ rfl,hc 2 _ rfl,S3.range hb,hc 35 _ (jh [.string m.name,.string m.type_,.int .i64 m.count] _ m.chain h 35 0 rfl),hc 36 _ (jh [.string m.name,.string m.type_,.int .i64 m.count] _ m.chain h 35 1 rfl),hc 37 _ (jh [.string m.name,.string m.type_,.int .i64 m.count] _ m.chain h 35 2 rfl),hc 38 _ (jh [.string m.name,.string m.type_,.int .i64 m.count] _ m.chain h 35 3 rfl)⟩
theorem CasH.old{W W' :World}{B n:Nat}{m:MCase}(h:CasH W B m n)(ho:Old W W'):CasH W' B m n:=
 ⟨jW h.c0 ho,jW h.c1 ho,jW h.c2 ho,jo h.r3 ho,jW h.c35 ho,jW h.c36 ho,jW h.c37 ho,jW h.c38 ho⟩
structure CasE(W:World)(B1 B2:Nat)(e1 e2:Value)(b1 o1 b2 o2:Nat)(v1 v2:Value)(y1 y2:List Value):Prop where
 a35:W.cell? ⟨B1,35,none⟩=some e1
 b35:W.cell? ⟨B2,35,none⟩=some e2
 q1:W.cell? ⟨b1,o1,none⟩=some v1
 q2:W.cell? ⟨b2,o2,none⟩=some v2
 r1:W.rangeAt b1 (o1+1) y1
 r2:W.rangeAt b2 (o2+1) y2
theorem CasE.old{W W' :World}{B1 B2:Nat}{e1 e2:Value}{b1 o1 b2 o2:Nat}{v1 v2:Value}{y1 y2:List Value}(h:CasE W B1 B2 e1 e2 b1 o1 b2 o2 v1 v2 y1 y2)(ho:Old W W'):CasE W' B1 B2 e1 e2 b1 o1 b2 o2 v1 v2 y1 y2:=
 ⟨jW h.a35 ho,jW h.b35 ho,jW h.q1 ho,jW h.q2 ho,jo h.r1 ho,jo h.r2 ho⟩
theorem uM{W:World}{b o:Nat}{m:MBind}(h:W.rangeAt b o m.cells):W.cell? ⟨b,o,none⟩=some (.string m.name)/\W.rangeAt b (o+1) m.v.cells:=by
 refine⟨h 0 _ rfl,fun j v hv=> ?_⟩;have:=h (1+j) v (by rw[Nat.add_comm];exact hv)
 rwa [<-Nat.add_assoc]at this
theorem jFb(w:World)(m1 m2:MCase)(X Y:Nat->Prop)(h1:m1.Ok w X)(h2:m2.Ok w Y)(hd:m1.data=m2.data):
  Calls prog 77 #[.agg m1.cells.toArray,.agg m2.cells.toArray] w fun e w' =>e=.returned (.bool true)/\Old w w' :=by
 have SX:=(jQ2 w 43 m1.cells.toArray).alloc (.cells m2.cells.toArray 43);have P5:=jQ2 (w.alloc (.cells m1.cells.toArray 43)) 43 m2.cells.toArray;rw[show(w.alloc (.cells m1.cells.toArray 43)).heap.size=w.heap.size+1 by simp]at P5;have Ho:=G (((jQ0 NoX w).alloc (.cells m1.cells.toArray 43)).alloc (.cells m2.cells.toArray 43));have P1:=G (CasH.of SX h1.chain);have P2:=G (CasH.of P5 h2.chain);clear SX P5;generalize FS:m1.cells=cs1 at*;generalize Gz:m2.cells=cs2 at*;clear FS Gz;obtain⟨na,ty,ct,ch,es,eA,eC,⟨ol,oA,oC⟩,⟨cl,cA,cC⟩,⟨rl,rA,rC⟩⟩:=m1;obtain⟨na2,ty2,ct2,ch2,es2,eB,eD,⟨ol2,oB,oD⟩,⟨cl2,cB,cD⟩,⟨rl2,rB,rD⟩⟩:=m2;simp only[MCase.data,Cas.mk.injEq]at hd;obtain⟨rfl,rfl,rfl,rfl,TX,rfl,rfl,rfl⟩:=hd;have H1:=G h1;have H2:=G h2;have Fu:=UI TX;have X0:=h1.chain;have Fj:=h1.big.1;simp only at P2 X0 Fj;rw[<-Fu]at P2;have Nz:=G Fu;have IH:=G TX;have GS:=G Fj;have We:=G (uu ch X0);have Fh:=G (show(prog.info? 40).map (·.size)=some (jA ch).length by rw[jB,X0];exact jO);have g1:((es.length:Int) !=(es.length:Int))=false:=(by simp);have g2:(na.toList !=na.toList)=false:=(by simp);have g4:(ty.toList !=ty.toList)=false:=(by simp);have g3:(ct !=ct)=false:=(by simp);have EJ:=G (fun W (ho:Old w W)=>uW W oA oB oC oD ol (h1.open_.rd.old ho) (h2.open_.rd.old ho) h1.open_.big);have NO:=G (fun W (ho:Old w W)=>uW W cA cB cC cD cl (h1.closed.rd.old ho) (h2.closed.rd.old ho) h1.closed.big);have CI:=G (fun W (ho:Old w W)=>uW W rA rB rC rD rl (h1.reached.rd.old ho) (h2.reached.rd.old ho) h1.reached.big);clear h1 h2 Fu TX X0 Fj;have P1c:=G (P1.out.r3);have P2c:=G (P2.out.r3);simp only at P1c P2c;go_enter func77,ntmps77;go_upto_region 1 with(fail);generalize (w.alloc _).alloc _=W at*;have c0:=P1.out.c0;have c1:=P1.out.c1;have c2:=P1.out.c2;have c35:=P1.out.c35;have d0:=P2.out.c0;have d1:=P2.out.c1;have d2:=P2.out.c2;have d35:=P2.out.c35;simp only at c0 c1 c2 c35 d0 d1 d2 d35;generalize jA ch=db at*;go_wp2_with (first
  |((with_reducible refine ji 40 (.tmp 26) ?_);refine jK rfl 40 (.tmp 26) rfl w.heap.size 3 rfl db _ P1c.out underlying40 rfl Fh.out ?_)
  |((with_reducible refine ji 40 (.tmp 28) ?_);refine jK rfl 40 (.tmp 28) rfl (w.heap.size+1) 3 rfl db _ P2c.out underlying40 rfl Fh.out ?_)
  |((with_reducible refine zi .neq 40 40 (.tmp 27) (.tmp 29) ?_);refine Vo rfl 40 40 (.tmp 27) (.tmp 29) rfl _ _ rfl rfl yB true (We.out _) ?_)
  |fail)
 clear c0 c1 c2 c35 d0 d1 d2 d35;go_loopw [5] (fun i wr=>∃k:Nat,k<=es.length/\i=.int .i64 k/\Old W wr) (fun i _=>es.length-(intOf i).toNat)
 case atStart=>exact⟨0,by omega,rfl,jQ0 _ _⟩
 case round=>
  obtain⟨k,hk,rfl,Fk⟩:=hrel;have c35:=(P1.out.old Fk).c35;have Pq:=(Ho.out.old Fk);have GR:=G Fk;have b5:(k:Int)<=1000000000000:=by have:=GS.out;omega
  simp only at c35;by_cases hM:k<es.length
  ·have Wv:k<es2.length:=by have:=Nz.out;omega
   have d35:=(P2.out.old Fk).c35;simp only at d35;obtain⟨b1,o1,rfl,r1⟩:=(H1.out.rdV.old Pq).elem (f:=MBind.cells) (fun _ _=>rfl) rfl hM;obtain⟨b2,o2,rfl,r2⟩:=(H2.out.rdV.old Pq).elem (f:=MBind.cells) (fun _ _=>rfl) rfl Wv;have k1:=H1.out.values _ (jL6 hM);have k2:=H2.out.values _ (jL6 Wv);have e1:=jEG IH.out hM Wv;simp only at r1 r2 k1 k2 e1;generalize es[k]=p1 at*;generalize es2[k]=p2 at*;have q1:=uM r1;have q2:=uM r2;obtain⟨nm,⟨v,A1,n1⟩⟩:=p1;obtain⟨nm2,⟨v2,A2,n2⟩⟩:=p2;simp only[MBind.data,Prod.mk.injEq]at e1;obtain⟨rfl,rfl⟩:=e1;have HSv:=G (fun W' (ho:Old W W')=>jFZ W' v A1 A2 n1 n2 ((k1.v.rd.old Ho.out).old ho) ((k2.v.rd.old Ho.out).old ho) (by have:=k1.v.big;simp only at this;omega));have hE:CasE wr w.heap.size (w.heap.size+1) (.slice (some ⟨b1,o1,none⟩) es.length eC) (.slice (some ⟨b2,o2,none⟩) es.length eD) b1 (o1+k*5) b2 (o2+k*5) (.string nm) (.string nm) [.int .i64 v.kind,.int .i64 v.n,.string v.t,.slice A1 v.s.length n1] [.int .i64 v.kind,.int .i64 v.n,.string v.t,.slice A2 v.s.length n2]:=
    ⟨c35,d35,q1.1,q2.1,q1.2,q2.2⟩
   have b6:(0:Int)<=(k:Int):=(by omega);have b7:(k:Int)<(es.length:Int):=(by omega);have b8:(k:Int).toNat=k:=(by omega);have g5:(nm.toList !=nm.toList)=false:=(by simp);have HE:=G hE;have Hs:=G (show(prog.info? 29).map (·.size)=some 4 by kernel_rfl);clear Fk Pq q1 q2 r1 r2 k1 k2 hE H1 H2 P1 P2 EJ NO CI P1c P2c d35;simp only[vV]at HSv;go_upto_region 6 with(fail);refine je (S:=fun w' =>CasE w' w.heap.size (w.heap.size+1) (.slice (some ⟨b1,o1,none⟩) es.length eC) (.slice (some ⟨b2,o2,none⟩) es.length eD) b1 (o1+k*5) b2 (o2+k*5) (.string nm) (.string nm) [.int .i64 v.kind,.int .i64 v.n,.string v.t,.slice A1 v.s.length n1] [.int .i64 v.kind,.int .i64 v.n,.string v.t,.slice A2 v.s.length n2]) 29 rfl (by kernel_rfl) (HE.out.old (jQ0 NoX wr).drew) (fun H9=> ?_);have DO:=G (GR.out.drew);clear c35
   iterate 19 (refine' tOn rfl rfl (by kernel_rfl) (fun _ _ _ h=>h) rfl H9 (fun w' hJ=> ?_) ?_;rotate_left;(have s0:=hJ.a35;have s1:=hJ.b35;have s2:=hJ.q1;have s3:=hJ.q2;clear hJ;go_simp<;>with_reducible rfl);simp only[Act.put,jJ1,jJ2,jJ3])
   refine' tOn rfl rfl (by kernel_rfl) (fun _ _ _ h=>h) rfl H9 (fun w' hJ=>jl 29 (.tmp 66) rfl b1 (o1+k*5+1) rfl _ _ hJ.r1 underlying29 rfl Hs.out) ?_;simp only[Act.put,jJ1,jJ2,jJ3]
   iterate 5 (refine' tOn rfl rfl (by kernel_rfl) (fun _ _ _ h=>h) rfl H9 (fun w' hJ=> ?_) ?_;rotate_left;(have s0:=hJ.a35;have s1:=hJ.b35;clear hJ;go_simp<;>with_reducible rfl);simp only[Act.put,jJ1,jJ2,jJ3])
   refine' tOn rfl rfl (by kernel_rfl) (fun _ _ _ h=>h) rfl H9 (fun w' hJ=>jl 29 (.tmp 72) rfl b2 (o2+k*5+1) rfl _ _ hJ.r2 underlying29 rfl Hs.out) ?_;simp only[Act.put,jJ1,jJ2,jJ3];refine VP rfl (by kernel_rfl) (by decide) (fun K hK=> ?_);go_simp;go_at_call 133;refine(HSv.out _ DO.out).mono ?_;rintro e w1 ⟨rfl,F0⟩;have FE:=G (DO.out.old F0);have ER:=G ((HE.out.old (jQ0 NoX wr).drew).old F0);clear F0 HE;go_simp;refine hK.out _ _ ER.out (fun H9=> ?_);clear hK K
   iterate 2 (refine' tOn rfl rfl (by kernel_rfl) (fun _ _ _ h=>h) rfl H9 (fun w' hJ=> ?_) ?_;rotate_left;(clear hJ;go_simp<;>with_reducible rfl);simp only[Act.put,jJ1,jJ2,jJ3])
   refine wpAnyH_done (by kernel_rfl) ?_ _;go_wp2;go_roundw
   case rel=>exact⟨k+1,by omega,by go_num,FE.out⟩
   case measure=>simp[intOf];omega
  ·obtain rfl:k=es.length:=(by omega);clear Fk;have J5:=G (P1.out.old GR.out);have J4:=G (P2.out.old GR.out);have HOw:=G Pq;have c36:=J5.out.c36;have d36:=J4.out.c36;simp only at c36 d36;clear Pq H1 H2 P1 P2 P1c P2c;go_wp2_with fail;refine(EJ.out _ HOw.out).mono ?_;rintro e w1 ⟨rfl,F0⟩;have NP:=G (HOw.out.old F0);have ET:=G (J5.out.old F0);have Nq:=G (J4.out.old F0);have c37:=ET.out.c37;have d37:=Nq.out.c37;simp only at c37 d37;clear F0 EJ c36 d36 c35 J5 J4;go_wp2_with fail;refine(NO.out _ NP.out).mono ?_;rintro e w2 ⟨rfl,FL⟩;have MH:=G (NP.out.old FL);have HC1:=G (ET.out.old FL);have HC2:=G (Nq.out.old FL);have c38:=HC1.out.c38;have d38:=HC2.out.c38;simp only at c38 d38;clear FL NO c37 d37 ET Nq;go_wp2_with fail;refine(CI.out _ MH.out).mono ?_;rintro e w3 ⟨rfl,Gj⟩;go_wp2;go_ret;exact⟨by simp,MH.out.old Gj⟩
def ki(bs:LB):Nat->Rs->List BA->List BA×Rs
 |0,s,acc=>(acc,s)
 |n+1,s,acc=>ki bs n (js bs s).2 (acc++[(js bs s).1])
def jr(bs:LB)(s:Rs):List BA×Rs:=ki bs (tkN bs 1 s).1 (tkN bs 1 s).2 []
def jJy(w:World)(g:Nat)(bs:LB)(ls:List BA×Rs)(e:Ending)(w' :World):Prop:=
 ∃m:MTexts,m.l=ls.1/\e=.returned m.sl/\m.Ok w' (fun k=>k<w.heap.size)/\Rr w' g bs ls.2/\Kp (RX g) w w'
theorem Yy(w:World)(g:Nat)(bs:LB)(s:Rs)(h:Rr w g bs s):
  Calls prog 139 #[.pointer (some ⟨g,0,none⟩)] w (jJy w g bs (jr bs s)):=by
 have HT:=G (show jr bs s=ki bs (tkN bs 1 s).1 (tkN bs 1 s).2 []from rfl);have HN:=G (ku bs 1 s);have NV:=h.lt;have GP:=h.fits.2;generalize jr bs s=LN at*;have HP:=G (vm w g bs s h);clear h;generalize tkN bs 1 s=t1 at*;obtain⟨n,s1⟩:=t1;simp only at HT HN HP;have hn:n<256:=by have:=HN.out;omega
 clear HN;obtain⟨i0,hi,Fz,Ft,FC⟩:=info_parts Zl;go_enter func139,ntmps139;go_wp2_with fail;refine HP.out.mono ?_;clear HP;rintro e w1 ⟨rfl,Fd,Fc⟩;have WH:=G Fd;have V2:=G Fc;clear Fd Fc;go_wp2_with fail;go_loopw [6,3] (fun i lv wr=>∃(k:Nat) (acc:List BA) (A:OA) (c:Nat) (sr:Rs),k<=n/\i=.int .u8 k/\acc.length=k/\lv=.slice A k c/\wr.ownsRow w.heap.size 9 1 (.slice A k c) k (acc.map sv)/\(∀t∈acc,t.size<=100000000)/\Rr wr g bs sr/\Kp (RX g) w wr/\ki bs n s1 []=ki bs (n-k) sr acc) (fun i _ _=>n-(intOf i).toNat)
 case atStart=>exact⟨0,[],none,0,s1,by omega,rfl,rfl,rfl,World.ownsRow_nil _ _ _ _,fun t ht=>(by cases ht),WH.out,V2.out,rfl⟩
 case round=>
  obtain⟨k,acc,A,c,sr,hk,rfl,G1,rfl,Hi,Mt,hr,FQ,FM⟩:=hrel;have FY:=G G1;have Gn:=G Hi;have MC:=G Mt;have Hr:=G hr;have MF:=G FQ;have Fs:=G FM;clear G1 Hi Mt hr FQ FM WH V2;by_cases hM:k<n
  ·obtain⟨m,hm⟩:∃m,n-k=m+1:=⟨n-k-1,by omega⟩;rw[hm,ki]at Fs;have Hm:=G hm;clear hm;have HW:=G (ZU wr g bs sr Hr.out);have Mn:=G (Kb bs sr);generalize js bs sr=wn at*;obtain⟨x,s2⟩:=wn;simp only at Fs HW Mn;have TQ:IntKind.u8.wrap ((k:Int)+1)=(k:Int)+1:=IntWalk.u8_in _ (by omega);have FU:=G (show k+1<=maxLen by unfold maxLen;omega);have FV:=G (show(k+1)*16<=140737488355328 by omega);go_wp2_with fail;refine HW.out.mono ?_;rintro e w2 ⟨rfl,Fb,hZ⟩;have Hk2:=G (MF.out.trans hZ (fun _ _ e=>e));have FH:=G (kG Gn.out hZ (fun b e e' =>by
    have:=(jY Gn.out (by rw[<-jE];exact e)).1;have:b=g:=e';omega))
   have Ss:=G Fb;clear Fb hZ HW;go_wp2_with (first|(at_builtin;refine jJ _ rfl (.tmp 8) (.tmp 11) 27 rfl w.heap.size 9 i0 _ 1 16 underlying27 hi Fz Ft FC rfl (by decide) (.slice A k c) k (acc.map sv) rfl (FH.out.alloc _) _ 1 1 _ rfl (Rd.one_new _ _ _) (ky _ rfl) FU.out FV.out (jL4 Hk2.out.size (by simp)) ?_;intro A' c' w3 Hi hgrow Fo)|fail);rw[jE]at hgrow;have Fl:=G (show Rr w3 g bs s2/\Kp (RX g) w w3 from by
    have k1:=kM hgrow;have N0:∀b,A.map (·.block)=some b->w.heap.size<=b:=fun b e=>(jY FH.out e).1;exact⟨(Ss.out.old ((jQ0 NoX w2).alloc _)).kp k1 (fun b hb e=>by have:=N0 b e;omega),(Hk2.out.alloc _).trans k1 (fun b hb e=>by have:=N0 b e;omega)⟩)
   have Rg:=G Hi;clear Hi hgrow Fo;go_wp2_with fail;go_roundw
   case rel=>exact⟨k+1,acc++[x],A',c',s2,by omega,by go_num,by rw[jJ4,FY.out];rfl,rfl,by rw[<-VU];exact Rg.out,fun t ht=>by
    rcases List.mem_append.1 ht with ht|ht
    ·exact MC.out t ht
    ·rw[List.mem_singleton.1 ht];have:=Mn.out;omega,Fl.out.1,Fl.out.2,by rw[Fs.out,show n-(k+1)=m by have:=Hm.out;omega]⟩
   case measure=>simp[intOf];omega
  ·obtain rfl:k=n:=(by omega);have Fm:=G (show LN=(acc,sr)by rw[HT.out,Fs.out,Nat.sub_self];rfl);go_wp2;go_ret;rw[Fm.out];refine⟨⟨acc,A,c⟩,rfl,by rw[MTexts.sl,FY.out];rfl,⟨by rw[FY.out];exact Rd.of_own Gn.out,by rw[FY.out];exact vd Gn.out,by rw[FY.out];exact zy Gn.out,fun j hj=> ?_,by rw[FY.out];omega⟩,Hr.out,MF.out⟩;have hjj:acc.getD j ByteArray.empty=acc[j]:=(by simp only[List.getD,jJ9 hj,Option.getD_some]);show(acc.getD j ByteArray.empty).size<=_;rw[hjj];exact jL4 (MC.out (acc[j]'hj) (jL6 _)) (by decide)
def zeroCasL:List Value:=[.string ⟨#[]⟩,.string ⟨#[]⟩,.int .i64 0,.int .u8 0,.int .u8 0,.int .u8 0,.int .u8 0,.int .u8 0,.int .u8 0,.int .u8 0,.int .u8 0,.int .u8 0,.int .u8 0,.int .u8 0,.int .u8 0,.int .u8 0,.int .u8 0,.int .u8 0,.int .u8 0,.int .u8 0,.int .u8 0,.int .u8 0,.int .u8 0,.int .u8 0,.int .u8 0,.int .u8 0,.int .u8 0,.int .u8 0,.int .u8 0,.int .u8 0,.int .u8 0,.int .u8 0,.int .u8 0,.int .u8 0,.int .u8 0,.slice none 0 0,.slice none 0 0,.slice none 0 0,.slice none 0 0]
def zeroMT:MTexts:=⟨[],none,0⟩
def zeroMC:MCase:=⟨⟨#[]⟩,⟨#[]⟩,0,zD,[],none,0,zeroMT,zeroMT,zeroMT⟩
theorem QD:zeroMC.cells=zeroCasL:=by
 simp only[zeroMC,MCase.cells,JW];rfl
theorem JF(w:World)(X:Nat->Prop):zeroMT.Ok w X:=⟨Rd.none_,fun h=>absurd h (by simp[zeroMT]),by decide,fun k hk=>by simp[zeroMT]at hk,by decide⟩
def JQ(C:Nat)(A:OA):Nat->Prop:=fun b=>b<=C\/A.map (·.block)=some b
structure CasSt(w:World)(g C:Nat)(bs:LB)(m:MCase)(s:Rs)(wr:World):Prop where
 st:TkR 43 zeroCasL w g bs s wr
 blk:Blk wr C 43 m.cells.toArray
 own:wr.ownsRow (C+1) 108 5 (.slice m.vA m.values.length m.vC) m.values.length (m.values.flatMap MBind.cells)
 chain:m.chain.length=32
 vals:∀v∈m.values,v.Ok wr (JQ C m.vA)
 lt:w.heap.size<C
section
variable{w:World}{g C:Nat}{bs:LB}{m:MCase}{s s' :Rs}{wr w' :World}
theorem CasSt.step(h:CasSt w g C bs m s wr)(hr:Rr w' g bs s')(hk:Kp (RX g) wr w'):CasSt w g C bs m s' w' :=
 ⟨h.st.step hr hk,h.blk.kp hk (fun e=>by have:C=g:=e;have:=h.lt;have:=h.st.lt;omega),kG h.own hk (fun b e e' =>by
  have:=(jY h.own (by rw[<-jE];exact e)).1;have:b=g:=e';have:=h.lt;have:=h.st.lt;omega),h.chain,fun v hv=>(h.vals v hv).turn hk (fun b _ e=>.inl (by have:b=g:=e;have:=h.lt;have:=h.st.lt;omega)) (fun _ _ e=>e),h.lt⟩
theorem CasSt.old(h:CasSt w g C bs m s wr)(hk:Old wr w'):CasSt w g C bs m s w' :=
 ⟨h.st.still hk,h.blk.old hk,kG h.own hk (fun _ _ f=>f),h.chain,fun v hv=>(h.vals v hv).turn hk (fun _ _ f=>f.elim) (fun _ _ e=>e),h.lt⟩
theorem CasSt.turn{X:Nat->Prop}{m' :MCase}(h:CasSt w g C bs m s wr)(hk:Kp X wr w')(hX:∀b,X b->b=C)(hv:m'.values=m.values)(hA:m'.vA=m.vA)(hC:m'.vC=m.vC)(hb:Blk w' C 43 m'.cells.toArray)(hl:m'.chain.length=32):CasSt w g C bs m' s w' :=
 ⟨h.st.put hk (fun b e=>by have:=hX b e;have:=h.lt;omega),hb,by
  rw[hv,hA,hC];exact kG h.own hk (fun b e e' =>by
   have:=(jY h.own (by rw[<-jE];exact e)).1;have:=hX b e';omega),hl,by
  rw[hv,hA];exact fun v hv=>(h.vals v hv).turn hk (fun b _ e=>.inl (by have:=hX b e;omega)) (fun _ _ e=>e),h.lt⟩
theorem CasSt.type_(h:CasSt w g C bs m s wr)(t:BA):CasSt w g C bs {m with type_:=t} s (wr.setCell ⟨C,1,none⟩ (.string t)):=
 h.turn ((jQ0 (fun k=>k=C) wr).setCell (p:=⟨C,1,none⟩) (fun _=>rfl) _) (fun _ e=>e) rfl rfl rfl (h.blk.set_ 1 _) h.chain
theorem CasSt.count(h:CasSt w g C bs m s wr)(n:Int):CasSt w g C bs {m with count:=n} s (wr.setCell ⟨C,2,none⟩ (.int .i64 n)):=
 h.turn ((jQ0 (fun k=>k=C) wr).setCell (p:=⟨C,2,none⟩) (fun _=>rfl) _) (fun _ e=>e) rfl rfl rfl (h.blk.set_ 2 _) h.chain
theorem CasSt.dig(h:CasSt w g C bs m s wr)(d:LB)(hd:d.length=32):CasSt w g C bs {m with chain:=d} s (wr.setCells C 3 (jA d)):=
 h.turn (Kp.setCells C 3 _ wr) (fun _ e=>e) rfl rfl rfl (by
  have:=Blk.setCells (pre:=[.string m.name,.string m.type_,.int .i64 m.count]) (mid:=jA m.chain) (post:=[.slice m.vA m.values.length m.vC,m.open_.sl,m.closed.sl,m.reached.sl]) (by simpa [MCase.cells]using h.blk) (jA d) (by rw[jB,jB,hd,h.chain]);simpa [MCase.cells]using this) hd
theorem Blk.casV{vA:OA}{vn vC:Nat}(h:Blk wr C 43 m.cells.toArray)(hl:m.chain.length=32):Blk (wr.setCell ⟨C,35,none⟩ (.slice vA vn vC)) C 43 ([Value.string m.name,.string m.type_,.int .i64 m.count]++(jA m.chain++[.slice vA vn vC,m.open_.sl,m.closed.sl,m.reached.sl])).toArray:=by
 have:=Blk.setCells (pre:=[.string m.name,.string m.type_,.int .i64 m.count]++jA m.chain) (mid:=[.slice m.vA m.values.length m.vC]) (post:=[m.open_.sl,m.closed.sl,m.reached.sl]) (by simpa [MCase.cells]using h) [.slice vA vn vC] rfl;rw[jJ4,jB,hl]at this;have e:wr.setCells C 35 [.slice vA vn vC]=wr.setCell ⟨C,35,none⟩ (.slice vA vn vC):=rfl;simp only[jK6,List.length_nil,Nat.reduceAdd,e]at this;simpa using this
theorem CasSt.three(h:CasSt w g C bs m s wr)(a b c:MTexts):CasSt w g C bs {m with open_:=a,closed:=b,reached:=c} s (((wr.setCell ⟨C,36,none⟩ a.sl).setCell ⟨C,37,none⟩ b.sl).setCell ⟨C,38,none⟩ c.sl):=
 h.turn ((((jQ0 (fun k=>k=C) wr).setCell (p:=⟨C,36,none⟩) (fun _=>rfl) _).setCell (p:=⟨C,37,none⟩) (fun _=>rfl) _).setCell (p:=⟨C,38,none⟩) (fun _=>rfl) _) (fun _ e=>e) rfl rfl rfl (by
  have:=Blk.setCells (pre:=[.string m.name,.string m.type_,.int .i64 m.count]++(jA m.chain++[.slice m.vA m.values.length m.vC])) (mid:=[m.open_.sl,m.closed.sl,m.reached.sl]) (post:=[]) (by simpa [MCase.cells]using h.blk) [a.sl,b.sl,c.sl] rfl;rw[jJ4,jJ4,jB,h.chain]at this;have e:wr.setCells C 36 [a.sl,b.sl,c.sl]=((wr.setCell ⟨C,36,none⟩ a.sl).setCell ⟨C,37,none⟩ b.sl).setCell ⟨C,38,none⟩ c.sl:=rfl;simp only[jK6,List.length_nil,Nat.reduceAdd,e]at this;simpa [MCase.cells]using this) h.chain
theorem CasSt.grow{vA' :OA}{vC' :Nat}{v:MBind}(h:CasSt w g C bs m s wr)(hg:wr.grownBy w' (m.vA.map (·.block)))(ha:vA'.map (·.block)=m.vA.map (·.block)\/vA'.map (·.block)=some wr.heap.size)
  (ho:w'.ownsRow (C+1) 108 5 (.slice vA' (m.values.length+1) vC') (m.values.length+1) ((m.values++[v]).flatMap MBind.cells)) (hv:v.Ok wr (JQ C m.vA)):
  CasSt w g C bs {m with values:=m.values++[v],vA:=vA',vC:=vC'} s (w'.setCell ⟨C,35,none⟩ (.slice vA' (m.values.length+1) vC')):=by
 have hl:(m.values++[v]).length=m.values.length+1:=(by simp);have N0:∀b,m.vA.map (·.block)=some b->C+1<=b:=fun b e=>(jY h.own e).1;have k1:Kp (JQ C m.vA) wr (w'.setCell ⟨C,35,none⟩ (.slice vA' (m.values.length+1) vC')):=((kM hg).mono (fun b _ e=>.inr e)).setCell (p:=⟨C,35,none⟩) (fun _=>.inl (jL3 _)) _;refine⟨?_,?_,?_,h.chain,?_,h.lt⟩
 ·exact(h.st.put (kM hg) (fun b e=>by have:=N0 b e;have:=h.lt;omega)).put ((jQ0 (fun k=>k=C) w').setCell (p:=⟨C,35,none⟩) (fun _=>rfl) _) (fun b e=>by have:=h.lt;omega)
 ·have:=(h.blk.kp (kM hg) (fun e=>by have:=N0 _ e;omega)).casV (vA:=vA') (vn:=m.values.length+1) (vC:=vC') h.chain;simp only[MCase.cells,hl];exact this
 ·simp only[hl];exact kG ho ((jQ0 (fun k=>k=C) w').setCell (p:=⟨C,35,none⟩) (fun _=>rfl) _) (fun b e e' =>by
   have:=(jY ho (by rw[<-jE];exact e)).1;omega)
 ·intro u hu;have hh:u.Ok wr (JQ C m.vA):=by
   rcases List.mem_append.1 hu with hu|hu
   ·exact h.vals u hu
   ·rw[List.mem_singleton.1 hu];exact hv
  exact hh.turn k1 (fun _ _ e=>e) (fun b hb e=>by
   rcases e with e|e
   ·exact .inl e
   ·exact .inr (Jt ha hb e))
end
def kK(bs:LB):Nat->Rs->List (BA×Val)->List (BA×Val)×Rs
 |0,s,acc=>(acc,s)
 |n+1,s,acc=>kK bs n (jc bs (js bs s).2).2 (acc++[((js bs s).1,(jc bs (js bs s).2).1)])
def qC(bs:LB)(t:BA)(n:Int)(d:LB)(b:List (BA×Val)×Rs):Cas×Rs:=
 (⟨⟨#[]⟩,t,n,d,b.1,(jr bs b.2).1,(jr bs (jr bs b.2).2).1,(jr bs (jr bs (jr bs b.2).2).2).1⟩,(jr bs (jr bs (jr bs b.2).2).2).2)
def qB(bs:LB)(t:BA)(n:Int)(d:LB×Rs):Cas×Rs:=qC bs t n d.1 (kK bs (tkN bs 1 d.2).1 (tkN bs 1 d.2).2 [])
def Jy(bs:LB)(s:Rs):Cas×Rs:=qB bs (js bs s).1 (yp bs (js bs s).2).1 (kq bs (yp bs (js bs s).2).2)
def jJN(w:World)(g:Nat)(bs:LB)(cs:Cas×Rs)(e:Ending)(w' :World):Prop:=
 ∃m:MCase,m.data=cs.1/\e=.returned (.agg m.cells.toArray)/\m.Ok w' (fun k=>k<w.heap.size)/\Rr w' g bs cs.2/\Kp (RX g) w w'
theorem Zn:(prog.info? 108).map (fun i=>(i.zero,i.size,i.bytes))=some (some (.agg #[.string ⟨#[]⟩,.int .i64 0,.int .i64 0,.string ⟨#[]⟩,.slice none 0 0]),5,72):=by kernel_rfl
theorem MBind.one(m:MBind):∀u∈m.cells,u.oneCell' =true:=by
 intro u hu;simp only[MBind.cells,MVal.cells,List.mem_cons,List.not_mem_nil,or_false]at hu;rcases hu with rfl|rfl|rfl|rfl|rfl<;>rfl
end Go.Proofs.YtnaolhjbapgjgaaGreat

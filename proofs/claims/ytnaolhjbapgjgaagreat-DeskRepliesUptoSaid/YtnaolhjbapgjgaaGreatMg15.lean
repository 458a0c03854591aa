import Derived.Test.YtnaolhjbapgjgaaGreatMg14
set_option maxRecDepth 100000
set_option maxHeartbeats 6400000
namespace Go.Proofs.YtnaolhjbapgjgaaGreat
open Go.Proofs.Tryz
open Go.RowKit
def Ql(h:Hd):Bool:=decide (h.log=zD/\h.size=0/\h.root=zD/\h.index=zD/\h.clock=0)
theorem yd(d:LB):(yD d).length=d.length:=by simp[yD]
theorem jEb(w:World)(h:Hd)(hk:h.Ok)(hs: -9223372036854775808<=h.size/\h.size<=9223372036854775807)(hc: -9223372036854775808<=h.clock/\h.clock<=9223372036854775807):
  (Op.equalIn 10000 45 (.agg h.cells.toArray) (.agg zeroHdL.toArray)).run prog w=.ok (Ql h) w:=by
 have hz:=zt zeroHd zeroHd_ok (by decide) (by decide);rw[yF]at hz;obtain⟨r,h1,h2⟩:=Qu 45 3 (by decide) (by kernel_rfl) h.cells zeroHdL 3 3 _ _ (zt h hk hs hc) hz (vq underlying45 rfl KW hk.len) (vq underlying45 rfl KW rfl) w;have e:r=Ql h:=by
  rw[Bool.eq_iff_iff,h2,Ql,decide_eq_true_eq];constructor
  ·intro e;have e1:=List.append_inj e (by rw[yd,yd,hk.log,zeroHd_ok.log]);have e2:=e1.2;simp only[List.cons.injEq,Lit.int.injEq,true_and]at e2;have e3:=List.append_inj e2.2 (by rw[yd,yd,hk.root,zeroHd_ok.root]);have e4:=List.append_inj e3.2 (by rw[yd,yd,hk.index,zeroHd_ok.index]);have e5:=e4.2;simp only[List.cons.injEq,Lit.int.injEq,true_and,and_true]at e5;exact⟨ye e1.1,e2.1,ye e3.1,ye e4.1,e5⟩
  ·rintro ⟨a1,a2,a3,a4,a5⟩;rw[a1,a2,a3,a4,a5];rfl
 rw[h1,e]
theorem JO:prog.eqGuardType prog.depth 45=false:=by kernel_rfl
def jFD(h:Hd)(l:List Sgn):Option LB:=if 0<l.length\/Ql h=false then(yU h l).map fun x=>1::x else some [0]
theorem jCg(w:World)(g:Nat)(r:Option Nat)(bs:LB)(cs:List Value)(m:MNote)(hW:Wr w g r bs)(hl:bs.length<=900000000)(hs:Sub cs 47 m.cells)(Hu:m.Ok w (WX g r))
  (FJ: -9223372036854775808<=m.head.size/\m.head.size<=9223372036854775807) (Gk: -9223372036854775808<=m.head.clock/\m.head.clock<=9223372036854775807):
  Calls prog 26 #[.pointer (some ⟨g,0,none⟩),.int .i64 7,.agg cs.toArray] w (LayP w g r bs (jFD m.head m.signs) 2001):=by
 have Hb:=G (jQ2 w 63 cs.toArray);have Ho:=G ((jQ0 NoX w).alloc (.cells cs.toArray 63));have Hx:=G (yx hW (jL3 w.heap.size));have Hs:=G hs;have S0:=G (show Sub cs 47 m.head.cells from by
  have h1:=Sub.mid_ [] m.head.cells [.slice m.A m.signs.length m.c] 0 rfl;have h2:Sub m.cells 0 m.head.cells:=(by simpa [MNote.cells]using h1);exact hs.trans h2)
 have S98:=G (show cs[145]? =some (.slice m.A m.signs.length m.c)from hs 98 _ ((Sub.end_ m.head.cells [.slice m.A m.signs.length m.c] 98 Hu.head.len) 0 _ rfl));have Hz:=G (show(prog.info? 45).map (·.size)=some m.head.cells.length by rw[Hu.head.len];kernel_rfl);have DJ:=G (show(prog.info? 48).map (·.size)=some m.cells.length by rw[MNote.cells,jJ4,Hu.head.len];kernel_rfl);have We:=G (fun W=>jEb W m.head Hu.head FJ Gk);have AO:=G (fun W (F:Kp (WX g r) w W)=>qo W m (fun k=>False) ⟨Hu.head,Hu.rd.kp F Hu.av,fun _ _ _ f=>f,Hu.big⟩);have HP:=G (show jFD m.head m.signs=if 0<m.signs.length\/Ql m.head=false then(yU m.head m.signs).map fun x=>1::x else some [0]from rfl);have c145:=Hb.out.at_ 145 (by rw[jJ7];exact S98.out);have Fn:=G (S0.out.range Hb.out);clear hs Hu FJ Gk;generalize jFD m.head m.signs=PB at*;generalize yU m.head m.signs=NB at*;generalize Ql m.head=z at*;generalize m.signs.length=sl at*;have Gy:0<sl\/(sl=0/\z=false)\/(sl=0/\z=true):=by
  by_cases h:0<sl
  ·exact .inl h
  ·cases z
   ·exact .inr (.inl ⟨by omega,rfl⟩)
   ·exact .inr (.inr ⟨by omega,rfl⟩)
 rcases Gy with h0|⟨rfl,rfl⟩|⟨rfl,rfl⟩
 ·have LF:=G (show PB=NB.map fun x=>1::x by rw[HP.out,jJ6 (.inl h0)]);have g0:(0:Int)<(sl:Int):=(by omega);clear HP;go_enter func26,ntmps26;go_wp2_with fail;generalize w.alloc _=W at*;refine(YQ W g r bs true (hW.old Ho.out) (by omega)).mono ?_;rintro e w1 ⟨rfl,HU⟩;obtain⟨r1,FF,f1⟩:=HU.kf;have F1:=G f1;have NC:=G FF;have V2:=G (show Kp (WX g r) w w1 from(Ho.out.mono (Y:=WX g r) (fun _ _ f=>f.elim)).trans f1.kp (fun b hb e=>e));have MZ:=G (Hs.out.range (f1.blk Hb.out Hx.out));clear HU FF f1 c145 Fn;go_wp2_with (first|((with_reducible refine jT 48 (.tmp 67) ?_);refine jK rfl 48 (.tmp 67) rfl w.heap.size 47 rfl m.cells _ MZ.out underlying48 rfl DJ.out ?_)|fail);refine(AO.out w1 V2.out).mono ?_;clear AO MZ;rintro e w2 (⟨l,A,c,rfl,WV,rfl,Fa,FA,F0⟩|⟨er,rfl,FZ,rfl,F0⟩)
  ·have HD:=G (kd w2 g r1 _ A c l 0 (NC.out.old F0) (by simp;omega) Fa (fun hn ad e hx=>FA hn ad e (by
    have:=NC.out.lt;rcases hx with hx|hx
    ·omega
    ·exact this.2 _ hx.symm)))
   have F2:=G (F1.out.old F0);clear Fa FA F0;go_wp2_with fail;refine HD.out.mono ?_;rintro e w3 ⟨rfl,HU⟩;obtain⟨r3,G8,f3⟩:=HU.kf;have HZ:=G (show LayP w g r bs PB 2001 (.returned (.bool true)) w3 from LayP.after Ho.out (.inl ⟨1::l,LF.out,by simp;omega,rfl,by
    have h:=(F2.out.trans f3).step G8;simpa using h⟩))
   clear HU G8 f3;go_wp2;go_ret;exact HZ.out
  ·have HD:=G (kd w2 g r1 _ none 0 [] er (NC.out.old F0) (by simp;omega) Rd.none_ (fun h=>absurd h (by simp)));have F2:=G (F1.out.old F0);rw[show decide (er=0)=false from jK3 FZ]at HD;clear F0;go_wp2_with fail;refine HD.out.mono ?_;rintro e w3 ⟨rfl,HU⟩;obtain⟨r3,G8,f3⟩:=HU.kf;have HZ:=G (show LayP w g r bs PB 2001 (.returned (.bool false)) w3 from LayP.after Ho.out (.inr ⟨LF.out,rfl,_,by
    have h:=(F2.out.trans f3).step G8;rw[List.append_nil]at h;exact h⟩))
   clear HU G8 f3;go_wp2;go_ret;exact HZ.out
 ·have LF:=G (show PB=NB.map fun x=>1::x by rw[HP.out,jJ6 (.inr rfl)]);clear HP;go_enter func26,ntmps26;go_wp2_with (first|((with_reducible refine jT 45 (.tmp 57) ?_);refine jK rfl 45 (.tmp 57) rfl w.heap.size 47 rfl m.head.cells _ Fn.out underlying45 rfl Hz.out ?_)|((with_reducible refine jM 45 ?_);refine jX rfl 45 rfl _ (vj _) ?_)|((with_reducible refine zi .neq 45 45 (.tmp 58) (.tmp 59) ?_);refine Vo rfl 45 45 (.tmp 58) (.tmp 59) rfl _ zeroHdL.toArray rfl rfl JO false (We.out _) ?_)|fail);generalize w.alloc _=W at*;refine(YQ W g r bs true (hW.old Ho.out) (by omega)).mono ?_;rintro e w1 ⟨rfl,HU⟩;obtain⟨r1,FF,f1⟩:=HU.kf;have F1:=G f1;have NC:=G FF;have V2:=G (show Kp (WX g r) w w1 from(Ho.out.mono (Y:=WX g r) (fun _ _ f=>f.elim)).trans f1.kp (fun b hb e=>e));have MZ:=G (Hs.out.range (f1.blk Hb.out Hx.out));clear HU FF f1 c145 Fn;go_wp2_with (first|((with_reducible refine jT 48 (.tmp 67) ?_);refine jK rfl 48 (.tmp 67) rfl w.heap.size 47 rfl m.cells _ MZ.out underlying48 rfl DJ.out ?_)|fail);refine(AO.out w1 V2.out).mono ?_;clear AO MZ;rintro e w2 (⟨l,A,c,rfl,WV,rfl,Fa,FA,F0⟩|⟨er,rfl,FZ,rfl,F0⟩)
  ·have HD:=G (kd w2 g r1 _ A c l 0 (NC.out.old F0) (by simp;omega) Fa (fun hn ad e hx=>FA hn ad e (by
    have:=NC.out.lt;rcases hx with hx|hx
    ·omega
    ·exact this.2 _ hx.symm)))
   have F2:=G (F1.out.old F0);clear Fa FA F0;go_wp2_with fail;refine HD.out.mono ?_;rintro e w3 ⟨rfl,HU⟩;obtain⟨r3,G8,f3⟩:=HU.kf;have HZ:=G (show LayP w g r bs PB 2001 (.returned (.bool true)) w3 from LayP.after Ho.out (.inl ⟨1::l,LF.out,by simp;omega,rfl,by
    have h:=(F2.out.trans f3).step G8;simpa using h⟩))
   clear HU G8 f3;go_wp2;go_ret;exact HZ.out
  ·have HD:=G (kd w2 g r1 _ none 0 [] er (NC.out.old F0) (by simp;omega) Rd.none_ (fun h=>absurd h (by simp)));have F2:=G (F1.out.old F0);rw[show decide (er=0)=false from jK3 FZ]at HD;clear F0;go_wp2_with fail;refine HD.out.mono ?_;rintro e w3 ⟨rfl,HU⟩;obtain⟨r3,G8,f3⟩:=HU.kf;have HZ:=G (show LayP w g r bs PB 2001 (.returned (.bool false)) w3 from LayP.after Ho.out (.inr ⟨LF.out,rfl,_,by
    have h:=(F2.out.trans f3).step G8;rw[List.append_nil]at h;exact h⟩))
   clear HU G8 f3;go_wp2;go_ret;exact HZ.out
 ·have LF:=G (show PB=some [0]by rw[HP.out,jJ5 (by simp)]);clear HP;go_enter func26,ntmps26;go_wp2_with (first|((with_reducible refine jT 45 (.tmp 57) ?_);refine jK rfl 45 (.tmp 57) rfl w.heap.size 47 rfl m.head.cells _ Fn.out underlying45 rfl Hz.out ?_)|((with_reducible refine jM 45 ?_);refine jX rfl 45 rfl _ (vj _) ?_)|((with_reducible refine zi .neq 45 45 (.tmp 58) (.tmp 59) ?_);refine Vo rfl 45 45 (.tmp 58) (.tmp 59) rfl _ zeroHdL.toArray rfl rfl JO true (We.out _) ?_)|fail);generalize w.alloc _=W at*;refine(YQ W g r bs false (hW.old Ho.out) (by omega)).mono ?_;rintro e w1 ⟨rfl,HU⟩;obtain⟨r1,FF,f1⟩:=HU.kf;have F1:=G f1;have HD:=G (kd w1 g r1 _ none 0 [] 0 FF (by simp;omega) Rd.none_ (fun h=>absurd h (by simp)));clear HU FF f1 c145 Fn;go_wp2_with fail;refine HD.out.mono ?_;rintro e w3 ⟨rfl,HU⟩;obtain⟨r3,G8,f3⟩:=HU.kf;have HZ:=G (show LayP w g r bs PB 2001 (.returned (.bool true)) w3 from LayP.after Ho.out (.inl ⟨[0],LF.out,by simp,rfl,by
   have h:=(F1.out.trans f3).step G8;simpa using h⟩))
  clear HU G8 f3;go_wp2;go_ret;exact HZ.out
theorem jCl(w:World)(g:Nat)(r:Option Nat)(bs:LB)(cs:List Value)(n:Int)(A:OA)(c:Nat)(l:List MHap)(hW:Wr w g r bs)(hl:bs.length<=900000000)(h4:cs[4]? =some (.int .i64 n))(h5:cs[5]? =some (.slice A l.length c))
  (Fa:Rd w 2 A l.length (l.flatMap MHap.cells)) (FA:Av (WX g r) l.length A) (Fj:∀h∈l,h.name.size<=2147483647) (hn:l.length<=1000000000000):
  Calls prog 26 #[.pointer (some ⟨g,0,none⟩),.int .i64 1,.agg cs.toArray] w (LayP w g r bs ((zm l).map fun x=>be8 n++x) 300000000008):=by
 have Hb:=G (jQ2 w 63 cs.toArray);have c4:=Hb.out.at_ 4 (by rw[jJ7];exact h4);have Ho:=G ((jQ0 NoX w).alloc (.cells cs.toArray 63));have Hx:=G (yx hW (jL3 w.heap.size));have Fy:=G Fa;have FW:=G FA;have GS:=G Fj;have H5:=G h5;clear Fa FA Fj h4 h5;have FF:=hW.old Ho.out;have Lt:=Rd.arr_new (w.alloc (.cells cs.toArray 63)) 3 [.int .i64 n];have Lz:=Av.new (n:=1) FF;rw[show(w.alloc (.cells cs.toArray 63)).heap.size=w.heap.size+1 by simp]at Lt Lz;have FL:=(jQ0 NoX (w.alloc (.cells cs.toArray 63))).alloc (.cells #[.int .i64 n] 3);have Rc:=G Lt;have Rw:=G Lz;have FH:=G FL;have NC:=G FF;clear Lt Lz FL FF;go_enter func26,ntmps26;go_wp2_with fail;refine(Jk _ g r bs _ 1 _ [n] rfl (NC.out.old FH.out) (by omega) Rc.out Rw.out (by omega)).mono ?_;rintro e w1 ⟨rfl,HU⟩;obtain⟨r1,LC,f1⟩:=HU.kf;have F1:=G ((KF.of FH.out).trans f1);have c5:=(F1.out.blk Hb.out Hx.out).at_ 5 (by rw[jJ7];exact H5.out);have HH:=G (ZQ w1 g r1 _ A c l LC (by rw[jJ4,Jg];simp;omega) (F1.out.rd (Fy.out.old Ho.out) FW.out) (F1.out.av (Fy.out.old Ho.out) (by decide) FW.out) GS.out hn);clear HU LC f1 c4 Rc Rw FH NC;go_wp2_with fail;refine HH.out.mono ?_;have Pc:=G (show xu [n]=be8 n by simp[xu,be8]);rintro e w2 (⟨x,h1,h2,rfl,HU⟩|⟨h1,rfl,x,HU⟩)
 ·obtain⟨r2,GE,f2⟩:=HU.kf;have HZ:=G (show LayP w g r bs ((zm l).map fun x=>be8 n++x) 300000000008 (.returned (.bool true)) w2 from by
   rw[h1];refine LayP.after Ho.out (.inl ⟨be8 n++x,rfl,by rw[jJ4,jG];omega,rfl,?_⟩);rw[Pc.out,jK1]at GE;exact(F1.out.trans f2).step GE)
  clear HU GE f2 h1;go_wp2;go_ret;exact HZ.out
 ·obtain⟨r2,GE,f2⟩:=HU.kf;have HZ:=G (show LayP w g r bs ((zm l).map fun x=>be8 n++x) 300000000008 (.returned (.bool false)) w2 from by
   rw[h1];rw[jK1]at GE;exact LayP.after Ho.out (.inr ⟨rfl,rfl,_,(F1.out.trans f2).step GE⟩))
  clear HU GE f2 h1;go_wp2;go_ret;exact HZ.out
theorem jCk(w:World)(g:Nat)(r:Option Nat)(bs:LB)(cs:List Value)(n:Int)(A:OA)(c:Nat)(l:List MHap)(hW:Wr w g r bs)(hl:bs.length<=900000000)(h4:cs[4]? =some (.int .i64 n))(h5:cs[5]? =some (.slice A l.length c))
  (Fa:Rd w 2 A l.length (l.flatMap MHap.cells)) (FA:Av (WX g r) l.length A) (Fj:∀h∈l,h.name.size<=2147483647) (hn:l.length<=1000000000000):
  Calls prog 26 #[.pointer (some ⟨g,0,none⟩),.int .i64 2,.agg cs.toArray] w (LayP w g r bs ((zm l).map fun x=>be8 n++x) 300000000008):=by
 have Hb:=G (jQ2 w 63 cs.toArray);have c4:=Hb.out.at_ 4 (by rw[jJ7];exact h4);have Ho:=G ((jQ0 NoX w).alloc (.cells cs.toArray 63));have Hx:=G (yx hW (jL3 w.heap.size));have Fy:=G Fa;have FW:=G FA;have GS:=G Fj;have H5:=G h5;clear Fa FA Fj h4 h5;have FF:=hW.old Ho.out;have Lt:=Rd.arr_new (w.alloc (.cells cs.toArray 63)) 3 [.int .i64 n];have Lz:=Av.new (n:=1) FF;rw[show(w.alloc (.cells cs.toArray 63)).heap.size=w.heap.size+1 by simp]at Lt Lz;have FL:=(jQ0 NoX (w.alloc (.cells cs.toArray 63))).alloc (.cells #[.int .i64 n] 3);have Rc:=G Lt;have Rw:=G Lz;have FH:=G FL;have NC:=G FF;clear Lt Lz FL FF;go_enter func26,ntmps26;go_wp2_with fail;refine(Jk _ g r bs _ 1 _ [n] rfl (NC.out.old FH.out) (by omega) Rc.out Rw.out (by omega)).mono ?_;rintro e w1 ⟨rfl,HU⟩;obtain⟨r1,LC,f1⟩:=HU.kf;have F1:=G ((KF.of FH.out).trans f1);have c5:=(F1.out.blk Hb.out Hx.out).at_ 5 (by rw[jJ7];exact H5.out);have HH:=G (ZQ w1 g r1 _ A c l LC (by rw[jJ4,Jg];simp;omega) (F1.out.rd (Fy.out.old Ho.out) FW.out) (F1.out.av (Fy.out.old Ho.out) (by decide) FW.out) GS.out hn);clear HU LC f1 c4 Rc Rw FH NC;go_wp2_with fail;refine HH.out.mono ?_;have Pc:=G (show xu [n]=be8 n by simp[xu,be8]);rintro e w2 (⟨x,h1,h2,rfl,HU⟩|⟨h1,rfl,x,HU⟩)
 ·obtain⟨r2,GE,f2⟩:=HU.kf;have HZ:=G (show LayP w g r bs ((zm l).map fun x=>be8 n++x) 300000000008 (.returned (.bool true)) w2 from by
   rw[h1];refine LayP.after Ho.out (.inl ⟨be8 n++x,rfl,by rw[jJ4,jG];omega,rfl,?_⟩);rw[Pc.out,jK1]at GE;exact(F1.out.trans f2).step GE)
  clear HU GE f2 h1;go_wp2;go_ret;exact HZ.out
 ·obtain⟨r2,GE,f2⟩:=HU.kf;have HZ:=G (show LayP w g r bs ((zm l).map fun x=>be8 n++x) 300000000008 (.returned (.bool false)) w2 from by
   rw[h1];rw[jK1]at GE;exact LayP.after Ho.out (.inr ⟨rfl,rfl,_,(F1.out.trans f2).step GE⟩))
  clear HU GE f2 h1;go_wp2;go_ret;exact HZ.out
structure MReply where
 err:Int
 pa:Int
 pb:Int
 pc:Int
 number:Int
 hap:List MHap
 hA:OA
 hC:Nat
 case_:MCase
 raw:Part
 size:Int
 note:MNote
 inc:MWay
 con:MWay
 idx:Idx
 iA:OA
 iC:Nat
 pie:MPiece
def MReply.cells(m:MReply):List Value:=[.int .i64 m.err,.int .i64 m.pa,.int .i64 m.pb,.int .i64 m.pc,.int .i64 m.number,.slice m.hA m.hap.length m.hC]++(m.case_.cells++([m.raw.sl,.int .i64 m.size]++(m.note.cells++(m.inc.cells++(m.con.cells++(m.idx.cells m.iA m.iC++m.pie.cells))))))
structure MReply.Ok(w:World)(X:Nat->Prop)(m:MReply):Prop where
 rdH:Rd w 2 m.hA m.hap.length (m.hap.flatMap MHap.cells)
 avH:Av X m.hap.length m.hA
 bigH:(∀h∈m.hap,h.name.size<=2147483647)/\m.hap.length<=1000000000000
 case_:m.case_.Ok w X
 raw:m.raw.Ok w X
 note:m.note.Ok w X
 hd:(-9223372036854775808<=m.note.head.size/\m.note.head.size<=9223372036854775807)/\(-9223372036854775808<=m.note.head.clock/\m.note.head.clock<=9223372036854775807)
 inc:m.inc.Ok w X
 con:m.con.Ok w X
 idx:m.idx.Ok
 rdI:Rd w 32 m.iA m.idx.way.length (m.idx.way.flatMap jA)
 avI:Av X m.idx.way.length m.iA
 pie:m.pie.Ok w X
structure Rep where
 err:Int
 pa:Int
 pb:Int
 pc:Int
 number:Int
 hap:List MHap
 case_:Cas
 raw:LB
 size:Int
 head:Hd
 signs:List Sgn
 inc:Way
 con:Way
 idx:Idx
 pie:Pie
def MReply.data(m:MReply):Rep:=⟨m.err,m.pa,m.pb,m.pc,m.number,m.hap,m.case_.data,m.raw.l,m.size,m.note.head,m.note.signs,m.inc.data,m.con.data,m.idx,m.pie.data⟩
def jCr(op:Nat)(p:Rep):Option LB:=
 if op=1\/op=2 then(zm p.hap).map fun x=>be8 p.number++x
 else if op=3 then YX p.case_
 else if op=4 then some p.raw
 else if op=5 then some (be8 p.size)
 else if op=6 then yU p.head p.signs
 else if op=7 then jFD p.head p.signs
 else if op=8 then jAh p.inc.a p.inc.b p.inc.ds
 else if op=9 then jAr p.con.a p.con.b p.con.ds
 else if op=10 then qj p.idx
 else if op=11 then vR p.pie
 else some []
def YZ(op:Nat)(p:Rep):Option LB:=if p.err=0 then jCr op p else if op<=2/\JD p.err=false then yo [p.pa,p.pb,p.pc]else some []
def vr(op:Int)(p:Rep):Option LB:=
 if 1<=op/\op<=12/\0<=p.err/\p.err<=65535 then(YZ op.toNat p).bind fun l=>if 2+l.length<=4194304 then some (be 2 p.err.toNat++l)else none else none
section
variable{w:World}{X:Nat->Prop}{m:MReply}
theorem MCase.len{c:MCase}(h:c.chain.length=32):c.cells.length=39:=by simp[MCase.cells,jB,h]
theorem MNote.len{c:MNote}(h:c.head.Ok):c.cells.length=99:=by rw[MNote.cells,jJ4,h.len];rfl
theorem MReply.Ok.len(h:m.Ok w X):m.cells.length=256:=by
 simp only[MReply.cells,jJ4,MCase.len h.case_.chain,MNote.len h.note.head,h.idx.len,MPiece.len h.pie.before,MWay.cells,jK6,List.length_nil]
theorem MReply.s0:m.cells[0]? =some (.int .i64 m.err):=rfl
theorem MReply.s1:m.cells[1]? =some (.int .i64 m.pa):=rfl
theorem MReply.s2:m.cells[2]? =some (.int .i64 m.pb):=rfl
theorem MReply.s3:m.cells[3]? =some (.int .i64 m.pc):=rfl
theorem MReply.s4:m.cells[4]? =some (.int .i64 m.number):=rfl
theorem MReply.s5:m.cells[5]? =some (.slice m.hA m.hap.length m.hC):=rfl
theorem MReply.c6:Sub m.cells 6 m.case_.cells:=Sub.mid_ _ _ _ 6 rfl
theorem MReply.Ok.r45(h:m.Ok w X):Sub m.cells 45 [m.raw.sl,.int .i64 m.size]:=by
 have:=Sub.mid_ ([.int .i64 m.err,.int .i64 m.pa,.int .i64 m.pb,.int .i64 m.pc,.int .i64 m.number,.slice m.hA m.hap.length m.hC]++m.case_.cells) [m.raw.sl,.int .i64 m.size] (m.note.cells++(m.inc.cells++(m.con.cells++(m.idx.cells m.iA m.iC++m.pie.cells)))) 45 (by rw[jJ4,MCase.len h.case_.chain];rfl);simpa [MReply.cells]using this
theorem MReply.Ok.n47(h:m.Ok w X):Sub m.cells 47 m.note.cells:=by
 have:=Sub.mid_ ([.int .i64 m.err,.int .i64 m.pa,.int .i64 m.pb,.int .i64 m.pc,.int .i64 m.number,.slice m.hA m.hap.length m.hC]++(m.case_.cells++[m.raw.sl,.int .i64 m.size])) m.note.cells (m.inc.cells++(m.con.cells++(m.idx.cells m.iA m.iC++m.pie.cells))) 47 (by rw[jJ4,jJ4,MCase.len h.case_.chain];rfl);simpa [MReply.cells]using this
theorem MReply.Ok.i146(h:m.Ok w X):Sub m.cells 146 m.inc.cells:=by
 have:=Sub.mid_ ([.int .i64 m.err,.int .i64 m.pa,.int .i64 m.pb,.int .i64 m.pc,.int .i64 m.number,.slice m.hA m.hap.length m.hC]++(m.case_.cells++([m.raw.sl,.int .i64 m.size]++m.note.cells))) m.inc.cells (m.con.cells++(m.idx.cells m.iA m.iC++m.pie.cells)) 146 (by simp only[jJ4,MCase.len h.case_.chain,MNote.len h.note.head];rfl);simpa [MReply.cells]using this
theorem MReply.Ok.c149(h:m.Ok w X):Sub m.cells 149 m.con.cells:=by
 have:=Sub.mid_ ([.int .i64 m.err,.int .i64 m.pa,.int .i64 m.pb,.int .i64 m.pc,.int .i64 m.number,.slice m.hA m.hap.length m.hC]++(m.case_.cells++([m.raw.sl,.int .i64 m.size]++(m.note.cells++m.inc.cells)))) m.con.cells (m.idx.cells m.iA m.iC++m.pie.cells) 149 (by simp only[jJ4,MCase.len h.case_.chain,MNote.len h.note.head];rfl);simpa [MReply.cells]using this
theorem MReply.Ok.x152(h:m.Ok w X):Sub m.cells 152 (m.idx.cells m.iA m.iC):=by
 have:=Sub.mid_ ([.int .i64 m.err,.int .i64 m.pa,.int .i64 m.pb,.int .i64 m.pc,.int .i64 m.number,.slice m.hA m.hap.length m.hC]++(m.case_.cells++([m.raw.sl,.int .i64 m.size]++(m.note.cells++(m.inc.cells++m.con.cells))))) (m.idx.cells m.iA m.iC) m.pie.cells 152 (by simp only[jJ4,MCase.len h.case_.chain,MNote.len h.note.head];rfl);simpa [MReply.cells]using this
theorem MReply.Ok.p220(h:m.Ok w X):Sub m.cells 220 m.pie.cells:=by
 have:=Sub.end_ ([.int .i64 m.err,.int .i64 m.pa,.int .i64 m.pb,.int .i64 m.pc,.int .i64 m.number,.slice m.hA m.hap.length m.hC]++(m.case_.cells++([m.raw.sl,.int .i64 m.size]++(m.note.cells++(m.inc.cells++(m.con.cells++m.idx.cells m.iA m.iC)))))) m.pie.cells 220 (by simp only[jJ4,MCase.len h.case_.chain,MNote.len h.note.head,h.idx.len];rfl);simpa [MReply.cells]using this
end
theorem LayP.weak{w w' :World}{g:Nat}{r:Option Nat}{bs:LB}{o:Option LB}{m m' :Nat}{e:Ending}(h:LayP w g r bs o m e w')(hm:m<=m'):LayP w g r bs o m' e w' :=by
 rcases h with⟨l,h1,h2,h3,h4⟩|h
 ·exact .inl ⟨l,h1,jL4 h2 hm,h3,h4⟩
 ·exact .inr h
theorem XJ(w:World)(g:Nat)(r:Option Nat)(bs:LB)(op:Nat)(m:MReply)(hW:Wr w g r bs)(hl:bs.length<=900000000)(NS:1<=op/\op<=12)(Hu:m.Ok w (WX g r)):
  Calls prog 26 #[.pointer (some ⟨g,0,none⟩),.int .i64 (op:Int),.agg m.cells.toArray] w (LayP w g r bs (jCr op m.data) 300000000008):=by
 have Y5:op=1\/op=2\/op=3\/op=4\/op=5\/op=6\/op=7\/op=8\/op=9\/op=10\/op=11\/op=12:=(by omega);rcases Y5 with rfl|rfl|rfl|rfl|rfl|rfl|rfl|rfl|rfl|rfl|rfl|rfl
 ·exact jCl w g r bs m.cells m.number m.hA m.hC m.hap hW hl MReply.s4 MReply.s5 Hu.rdH Hu.avH Hu.bigH.1 Hu.bigH.2
 ·exact jCk w g r bs m.cells m.number m.hA m.hC m.hap hW hl MReply.s4 MReply.s5 Hu.rdH Hu.avH Hu.bigH.1 Hu.bigH.2
 ·exact(jCj w g r bs m.cells m.case_ hW hl MReply.c6 (MCase.len Hu.case_.chain) Hu.case_).mono fun e w' h=>h.weak (by decide)
 ·exact(jCi w g r bs m.cells m.raw hW hl (Hu.r45 0 _ rfl) Hu.raw).mono fun e w' h=>h.weak (by decide)
 ·refine(uz w g r bs m.cells m.size hW hl (Hu.r45 1 _ rfl)).mono ?_;rintro e w' ⟨rfl,HU⟩;exact .inl ⟨be8 m.size,rfl,by rw[jG];decide,rfl,by simpa [xu,be8]using HU⟩
 ·exact(jCh w g r bs m.cells m.note.cells _ 2000 hW hl (by decide) Hu.n47 (by rw[MNote.len Hu.note.head];kernel_rfl) (fun W h=>qo W m.note (fun _=>False) ⟨Hu.note.head,Hu.note.rd.old h,fun _ _ _ f=>f,Hu.note.big⟩)).mono fun e w' h=>h.weak (by decide)
 ·exact(jCg w g r bs m.cells m.note hW hl Hu.n47 Hu.note Hu.hd.1 Hu.hd.2).mono fun e w' h=>h.weak (by decide)
 ·exact(jCf w g r bs m.cells m.inc.cells _ 70000000000 hW hl (by decide) Hu.i146 (by kernel_rfl) (fun W h=>jCE W m.inc.a m.inc.b m.inc.A m.inc.c m.inc.ds Hu.inc.dgs (Hu.inc.rd.old h) Hu.inc.big)).mono fun e w' h=>h.weak (by decide)
 ·exact(jCe w g r bs m.cells m.con.cells _ 70000000000 hW hl (by decide) Hu.c149 (by kernel_rfl) (fun W h=>jCG W m.con.a m.con.b m.con.A m.con.c m.con.ds Hu.con.dgs (Hu.con.rd.old h) Hu.con.big)).mono fun e w' h=>h.weak (by decide)
 ·exact(Uq w g r bs m.cells (m.idx.cells m.iA m.iC) _ 70000000000 hW hl (by decide) Hu.x152 (by rw[Hu.idx.len];exact jd) (fun W h=>jCF W m.idx m.iA m.iC Hu.idx (Hu.rdI.old h))).mono fun e w' h=>h.weak (by decide)
 ·exact(Up w g r bs m.cells m.pie.cells _ 100000000 hW hl (by decide) Hu.p220 (by rw[MPiece.len Hu.pie.before];exact jj) (fun W h=>Qv W m.pie (fun _=>False) ⟨Hu.pie.before,fun p hp=>⟨(Hu.pie.evs p hp).rd.old h,fun _ _ _ f=>f,(Hu.pie.evs p hp).big⟩,Hu.pie.rdE.old h,fun _ _ _ f=>f,fun p hp=>⟨(Hu.pie.pfs p hp).dgs,(Hu.pie.pfs p hp).rd.old h,fun _ _ _ f=>f,(Hu.pie.pfs p hp).big⟩,Hu.pie.rdP.old h,fun _ _ _ f=>f,Hu.pie.big⟩)).mono fun e w' h=>h.weak (by decide)
 ·exact(Uo w g r bs m.cells hW hl).mono fun e w' h=>h.weak (by decide)
theorem uI(bs:LB)(most:Int)(s:Rs):(jt bs most s).1.length<=bs.length:=by
 unfold jt;split
 ·simp
 ·split
  ·simp
  ·split
   ·simp
   ·split
    ·simp
    ·simp only[jK9,jK8];omega
def js(bs:LB)(s:Rs):BA×Rs:=(⟨(jt bs 4194304 s).1.toArray⟩,(jt bs 4194304 s).2)
theorem Kb(bs:LB)(s:Rs):(js bs s).1.size<=bs.length:=by
 have:=uI bs 4194304 s;rw[<-jH];exact this
def yp(bs:LB)(s:Rs):Int×Rs:=(i64 (tkN bs 8 s).1,(tkN bs 8 s).2)
theorem ZU(w:World)(g:Nat)(bs:LB)(s:Rs)(h:Rr w g bs s):
  Calls prog 42 #[.pointer (some ⟨g,0,none⟩)] w fun e w' =>e=.returned (.string (js bs s).1)/\Rr w' g bs (js bs s).2/\Kp (RX g) w w' :=by
 have HW:=G (show js bs s=(⟨(jt bs 4194304 s).1.toArray⟩,(jt bs 4194304 s).2)from rfl);generalize js bs s=W at HW⊢;go_enter func42,ntmps42;go_wp2_with fail;refine(xj w g bs 4194304 s h (by omega)).mono ?_;rintro e w1 ⟨A,c,rfl,Fa,FA,Mk,hr,hk⟩;have Q2:=vO (P:=prog) w1 underlying22 underlying5 underlying9 A _ c _ Fa;generalize (jt bs 4194304 s).1=l at*;generalize (jt bs 4194304 s).2=s2 at*;go_wp2;go_ret;rw[HW.out];exact⟨rfl,hr,hk⟩
theorem qp(w:World)(g:Nat)(bs:LB)(s:Rs)(h:Rr w g bs s):
  Calls prog 43 #[.pointer (some ⟨g,0,none⟩)] w fun e w' =>e=.returned (.int .i64 (yp bs s).1)/\Rr w' g bs (yp bs s).2/\Kp (RX g) w w' :=by
 go_enter func43,ntmps43;go_wp2_with fail;refine(yY w g bs s h).mono ?_;rintro e w1 ⟨rfl,hr,hk⟩;go_wp2;go_ret;exact⟨rfl,hr,hk⟩
theorem Kn:ByteArray.size ⟨#[]⟩<=2147483647:=by decide
theorem Xa(bs:LB)(s:Rs):(jc bs s).1.s.length<=65536:=by
 have hk:∀k s1,(vF bs k s1).1.s.length<=65536:=by
  intro k s1;have:=xN bs 64 1024 s1;unfold vF
  repeat' split
  all_goals simp[*]
 unfold jc Jw
 repeat' split
 all_goals first|exact hk _ _ |exact Nat.zero_le _
structure AskLoop(w w1:World)(g:Nat)(bs:LB)(t1 t2:BA)(wr:World)(k:Nat)(ms:List MVal)(A:OA)(c:Nat)(sr:Rs):Prop where
 len:ms.length=k
 own:wr.ownsRow (w1.heap.size+1) 29 4 (.slice A k c) k (ms.flatMap MVal.cells)
 vals:∀v∈ms,MVal.Ok wr (fun b=>b<=w1.heap.size\/A.map (·.block)=some b) v
 boxO:Blk wr w1.heap.size 32 #[.int .i64 4,.string t1,.string ⟨#[]⟩,.string t2,.int .i64 0,.int .i64 0,.string ⟨#[]⟩,.slice none 0 0,.slice A k c,.slice none 0 0,.int .i64 0]
 boxR:Blk wr w.heap.size 32 #[.int .i64 0,.string ⟨#[]⟩,.string ⟨#[]⟩,.string ⟨#[]⟩,.int .i64 0,.int .i64 0,.string ⟨#[]⟩,.slice none 0 0,.slice none 0 0,.slice none 0 0,.int .i64 0]
 rr:Rr wr g bs sr
 kp:Kp (RX g) w wr
 lt:w1.heap.size+1<=wr.heap.size
section
variable{w w1:World}{g:Nat}{bs:LB}{t1 t2:BA}{wr:World}{k:Nat}{ms:List MVal}{A:OA}{c:Nat}{sr:Rs}
theorem jY{w:World}{base:Nat}{e:TypeId}{size:Nat}{A:OA}{n c:Nat}{xs:List Value}(h:w.ownsRow base e size (.slice A n c) n xs){b:Nat}(e:A.map (·.block)=some b):base<=b/\b<w.heap.size:=by
 rcases h.2 with⟨e',_⟩|⟨g',cap,cur,e',N0,hg,_⟩
 ·injection e' with e1;subst e1;cases e
 ·injection e' with e1;subst e1;injection e with e;subst e;exact⟨N0,(Array.getElem?_eq_some_iff.1 hg).1⟩
end
theorem kR{w:World}{b b' :Nat}{e e' :TypeId}{s s' n n' c c' :Nat}{A A' :OA}{xs xs' :List Value}(h:w.ownsRow b e s (.slice A n c) n xs)(h' :w.ownsRow b' e' s' (.slice A' n' c') n' xs')(Ff:e≠e'){k:Nat}(hk:A.map (·.block)=some k):A'.map (·.block)≠some k:=by
 intro Na;rcases h.2 with⟨h1,_⟩|⟨g1,cap1,cur1,h1,_,Ac,_⟩
 ·injection h1 with h1;subst h1;cases hk
 ·rcases h'.2 with⟨h2,_⟩|⟨g2,cap2,cur2,h2,_,Mx,_⟩
  ·injection h2 with h2;subst h2;cases Na
  ·injection h1 with h1;injection h2 with h2;subst h1 h2;injection hk with hk;injection Na with Na;simp only at hk Na;subst hk Na;rw[Ac]at Mx;injection Mx with Mx;injection Mx with _ Mx;exact Ff Mx
theorem km{w w' :World}{b:Nat}{e:TypeId}{s n c:Nat}{A:OA}{xs:List Value}{row:Option Nat}(h:w.ownsRow b e s (.slice A n c) n xs)(hg:w.grownBy w' row)(hr:∀k,A.map (·.block)=some k->row≠some k):w'.ownsRow b e s (.slice A n c) n xs:=
 kG h ((jQ0 (fun k=>row=some k) w).grown hg (fun k e _=>e)) (fun k e=>by rw[jE]at e;exact hr k e)
structure Own4(base:Nat)(wr:World)(wA:OA)(wn wC:Nat)(wx:List Value)(nA:OA)(nn nC:Nat)(nx:List Value)(eA:OA)(en eC:Nat)(ex:List Value)(pA:OA)(pn pC:Nat)(px:List Value):Prop where
 w:wr.ownsRow base 40 32 (.slice wA wn wC) wn wx
 n:wr.ownsRow base 3 1 (.slice nA nn nC) nn nx
 e:wr.ownsRow base 22 1 (.slice eA en eC) en ex
 p:wr.ownsRow base 51 3 (.slice pA pn pC) pn px
section
variable{base:Nat}{wr w' :World}{wA:OA}{wn wC:Nat}{wx:List Value}{nA:OA}{nn nC:Nat}{nx:List Value}{eA:OA}{en eC:Nat}{ex:List Value}{pA:OA}{pn pC:Nat}{px:List Value}
theorem Own4.kp{X:Nat->Prop}(h:Own4 base wr wA wn wC wx nA nn nC nx eA en eC ex pA pn pC px)(hk:Kp X wr w')(hX:∀b,base<=b->¬X b):Own4 base w' wA wn wC wx nA nn nC nx eA en eC ex pA pn pC px:=
 ⟨kG h.w hk (fun k e=>hX k (jY h.w (by rw[<-jE];exact e)).1),kG h.n hk (fun k e=>hX k (jY h.n (by rw[<-jE];exact e)).1),kG h.e hk (fun k e=>hX k (jY h.e (by rw[<-jE];exact e)).1),kG h.p hk (fun k e=>hX k (jY h.p (by rw[<-jE];exact e)).1)⟩
theorem Own4.old(h:Own4 base wr wA wn wC wx nA nn nC nx eA en eC ex pA pn pC px)(hk:Old wr w'):Own4 base w' wA wn wC wx nA nn nC nx eA en eC ex pA pn pC px:=h.kp hk (fun _ _ f=>f)
theorem Own4.growW{wA' :OA}{wn' wC' :Nat}{wx' :List Value}(h:Own4 base wr wA wn wC wx nA nn nC nx eA en eC ex pA pn pC px)(hg:wr.grownBy w' (wA.map (·.block)))(ho:w'.ownsRow base 40 32 (.slice wA' wn' wC') wn' wx'):Own4 base w' wA' wn' wC' wx' nA nn nC nx eA en eC ex pA pn pC px:=
 ⟨ho,km h.n hg (fun k e e' =>kR h.n h.w (by decide) e e'),km h.e hg (fun k e e' =>kR h.e h.w (by decide) e e'),km h.p hg (fun k e e' =>kR h.p h.w (by decide) e e')⟩
theorem Own4.growN{nA' :OA}{nn' nC' :Nat}{nx' :List Value}(h:Own4 base wr wA wn wC wx nA nn nC nx eA en eC ex pA pn pC px)(hg:wr.grownBy w' (nA.map (·.block)))(ho:w'.ownsRow base 3 1 (.slice nA' nn' nC') nn' nx'):Own4 base w' wA wn wC wx nA' nn' nC' nx' eA en eC ex pA pn pC px:=
 ⟨km h.w hg (fun k e e' =>kR h.w h.n (by decide) e e'),ho,km h.e hg (fun k e e' =>kR h.e h.n (by decide) e e'),km h.p hg (fun k e e' =>kR h.p h.n (by decide) e e')⟩
theorem Own4.growE{eA' :OA}{en' eC' :Nat}{ex' :List Value}(h:Own4 base wr wA wn wC wx nA nn nC nx eA en eC ex pA pn pC px)(hg:wr.grownBy w' (eA.map (·.block)))(ho:w'.ownsRow base 22 1 (.slice eA' en' eC') en' ex'):Own4 base w' wA wn wC wx nA nn nC nx eA' en' eC' ex' pA pn pC px:=
 ⟨km h.w hg (fun k e e' =>kR h.w h.e (by decide) e e'),km h.n hg (fun k e e' =>kR h.n h.e (by decide) e e'),ho,km h.p hg (fun k e e' =>kR h.p h.e (by decide) e e')⟩
theorem Own4.growP{pA' :OA}{pn' pC' :Nat}{px' :List Value}(h:Own4 base wr wA wn wC wx nA nn nC nx eA en eC ex pA pn pC px)(hg:wr.grownBy w' (pA.map (·.block)))(ho:w'.ownsRow base 51 3 (.slice pA' pn' pC') pn' px'):Own4 base w' wA wn wC wx nA nn nC nx eA en eC ex pA' pn' pC' px' :=
 ⟨km h.w hg (fun k e e' =>kR h.w h.p (by decide) e e'),km h.n hg (fun k e e' =>kR h.n h.p (by decide) e e'),km h.e hg (fun k e e' =>kR h.e h.p (by decide) e e'),ho⟩
end
def qN(I:Nat)(wA nA eA pA:OA):Nat->Prop:=fun b=>b<=I\/wA.map (·.block)=some b\/nA.map (·.block)=some b\/eA.map (·.block)=some b\/pA.map (·.block)=some b
theorem Part.Ok.turn{w w' :World}{X X' Y:Nat->Prop}{p:Part}(h:p.Ok w X)(hk:Kp Y w w')(Nh:∀b,b<w.heap.size->Y b->X b)(hx:∀b,b<w.heap.size->X' b->X b):p.Ok w' X' :=
 ⟨h.rd.kp hk (fun hn ad e hy=>h.av hn ad e (Nh _ (h.rd.lt (by decide) hn e) hy)),fun hn ad e hy=>h.av hn ad e (hx _ (h.rd.lt (by decide) hn e) hy),h.big⟩
def zeroPieL:List Value:=[.string ⟨#[]⟩,.int .i64 0,.int .u8 0,.int .u8 0,.int .u8 0,.int .u8 0,.int .u8 0,.int .u8 0,.int .u8 0,.int .u8 0,.int .u8 0,.int .u8 0,.int .u8 0,.int .u8 0,.int .u8 0,.int .u8 0,.int .u8 0,.int .u8 0,.int .u8 0,.int .u8 0,.int .u8 0,.int .u8 0,.int .u8 0,.int .u8 0,.int .u8 0,.int .u8 0,.int .u8 0,.int .u8 0,.int .u8 0,.int .u8 0,.int .u8 0,.int .u8 0,.int .u8 0,.int .u8 0,.slice none 0 0,.slice none 0 0]
def ZO(nm:BA)(first:Int)(before:LB)(eA:OA)(en eC:Nat)(pA:OA)(pn pC:Nat):List Value:=[.string nm,.int .i64 first]++(jA before++[.slice eA en eC,.slice pA pn pC])
theorem jAQ{nm:BA}{first:Int}{before:LB}{eA:OA}{en eC:Nat}{pA:OA}{pn pC:Nat}(h:before.length=32):(ZO nm first before eA en eC pA pn pC).length=36:=by simp[ZO,jB,h]
theorem Blk.pieE{w:World}{I:Nat}{nm:BA}{first:Int}{before:LB}{eA:OA}{en eC:Nat}{pA:OA}{pn pC:Nat}(h:Blk w I 61 (ZO nm first before eA en eC pA pn pC).toArray)(hb:before.length=32)(A' :OA)(n' c' :Nat):
  Blk (w.setCell ⟨I,34,none⟩ (.slice A' n' c')) I 61 (ZO nm first before A' n' c' pA pn pC).toArray:=by
 have:=Blk.setCells (pre:=[.string nm,.int .i64 first]++jA before) (mid:=[.slice eA en eC]) (post:=[.slice pA pn pC]) (by simpa [ZO]using h) [.slice A' n' c'] rfl;rw[jJ4,jB,hb]at this;have e:w.setCells I 34 [.slice A' n' c']=w.setCell ⟨I,34,none⟩ (.slice A' n' c'):=rfl;simp only[jK6,List.length_nil,Nat.reduceAdd,e]at this;simpa [ZO]using this
theorem Blk.pieP{w:World}{I:Nat}{nm:BA}{first:Int}{before:LB}{eA:OA}{en eC:Nat}{pA:OA}{pn pC:Nat}(h:Blk w I 61 (ZO nm first before eA en eC pA pn pC).toArray)(hb:before.length=32)(A' :OA)(n' c' :Nat):
  Blk (w.setCell ⟨I,35,none⟩ (.slice A' n' c')) I 61 (ZO nm first before eA en eC A' n' c').toArray:=by
 have:=Blk.setCells (pre:=[.string nm,.int .i64 first]++(jA before++[.slice eA en eC])) (mid:=[.slice pA pn pC]) (post:=[]) (by simpa [ZO]using h) [.slice A' n' c'] rfl;rw[jJ4,jJ4,jB,hb]at this;have e:w.setCells I 35 [.slice A' n' c']=w.setCell ⟨I,35,none⟩ (.slice A' n' c'):=rfl;simp only[jK6,List.length_nil,Nat.reduceAdd,e]at this;simpa [ZO]using this
def zB:Nat->List Way->List Nat
 |_,[]=>[]
 |low,p::ps=>(low+p.ds.length)::zB (low+p.ds.length) ps
def ju(ps:List Way):List LB:=ps.flatMap Way.ds
def Vh(p:Way):List Value:=[.int .i64 p.a,.int .i64 p.b,.slice none 0 0]
theorem qn:∀(ps:List Way) (low:Nat) (p:Way),zB low (ps++[p])=zB low ps++[low+(ju ps).length+p.ds.length]
 |[],low,p=>by simp[zB,ju]
 |q::ps,low,p=>by
  simp only[List.cons_append,zB,qn ps,List.cons.injEq,true_and,List.append_cancel_left_eq,and_true];simp only[ju,jL9,jJ4];omega
theorem zS:∀(ps:List Way) (low:Nat),(zB low ps).length=ps.length
 |[],_=>rfl
 |_::ps,_=>by simp[zB,zS ps]
structure PieLoop(w:World)(g I:Nat)(bs:LB)(nm:BA)(first:Int)(before:LB)(evs:List Part)(wx:List LB)(ends:List Nat)(prs:List Way)(wA:OA)(wC:Nat)(nA:OA)(nC:Nat)(eA:OA)(eC:Nat)(pA:OA)(pC:Nat)(s:Rs)(wr:World):Prop where
 st:DecR 61 zeroPieL w g bs s wr
 blk:Blk wr I 61 (ZO nm first before eA evs.length eC pA prs.length pC).toArray
 own:Own4 (I+1) wr wA wx.length wC (wx.flatMap jA) nA ends.length nC (ends.map fun(n:Nat)=>.int .i64 (n:Int)) eA evs.length eC (evs.map Part.sl) pA prs.length pC (prs.flatMap Vh)
 ev:∀p∈evs,p.Ok wr (qN I wA nA eA pA)
 lt:g<I
 bef:before.length=32
section
variable{w:World}{g I:Nat}{bs:LB}{nm:BA}{first:Int}{before:LB}{evs:List Part}{wx:List LB}{ends:List Nat}{prs:List Way}{wA:OA}{wC:Nat}{nA:OA}{nC:Nat}{eA:OA}{eC:Nat}{pA:OA}{pC:Nat}{s s' :Rs}{wr w' :World}
theorem PieLoop.step(h:PieLoop w g I bs nm first before evs wx ends prs wA wC nA nC eA eC pA pC s wr)(hr:Rr w' g bs s')(hk:Kp (RX g) wr w'):PieLoop w g I bs nm first before evs wx ends prs wA wC nA nC eA eC pA pC s' w' :=
 ⟨h.st.step hr hk,h.blk.kp hk (fun e=>by have:I=g:=e;have:=h.lt;omega),h.own.kp hk (fun b hb e=>by have:b=g:=e;have:=h.lt;omega),
  fun p hp=>(h.ev p hp).turn hk (fun b _ e=>.inl (by have:b=g:=e;have:=h.lt;omega)) (fun _ _ e=>e),h.lt,h.bef⟩
theorem PieLoop.old(h:PieLoop w g I bs nm first before evs wx ends prs wA wC nA nC eA eC pA pC s wr)(hk:Old wr w'):PieLoop w g I bs nm first before evs wx ends prs wA wC nA nC eA eC pA pC s w' :=
 ⟨h.st.still hk,h.blk.old hk,h.own.old hk,fun p hp=>(h.ev p hp).turn hk (fun _ _ f=>f.elim) (fun _ _ e=>e),h.lt,h.bef⟩
theorem kM{row:Option Nat}(hg:wr.grownBy w' row):Kp (fun b=>row=some b) wr w' :=(jQ0 _ wr).grown hg (fun _ e _=>e)
theorem Jt{A A' :OA}{b:Nat}(ha:A'.map (·.block)=A.map (·.block)\/A'.map (·.block)=some wr.heap.size)(hb:b<wr.heap.size)(e:A'.map (·.block)=some b):A.map (·.block)=some b:=by
 rcases ha with ha|ha
 ·rw[<-ha];exact e
 ·rw[ha]at e;injection e with e;omega
theorem PieLoop.growW{wA' :OA}{wC' :Nat}{wx' :List LB}(h:PieLoop w g I bs nm first before evs wx ends prs wA wC nA nC eA eC pA pC s wr)(hg:wr.grownBy w' (wA.map (·.block)))(ha:wA'.map (·.block)=wA.map (·.block)\/wA'.map (·.block)=some wr.heap.size)
  (ho:w'.ownsRow (I+1) 40 32 (.slice wA' wx'.length wC') wx'.length (wx'.flatMap jA)):PieLoop w g I bs nm first before evs wx' ends prs wA' wC' nA nC eA eC pA pC s w' :=
 ⟨h.st.put (kM hg) (fun b e=>by have:=(jY h.own.w e).1;have:=h.lt;omega),h.blk.kp (kM hg) (fun e=>by have:=(jY h.own.w e).1;omega),h.own.growW hg ho,
  fun p hp=>(h.ev p hp).turn (kM hg) (fun _ _ e=>.inr (.inl e)) (fun b hb e=>by
   rcases e with e|e|e
   ·exact .inl e
   ·exact .inr (.inl (Jt ha hb e))
   ·exact .inr (.inr e)),h.lt,h.bef⟩
theorem PieLoop.growN{nA' :OA}{nC' :Nat}{ends' :List Nat}(h:PieLoop w g I bs nm first before evs wx ends prs wA wC nA nC eA eC pA pC s wr)(hg:wr.grownBy w' (nA.map (·.block)))(ha:nA'.map (·.block)=nA.map (·.block)\/nA'.map (·.block)=some wr.heap.size)
  (ho:w'.ownsRow (I+1) 3 1 (.slice nA' ends'.length nC') ends'.length (ends'.map fun(n:Nat)=>.int .i64 (n:Int))):PieLoop w g I bs nm first before evs wx ends' prs wA wC nA' nC' eA eC pA pC s w' :=
 ⟨h.st.put (kM hg) (fun b e=>by have:=(jY h.own.n e).1;have:=h.lt;omega),h.blk.kp (kM hg) (fun e=>by have:=(jY h.own.n e).1;omega),h.own.growN hg ho,
  fun p hp=>(h.ev p hp).turn (kM hg) (fun _ _ e=>.inr (.inr (.inl e))) (fun b hb e=>by
   rcases e with e|e|e|e
   ·exact .inl e
   ·exact .inr (.inl e)
   ·exact .inr (.inr (.inl (Jt ha hb e)))
   ·exact .inr (.inr (.inr e))),h.lt,h.bef⟩
theorem Own4.set{base I:Nat}{wn nn en pn:Nat}{x1 x2 x3 x4:List Value}(h:Own4 base wr wA wn wC x1 nA nn nC x2 eA en eC x3 pA pn pC x4)(hI:I<base)(i:Nat)(v:Value):Own4 base (wr.setCell ⟨I,i,none⟩ v) wA wn wC x1 nA nn nC x2 eA en eC x3 pA pn pC x4:=
 h.kp ((jQ0 (fun k=>k=I) wr).setCell (p:=⟨I,i,none⟩) (fun _=>rfl) v) (fun b hb e=>by omega)
theorem PieLoop.growE{eA' :OA}{eC' :Nat}{p:Part}(h:PieLoop w g I bs nm first before evs wx ends prs wA wC nA nC eA eC pA pC s wr)(hg:wr.grownBy w' (eA.map (·.block)))(ha:eA'.map (·.block)=eA.map (·.block)\/eA'.map (·.block)=some wr.heap.size)
  (ho:w'.ownsRow (I+1) 22 1 (.slice eA' (evs.length+1) eC') (evs.length+1) ((evs++[p]).map Part.sl)) (hp:p.Ok wr (qN I wA nA eA pA)):PieLoop w g I bs nm first before (evs++[p]) wx ends prs wA wC nA nC eA' eC' pA pC s (w'.setCell ⟨I,34,none⟩ (.slice eA' (evs.length+1) eC')):=by
 have hl:(evs++[p]).length=evs.length+1:=(by simp);have k1:Kp (fun b=>b<=I\/eA.map (·.block)=some b) wr (w'.setCell ⟨I,34,none⟩ (.slice eA' (evs.length+1) eC')):=((kM hg).mono (fun b _ e=>.inr e)).setCell (p:=⟨I,34,none⟩) (fun _=>.inl (jL3 _)) _;refine⟨?_,?_,?_,?_,h.lt,h.bef⟩
 ·exact(h.st.put (kM hg) (fun b e=>by have:=(jY h.own.e e).1;have:=h.lt;omega)).put ((jQ0 (fun k=>k=I) w').setCell (p:=⟨I,34,none⟩) (fun _=>rfl) _) (fun b e=>by have:=h.lt;omega)
 ·rw[hl];exact(h.blk.kp (kM hg) (fun e=>by have:=(jY h.own.e e).1;omega)).pieE h.bef eA' (evs.length+1) eC'
 ·rw[hl];exact(h.own.growE hg ho).set (by omega) 34 _
 ·intro q hq;have hh:q.Ok wr (qN I wA nA eA pA):=by
   rcases List.mem_append.1 hq with hq|hq
   ·exact h.ev q hq
   ·rw[List.mem_singleton.1 hq];exact hp
  exact hh.turn k1 (fun b _ e=>by
   rcases e with e|e
   ·exact .inl e
   ·exact .inr (.inr (.inr (.inl e)))) (fun b hb e=>by
   rcases e with e|e|e|e|e
   ·exact .inl e
   ·exact .inr (.inl e)
   ·exact .inr (.inr (.inl e))
   ·exact .inr (.inr (.inr (.inl (Jt ha hb e))))
   ·exact .inr (.inr (.inr (.inr e))))
theorem PieLoop.growP{pA' :OA}{pC' :Nat}{p:Way}(h:PieLoop w g I bs nm first before evs wx ends prs wA wC nA nC eA eC pA pC s wr)(hg:wr.grownBy w' (pA.map (·.block)))(ha:pA'.map (·.block)=pA.map (·.block)\/pA'.map (·.block)=some wr.heap.size)
  (ho:w'.ownsRow (I+1) 51 3 (.slice pA' (prs.length+1) pC') (prs.length+1) ((prs++[p]).flatMap Vh)):PieLoop w g I bs nm first before evs wx ends (prs++[p]) wA wC nA nC eA eC pA' pC' s (w'.setCell ⟨I,35,none⟩ (.slice pA' (prs.length+1) pC')):=by
 have hl:(prs++[p]).length=prs.length+1:=(by simp);have k1:Kp (fun b=>b<=I\/pA.map (·.block)=some b) wr (w'.setCell ⟨I,35,none⟩ (.slice pA' (prs.length+1) pC')):=((kM hg).mono (fun b _ e=>.inr e)).setCell (p:=⟨I,35,none⟩) (fun _=>.inl (jL3 _)) _;refine⟨?_,?_,?_,?_,h.lt,h.bef⟩
 ·exact(h.st.put (kM hg) (fun b e=>by have:=(jY h.own.p e).1;have:=h.lt;omega)).put ((jQ0 (fun k=>k=I) w').setCell (p:=⟨I,35,none⟩) (fun _=>rfl) _) (fun b e=>by have:=h.lt;omega)
 ·rw[hl];exact(h.blk.kp (kM hg) (fun e=>by have:=(jY h.own.p e).1;omega)).pieP h.bef pA' (prs.length+1) pC'
 ·rw[hl];exact(h.own.growP hg ho).set (by omega) 35 _
 ·intro q hq;exact(h.ev q hq).turn k1 (fun b _ e=>by
   rcases e with e|e
   ·exact .inl e
   ·exact .inr (.inr (.inr (.inr e)))) (fun b hb e=>by
   rcases e with e|e|e|e|e
   ·exact .inl e
   ·exact .inr (.inl e)
   ·exact .inr (.inr (.inl e))
   ·exact .inr (.inr (.inr (.inl e)))
   ·exact .inr (.inr (.inr (.inr (Jt ha hb e)))))
end
end Go.Proofs.YtnaolhjbapgjgaaGreat

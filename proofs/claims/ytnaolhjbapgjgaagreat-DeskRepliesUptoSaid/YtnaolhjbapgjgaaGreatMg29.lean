import Derived.Test.YtnaolhjbapgjgaaGreatMg28
set_option maxRecDepth 100000
set_option maxHeartbeats 6400000
namespace Go.Proofs.YtnaolhjbapgjgaaGreat
open Go.Proofs.Tryz
open Go.RowKit
theorem jHj(w:World)(g P:Nat)(bs:LB)(s:Ls)(X:Nat->Prop)(h:Lr w g bs s)(hP:Blk w P 63 zeroMR.cells.toArray):
  Calls prog 74 #[.pointer (some ⟨g,0,none⟩),.int .i64 12,.pointer (some ⟨P,0,none⟩)] w (RdP w g P bs X (zeroRep,s)):=by
 have Hh:=G h;have HP:=G hP;clear h hP;go_enter func74,ntmps74;go_wp2;go_end0;exact⟨rfl,zeroMR,rfl,HP.out,jI _ _,Hh.out,jQ0 _ _⟩
theorem jIq(w:World)(g P:Nat)(bs:LB)(s:Ls)(X:Nat->Prop)(h:Lr w g bs s)(hP:Blk w P 63 zeroMR.cells.toArray)(N1:g<P):
  Calls prog 74 #[.pointer (some ⟨g,0,none⟩),.int .i64 5,.pointer (some ⟨P,0,none⟩)] w (RdP w g P bs X ({zeroRep with size:=(numL bs 8 s).1},(numL bs 8 s).2)):=by
 have HP:=G hP;have Nm:=G N1;have HN:=G (kz w g bs 8 s h (by decide));generalize numL bs 8 s=t at*;obtain⟨n,s1⟩:=t;simp only at HN⊢;clear h hP N1;go_enter func74,ntmps74;go_wp2_with fail;refine HN.out.mono ?_;clear HN;rintro e w1 ⟨rfl,hL,hk⟩;have hb:=HP.out.kp hk (fun e=>by have h1:P=g:=e;have:=Nm.out;omega);have c46:=hb.at_ 46 (v:=.int .i64 0) (by rw[jJ7];exact(jI w NoX).r45 1 _ rfl);have z46:=hb.frozen 46;have HB:=G (hb.rSize jy n);have kP:=(jQ0 (fun b=>b=P) w1).setCell (p:=⟨P,46,none⟩) (fun _=>rfl) (.int .i64 n);have HL:=G (hL.kp kP (fun k hk e=>by have:=Nm.out;omega));have HK:=G ((hk.mono (Y:=fun k=>k=g\/k=P) (fun _ _ f=>.inl f)).trans kP (fun b _ e=>.inr e));clear hb hL hk kP;go_wp2;go_end0;exact⟨rfl,{zeroMR with size:=n},rfl,HB.out,{jI _ _ with},HL.out,HK.out⟩
theorem jIr(w:World)(g P:Nat)(bs:LB)(s:Ls)(X:Nat->Prop)(hX:∀k,X k->g<=k+1)(h:Lr w g bs s)(hP:Blk w P 63 zeroMR.cells.toArray)(N1:g<P)(hl:bs.length<=2147483647):
  Calls prog 74 #[.pointer (some ⟨g,0,none⟩),.int .i64 4,.pointer (some ⟨P,0,none⟩)] w (RdP w g P bs X ({zeroRep with raw:=bs.drop s.at_},s)):=by
 have Hh:=G h;obtain⟨A,c,hb,hr,ha,hc,Fu,_⟩:=h;have c0:=hb.at_ 0 (v:=.slice A (bs.length-s.at_) c) rfl;have e1:bs.length-s.at_=(bs.drop s.at_).length:=(by rw[jK8]);rw[e1]at c0 hr hc ha;have c45:=hP.at_ 45 (v:=.slice none 0 0) (by rw[jJ7];exact(jI w NoX).r45 0 _ rfl);have z45:=hP.frozen 45;have kP:=(jQ0 (fun b=>b=P) w).setCell (p:=⟨P,45,none⟩) (fun _=>rfl) (.slice A (bs.drop s.at_).length c);have HB:=G (hP.rRaw jy ⟨A,bs.drop s.at_,c⟩);have HL:=G (Hh.out.kp kP (fun k hk e=>by omega));have HK:=G (kP.mono (Y:=fun k=>k=g\/k=P) (fun _ _ e=>.inr e));have M7:=G (show MReply.Ok (w.setCell ⟨P,45,none⟩ (.slice A (bs.drop s.at_).length c)) X {zeroMR with raw:=⟨A,bs.drop s.at_,c⟩}from by
  have Z:=jI (w.setCell ⟨P,45,none⟩ (.slice A (bs.drop s.at_).length c)) X;exact{Z with raw:=⟨hr.kp kP (fun hn ad e hx=>ha hn ad e (by have h1:ad.block=P:=hx;omega)),fun hn ad e hx=>ha hn ad e (hX _ hx),by rw[jK8];omega⟩})
 clear hb hr ha hc Fu e1 hP N1 hX kP Hh;generalize (bs.drop s.at_).length=n at*;go_enter func74,ntmps74;go_wp2;go_end0;exact⟨rfl,_,rfl,HB.out,M7.out,HL.out,HK.out⟩
theorem jHl(w:World)(g P:Nat)(bs:LB)(s:Ls)(X:Nat->Prop)(hX:∀k,X k->k<w.heap.size)(h:Lr w g bs s)(hP:Blk w P 63 zeroMR.cells.toArray)(N1:g<P):
  Calls prog 74 #[.pointer (some ⟨g,0,none⟩),.int .i64 10,.pointer (some ⟨P,0,none⟩)] w (RdP w g P bs X ({zeroRep with idx:=(kr (bs.drop s.at_)).getD zeroIdx},s)):=by
 have Hh:=G h;have HP:=G hP;have Nm:=G N1;have HX:=G hX;have WI:=G hP.lt;obtain⟨A,c,hb,hr,_,hc,Fu,hl⟩:=h;have c0:=hb.at_ 0 (v:=.slice A (bs.length-s.at_) c) rfl;have e1:bs.length-s.at_=(bs.drop s.at_).length:=(by rw[jK8]);rw[e1]at c0 hr hc;have HC:=G (jDo w A c (bs.drop s.at_) hr hc);clear hb hr hc Fu hl e1 hP N1 hX;generalize (bs.drop s.at_).length=n at*;generalize kr (bs.drop s.at_)=D at*;go_enter func74,ntmps74;go_wp2_with fail;refine HC.out.mono ?_;clear HC;rintro e w1 ⟨x,A1,c1,er,hx,rfl,Hu,Fa,FA,ho⟩;have Hx:=G hx;have hU:=G ((HP.out.old ho).there 152 (x.cells A1 c1).toArray.size (by rw[jJ8,jJ8,(jI w NoX).len,Hu.len];decide));have GB:=G (Kp.setCells P 152 (x.cells A1 c1) w1);have NZ:=G (show(prog.info? 57).map (·.size)=some (x.cells A1 c1).length by rw[Hu.len];exact jd);have Lc:=G (x.one A1 c1);have RC:=G (show Blk (w1.setCells P 152 (x.cells A1 c1)) P 63 (MReply.cells {zeroMR with idx:=x,iA:=A1,iC:=c1}).toArray from(HP.out.old ho).rIdx jy zeroHd_ok vX x A1 c1 Hu);have M7:=G (show MReply.Ok (w1.setCells P 152 (x.cells A1 c1)) X {zeroMR with idx:=x,iA:=A1,iC:=c1}from by
  have Z:=jI (w1.setCells P 152 (x.cells A1 c1)) X;exact{Z with idx:=Hu,rdI:=Fa.kp GB.out (fun hn ad e hx=>FA hn ad e (by have h1:ad.block=P:=hx;have:=WI.out;omega)),avI:=fun hn ad e hx=>FA hn ad e (HX.out _ hx)})
 have HL:=G ((Hh.out.old ho).kp GB.out (fun k hk e=>by have h1:k=P:=e;have:=Nm.out;omega));have HK:=G ((ho.mono (Y:=fun k=>k=g\/k=P) (fun _ _ f=>f.elim)).trans GB.out (fun b _ e=>.inr e));clear hx Hu Fa FA ho c0;go_wp2_with (first|((with_reducible refine jF 57 (.tmp 204) (.tmp 201) ?_);refine jQ1 rfl 57 (.tmp 204) (.tmp 201) rfl P 152 (x.cells A1 c1).toArray rfl rfl hU.out NZ.out Lc.out ?_)|fail);go_end0;exact⟨rfl,_,by show({zeroRep with idx:=x}:Rep)=_;rw[Hx.out],RC.out,M7.out,HL.out,HK.out⟩
theorem jHn(m:MPiece):m.cells.toArray.all (·.oneCell')=true:=by
 refine all_oneCell_toArray (fun v hv=> ?_);simp only[MPiece.cells,List.mem_append,List.mem_cons,List.not_mem_nil,or_false]at hv;rcases hv with(rfl|rfl)|hv|rfl|rfl
 ·rfl
 ·rfl
 ·exact jf _ v hv
 ·rfl
 ·rfl
theorem jHk(w:World)(g P:Nat)(bs:LB)(s:Ls)(X:Nat->Prop)(hX:∀k,X k->k<w.heap.size)(h:Lr w g bs s)(hP:Blk w P 63 zeroMR.cells.toArray)(N1:g<P):
  Calls prog 74 #[.pointer (some ⟨g,0,none⟩),.int .i64 11,.pointer (some ⟨P,0,none⟩)] w (RdP w g P bs X ({zeroRep with pie:=(kX (bs.drop s.at_)).getD ⟨⟨#[]⟩,0,zD,[],[]⟩},s)):=by
 have Hh:=G h;have HP:=G hP;have Nm:=G N1;have HX:=G hX;have WI:=G hP.lt;obtain⟨A,c,hb,hr,_,hc,Fu,hl⟩:=h;have c0:=hb.at_ 0 (v:=.slice A (bs.length-s.at_) c) rfl;have e1:bs.length-s.at_=(bs.drop s.at_).length:=(by rw[jK8]);rw[e1]at c0 hr hc;have HC:=G (jDm w A c (bs.drop s.at_) hr hc);clear hb hr hc Fu hl e1 hP N1 hX;generalize (bs.drop s.at_).length=n at*;generalize kX (bs.drop s.at_)=D at*;go_enter func74,ntmps74;go_wp2_with fail;refine HC.out.mono ?_;clear HC;rintro e w1 ⟨m0,er,hm,rfl,Hu,ho⟩;have Hm:=G hm;have hU:=G ((HP.out.old ho).there 220 m0.cells.toArray.size (by rw[jJ8,jJ8,(jI w NoX).len,MPiece.len Hu.before];decide));have GB:=G (Kp.setCells P 220 m0.cells w1);have NZ:=G (show(prog.info? 61).map (·.size)=some m0.cells.length by rw[MPiece.len Hu.before];exact jj);have Lc:=G (jHn m0);have RC:=G (show Blk (w1.setCells P 220 m0.cells) P 63 (MReply.cells {zeroMR with pie:=m0}).toArray from(HP.out.old ho).rPie jy zeroHd_ok vX jy m0 Hu.before);have M7:=G (show MReply.Ok (w1.setCells P 220 m0.cells) X {zeroMR with pie:=m0}from by
  have Z:=jI (w1.setCells P 220 m0.cells) X;have k:m0.Ok (w1.setCells P 220 m0.cells) X:=Hu.turn GB.out (fun b _ e=>by have h1:b=P:=e;have:=WI.out;show b<w.heap.size;omega) (fun b _ e=>HX.out b e);exact{Z with pie:=k})
 have HL:=G ((Hh.out.old ho).kp GB.out (fun k hk e=>by have h1:k=P:=e;have:=Nm.out;omega));have HK:=G ((ho.mono (Y:=fun k=>k=g\/k=P) (fun _ _ f=>f.elim)).trans GB.out (fun b _ e=>.inr e));clear hm Hu ho c0;go_wp2_with (first|((with_reducible refine jF 61 (.tmp 217) (.tmp 214) ?_);refine jQ1 rfl 61 (.tmp 217) (.tmp 214) rfl P 220 m0.cells.toArray rfl rfl hU.out NZ.out Lc.out ?_)|fail);go_end0;exact⟨rfl,_,by show({zeroRep with pie:=m0.data}:Rep)=_;rw[Hm.out],RC.out,M7.out,HL.out,HK.out⟩
theorem Qf(bs:LB):(-9223372036854775808<=((jn bs).getD (zeroHd,[])).1.size/\((jn bs).getD (zeroHd,[])).1.size<=9223372036854775807)/\(-9223372036854775808<=((jn bs).getD (zeroHd,[])).1.clock/\((jn bs).getD (zeroHd,[])).1.clock<=9223372036854775807):=by
 cases hd:jn bs with
 |none=>exact⟨by decide,by decide⟩
 |some x=>
  have hb:=zu hd;unfold yU at hb;split at hb
  ·rename_i hc;have h1:=of_decide_eq_true (show decide _=true from hc.1);simp only[Option.getD_some];omega
  ·cases hb
theorem jIp(w:World)(g P:Nat)(bs:LB)(s:Ls)(X:Nat->Prop)(hX:∀k,X k->k<w.heap.size)(h:Lr w g bs s)(hP:Blk w P 63 zeroMR.cells.toArray)(N1:g<P):
  Calls prog 74 #[.pointer (some ⟨g,0,none⟩),.int .i64 6,.pointer (some ⟨P,0,none⟩)] w (RdP w g P bs X ({zeroRep with head:=((jn (bs.drop s.at_)).getD (zeroHd,[])).1,signs:=((jn (bs.drop s.at_)).getD (zeroHd,[])).2},s)):=by
 have Hh:=G h;have HP:=G hP;have Nm:=G N1;have HX:=G hX;have WI:=G hP.lt;obtain⟨A,c,hb,hr,_,hc,Fu,hl⟩:=h;have c0:=hb.at_ 0 (v:=.slice A (bs.length-s.at_) c) rfl;have e1:bs.length-s.at_=(bs.drop s.at_).length:=(by rw[jK8]);rw[e1]at c0 hr hc;have HC:=G (xh w A c (bs.drop s.at_) hr hc (by rw[<-e1];omega));have Ei:=G (Qf (bs.drop s.at_));clear hb hr hc Fu hl e1 hP N1 hX;generalize (bs.drop s.at_).length=n at*;generalize jn (bs.drop s.at_)=D at*;go_enter func74,ntmps74;go_wp2_with fail;refine HC.out.mono ?_;clear HC;rintro e w1 ⟨m0,hm,rfl,Hu,ho⟩;have Hm:=G hm;rw[<-hm]at Ei;have hU:=G ((HP.out.old ho).there 47 m0.cells.toArray.size (by rw[jJ8,jJ8,(jI w NoX).len,MNote.len Hu.head];decide));have GB:=G (Kp.setCells P 47 m0.cells w1);have NZ:=G (show(prog.info? 48).map (·.size)=some m0.cells.length by rw[MNote.len Hu.head];exact kN);have Lc:=G (MNote.one m0);have RC:=G (show Blk (w1.setCells P 47 m0.cells) P 63 (MReply.cells {zeroMR with note:=m0}).toArray from(HP.out.old ho).rNote jy zeroHd_ok m0 Hu.head);have M7:=G (show MReply.Ok (w1.setCells P 47 m0.cells) X {zeroMR with note:=m0}from by
  have Z:=jI (w1.setCells P 47 m0.cells) X;have k:m0.Ok (w1.setCells P 47 m0.cells) X:=Hu.turn GB.out (fun b _ e=>by have h1:b=P:=e;have:=WI.out;show b<w.heap.size;omega) (fun b _ e=>HX.out b e);exact{Z with note:=k,hd:=Ei.out})
 have HL:=G ((Hh.out.old ho).kp GB.out (fun k hk e=>by have h1:k=P:=e;have:=Nm.out;omega));have HK:=G ((ho.mono (Y:=fun k=>k=g\/k=P) (fun _ _ f=>f.elim)).trans GB.out (fun b _ e=>.inr e));clear hm Hu ho c0;go_wp2_with (first|((with_reducible refine jF 48 (.tmp 149) (.tmp 146) ?_);refine jQ1 rfl 48 (.tmp 149) (.tmp 146) rfl P 47 m0.cells.toArray rfl rfl hU.out NZ.out Lc.out ?_)|fail);go_end0;exact⟨rfl,_,by rw[<-Hm.out];rfl,RC.out,M7.out,HL.out,HK.out⟩
theorem jIo(w:World)(g P:Nat)(bs:LB)(s:Ls)(X:Nat->Prop)(hX:∀k,X k->k<w.heap.size)(h:Lr w g bs s)(hP:Blk w P 63 zeroMR.cells.toArray)(N1:g<P):
  Calls prog 74 #[.pointer (some ⟨g,0,none⟩),.int .i64 7,.pointer (some ⟨P,0,none⟩)] w (RdP w g P bs X (if(numL bs 1 s).1=1 then({zeroRep with head:=((jn (bs.drop (numL bs 1 s).2.at_)).getD (zeroHd,[])).1,signs:=((jn (bs.drop (numL bs 1 s).2.at_)).getD (zeroHd,[])).2},(numL bs 1 s).2)else(zeroRep,(numL bs 1 s).2))):=by
 have HP:=G hP;have Nm:=G N1;have HX:=G hX;have WI:=G hP.lt;have HN:=G (kz w g bs 1 s h (by decide));generalize numL bs 1 s=t at*;obtain⟨k,s1⟩:=t;simp only at HN⊢;clear h hP N1 hX;by_cases Fc:k=1
 case neg=>
  rw[jJ5 Fc];have b0:(k==1)=false:=(by simpa using Fc);clear Fc;go_enter func74,ntmps74;go_wp2_with fail;refine HN.out.mono ?_;clear HN;rintro e w1 ⟨rfl,hL,hk⟩;have Hb:=G (HP.out.kp hk (fun e=>by have h1:P=g:=e;have:=Nm.out;omega));have HL:=G hL;have HK:=G (hk.mono (Y:=fun k=>k=g\/k=P) (fun _ _ f=>.inl f));clear hL hk;go_wp2;go_end0;exact⟨rfl,zeroMR,rfl,Hb.out,jI _ _,HL.out,HK.out⟩
 rw[jJ6 Fc];have b0:(k==1)=true:=(by simpa using Fc);clear Fc;go_enter func74,ntmps74;go_wp2_with fail;refine HN.out.mono ?_;clear HN;rintro e w1 ⟨rfl,hL,hk⟩;have Hk:=G hk;have Hh:=G hL;replace HP:=G (HP.out.kp hk (fun e=>by have h1:P=g:=e;have:=Nm.out;omega));obtain⟨A,c,hb,hr,_,hc,Fu,hl⟩:=hL;have c0:=hb.at_ 0 (v:=.slice A (bs.length-s1.at_) c) rfl;have e1:bs.length-s1.at_=(bs.drop s1.at_).length:=(by rw[jK8]);rw[e1]at c0 hr hc;have HC:=G (xh w1 A c (bs.drop s1.at_) hr hc (by rw[<-e1];omega));have Ei:=G (Qf (bs.drop s1.at_));clear hb hr hc Fu hl e1 hk;generalize (bs.drop s1.at_).length=n at*;generalize jn (bs.drop s1.at_)=D at*;go_wp2_with fail;refine HC.out.mono ?_;clear HC;rintro e w2 ⟨m0,hm,rfl,Hu,ho⟩;have Hm:=G hm;rw[<-hm]at Ei;have hU:=G ((HP.out.old ho).there 47 m0.cells.toArray.size (by rw[jJ8,jJ8,(jI w NoX).len,MNote.len Hu.head];decide));have GB:=G (Kp.setCells P 47 m0.cells w2);have NZ:=G (show(prog.info? 48).map (·.size)=some m0.cells.length by rw[MNote.len Hu.head];exact kN);have Lc:=G (MNote.one m0);have RC:=G (show Blk (w2.setCells P 47 m0.cells) P 63 (MReply.cells {zeroMR with note:=m0}).toArray from(HP.out.old ho).rNote jy zeroHd_ok m0 Hu.head);have M7:=G (show MReply.Ok (w2.setCells P 47 m0.cells) X {zeroMR with note:=m0}from by
  have Z:=jI (w2.setCells P 47 m0.cells) X;have k:m0.Ok (w2.setCells P 47 m0.cells) X:=Hu.turn GB.out (fun b _ e=>by have h1:b=P:=e;have:=WI.out;have:=Hk.out.size;show b<w1.heap.size;omega) (fun b _ e=>by have:=HX.out b e;have:=Hk.out.size;show b<w1.heap.size;omega);exact{Z with note:=k,hd:=Ei.out})
 have HL:=G ((Hh.out.old ho).kp GB.out (fun k hk e=>by have h1:k=P:=e;have:=Nm.out;omega));have HK:=G (((Hk.out.mono (Y:=fun k=>k=g\/k=P) (fun _ _ f=>.inl f)).old ho).trans GB.out (fun b _ e=>.inr e));clear hm Hu ho c0;go_wp2_with (first|((with_reducible refine jF 48 (.tmp 165) (.tmp 162) ?_);refine jQ1 rfl 48 (.tmp 165) (.tmp 162) rfl P 47 m0.cells.toArray rfl rfl hU.out NZ.out Lc.out ?_)|fail);go_end0;exact⟨rfl,_,by rw[<-Hm.out];rfl,RC.out,M7.out,HL.out,HK.out⟩
def zU(bs:LB):Nat->Ls->List BA->List BA×Ls
 |0,s,acc=>(acc,s)
 |n+1,s,acc=>if s.short=true then(acc,s)else zU bs n (ke bs s).2 (acc++[(ke bs s).1])
def YM(bs:LB)(s:Ls):List BA×Ls:=zU bs (lowL bs 1 s).1 (lowL bs 1 s).2 []
theorem VV(bs:LB)(k:Nat)(s:Ls)(hk:k<=4):numL bs k s=(((lowL bs k s).1:Int),(lowL bs k s).2)/\(lowL bs k s).1<256^k:=by
 have h1:(jZ bs k s).1.length<=k:=YG bs k s;have h2:jq (jZ bs k s).1<256^k:=jL8 (Yt _) (Nat.pow_le_pow_right (by decide) h1);have h3:(256:Nat)^k<=256^4:=Nat.pow_le_pow_right (by decide) hk;refine⟨?_,h2⟩;unfold numL lowL;rw[kW _ (by omega)]
theorem Kc(bs:LB)(s:Ls):(ke bs s).1.size<=bs.length:=by
 show(jZ bs (lowL bs 4 s).1 (lowL bs 4 s).2).1.toArray.size<=_;rw[jJ8];unfold jZ;split
 ·simp
 ·simp only[jK9,jK8];omega
def jHO(w:World)(g:Nat)(bs:LB)(x:List BA×Ls)(e:Ending)(w' :World):Prop:=
 ∃m:MTexts,m.l=x.1/\e=.returned (.slice m.A m.l.length m.c)/\m.Ok w' (fun k=>k<w.heap.size)/\Lr w' g bs x.2/\Kp (RX g) w w'
theorem Uh(w:World)(g:Nat)(bs:LB)(s:Ls)(h:Lr w g bs s)(hl:bs.length<=2147483647):
  Calls prog 127 #[.pointer (some ⟨g,0,none⟩)] w (jHO w g bs (YM bs s)):=by
 have NV:=h.lt;have Hl:=G hl;have HN:=G (kz w g bs 1 s h (by decide));obtain⟨e1,hn⟩:=VV bs 1 s (by decide);rw[e1]at HN;unfold YM;clear e1 hl;generalize lowL bs 1 s=t at*;obtain⟨n,s0⟩:=t;simp only at HN hn⊢;have Ol:n<256:=hn;clear h hn;go_enter func127,ntmps127;go_wp2_with fail;refine HN.out.mono ?_;clear HN;rintro e w1 ⟨rfl,SY,Fc⟩;have SF:=G SY;have MI:=G Fc;clear SY Fc;go_wp2;go_loopw [3,5] (fun b i wr=>∃(k:Nat) (acc:List BA) (s1:Ls) (A:OA) (c:Nat),k<=n/\acc.length=k/\i=.int .i64 k/\b=.slice A k c/\wr.ownsRow w.heap.size 9 1 (.slice A k c) k (acc.map sv)/\(∀t∈acc,t.size<=2147483647)/\Lr wr g bs s1/\Kp (RX g) w wr/\zU bs n s0 []=zU bs (n-k) s1 acc) (fun _ i _=>n-(intOf i).toNat)
 case atStart=>exact⟨0,[],s0,none,0,Nat.zero_le _,rfl,rfl,rfl,World.ownsRow_nil _ _ _ _,fun _ h=>(by cases h),SF.out,MI.out,rfl⟩
 case round=>
  obtain⟨k,acc,s1,A,c,hk,G1,rfl,rfl,Hi,Mt,hL,FQ,FM⟩:=hrel;have Gn:=G Hi;have Fs:=G FM;have HL:=G hL;have HK:=G FQ;have MC:=G Mt;have FY:=G G1;have MT:(0:Int)<=(k:Int):=(by omega);have GC:(k:Int)<=256:=(by omega);have HZ:=G (show zU bs (n-k) s1 acc=(acc,s1)->jHO w g bs (zU bs n s0 []) (.returned (.slice A k c)) wr from fun e=>by
   rw[FM,e];subst G1;exact⟨⟨acc,A,c⟩,rfl,rfl,⟨Rd.of_own Hi,vd Hi,zy Hi,fun j hj=>by
    have:=Mt _ (jL6 hj);simpa [List.getD,hj]using this,by show acc.length<=_;omega⟩,hL,FQ⟩)
  clear FM Hi Mt FQ G1;by_cases hM:k<n
  ·have Ww:(k:Int)<(n:Int):=(by omega);obtain⟨mm,hm⟩:∃mm,n-k=mm+1:=⟨n-k-1,by omega⟩;have FS:wr.cell? ⟨g,1,none⟩=some (.bool s1.short):=by
    obtain⟨A0,c0,hb,_⟩:=hL;exact hb.at_ 1 (v:=.bool s1.short) rfl
   cases hs:s1.short with
   |true=>
    rw[hs]at FS;have He:=G (HZ.out (by rw[hm,zU,jJ6 hs]));clear hL hs;go_wp2;go_ret;exact He.out
   |false=>
    rw[hs]at FS;have N5:=G (show zU bs (n-k) s1 acc=zU bs (n-(k+1)) (ke bs s1).2 (acc++[(ke bs s1).1])by
     rw[hm,zU,jJ5 (by rw[hs];decide),show n-(k+1)=mm by omega])
    have Hts:=G (Kc bs s1);have HD:=G (YY wr g bs s1 hL);clear hL hs HZ;generalize ke bs s1=DD at*;obtain⟨d,s2⟩:=DD;simp only at HD N5 Hts;go_wp2_with fail;refine HD.out.mono ?_;rintro e w2 ⟨rfl,DC,hZ⟩;have NL:=G (kG Gn.out hZ (fun b e e' =>by
     have h1:b=g:=e';rw[jE]at e;have:=(jY Gn.out e).1;omega))
    have SE:=G DC;have Wh:=G (HK.out.trans hZ (fun _ _ h=>h));have R0:=G (show w.heap.size<=w2.heap.size from Wh.out.size);obtain⟨i0,hi,Fz,Ft,FC⟩:=info_parts Zl;have FU:=G (show k+1<=maxLen by unfold maxLen;omega);have FV:=G (show(k+1)*16<=140737488355328 by omega);clear DC hZ FS;go_wp2_with (first
     |(at_builtin;refine jJ _ rfl (.tmp 20) (.tmp 23) 27 rfl w.heap.size 9 i0 _ 1 16 underlying27 hi Fz Ft FC rfl (by decide) (.slice A k c) k _ rfl (NL.out.alloc _) _ 1 1 _ rfl (Rd.one_new _ _ _) (ky _ rfl) FU.out FV.out (jL4 R0.out (by simp)) ?_;intro A2 c2 w3 Ga Mx Q5)
     |fail)
    have GJ:=G (show w3.ownsRow w.heap.size 9 1 (.slice A2 (k+1) c2) (k+1) ((acc++[d]).map sv)from by rw[List.map_append];exact Ga);have TN:Kp (fun b=>w.heap.size<=b) w2 w3:=((jQ0 (fun b=>w.heap.size<=b) w2).alloc _).grown Mx (fun b e _=>by
     rw[jE]at e;exact(jY NL.out e).1)
    have EQ:=G (SE.out.kp TN (fun b hb hx=>by have:w.heap.size<=b:=hx;omega));have ND:=G (Wh.out.trans TN (fun b hb hx=>by have:w.heap.size<=b:=hx;omega));clear Ga Mx Q5 TN;go_wp2;go_roundw
    case rel=>exact⟨k+1,acc++[d],s2,A2,c2,by omega,by rw[jJ4,FY.out];rfl,by go_num,rfl,GJ.out,fun x hx=>by
     rcases List.mem_append.1 hx with h|h
     ·exact MC.out x h
     ·rw[List.mem_singleton.1 h];have:=Hts.out;have:=Hl.out;omega,EQ.out,ND.out,by rw[Fs.out,N5.out]⟩
    case measure=>simp[intOf];omega
  ·have Ww:¬(k:Int)<(n:Int):=(by omega);have He:=G (HZ.out (by rw[show n-k=0 by omega];rfl));clear hL;go_wp2;go_ret;exact He.out
structure HapRd(w:World)(g P:Nat)(bs:LB)(n:Int)(acc:List MHap)(A:OA)(c:Nat)(s:Ls)(wr:World):Prop where
 blk:Blk wr P 63 (MReply.cells {zeroMR with number:=n,hap:=acc,hA:=A,hC:=c}).toArray
 own:wr.ownsRow w.heap.size 105 2 (.slice A acc.length c) acc.length (acc.flatMap MHap.cells)
 rr:Lr wr g bs s
 kp:Kp (fun k=>k=g\/k=P) w wr
 lt:g<P/\P<w.heap.size
 small:∀h∈acc,h.name.size<=2147483647
section
variable{w:World}{g P:Nat}{bs:LB}{n:Int}{acc:List MHap}{A:OA}{c:Nat}{s s' :Ls}{wr w' :World}
theorem HapRd.step(h:HapRd w g P bs n acc A c s wr)(hr:Lr w' g bs s')(hk:Kp (RX g) wr w'):HapRd w g P bs n acc A c s' w' :=
 ⟨h.blk.kp hk (fun e=>by have:P=g:=e;have:=h.lt;omega),kG h.own hk (fun b e e' =>by
  have:=(jY h.own (by rw[<-jE];exact e)).1;have:b=g:=e';have:=h.lt;omega),hr,h.kp.trans hk (fun b _ e=>.inl e),h.lt,h.small⟩
theorem HapRd.old(h:HapRd w g P bs n acc A c s wr)(hk:Old wr w'):HapRd w g P bs n acc A c s w' :=h.step (h.rr.old hk) (hk.mono (fun _ _ f=>f.elim))
theorem HapRd.c5(h:HapRd w g P bs n acc A c s wr):wr.cell? ⟨P,5,none⟩=some (.slice A acc.length c):=h.blk.at_ 5 rfl
theorem HapRd.grow{x:MHap}{A' :OA}{c' k:Nat}{W:World}(h:HapRd w g P bs n acc A c s wr)(hk:acc.length=k)(hW:Old wr W)(hx:x.name.size<=2147483647)
  (ho:w'.ownsRow w.heap.size 105 2 (.slice A' (k+1) c') (k+1) (acc.flatMap MHap.cells++x.cells)) (hg:W.grownBy w' (Value.slice A k c).ownBlock):
  (w'.cell? ⟨P,5,none⟩=some (.slice A k c)/\w'.frozen? ⟨P,5,none⟩=false)/\HapRd w g P bs n (acc++[x]) A' c' s (w'.setCell ⟨P,5,none⟩ (.slice A' (k+1) c')):=by
 subst hk;rw[jE]at hg;have hS:=h.old hW;have N0:∀b,A.map (·.block)=some b->w.heap.size<=b:=fun b e=>(jY h.own e).1;have k1:=kM hg;have hb:=hS.blk.kp k1 (fun e=>by have:=N0 _ e;have:=h.lt;omega);have hl:(acc++[x]).length=acc.length+1:=(by simp);refine⟨⟨hb.at_ 5 rfl,hb.frozen 5⟩,?_,?_,?_,?_,h.lt,?_⟩
 ·have:=hb.rHap (acc++[x]) A' c';rw[hl]at this;exact this
 ·rw[hl,List.flatMap_append,List.flatMap_singleton];exact kG ho ((jQ0 (fun k=>k=P) w').setCell (p:=⟨P,5,none⟩) (fun _=>rfl) _) (fun b e e' =>by
   have:=(jY ho (by rw[<-jE];exact e)).1;have:=h.lt;omega)
 ·exact(hS.rr.kp k1 (fun b hb e=>by have:=N0 b e;have:=h.lt;omega)).kp ((jQ0 (fun k=>k=P) w').setCell (p:=⟨P,5,none⟩) (fun _=>rfl) _) (fun b hb e=>by have:=h.lt;omega)
 ·exact(hS.kp.trans k1 (fun b hb e=>by have:=N0 b e;omega)).setCell (p:=⟨P,5,none⟩) (fun _=>.inr rfl) _
 ·intro y hy;rcases List.mem_append.1 hy with hy|hy
  ·exact h.small y hy
  ·rw[List.mem_singleton.1 hy];exact hx
end
def zl(bs:LB):Nat->Ls->List MHap->List MHap×Ls
 |0,s,acc=>(acc,s)
 |n+1,s,acc=>if s.short=true then(acc,s)else zl bs n (ke bs (numL bs 1 s).2).2 (acc++[⟨(numL bs 1 s).1,(ke bs (numL bs 1 s).2).1⟩])
def jB2(bs:LB)(n:Int)(c:Nat×Ls):Rep×Ls:=({zeroRep with number:=n,hap:=(zl bs c.1 c.2 []).1},(zl bs c.1 c.2 []).2)
def jIC(bs:LB)(s:Ls):Rep×Ls:=jB2 bs (numL bs 8 s).1 (lowL bs 2 (numL bs 8 s).2)
theorem jHF(K:Int)(hK:K=1\/K=2)(w:World)(g P:Nat)(bs:LB)(s:Ls)(X:Nat->Prop)(hX:∀k,X k->k<w.heap.size)(h:Lr w g bs s)(hb:Blk w P 63 zeroMR.cells.toArray)(hP:g<P)(hl:bs.length<=2147483647):
  Calls prog 74 #[.pointer (some ⟨g,0,none⟩),.int .i64 K,.pointer (some ⟨P,0,none⟩)] w (RdP w g P bs X (jIC bs s)):=by
 have HT:=G (show jIC bs s=jB2 bs (numL bs 8 s).1 (lowL bs 2 (numL bs 8 s).2)from rfl);have P7:=hb.lt;have Hl:=G hl;have HX:=G hX;have Rz:=G (kz w g bs 8 s h (by decide));have Gg:=G hb;generalize jIC bs s=TV at*;clear h hb hl hX;generalize numL bs 8 s=t1 at*;obtain⟨n,s1⟩:=t1;simp only at HT Rz;rcases hK with rfl|rfl
 all_goals
  go_enter func74,ntmps74;go_wp2_with fail;refine Rz.out.mono ?_;rintro e w1 ⟨rfl,Fd,Fc⟩;have Gt:=G (Gg.out.kp Fc (show¬RX g P from fun e=>by have:P=g:=e;omega));have u:=Gt.out.at_ 4 (v:=.int .i64 0) rfl;have z:=Gt.out.frozen 4;have k1:=(jQ0 (fun k=>k=P) w1).setCell (p:=⟨P,4,none⟩) (fun _=>rfl) (.int .i64 n);have HS:=G (show HapRd w g P bs n [] none 0 s1 (w1.setCell ⟨P,4,none⟩ (.int .i64 n))from
   ⟨Gt.out.rNum n,World.ownsRow_nil _ _ _ _,Fd.kp k1 (fun b hb e=>by omega),(Fc.mono (Y:=fun k=>k=g\/k=P) (fun b _ e=>.inl e)).trans k1 (fun b _ e=>.inr e),⟨hP,P7⟩,fun h hh=>(by cases hh)⟩)
  have HP:=G (fun W' (hR:Lr W' g bs s1)=>kz W' g bs 2 s1 hR (by decide));obtain⟨e2,Pm⟩:=VV bs 2 s1 (by decide);rw[e2]at HP;clear Fd Fc k1 Rz Gg Gt e2;go_wp2_with fail;clear u z;generalize w1.setCell _ _=W1 at*;refine(HP.out _ HS.out.rr).mono ?_;clear HP;generalize lowL bs 2 s1=t2 at*;obtain⟨c,s2⟩:=t2;unfold jB2 at HT;simp only at HT Pm⊢;rintro e w2 ⟨rfl,Fb,hZ⟩;replace HS:=G (HS.out.step Fb hZ);have Sb:c<65536:=Pm;clear Fb hZ Pm;obtain⟨i0,hi,Fz,Ft,FC⟩:=info_parts UN;go_wp2_with fail;go_loopw [7,8] (fun i _ wr=>∃k:Nat,i=.int .i64 k/\∃(acc:List MHap) (hA:OA) (hC:Nat) (s:Ls),HapRd w g P bs n acc hA hC s wr/\acc.length=k/\k<=c/\zl bs c s2 []=zl bs (c-k) s acc) (fun i _ _=>c-(intOf i).toNat)
  case atStart=>exact⟨0,rfl,[],none,0,s2,HS.out,rfl,Nat.zero_le _,rfl⟩
  case round=>
   obtain⟨k,rfl,acc,hA,hC,s,hS,Fc,Bo,FM⟩:=hrel;clear HS;have HS:=G hS;have HK:=G Fc;have Fs:=G FM;clear Fc FM;have MT:(0:Int)<=(k:Int):=(by omega);have GC:(k:Int)<=65536:=(by omega);have FS:wr.cell? ⟨g,1,none⟩=some (.bool s.short):=by
    obtain⟨A0,c0,hb,_⟩:=hS.rr;exact hb.at_ 1 (v:=.bool s.short) rfl
   clear hS;have HZ:=G (show zl bs (c-k) s acc=(acc,s)->RdP w g P bs X TV (.returned (.tuple #[])) wr from fun e=>by
    rw[HT.out,Fs.out,e];have Z:=jI wr (fun k=>k<w.heap.size);refine⟨rfl,{zeroMR with number:=n,hap:=acc,hA:=hA,hC:=hC},rfl,HS.out.blk,?_,HS.out.rr,HS.out.kp⟩;have Z:=jI wr X;exact⟨Rd.of_own HS.out.own,fun hn ad e hx=>vd HS.out.own hn ad e (HX.out _ hx),⟨HS.out.small,by have:=HK.out;show acc.length<=_;omega⟩,Z.case_,Z.raw,Z.note,Z.hd,Z.inc,Z.con,Z.idx,Z.rdI,Z.avI,Z.pie⟩)
   by_cases hM:k<c
   ·have Ww:(k:Int)<(c:Int):=(by omega);obtain⟨q,hm⟩:∃q,c-k=q+1:=⟨c-k-1,by omega⟩;cases hs:s.short with
    |true=>
     rw[hs]at FS;have He:=G (HZ.out (by rw[hm,zl,jJ6 hs]));clear hs;go_wp2;go_end0;exact He.out
    |false=>
    rw[hs]at FS;have N5:=G (show zl bs (c-k) s acc=zl bs (c-(k+1)) (ke bs (numL bs 1 s).2).2 (acc++[⟨(numL bs 1 s).1,(ke bs (numL bs 1 s).2).1⟩])by
     rw[hm,zl,jJ5 (by rw[hs];decide),show c-(k+1)=q by omega])
    clear hm hs HZ;have HP:=G (fun W' (hR:Lr W' g bs s)=>kz W' g bs 1 s hR (by decide));go_wp2_with fail;refine(HP.out _ HS.out.rr).mono ?_;clear HP FS;generalize numL bs 1 s=t3 at*;obtain⟨kk,s5⟩:=t3;simp only at N5⊢;rintro e w5 ⟨rfl,Fb,hZ⟩;have HF:=G ((HS.out.step Fb hZ).old ((jQ0 NoX w5).drew));have HW:=G (fun W' (hR:Lr W' g bs s5)=>YY W' g bs s5 hR);have Mn:=G (Kc bs s5);generalize ke bs s5=t4 at*;obtain⟨nm,s6⟩:=t4;simp only at N5 HW Mn;have WP:=G HF.out.rr;have c5d:=HF.out.c5;rw[HK.out]at c5d;have FU:=G (show k+1<=maxLen by unfold maxLen;omega);have FV:=G (show(k+1)*24<=140737488355328 by omega);clear Fb hZ HS;go_wp2_with fail;refine wp_region_held_drew (S:=fun _=>True) (by kernel_rfl) trivial (fun H9=> ?_);refine' jP 0 rfl rfl (by kernel_rfl) (fun _ _ _ h=>h) rfl H9 (fun w hJ=> ?_) ?_;rotate_left
    ·((try dsimp only at hJ);go_simp<;>with_reducible rfl)
    simp only[Act.put,jJ1,jJ2,jJ3];refine' jP 1 rfl rfl (by kernel_rfl) (fun _ _ _ h=>h) rfl H9 (fun w hJ=> ?_) ?_;rotate_left
    ·((try dsimp only at hJ);go_simp<;>with_reducible rfl)
    simp only[Act.put,jJ1,jJ2,jJ3];refine' jP 2 rfl rfl (by kernel_rfl) (fun _ _ _ h=>h) rfl H9 (fun w hJ=> ?_) ?_;rotate_left
    ·((try dsimp only at hJ);go_simp<;>with_reducible rfl)
    simp only[Act.put,jJ1,jJ2,jJ3];refine' jP 3 rfl rfl (by kernel_rfl) (fun _ _ _ h=>h) rfl H9 (fun w hJ=> ?_) ?_;rotate_left
    ·((try dsimp only at hJ);go_simp<;>with_reducible rfl)
    simp only[Act.put,jJ1,jJ2,jJ3];refine' jP 5 rfl rfl (by kernel_rfl) (fun _ _ _ h=>h) rfl H9 (fun w hJ=> ?_) ?_;rotate_left
    ·((try dsimp only at hJ);go_simp<;>with_reducible rfl)
    simp only[Act.put,jJ1,jJ2,jJ3];refine' jP 6 rfl rfl (by kernel_rfl) (fun _ _ _ h=>h) rfl H9 (fun w hJ=> ?_) ?_;rotate_left
    ·((try dsimp only at hJ);go_simp<;>with_reducible rfl)
    simp only[Act.put,jJ1,jJ2,jJ3];refine JY 4 7 rfl rfl (by kernel_rfl) (fun K hK=> ?_) (fun K hK=> ?_)
    ·go_simp;refine hK.out _ _ trivial (fun H9=> ?_);clear hK K;refine jU 7 rfl (by kernel_rfl) (fun K hK=> ?_);go_simp;go_at_call 125;refine(HW.out _ WP.out).mono ?_;rintro e w6 ⟨rfl,Wi,NG⟩;have F6:=G (HF.out.step Wi NG);have c5:=F6.out.c5;rw[HK.out]at c5;have LT:=G (show w6.ownsRow w.heap.size 105 2 (.slice hA k hC) k (acc.flatMap MHap.cells)from by have h:=F6.out.own;rw[HK.out]at h;exact h);have Wd:=G ((jQ0 NoX w6).alloc (.cells (MHap.cells ⟨kk,nm⟩).toArray 105));have c5a:=(F6.out.old Wd.out).c5;rw[HK.out]at c5a;clear Wi NG;go_wp2_with fail;refine hK.out _ _ trivial (fun H9=> ?_);clear hK K;refine' jP 8 rfl rfl (by kernel_rfl) (fun _ _ _ h=>h) rfl H9 (fun w hJ=> ?_) ?_;rotate_left
     ·((try dsimp only at hJ);go_simp<;>with_reducible rfl)
     simp only[Act.put,jJ1,jJ2,jJ3];refine jU 9 rfl (by kernel_rfl) (fun K hK=> ?_);refine Yl rfl (.tmp 45) rfl ⟨kk,nm⟩ rfl ?_;refine hK.out _ _ trivial (fun H9=> ?_);clear hK K;simp only[Act.put,jJ1,jJ2,jJ3]at*;refine jU 10 rfl (by kernel_rfl) (fun K hK=> ?_);refine jg _ rfl (.tmp 41) (.tmp 46) 38 rfl w.heap.size 105 i0 _ 2 24 underlying38 hi Fz Ft FC rfl (by decide) (.slice hA k hC) k _ rfl (LT.out.alloc _) _ 1 1 (MHap.cells ⟨kk,nm⟩) rfl (Rd.row_new _ _ 2 1 _ rfl) (MHap.one _) FU.out FV.out (jL4 F6.out.kp.size (by simp)) ?_;intro A7 c7 w7 Hi hgrow Fo;have F7:=G (F6.out.grow (x:=⟨kk,nm⟩) HK.out Wd.out (by have:=Mn.out;have:=Hl.out;simp only;omega) Hi hgrow);have c7' :=F7.out.1.1;have z7' :=F7.out.1.2;refine hK.out _ _ trivial (fun H9=> ?_);clear hK K Hi hgrow Fo;simp only[Act.put,jJ1,jJ2,jJ3]at*;refine' jP 11 rfl rfl (by kernel_rfl) (fun _ _ _ h=>h) rfl H9 (fun w hJ=> ?_) ?_;rotate_left
     ·((try dsimp only at hJ);go_simp<;>with_reducible rfl)
     simp only[Act.put,jJ1,jJ2,jJ3];refine' jP 12 rfl rfl (by kernel_rfl) (fun _ _ _ h=>h) rfl H9 (fun w hJ=> ?_) ?_;rotate_left
     ·((try dsimp only at hJ);go_simp<;>with_reducible rfl)
     simp only[Act.put,jJ1,jJ2,jJ3];refine jU 13 rfl (by kernel_rfl) (fun K hK=> ?_);go_simp;refine hK.out _ _ trivial (fun H9=> ?_);clear hK K;refine wpAnyH_done (by kernel_rfl) ?_ _;have Fl:=G F7.out.2;clear c7' z7' F7 F6 c5 c5a;go_wp2;go_roundw
     case rel=>exact⟨k+1,by go_num,acc++[⟨kk,nm⟩],A7,c7,s6,Fl.out,by rw[jJ4,HK.out];rfl,by omega,by rw[Fs.out,N5.out]⟩
     case measure=>simp[intOf];omega
    ·go_simp;go_at_call 125;refine(HW.out _ WP.out).mono ?_;rintro e w6 ⟨rfl,Wi,NG⟩;have F6:=G (HF.out.step Wi NG);have c5:=F6.out.c5;rw[HK.out]at c5;have LT:=G (show w6.ownsRow w.heap.size 105 2 (.slice hA k hC) k (acc.flatMap MHap.cells)from by have h:=F6.out.own;rw[HK.out]at h;exact h);have Wd:=G ((jQ0 NoX w6).alloc (.cells (MHap.cells ⟨kk,nm⟩).toArray 105));have c5a:=(F6.out.old Wd.out).c5;rw[HK.out]at c5a;clear Wi NG;go_wp2_with fail;refine hK.out _ _ trivial (fun H9=> ?_);clear hK K;refine' jP 8 rfl rfl (by kernel_rfl) (fun _ _ _ h=>h) rfl H9 (fun w hJ=> ?_) ?_;rotate_left
     ·((try dsimp only at hJ);go_simp<;>with_reducible rfl)
     simp only[Act.put,jJ1,jJ2,jJ3];refine JY 4 9 rfl rfl (by kernel_rfl) (fun K hK=> ?_) (fun K hK=> ?_)
     ·go_simp;refine hK.out _ _ trivial (fun H9=> ?_);clear hK K;refine jU 9 rfl (by kernel_rfl) (fun K hK=> ?_);refine Yl rfl (.tmp 45) rfl ⟨kk,nm⟩ rfl ?_;refine hK.out _ _ trivial (fun H9=> ?_);clear hK K;simp only[Act.put,jJ1,jJ2,jJ3]at*;refine jU 10 rfl (by kernel_rfl) (fun K hK=> ?_);refine jg _ rfl (.tmp 41) (.tmp 46) 38 rfl w.heap.size 105 i0 _ 2 24 underlying38 hi Fz Ft FC rfl (by decide) (.slice hA k hC) k _ rfl (LT.out.alloc _) _ 1 1 (MHap.cells ⟨kk,nm⟩) rfl (Rd.row_new _ _ 2 1 _ rfl) (MHap.one _) FU.out FV.out (jL4 F6.out.kp.size (by simp)) ?_;intro A7 c7 w7 Hi hgrow Fo;have F7:=G (F6.out.grow (x:=⟨kk,nm⟩) HK.out Wd.out (by have:=Mn.out;have:=Hl.out;simp only;omega) Hi hgrow);have c7' :=F7.out.1.1;have z7' :=F7.out.1.2;refine hK.out _ _ trivial (fun H9=> ?_);clear hK K Hi hgrow Fo;simp only[Act.put,jJ1,jJ2,jJ3]at*;refine' jP 11 rfl rfl (by kernel_rfl) (fun _ _ _ h=>h) rfl H9 (fun w hJ=> ?_) ?_;rotate_left
      ·((try dsimp only at hJ);go_simp<;>with_reducible rfl)
      simp only[Act.put,jJ1,jJ2,jJ3];refine' jP 12 rfl rfl (by kernel_rfl) (fun _ _ _ h=>h) rfl H9 (fun w hJ=> ?_) ?_;rotate_left
      ·((try dsimp only at hJ);go_simp<;>with_reducible rfl)
      simp only[Act.put,jJ1,jJ2,jJ3];refine jU 13 rfl (by kernel_rfl) (fun K hK=> ?_);go_simp;refine hK.out _ _ trivial (fun H9=> ?_);clear hK K;refine wpAnyH_done (by kernel_rfl) ?_ _;have Fl:=G F7.out.2;clear c7' z7' F7 F6 c5 c5a;go_wp2;go_roundw
      case rel=>exact⟨k+1,by go_num,acc++[⟨kk,nm⟩],A7,c7,s6,Fl.out,by rw[jJ4,HK.out];rfl,by omega,by rw[Fs.out,N5.out]⟩
      case measure=>simp[intOf];omega
     ·refine Yl rfl (.tmp 45) rfl ⟨kk,nm⟩ rfl ?_;refine hK.out _ _ trivial (fun H9=> ?_);clear hK K;simp only[Act.put,jJ1,jJ2,jJ3]at*;refine jU 4 rfl (by kernel_rfl) (fun K hK=> ?_);go_simp;refine hK.out _ _ trivial (fun H9=> ?_);clear hK K;refine jU 10 rfl (by kernel_rfl) (fun K hK=> ?_);refine jg _ rfl (.tmp 41) (.tmp 46) 38 rfl w.heap.size 105 i0 _ 2 24 underlying38 hi Fz Ft FC rfl (by decide) (.slice hA k hC) k _ rfl (LT.out.alloc _) _ 1 1 (MHap.cells ⟨kk,nm⟩) rfl (Rd.row_new _ _ 2 1 _ rfl) (MHap.one _) FU.out FV.out (jL4 F6.out.kp.size (by simp)) ?_;intro A7 c7 w7 Hi hgrow Fo;have F7:=G (F6.out.grow (x:=⟨kk,nm⟩) HK.out Wd.out (by have:=Mn.out;have:=Hl.out;simp only;omega) Hi hgrow);have c7' :=F7.out.1.1;have z7' :=F7.out.1.2;refine hK.out _ _ trivial (fun H9=> ?_);clear hK K Hi hgrow Fo;simp only[Act.put,jJ1,jJ2,jJ3]at*;refine' jP 11 rfl rfl (by kernel_rfl) (fun _ _ _ h=>h) rfl H9 (fun w hJ=> ?_) ?_;rotate_left
      ·((try dsimp only at hJ);go_simp<;>with_reducible rfl)
      simp only[Act.put,jJ1,jJ2,jJ3];refine' jP 12 rfl rfl (by kernel_rfl) (fun _ _ _ h=>h) rfl H9 (fun w hJ=> ?_) ?_;rotate_left
      ·((try dsimp only at hJ);go_simp<;>with_reducible rfl)
      simp only[Act.put,jJ1,jJ2,jJ3];refine jU 13 rfl (by kernel_rfl) (fun K hK=> ?_);go_simp;refine hK.out _ _ trivial (fun H9=> ?_);clear hK K;refine wpAnyH_done (by kernel_rfl) ?_ _;have Fl:=G F7.out.2;clear c7' z7' F7 F6 c5 c5a;go_wp2;go_roundw
      case rel=>exact⟨k+1,by go_num,acc++[⟨kk,nm⟩],A7,c7,s6,Fl.out,by rw[jJ4,HK.out];rfl,by omega,by rw[Fs.out,N5.out]⟩
      case measure=>simp[intOf];omega
   ·have Ww:¬(k:Int)<(c:Int):=(by omega);have He:=G (HZ.out (by rw[show c-k=0 by omega];rfl));go_wp2;go_end0;exact He.out
end Go.Proofs.YtnaolhjbapgjgaaGreat

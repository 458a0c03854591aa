import Derived.Test.YtmmjcbbogokmfaaGreatDoorMp35
import Derived.Test.YtmmjcbbogokmfaaGreatDoorMp36
set_option maxRecDepth 100000
set_option maxHeartbeats 25600000
namespace Go.Proofs.YtmmjcbbogokmfaaGreatDoor
open Go.Proofs.Tryz
open Go.RowKit
theorem jEw(ns:List Nd)(a:Atr)(s:Wr9):s.le (QK ns a s):=by
 unfold QK;have h1:=((s.le_put [97,116,116,114,105,98,117,116,101]).trans (Wr9.le_named _ a.name)).trans (Wr9.le_put _ [58]);have h2:=(KQ (p:=a.opt=true) (h1.trans (Wr9.le_put _ [111,112,116,105,111,110,97,108])) h1).trans (Wr9.le_kind _ a.kind);have h3:=KQ (p:=a.dflt= -1) h2 ((h2.trans (Wr9.le_put _ [61])).trans (yM ns a.dflt _));exact(KQ (p:=a.when_= -1) h3 ((h3.trans (Wr9.le_put _ [119,104,101,110])).trans (yM ns a.when_ _))).trans (Wr9.le_put _ _)
theorem jEt(ns:List Nd)(a:Stg)(s:Wr9):s.le (XO ns a s):=by
 unfold XO;exact((((((s.le_put _).trans (Wr9.le_named _ _)).trans (Wr9.le_inn _ _)).trans (Wr9.le_put _ _)).trans (Zc ns _ _ _)).trans (Zc ns _ _ _)).trans (Wr9.le_put _ _)
theorem jEs(ns:List Nd)(a:Mil)(s:Wr9):s.le (XN ns a s):=by
 unfold XN;exact((((((s.le_put _).trans (Wr9.le_named _ _)).trans (Wr9.le_inn _ _)).trans (Wr9.le_put _ _)).trans (Wr9.le_put _ _)).trans (yM ns _ _)).trans (Wr9.le_put _ _)
theorem jEr(ns:List Nd)(a:Stp)(s:Wr9):s.le (QJ ns a s):=by
 unfold QJ;have h1:=((((((s.le_put [115,116,101,112]).trans (Wr9.le_named _ a.name)).trans (Wr9.le_put _ [40])).trans (Va a.params 0 _)).trans (Wr9.le_put _ [41])).trans (Wr9.le_inn _ a.in_));exact((((KQ (p:=a.when_= -1) h1 ((h1.trans (Wr9.le_put _ [119,104,101,110])).trans (yM ns a.when_ _))).trans (Wr9.le_put _ [123])).trans (Vl ns a.effects _)).trans (Wr9.le_put _ _))
theorem jEu(t:Tre)(d:Int×Nat)(s:Wr9):s.le (qg t d s):=by
 unfold qg
 repeat' split
 ·exact jEw _ _ _
 ·exact .refl s
 ·exact jEt _ _ _
 ·exact .refl s
 ·exact jEs _ _ _
 ·exact .refl s
 ·exact jEr _ _ _
 ·exact .refl s
theorem zE(t:Tre):∀(n i:Nat) (c:Mg9) (s:Wr9),s.le (JM t n i c s)
 |0,_,_,s=>.refl s
 |n+1,i,c,s=>by
  rw[JM];split
  ·split
   ·exact((jEu t _ s).trans (Wr9.le_nl _)).trans (zE t n _ _ _)
   ·exact(s.le_bad.trans (Wr9.le_nl _)).trans (zE t n _ _ _)
  ·exact .refl s
theorem Xh{s:Wr9}(h:s.Ub):s.nl.Ub:=jCL h rfl s.le_nl
theorem jBf(ns:List Nd):∀(l:List Eff) {s:Wr9},s.Ub->(zm ns l s).Ub
 |[],_,h=>h
 |e::l,s,h=>by
  rw[zm];have h1:(if e.worth= -1 then(s.put [114,101,111,112,101,110]).named e.name else jx ns e.worth ((s.named e.name).put [58,61])).Ub:=by
   split
   ·exact vB _ (h.put _)
   ·exact yZ _ _ ((vB _ h).put _)
  exact jBf ns l (h1.put _)
theorem jDT{p:Prop}[Decidable p]{a b:Wr9}(h:a.Ub)(k:b.Ub):(if p then a else b).Ub:=by
 split
 ·exact h
 ·exact k
theorem jEv(ns:List Nd)(a:Atr){s:Wr9}(h:s.Ub):(QK ns a s).Ub:=by
 unfold QK;have h1:=(vB (s:=s.put [97,116,116,114,105,98,117,116,101]) a.name (h.put _)).put [58];have h2:=uW a.kind (jDT (p:=a.opt=true) (h1.put [111,112,116,105,111,110,97,108]) h1);have h3:=jDT (p:=a.dflt= -1) h2 (yZ ns a.dflt (h2.put [61]));exact(jDT (p:=a.when_= -1) h3 (yZ ns a.when_ (h3.put [119,104,101,110]))).put _
theorem jEq(ns:List Nd)(a:Stp){s:Wr9}(h:s.Ub):(QJ ns a s).Ub:=by
 unfold QJ;have h1:=ZJ a.in_ ((uE a.params 0 ((vB (s:=s.put [115,116,101,112]) a.name (h.put _)).put [40])).put [41]);exact(jBf _ _ ((jDT (p:=a.when_= -1) h1 (yZ ns a.when_ (h1.put [119,104,101,110]))).put [123])).put _
theorem Zf(t:Tre)(d:Int×Nat){s:Wr9}(h:s.Ub):(qg t d s).Ub:=by
 unfold qg
 repeat' split
 ·exact jEv _ _ h
 ·exact h
 ·unfold XO;exact(xw _ _ _ (xw _ _ _ ((ZJ _ (vB _ (h.put _))).put _))).put _
 ·exact h
 ·unfold XN;exact(yZ _ _ (((ZJ _ (vB _ (h.put _))).put _).put _)).put _
 ·exact h
 ·exact jEq _ _ h
 ·exact h
def jH4(w:World)(o:Option LB)(e:Ending)(W:World):Prop:=match o with
 |some l=>∃A c,e=.returned (.tuple #[.slice A l.length c,iv 0])/\W.ownsRow (w.heap.size+1) 5 1 (.slice A l.length c) l.length (l.map bv)/\Kp (Jo w.heap.size) w W
 |none=>e=.returned (.tuple #[.slice none 0 0,iv 8])/\Kp (Jo w.heap.size) w W
theorem jCH(w:World)(t:Tre)(s:Sl):Rw9 w t s ⟨true,0,[]⟩ none 0 (w.alloc (.cells (jF t s++[Value.int .i64 0,Value.bool true,Value.slice none 0 0]).toArray 139)):=
 ⟨jQ2 _ _ _,World.ownsRow_nil _ _ _ _,((jQ0 NoX w).alloc _).mono (fun _ _ e=>e.elim)⟩
theorem UK:∀u∈ [bv 125,bv 10],u.oneCell' =true:=fun u hu=>by
 simp only[List.mem_cons,List.not_mem_nil,or_false]at hu;rcases hu with rfl|rfl<;>rfl
theorem jAR(w:World)(T:TypeId)(v:Value){k:Nat}(hk:k=w.heap.size):Rd (w.alloc (.cells #[v] T)) 1 (some ⟨k,0,none⟩) 1 [v]:=hk▸Rd.one_new w T v
theorem QU{α:Type}(g:α->Int){l:List α}{k i:Nat}(h:yd (l.map g) k i=true):∃a,l[k]? =some a/\g a=(i:Int):=by
 unfold yd at h;rw[decide_eq_true_eq,jM1]at h;exact jM4 h
theorem QV{α:Type}(g:α->Int){l:List α}{k i:Nat}{a:α}(h:l[k]? =some a):yd (l.map g) k i=decide (g a=(i:Int)):=by
 unfold yd;rw[jM1,h];simp
theorem Zi{α:Type}(g:α->Int){l:List α}{k i:Nat}(h:¬k<l.length):yd (l.map g) k i=false:=by
 unfold yd;rw[List.getElem?_eq_none (by rw[jK7];omega)];rfl
theorem XK(w:World)(hg:SgR w)(h8:8<=w.heap.size)(t:Tre)(s:Sl)(ns:List MNd)(ps:List MSt)(TD:TrD w t s ns ps)(hv:∀n∈t.nodes,n.vn<=9223372036854775807/\n.vt.size<=100000000)(Mi:Zv t<=jN):
  Calls prog 15 #[.agg (jF t s).toArray] w (jH4 w (UD t)):=by
 obtain⟨i0,hi,Fm,Fi,Fl⟩:=info_parts VN;obtain⟨wb,Nf⟩:∃wb,wb=w.alloc (.cells (jF t s).toArray 29):=⟨_,rfl⟩;have FN:Old w wb:=by rw[Nf];exact(jQ0 NoX w).alloc _
 have hJ:wb.heap.size=w.heap.size+1:=by rw[Nf];simp
 have TD1:=TD.old FN;have Nw:=hg.old FN;have Rx:8<=wb.heap.size:=by rw[hJ];omega
 have WC:=XF wb Nw Rx t s ns TD1.nd hv;have Nv:Rw9 wb t s ⟨true,0,[]⟩ none 0 ((w.alloc (.cells (jF t s).toArray 29)).alloc (.cells (jF t s++[Value.int .i64 0,Value.bool true,Value.slice none 0 0]).toArray 139)):=by rw[Nf];exact jCH _ t s
 have H0:=G Nv;have T0:=G ((jQ2 w 29 (jF t s).toArray).alloc (.cells (jF t s++[Value.int .i64 0,Value.bool true,Value.slice none 0 0]).toArray 139));have KPW:=G FN;have Nz:t.count<=4000000:=by
  have:=TD.nA;have:=TD.nG;have:=TD.nM;have:=TD.nP;unfold Tre.count;omega
 have FT:=jL4 (jBd t) Mi
 --the start
 obtain⟨a1,e1⟩:∃x,x=(⟨true,0,[]⟩:Wr9).put [116,121,112,101]:=⟨_,rfl⟩;obtain⟨a2,e2⟩:∃x,x=a1.named t.name:=⟨_,rfl⟩;obtain⟨a3,e3⟩:∃x,x=a2.put [123]:=⟨_,rfl⟩;have eS:Yw t=a3.nl:=by rw[e3,e2,e1];rfl
 have eE:xX t=JM t (t.count-0) 0 ⟨0,0,0,0⟩ a3.nl:=by rw[<-eS];rfl
 have q4:(a3.b++[10]).length<=jN:=jL4 (by have:=zE t (t.count-0) 0 ⟨0,0,0,0⟩ a3.nl;rw[<-eE]at this;exact this) (show(xX t).b.length<=jN by omega);have q3:a3.b.length<=jN:=jL4 (by rw[jJ4];omega) q4;have q2:a2.b.length<=jN:=jL4 (by rw[e3];exact Wr9.le_put _ _) q3;have q1:a1.b.length<=jN:=jL4 (by rw[e2];exact Wr9.le_named _ _) q2;have u4:a3.nl.Ub:=Xh (by rw[e3,e2,e1];exact(vB _ ((show(⟨true,0,[]⟩:Wr9).Ub from jL3 _).put _)).put _);have P1:=G (fun W1 B1 c1 (hp:Rw9 wb t s ⟨true,0,[]⟩ B1 c1 W1)=>(show Calls prog 55 #[.pointer (some ⟨wb.heap.size,0,none⟩),.string ⟨#[116,121,112,101]⟩] W1 (WrR wb t s a1 W1)from by rw[e1]at q1⊢;exact jc wb W1 t s _ B1 c1 hp ⟨#[116,121,112,101]⟩ q1));have P2:=G (fun W1 B1 c1 (hp:Rw9 wb t s a1 B1 c1 W1)=>(show Calls prog 56 #[.pointer (some ⟨wb.heap.size,0,none⟩),.string t.name] W1 (WrR wb t s a2 W1)from by rw[e2]at q2⊢;exact Kj wb W1 Nw Rx t s a1 B1 c1 hp t.name q2));have P3:=G (fun W1 B1 c1 (hp:Rw9 wb t s a2 B1 c1 W1)=>(show Calls prog 55 #[.pointer (some ⟨wb.heap.size,0,none⟩),.string ⟨#[123]⟩] W1 (WrR wb t s a3 W1)from by rw[e3]at q3⊢;exact jc wb W1 t s a2 B1 c1 hp ⟨#[123]⟩ q3));simp only[hJ]at P1 P2 P3;have QL:=G (vJ q4);have Mr:=G (show a3.b.map bv++[bv 10]=(a3.b++[10]).map bv by rw[jN3 (l₂:=[10])];rfl);have EE:=G eE;have U4:=G u4;have QEnd:=G FT;have DA:=G Nz;have Sp:=G WC;have Ly:=G TD1;have C4:=G Nw;have MY:=G Rx;have nb1:IntKind.i64.wrap ((t.attrs.length:Int)+(t.stages.length:Int))=(t.attrs.length:Int)+(t.stages.length:Int):=jQ3 _ (by have:=TD.nA;have:=TD.nG;omega);have nb2:IntKind.i64.wrap ((t.attrs.length:Int)+(t.stages.length:Int)+(t.miles.length:Int))=(t.attrs.length:Int)+(t.stages.length:Int)+(t.miles.length:Int):=jQ3 _ (by have:=TD.nA;have:=TD.nG;have:=TD.nM;omega);have nb3:IntKind.i64.wrap ((t.attrs.length:Int)+(t.stages.length:Int)+(t.miles.length:Int)+(t.steps.length:Int))=(t.count:Int):=by
  rw[jQ3 _ (by have:=TD.nA;have:=TD.nG;have:=TD.nM;have:=TD.nP;omega)];unfold Tre.count;omega
 clear Nv TD TD1 FN hg Nw h8 Rx Nf WC hv Mi FT Nz q1 q2 q3 q4 u4 e1 e2 e3 eS eE;unfold jF iv at*;simp only[jN6,jN8]at*;go_enter func15,ntmps15;go_upto_region 7 with(first|(at_builtin;refine jE _ rfl (.tmp 26) (.tmp 27) 33 rfl wb.heap.size 5 i0 (.int .u8 0) 1 1 underlying33 hi Fm Fi Fl rfl (by decide) (.slice B3 a3.b.length c3') a3.b.length (a3.b.map bv) rfl (jV H3.out.own ((jQ0 NoX _).alloc _) (fun _ _ e=>e)) _ 1 1 [bv 10] rfl (Rd.one_new _ _ _) (ji _ rfl) QL.out.2.1 QL.out.2.2.1 (jL4 H3.out.kp.size ((jQ0 NoX _).alloc _).size) ?_;intro BX cX wX Hi hgrow Fc;rw[jC]at hgrow;rw[Mr.out,QL.out.2.2.2]at Hi;have GD:=H3.out.grow ((jQ0 NoX _).alloc _) hgrow Hi;have FR:wX.cell? ⟨wb.heap.size,10,none⟩=some (.slice B3 a3.b.length c3'):=GD.1.at_ 10 rfl;have FW:=GD.1.frozen 10;rw[hJ]at FR FW;have HN:=G GD.2;clear Hi hgrow Fc GD)|(go_at_call 55;refine(P3.out _ _ _ H2.out).mono ?_;rintro e w3 ⟨rfl,B3,c3',hX,hf⟩;have H3:=G hX;have T3:=G (hf.blk _ _ _ (by decide) (by decide) T2.out);have k9_3:=hX.c9;have k10_3:=hX.c10;have z10_3:=hX.z 10;rw[hJ]at k9_3 k10_3 z10_3;have t0_3:=T3.out.at_ 0 (v:=.string t.name) rfl;clear hX hf)|(go_at_call 56;refine(P2.out _ _ _ H1.out).mono ?_;rintro e w2 ⟨rfl,B2,c2',hX,hf⟩;have H2:=G hX;have T2:=G (hf.blk _ _ _ (by decide) (by decide) T1.out);have k9_2:=hX.c9;have k10_2:=hX.c10;have z10_2:=hX.z 10;rw[hJ]at k9_2 k10_2 z10_2;have t0_2:=T2.out.at_ 0 (v:=.string t.name) rfl;clear hX hf)|(go_at_call 55;refine(P1.out _ _ _ H0.out).mono ?_;rintro e w1 ⟨rfl,B1,c1',hX,hf⟩;have H1:=G hX;have T1:=G (hf.blk _ _ _ (by decide) (by decide) T0.out);have k9_1:=hX.c9;have k10_1:=hX.c10;have z10_1:=hX.z 10;rw[hJ]at k9_1 k10_1 z10_1;have t0_1:=T1.out.at_ 0 (v:=.string t.name) rfl;clear hX hf)|fail);rw[<-QL.out.2.2.2]at HN;have TN:=G (HN.out.2.blk _ _ _ (by decide) (by decide) T3.out);rw[hJ]at TN;generalize hW0:wX.setCell ⟨w.heap.size+1,10,none⟩ (.slice BX (a3.b.length+1) cX)=W0 at*;have EN:=G (show Rw9 wb t s a3.nl BX cX W0 from by have h:=HN.out.1;rw[hJ,hW0]at h;exact h);have TN2:=G (show Blk W0 w.heap.size 29 #[.string t.name,.int .i64 t.at_,.slice s.aA t.attrs.length s.ac,.slice s.gA t.stages.length s.gc,.slice s.mA t.miles.length s.mc,.slice s.pA t.steps.length s.pc,.slice s.nA t.nodes.length s.nc,.slice s.oA t.ats.length s.oc]from TN.out);have m2:=TN2.out.at_ 2 (v:=.slice s.aA t.attrs.length s.ac) rfl;have m3:=TN2.out.at_ 3 (v:=.slice s.gA t.stages.length s.gc) rfl;have m4:=TN2.out.at_ 4 (v:=.slice s.mA t.miles.length s.mc) rfl;have m5:=TN2.out.at_ 5 (v:=.slice s.pA t.steps.length s.pc) rfl;clear hW0 FR FW HN TN;go_upto_region 9 with fail;clear m2 m3 m4 m5;go_loopw [5,6,7,8,10] (fun a g m p i wr=>∃(j:Nat) (c:Mg9) (st1:Wr9) (Bj:OA) (cj:Nat),j<=t.count/\a=.int .i64 (c.a:Int)/\g=.int .i64 (c.s:Int)/\m=.int .i64 (c.m:Int)/\p=.int .i64 (c.p:Int)/\i=.int .i64 (j:Int)/\xX t=JM t (t.count-j) j c st1/\st1.Ub/\(c.a<=j/\c.s<=j/\c.m<=j/\c.p<=j)/\Rw9 wb t s st1 Bj cj wr/\Blk wr w.heap.size 29 #[.string t.name,.int .i64 t.at_,.slice s.aA t.attrs.length s.ac,.slice s.gA t.stages.length s.gc,.slice s.mA t.miles.length s.mc,.slice s.pA t.steps.length s.pc,.slice s.nA t.nodes.length s.nc,.slice s.oA t.ats.length s.oc]) (fun _ _ _ _ i _=>t.count-(intOf i).toNat)
 case atStart=>exact⟨0,⟨0,0,0,0⟩,a3.nl,BX,cX,Nat.zero_le _,rfl,rfl,rfl,rfl,rfl,EE.out,U4.out,⟨jL3 _,jL3 _,jL3 _,jL3 _⟩,EN.out,TN2.out⟩
 case round=>
  clear EE U4 EN TN2 QL Mr;obtain⟨j,c,st1,Bj,cj,hj,rfl,rfl,rfl,rfl,rfl,Ht,Gu,⟨ca,cs,cm,cp⟩,hp,GQ⟩:=hrel;obtain⟨xa,xs,xm,xp⟩:=c;simp only at ca cs cm cp⊢;have HJ:=G hp;have TJ:=G GQ;have k9:=hp.c9;have k8:=hp.c8;rw[hJ]at k9 k8;have m2:=GQ.at_ 2 (v:=.slice s.aA t.attrs.length s.ac) rfl;have m3:=GQ.at_ 3 (v:=.slice s.gA t.stages.length s.gc) rfl;have m4:=GQ.at_ 4 (v:=.slice s.mA t.miles.length s.mc) rfl;have m5:=GQ.at_ 5 (v:=.slice s.pA t.steps.length s.pc) rfl;have m6:=GQ.at_ 6 (v:=.slice s.nA t.nodes.length s.nc) rfl;have b0:=DA.out;have FIN:(j<t.count->st1.ok=false)->xX t=st1:=fun h=>by
   rcases Nat.lt_or_ge j t.count with q|q
   ·rw[Ht,Qe t _ _ _ (h q)]
   ·rw[Ht,show t.count-j=0 by omega];rfl
  cases eok:st1.ok with
  |false=>
   have hE:=FIN (fun _=>eok);have hr:UD t=none:=by
    unfold UD;rw[hE,jJ5 (fun e=>by rw[eok]at e;cases e.1)]
   have HR:=G hr;rw[eok]at k9;clear Ht Gu hp GQ FIN hE hr m2 m3 m4 m5;go_wp2_with (first|go_quiet (fail)|fail)
   all_goals
    go_ret2
    rw[HR.out];exact⟨rfl,(KPW.out.mono (fun _ _ e=>e.elim)).trans (HJ.out.drewN _).kp (fun b _ e=>by have h2:wb.heap.size<=b:=e;show w.heap.size<=b;omega)⟩
  |true=>
   rw[eok]at k9;by_cases hlt:j<t.count
   ·have b1:(j:Int)<(t.count:Int):=(by omega);have b4:IntKind.i64.wrap ((j:Int)+1)=(j:Int)+1:=jQ3 _ (by omega);obtain⟨n2,Fu⟩:∃n2,t.count-j=n2+1:=⟨t.count-j-1,by omega⟩;rw[Fu,JM,jJ6 eok]at Ht;have Wa:t.count-(j+1)=n2:=(by omega);clear FIN k8 m6 hlt;have Tz:=G (show yd (t.attrs.map Atr.order) xa j=yd (t.attrs.map Atr.order) xa j from rfl);obtain⟨bA,Pe⟩:∃x,x=yd (t.attrs.map Atr.order) xa j:=⟨_,rfl⟩;go_upto_region 11 with fail;go_cut [71]from 46 to 164 (fun v wx=>v=.bool bA/\wx=wr)
    case first=>
     by_cases Sf:xa<t.attrs.length
     ·have y1:(xa:Int)<(t.attrs.length:Int):=(by omega);have y1d:decide ((xa:Int)<(t.attrs.length:Int))=true:=jK5 y1;have y2:(0:Int)<=(xa:Int):=(by omega);have y3:(xa:Int).toNat=xa:=(by omega);have ha:=jJ9 Sf;obtain⟨b,o,hA,hc⟩:=jP (C:=atC) (fun x=>rfl) (HJ.out.rdw (by decide) Ly.out.rA) ha Sf;rw[QV Atr.order ha]at Pe;generalize t.attrs[xa]=x at*;have y4:wr.cell? ⟨b,o+xa*7+2,none⟩=some (.int .i64 x.order):=hc 2 _ rfl;rw[hA]at m2;have y5:(x.order==(j:Int))=bA:=by rw[Pe];exact Bool.eq_iff_iff.2 (by rw[beq_iff_eq,decide_eq_true_eq])
      clear hc ha hA Pe;go_wp2_with fail;go_meet;exact⟨rfl,rfl⟩
     ·have y1d:decide ((xa:Int)<(t.attrs.length:Int))=false:=jK3 (by omega);have y1:¬(xa:Int)<(t.attrs.length:Int):=(by omega);rw[Zi Atr.order Sf]at Pe;subst Pe;go_wp2_with fail;go_meet;exact⟨rfl,rfl⟩
    case rest=>
     obtain⟨rfl,L2⟩:=hcut;obtain rfl:=L2.symm;cases bA with
     |true=>
      have EBA:=G Pe.symm;clear Pe;obtain⟨a,ha,Rs⟩:=QU Atr.order EBA.out;have Sf:=(jM5 ha).1;obtain⟨b,o,hA,hc⟩:=jP (C:=atC) (fun x=>rfl) (HJ.out.rdw (by decide) Ly.out.rA) ha Sf;have FB:zQ t ⟨xa,xs,xm,xp⟩ j=some (1,xa):=by
       unfold zQ;simp only[EBA.out,if_true]
      rw[FB]at Ht;simp only at Ht;have GM:qg t (1,xa) st1=QK t.nodes a st1:=by unfold qg;simp only[if_true,ha]
      rw[GM]at Ht;obtain⟨st2,e2⟩:∃y,y=QK t.nodes a st1:=⟨_,rfl⟩;rw[<-e2]at Ht;have q4:(st2.b++[10]).length<=jN:=jL4 (by have:=zE t n2 (j+1) (Mg9.go ⟨xa,xs,xm,xp⟩ 1) st2.nl;rw[<-Ht]at this;exact this) (show(xX t).b.length<=jN by have:=QEnd.out;omega);have q3:st2.b.length<=jN:=jL4 (by rw[jJ4];omega) q4;have HC:=G (jAS wb wr C4.out MY.out t s Sp.out st1 Gu Bj cj hp a (by rw[e2]at q3;exact q3));rw[<-e2]at HC;have UN:=G (show st2.nl.Ub from Xh (by rw[e2,<-GM];exact Zf _ _ Gu));have G5:=G Ht;have QL:=G (vJ q4);have Mr:=G (show st2.b.map bv++[bv 10]=(st2.b++[10]).map bv by rw[jN3 (l₂:=[10])];rfl);obtain⟨name,at_,order,opt,kind,dflt,when_⟩:=a;have y0:wr.cell? ⟨b,o+xa*7,none⟩=some (.string name):=hc 0 _ rfl;have y1:wr.cell? ⟨b,o+xa*7+1,none⟩=some (.int .i64 at_):=hc 1 _ rfl;have y2:wr.cell? ⟨b,o+xa*7+2,none⟩=some (.int .i64 order):=hc 2 _ rfl;have y3:wr.cell? ⟨b,o+xa*7+3,none⟩=some (.int .i64 kind):=hc 3 _ rfl;have y4:wr.cell? ⟨b,o+xa*7+4,none⟩=some (.bool opt):=hc 4 _ rfl;have y5:wr.cell? ⟨b,o+xa*7+5,none⟩=some (.int .i64 dflt):=hc 5 _ rfl;have y6:wr.cell? ⟨b,o+xa*7+6,none⟩=some (.int .i64 when_):=hc 6 _ rfl;have z1:(0:Int)<=(xa:Int):=(by omega);have z2:(xa:Int).toNat=xa:=(by omega);have z3:(xa:Int)<(t.attrs.length:Int):=(by omega);have z4:IntKind.i64.wrap ((xa:Int)+1)=(xa:Int)+1:=jQ3 _ (by omega);rw[hA]at m2;rw[hJ]at HC;clear Ht e2 hc ha Rs hA FB GM hp GQ Gu q4 q3 Sf Tz;unfold atC iv at*;go_wp2_with (first|(at_builtin;refine jE _ rfl (.tmp 160) (.tmp 161) 33 rfl wb.heap.size 5 i0 (.int .u8 0) 1 1 underlying33 hi Fm Fi Fl rfl (by decide) (.slice B5 st2.b.length c5') st2.b.length (st2.b.map bv) rfl (jV H5.out.own ((jQ0 NoX _).alloc _) (fun _ _ e=>e)) _ 1 1 [bv 10] rfl (Rd.one_new _ _ _) (ji _ rfl) QL.out.2.1 QL.out.2.2.1 (jL4 H5.out.kp.size ((jQ0 NoX _).alloc _).size) ?_;intro BX cX wX Hi hgrow Fc;rw[jC]at hgrow;rw[Mr.out,QL.out.2.2.2]at Hi;have GD:=H5.out.grow ((jQ0 NoX _).alloc _) hgrow Hi;have FR:wX.cell? ⟨wb.heap.size,10,none⟩=some (.slice B5 st2.b.length c5'):=GD.1.at_ 10 rfl;have FW:=GD.1.frozen 10;rw[hJ]at FR FW;have HN:=G GD.2;clear Hi hgrow Fc GD)|(go_at_call 57;refine HC.out.mono ?_;rintro e w5 ⟨rfl,B5,c5',hX,hf⟩;have H5:=G hX;have TX0:=G (hf.blk _ _ _ (by decide) (by decide) TJ.out);have k10:=hX.c10;rw[hJ]at k10;clear hX hf)|fail);obtain⟨Pg,LN⟩:=HN.out;have Mq:=G (show Rw9 wb t s st2.nl BX cX _ from Pg);rw[hJ,<-QL.out.2.2.2]at Mq;have TNl:=G (LN.blk _ _ _ (by decide) (by decide) TX0.out);rw[hJ,<-QL.out.2.2.2]at TNl;go_roundw
      case rel=>exact⟨j+1,⟨xa+1,xs,xm,xp⟩,st2.nl,BX,cX,by omega,by simp,by simp,by simp,by simp,by rw[show((j+1:Nat):Int)=(j:Int)+1 by omega],by rw[Wa];exact G5.out,UN.out,⟨Nat.succ_le_succ ca,Nat.le_succ_of_le cs,Nat.le_succ_of_le cm,Nat.le_succ_of_le cp⟩,Mq.out,TNl.out⟩
      case measure=>simp only[intOf];omega
     |false=>
      have EBA:=G Pe.symm;clear Pe;have Z7:=G (show yd (t.stages.map Stg.order) xs j=yd (t.stages.map Stg.order) xs j from rfl);obtain⟨bG,Pd⟩:∃x,x=yd (t.stages.map Stg.order) xs j:=⟨_,rfl⟩;go_upto_region 14 with fail;go_cut [95]from 46 to 164 (fun v wx=>v=.bool bG/\wx=wr)
      case first=>
       by_cases Se:xs<t.stages.length
       ·have y1:(xs:Int)<(t.stages.length:Int):=(by omega);have y1d:decide ((xs:Int)<(t.stages.length:Int))=true:=jK5 y1;have y2:(0:Int)<=(xs:Int):=(by omega);have y3:(xs:Int).toNat=xs:=(by omega);have ha:=jJ9 Se;obtain⟨b,o,hA,hc⟩:=jP (C:=sgC) (fun x=>rfl) (HJ.out.rdw (by decide) Ly.out.rG) ha Se;rw[QV Stg.order ha]at Pd;generalize t.stages[xs]=x at*;have y4:wr.cell? ⟨b,o+xs*7+2,none⟩=some (.int .i64 x.order):=hc 2 _ rfl;rw[hA]at m3;have y5:(x.order==(j:Int))=bG:=by rw[Pd];exact Bool.eq_iff_iff.2 (by rw[beq_iff_eq,decide_eq_true_eq])
        clear hc ha hA Pd;go_wp2_with fail;go_meet;exact⟨rfl,rfl⟩
       ·have y1d:decide ((xs:Int)<(t.stages.length:Int))=false:=jK3 (by omega);have y1:¬(xs:Int)<(t.stages.length:Int):=(by omega);rw[Zi Stg.order Se]at Pd;subst Pd;go_wp2_with fail;go_meet;exact⟨rfl,rfl⟩
      case rest=>
       obtain⟨rfl,L2⟩:=hcut;obtain rfl:=L2.symm;cases bG with
       |true=>
        have EBG:=G Pd.symm;clear Pd;obtain⟨a,ha,Rs⟩:=QU Stg.order EBG.out;have Se:=(jM5 ha).1;obtain⟨b,o,hA,hc⟩:=jP (C:=sgC) (fun x=>rfl) (HJ.out.rdw (by decide) Ly.out.rG) ha Se;have FB:zQ t ⟨xa,xs,xm,xp⟩ j=some (2,xs):=by
         unfold zQ;simp only[EBA.out,EBG.out,if_true,Bool.false_eq_true,if_false]
        rw[FB]at Ht;simp only at Ht;have GM:qg t (2,xs) st1=XO t.nodes a st1:=by unfold qg;simp only[Int.reduceEq,if_true,if_false,ha]
        rw[GM]at Ht;obtain⟨st2,e2⟩:∃y,y=XO t.nodes a st1:=⟨_,rfl⟩;rw[<-e2]at Ht;have q4:(st2.b++[10]).length<=jN:=jL4 (by have:=zE t n2 (j+1) (Mg9.go ⟨xa,xs,xm,xp⟩ 2) st2.nl;rw[<-Ht]at this;exact this) (show(xX t).b.length<=jN by have:=QEnd.out;omega);have q3:st2.b.length<=jN:=jL4 (by rw[jJ4];omega) q4;have HC:=G (XH wb wr C4.out MY.out t s Sp.out st1 Gu Bj cj hp a (by rw[e2]at q3;exact q3));rw[<-e2]at HC;have UN:=G (show st2.nl.Ub from Xh (by rw[e2,<-GM];exact Zf _ _ Gu));have G5:=G Ht;have QL:=G (vJ q4);have Mr:=G (show st2.b.map bv++[bv 10]=(st2.b++[10]).map bv by rw[jN3 (l₂:=[10])];rfl);obtain⟨name,at_,order,in_,inAt,opens,closes⟩:=a;have y0:wr.cell? ⟨b,o+xs*7,none⟩=some (.string name):=hc 0 _ rfl;have y1:wr.cell? ⟨b,o+xs*7+1,none⟩=some (.int .i64 at_):=hc 1 _ rfl;have y2:wr.cell? ⟨b,o+xs*7+2,none⟩=some (.int .i64 order):=hc 2 _ rfl;have y3:wr.cell? ⟨b,o+xs*7+3,none⟩=some (.string in_):=hc 3 _ rfl;have y4:wr.cell? ⟨b,o+xs*7+4,none⟩=some (.int .i64 inAt):=hc 4 _ rfl;have y5:wr.cell? ⟨b,o+xs*7+5,none⟩=some (.int .i64 opens):=hc 5 _ rfl;have y6:wr.cell? ⟨b,o+xs*7+6,none⟩=some (.int .i64 closes):=hc 6 _ rfl;have z1:(0:Int)<=(xs:Int):=(by omega);have z2:(xs:Int).toNat=xs:=(by omega);have z3:(xs:Int)<(t.stages.length:Int):=(by omega);have z4:IntKind.i64.wrap ((xs:Int)+1)=(xs:Int)+1:=jQ3 _ (by omega);rw[hA]at m3;rw[hJ]at HC;clear Ht e2 hc ha Rs hA FB GM hp GQ Gu q4 q3 Se Tz Z7;unfold sgC iv at*;go_wp2_with (first|(at_builtin;refine jE _ rfl (.tmp 160) (.tmp 161) 33 rfl wb.heap.size 5 i0 (.int .u8 0) 1 1 underlying33 hi Fm Fi Fl rfl (by decide) (.slice B5 st2.b.length c5') st2.b.length (st2.b.map bv) rfl (jV H5.out.own ((jQ0 NoX _).alloc _) (fun _ _ e=>e)) _ 1 1 [bv 10] rfl (Rd.one_new _ _ _) (ji _ rfl) QL.out.2.1 QL.out.2.2.1 (jL4 H5.out.kp.size ((jQ0 NoX _).alloc _).size) ?_;intro BX cX wX Hi hgrow Fc;rw[jC]at hgrow;rw[Mr.out,QL.out.2.2.2]at Hi;have GD:=H5.out.grow ((jQ0 NoX _).alloc _) hgrow Hi;have FR:wX.cell? ⟨wb.heap.size,10,none⟩=some (.slice B5 st2.b.length c5'):=GD.1.at_ 10 rfl;have FW:=GD.1.frozen 10;rw[hJ]at FR FW;have HN:=G GD.2;clear Hi hgrow Fc GD)|(go_at_call 58;refine HC.out.mono ?_;rintro e w5 ⟨rfl,B5,c5',hX,hf⟩;have H5:=G hX;have TX0:=G (hf.blk _ _ _ (by decide) (by decide) TJ.out);have k10:=hX.c10;rw[hJ]at k10;clear hX hf)|fail);obtain⟨Pg,LN⟩:=HN.out;have Mq:=G (show Rw9 wb t s st2.nl BX cX _ from Pg);rw[hJ,<-QL.out.2.2.2]at Mq;have TNl:=G (LN.blk _ _ _ (by decide) (by decide) TX0.out);rw[hJ,<-QL.out.2.2.2]at TNl;go_roundw
        case rel=>exact⟨j+1,⟨xa,xs+1,xm,xp⟩,st2.nl,BX,cX,by omega,by simp,by simp,by simp,by simp,by rw[show((j+1:Nat):Int)=(j:Int)+1 by omega],by rw[Wa];exact G5.out,UN.out,⟨Nat.le_succ_of_le ca,Nat.succ_le_succ cs,Nat.le_succ_of_le cm,Nat.le_succ_of_le cp⟩,Mq.out,TNl.out⟩
        case measure=>simp only[intOf];omega
       |false=>
        have EBG:=G Pd.symm;clear Pd;have Ds:=G (show yd (t.miles.map Mil.order) xm j=yd (t.miles.map Mil.order) xm j from rfl);obtain⟨bM,Pc⟩:∃x,x=yd (t.miles.map Mil.order) xm j:=⟨_,rfl⟩;go_upto_region 17 with fail;go_cut [119]from 46 to 164 (fun v wx=>v=.bool bM/\wx=wr)
        case first=>
         by_cases Sd:xm<t.miles.length
         ·have y1:(xm:Int)<(t.miles.length:Int):=(by omega);have y1d:decide ((xm:Int)<(t.miles.length:Int))=true:=jK5 y1;have y2:(0:Int)<=(xm:Int):=(by omega);have y3:(xm:Int).toNat=xm:=(by omega);have ha:=jJ9 Sd;obtain⟨b,o,hA,hc⟩:=jP (C:=miC) (fun x=>rfl) (HJ.out.rdw (by decide) Ly.out.rM) ha Sd;rw[QV Mil.order ha]at Pc;generalize t.miles[xm]=x at*;have y4:wr.cell? ⟨b,o+xm*6+2,none⟩=some (.int .i64 x.order):=hc 2 _ rfl;rw[hA]at m4;have y5:(x.order==(j:Int))=bM:=by rw[Pc];exact Bool.eq_iff_iff.2 (by rw[beq_iff_eq,decide_eq_true_eq])
          clear hc ha hA Pc;go_wp2_with fail;go_meet;exact⟨rfl,rfl⟩
         ·have y1d:decide ((xm:Int)<(t.miles.length:Int))=false:=jK3 (by omega);have y1:¬(xm:Int)<(t.miles.length:Int):=(by omega);rw[Zi Mil.order Sd]at Pc;subst Pc;go_wp2_with fail;go_meet;exact⟨rfl,rfl⟩
        case rest=>
         obtain⟨rfl,L2⟩:=hcut;obtain rfl:=L2.symm;cases bM with
         |true=>
          have EBM:=G Pc.symm;clear Pc;obtain⟨a,ha,Rs⟩:=QU Mil.order EBM.out;have Sd:=(jM5 ha).1;obtain⟨b,o,hA,hc⟩:=jP (C:=miC) (fun x=>rfl) (HJ.out.rdw (by decide) Ly.out.rM) ha Sd;have FB:zQ t ⟨xa,xs,xm,xp⟩ j=some (3,xm):=by
           unfold zQ;simp only[EBA.out,EBG.out,EBM.out,if_true,Bool.false_eq_true,if_false]
          rw[FB]at Ht;simp only at Ht;have GM:qg t (3,xm) st1=XN t.nodes a st1:=by unfold qg;simp only[Int.reduceEq,if_true,if_false,ha]
          rw[GM]at Ht;obtain⟨st2,e2⟩:∃y,y=XN t.nodes a st1:=⟨_,rfl⟩;rw[<-e2]at Ht;have q4:(st2.b++[10]).length<=jN:=jL4 (by have:=zE t n2 (j+1) (Mg9.go ⟨xa,xs,xm,xp⟩ 3) st2.nl;rw[<-Ht]at this;exact this) (show(xX t).b.length<=jN by have:=QEnd.out;omega);have q3:st2.b.length<=jN:=jL4 (by rw[jJ4];omega) q4;have HC:=G (jAJ wb wr C4.out MY.out t s Sp.out st1 Gu Bj cj hp a (by rw[e2]at q3;exact q3));rw[<-e2]at HC;have UN:=G (show st2.nl.Ub from Xh (by rw[e2,<-GM];exact Zf _ _ Gu));have G5:=G Ht;have QL:=G (vJ q4);have Mr:=G (show st2.b.map bv++[bv 10]=(st2.b++[10]).map bv by rw[jN3 (l₂:=[10])];rfl);obtain⟨name,at_,order,in_,inAt,when_⟩:=a;have y0:wr.cell? ⟨b,o+xm*6,none⟩=some (.string name):=hc 0 _ rfl;have y1:wr.cell? ⟨b,o+xm*6+1,none⟩=some (.int .i64 at_):=hc 1 _ rfl;have y2:wr.cell? ⟨b,o+xm*6+2,none⟩=some (.int .i64 order):=hc 2 _ rfl;have y3:wr.cell? ⟨b,o+xm*6+3,none⟩=some (.string in_):=hc 3 _ rfl;have y4:wr.cell? ⟨b,o+xm*6+4,none⟩=some (.int .i64 inAt):=hc 4 _ rfl;have y5:wr.cell? ⟨b,o+xm*6+5,none⟩=some (.int .i64 when_):=hc 5 _ rfl;have z1:(0:Int)<=(xm:Int):=(by omega);have z2:(xm:Int).toNat=xm:=(by omega);have z3:(xm:Int)<(t.miles.length:Int):=(by omega);have z4:IntKind.i64.wrap ((xm:Int)+1)=(xm:Int)+1:=jQ3 _ (by omega);rw[hA]at m4;rw[hJ]at HC;clear Ht e2 hc ha Rs hA FB GM hp GQ Gu q4 q3 Sd Tz Z7 Ds;unfold miC iv at*;go_wp2_with (first|(at_builtin;refine jE _ rfl (.tmp 160) (.tmp 161) 33 rfl wb.heap.size 5 i0 (.int .u8 0) 1 1 underlying33 hi Fm Fi Fl rfl (by decide) (.slice B5 st2.b.length c5') st2.b.length (st2.b.map bv) rfl (jV H5.out.own ((jQ0 NoX _).alloc _) (fun _ _ e=>e)) _ 1 1 [bv 10] rfl (Rd.one_new _ _ _) (ji _ rfl) QL.out.2.1 QL.out.2.2.1 (jL4 H5.out.kp.size ((jQ0 NoX _).alloc _).size) ?_;intro BX cX wX Hi hgrow Fc;rw[jC]at hgrow;rw[Mr.out,QL.out.2.2.2]at Hi;have GD:=H5.out.grow ((jQ0 NoX _).alloc _) hgrow Hi;have FR:wX.cell? ⟨wb.heap.size,10,none⟩=some (.slice B5 st2.b.length c5'):=GD.1.at_ 10 rfl;have FW:=GD.1.frozen 10;rw[hJ]at FR FW;have HN:=G GD.2;clear Hi hgrow Fc GD)|(go_at_call 59;refine HC.out.mono ?_;rintro e w5 ⟨rfl,B5,c5',hX,hf⟩;have H5:=G hX;have TX0:=G (hf.blk _ _ _ (by decide) (by decide) TJ.out);have k10:=hX.c10;rw[hJ]at k10;clear hX hf)|fail);obtain⟨Pg,LN⟩:=HN.out;have Mq:=G (show Rw9 wb t s st2.nl BX cX _ from Pg);rw[hJ,<-QL.out.2.2.2]at Mq;have TNl:=G (LN.blk _ _ _ (by decide) (by decide) TX0.out);rw[hJ,<-QL.out.2.2.2]at TNl;go_roundw
          case rel=>exact⟨j+1,⟨xa,xs,xm+1,xp⟩,st2.nl,BX,cX,by omega,by simp,by simp,by simp,by simp,by rw[show((j+1:Nat):Int)=(j:Int)+1 by omega],by rw[Wa];exact G5.out,UN.out,⟨Nat.le_succ_of_le ca,Nat.le_succ_of_le cs,Nat.succ_le_succ cm,Nat.le_succ_of_le cp⟩,Mq.out,TNl.out⟩
          case measure=>simp only[intOf];omega
         |false=>
          have EBM:=G Pc.symm;clear Pc;have EL:=G (show yd (t.steps.map Stp.order) xp j=yd (t.steps.map Stp.order) xp j from rfl);obtain⟨bS,Pb⟩:∃x,x=yd (t.steps.map Stp.order) xp j:=⟨_,rfl⟩;go_upto_region 20 with fail;go_cut [143]from 46 to 164 (fun v wx=>v=.bool bS/\wx=wr)
          case first=>
           by_cases Sb:xp<t.steps.length
           ·have y1:(xp:Int)<(t.steps.length:Int):=(by omega);have y1d:decide ((xp:Int)<(t.steps.length:Int))=true:=jK5 y1;have y2:(0:Int)<=(xp:Int):=(by omega);have y3:(xp:Int).toNat=xp:=(by omega);have ha:=jJ9 Sb;obtain⟨x,V0,LJ,TR⟩:=VY Ly.out.pe ha;obtain⟨b,o,hA,hc⟩:=jP (C:=stC) (fun x=>rfl) (HJ.out.rdw (by decide) Ly.out.rP) V0 Sb;rw[QV Stp.order ha,<-TR]at Pb;have y4:wr.cell? ⟨b,o+xp*8+2,none⟩=some (.int .i64 x.s.order):=hc 2 _ rfl;rw[hA]at m5;have y5:(x.s.order==(j:Int))=bS:=by rw[Pb];exact Bool.eq_iff_iff.2 (by rw[beq_iff_eq,decide_eq_true_eq])
            clear hc ha hA Pb V0 LJ TR;go_wp2_with fail;go_meet;exact⟨rfl,rfl⟩
           ·have y1d:decide ((xp:Int)<(t.steps.length:Int))=false:=jK3 (by omega);have y1:¬(xp:Int)<(t.steps.length:Int):=(by omega);rw[Zi Stp.order Sb]at Pb;subst Pb;go_wp2_with fail;go_meet;exact⟨rfl,rfl⟩
          case rest=>
           obtain⟨rfl,L2⟩:=hcut;obtain rfl:=L2.symm;cases bS with
           |true=>
            have EBS:=G Pb.symm;clear Pb;obtain⟨a,ha,Rs⟩:=QU Stp.order EBS.out;have Sb:=(jM5 ha).1;obtain⟨x,V0,LJ,TR⟩:=VY Ly.out.pe ha;subst TR;obtain⟨b,o,hA,hc⟩:=jP (C:=stC) (fun x=>rfl) (HJ.out.rdw (by decide) Ly.out.rP) V0 Sb;obtain⟨⟨Mb,Mf⟩,Wn,Fh⟩:=Ly.out.po x LJ;have FB:zQ t ⟨xa,xs,xm,xp⟩ j=some (4,xp):=by
             unfold zQ;simp only[EBA.out,EBG.out,EBM.out,EBS.out,if_true,Bool.false_eq_true,if_false]
            rw[FB]at Ht;simp only at Ht;have GM:qg t (4,xp) st1=QJ t.nodes x.s st1:=by unfold qg;simp only[Int.reduceEq,if_false,ha]
            rw[GM]at Ht;obtain⟨st2,e2⟩:∃y,y=QJ t.nodes x.s st1:=⟨_,rfl⟩;rw[<-e2]at Ht;have q4:(st2.b++[10]).length<=jN:=jL4 (by have:=zE t n2 (j+1) (Mg9.go ⟨xa,xs,xm,xp⟩ 4) st2.nl;rw[<-Ht]at this;exact this) (show(xX t).b.length<=jN by have:=QEnd.out;omega);have q3:st2.b.length<=jN:=jL4 (by rw[jJ4];omega) q4;have HC:=G (jAH wb wr C4.out MY.out t s Sp.out st1 Gu Bj cj hp x Mb Mf Wn Fh (by rw[e2]at q3;exact q3));rw[<-e2]at HC;have UN:=G (show st2.nl.Ub from Xh (by rw[e2,<-GM];exact Zf _ _ Gu));have G5:=G Ht;have QL:=G (vJ q4);have Mr:=G (show st2.b.map bv++[bv 10]=(st2.b++[10]).map bv by rw[jN3 (l₂:=[10])];rfl);obtain⟨⟨name,at_,order,params,in_,inAt,when_,effects⟩,pA,pc,eA,ec⟩:=x;have y0:wr.cell? ⟨b,o+xp*8,none⟩=some (.string name):=hc 0 _ rfl;have y1:wr.cell? ⟨b,o+xp*8+1,none⟩=some (.int .i64 at_):=hc 1 _ rfl;have y2:wr.cell? ⟨b,o+xp*8+2,none⟩=some (.int .i64 order):=hc 2 _ rfl;have y3:wr.cell? ⟨b,o+xp*8+3,none⟩=some (.slice pA params.length pc):=hc 3 _ rfl;have y4:wr.cell? ⟨b,o+xp*8+4,none⟩=some (.string in_):=hc 4 _ rfl;have y5:wr.cell? ⟨b,o+xp*8+5,none⟩=some (.int .i64 inAt):=hc 5 _ rfl;have y6:wr.cell? ⟨b,o+xp*8+6,none⟩=some (.int .i64 when_):=hc 6 _ rfl;have y7:wr.cell? ⟨b,o+xp*8+7,none⟩=some (.slice eA effects.length ec):=hc 7 _ rfl;have z1:(0:Int)<=(xp:Int):=(by omega);have z2:(xp:Int).toNat=xp:=(by omega);have z3:(xp:Int)<(t.steps.length:Int):=(by omega);have z4:IntKind.i64.wrap ((xp:Int)+1)=(xp:Int)+1:=jQ3 _ (by omega);rw[hA]at m5;rw[hJ]at HC;clear Ht e2 hc ha Rs hA FB GM hp GQ Gu q4 q3 V0 LJ Mb Mf Wn Fh Sb Tz Z7 Ds EL;unfold stC iv at*;go_wp2_with (first|(at_builtin;refine jE _ rfl (.tmp 160) (.tmp 161) 33 rfl wb.heap.size 5 i0 (.int .u8 0) 1 1 underlying33 hi Fm Fi Fl rfl (by decide) (.slice B5 st2.b.length c5') st2.b.length (st2.b.map bv) rfl (jV H5.out.own ((jQ0 NoX _).alloc _) (fun _ _ e=>e)) _ 1 1 [bv 10] rfl (Rd.one_new _ _ _) (ji _ rfl) QL.out.2.1 QL.out.2.2.1 (jL4 H5.out.kp.size ((jQ0 NoX _).alloc _).size) ?_;intro BX cX wX Hi hgrow Fc;rw[jC]at hgrow;rw[Mr.out,QL.out.2.2.2]at Hi;have GD:=H5.out.grow ((jQ0 NoX _).alloc _) hgrow Hi;have FR:wX.cell? ⟨wb.heap.size,10,none⟩=some (.slice B5 st2.b.length c5'):=GD.1.at_ 10 rfl;have FW:=GD.1.frozen 10;rw[hJ]at FR FW;have HN:=G GD.2;clear Hi hgrow Fc GD)|(go_at_call 60;refine HC.out.mono ?_;rintro e w5 ⟨rfl,B5,c5',hX,hf⟩;have H5:=G hX;have TX0:=G (hf.blk _ _ _ (by decide) (by decide) TJ.out);have k10:=hX.c10;rw[hJ]at k10;clear hX hf)|fail);obtain⟨Pg,LN⟩:=HN.out;have Mq:=G (show Rw9 wb t s st2.nl BX cX _ from Pg);rw[hJ,<-QL.out.2.2.2]at Mq;have TNl:=G (LN.blk _ _ _ (by decide) (by decide) TX0.out);rw[hJ,<-QL.out.2.2.2]at TNl;go_roundw
            case rel=>exact⟨j+1,⟨xa,xs,xm,xp+1⟩,st2.nl,BX,cX,by omega,by simp,by simp,by simp,by simp,by rw[show((j+1:Nat):Int)=(j:Int)+1 by omega],by rw[Wa];exact G5.out,UN.out,⟨Nat.le_succ_of_le ca,Nat.le_succ_of_le cs,Nat.le_succ_of_le cm,Nat.succ_le_succ cp⟩,Mq.out,TNl.out⟩
            case measure=>simp only[intOf];omega
           |false=>
            have EBS:=G Pb.symm;clear Pb;have FB:zQ t ⟨xa,xs,xm,xp⟩ j=none:=by
             unfold zQ;simp only[EBA.out,EBG.out,EBM.out,EBS.out,Bool.false_eq_true,if_false]
            rw[FB]at Ht;simp only at Ht;obtain⟨st2,e2⟩:∃y,y=st1.bad:=⟨_,rfl⟩;rw[<-e2]at Ht;have q4:(st2.b++[10]).length<=jN:=jL4 (by have:=zE t n2 (j+1) ⟨xa,xs,xm,xp⟩ st2.nl;rw[<-Ht]at this;exact this) (show(xX t).b.length<=jN by have:=QEnd.out;omega);have UN:=G (show st2.nl.Ub from Xh (by rw[e2];exact Gu));have G5:=G Ht;have QL:=G (vJ q4);have Mr:=G (show st2.b.map bv++[bv 10]=(st2.b++[10]).map bv by rw[jN3 (l₂:=[10])];rfl);have HV:=G hp.setBad;rw[<-e2]at HV;have H5:=G HV.out.1;have TX:=G (HV.out.2.blk _ _ _ (by decide) (by decide) TJ.out);have k10:(wr.setCell ⟨wb.heap.size,9,none⟩ (.bool false)).cell? ⟨wb.heap.size,10,none⟩=some (.slice Bj st2.b.length cj):=H5.out.c10;have zz9:=hp.z 9;rw[hJ]at k10 zz9;rw[hJ]at H5 TX;clear Ht e2 FB hp GQ Gu q4 HV Tz Z7 Ds EL;go_wp2_with (first|(at_builtin;refine jE _ rfl (.tmp 160) (.tmp 161) 33 rfl wb.heap.size 5 i0 (.int .u8 0) 1 1 underlying33 hi Fm Fi Fl rfl (by decide) (.slice Bj st2.b.length cj) st2.b.length (st2.b.map bv) rfl (jV H5.out.own ((jQ0 NoX _).alloc _) (fun _ _ e=>e)) _ 1 1 [bv 10] rfl (jAR _ _ _ (by simp[World.setCell])) (ji _ rfl) QL.out.2.1 QL.out.2.2.1 (jL4 H5.out.kp.size ((jQ0 NoX _).alloc _).size) ?_;intro BX cX wX Hi hgrow Fc;rw[jC]at hgrow;rw[Mr.out,QL.out.2.2.2]at Hi;have GD:=H5.out.grow ((jQ0 NoX _).alloc _) hgrow Hi;have FR:wX.cell? ⟨wb.heap.size,10,none⟩=some (.slice Bj st2.b.length cj):=GD.1.at_ 10 rfl;have FW:=GD.1.frozen 10;rw[hJ]at FR FW;have HN:=G GD.2;clear Hi hgrow Fc GD)|fail);obtain⟨Pg,LN⟩:=HN.out;have Mq:=G (show Rw9 wb t s st2.nl BX cX _ from Pg);rw[hJ,<-QL.out.2.2.2]at Mq;have TNl:=G (LN.blk _ _ _ (by decide) (by decide) TX.out);rw[hJ,<-QL.out.2.2.2]at TNl;go_roundw
            case rel=>exact⟨j+1,⟨xa,xs,xm,xp⟩,st2.nl,BX,cX,by omega,by simp,by simp,by simp,by simp,by rw[show((j+1:Nat):Int)=(j:Int)+1 by omega],by rw[Wa];exact G5.out,UN.out,⟨Nat.le_succ_of_le ca,Nat.le_succ_of_le cs,Nat.le_succ_of_le cm,Nat.le_succ_of_le cp⟩,Mq.out,TNl.out⟩
            case measure=>simp only[intOf];omega
   ·obtain rfl:j=t.count:=(by omega);have hE:=FIN (fun h=>absurd h hlt);have b1:¬(t.count:Int)<(t.count:Int):=(by omega);by_cases hus:st1.used=t.nodes.length
    ·have hr:UD t=some (st1.b++[125,10]):=by
      unfold UD;rw[hE,jJ6 ⟨eok,hus⟩]
     have mu:((st1.used:Int) !=(t.nodes.length:Int))=false:=by rw[bne,beq_iff_eq.2 (show(st1.used:Int)=(t.nodes.length:Int)by omega)];rfl
     have HR:=G hr;have QZ:=G (show st1.b.length+2<=jN from by have:=QEnd.out;rw[hE]at this;exact this);have J63:=G (show st1.b.length+2<=maxLen from jL4 QZ.out (by unfold jN maxLen;omega));have J47:=G (show(st1.b.length+2)*1<=140737488355328 from by have:=QZ.out;unfold jN at this;omega);have EO:=G (show st1.b.length+2=(st1.b++[125,10]).length by rw[jJ4];rfl);have I6:=G (show st1.b.map bv++[bv 125,bv 10]=(st1.b++[125,10]).map bv by rw[jN3];rfl);clear Ht Gu hp GQ FIN hE hr m2 m3 m4 m5 hus hlt;go_upto_region 25 with fail;go_quiet (fail);have HD:=G (HJ.out.drewN nq);clear k9 k8 m6 TJ;generalize wr.drewN nq=Wd at*;have k10:=HD.out.c10;rw[hJ]at k10;go_wp2_with (first|(at_builtin;refine jE _ rfl (.tmp 183) (.tmp 184) 33 rfl wb.heap.size 5 i0 (.int .u8 0) 1 1 underlying33 hi Fm Fi Fl rfl (by decide) (.slice Bj st1.b.length cj) st1.b.length (st1.b.map bv) rfl (jV HD.out.own ((jQ0 NoX _).alloc _) (fun _ _ e=>e)) _ 2 2 [bv 125,bv 10] rfl (vV _ _ [125,10]) UK J63.out J47.out (jL4 HD.out.kp.size ((jQ0 NoX _).alloc _).size) ?_;intro BY cY wY Hi hgrow Fc;rw[jC]at hgrow;rw[I6.out,EO.out]at Hi;have No:=G Hi;have Da:=G hgrow;clear Hi hgrow Fc)|fail)
     go_ret2
     rw[HR.out];have hU:Kp (fun b=>Bj.map (·.block)=some b) Wd wY:=Kp.grown (((jQ0 NoX Wd).alloc _).mono (fun _ _ e=>e.elim)) Da.out (fun _ e _=>e);refine⟨BY,cY,by rw[<-EO.out];rfl,by have h:=No.out;rw[hJ]at h;exact h,((KPW.out.mono (fun _ _ e=>e.elim)).trans HD.out.kp (fun b _ e=> ?_)).trans hU (fun b _ e=> ?_)⟩
     ·have h2:wb.heap.size<=b:=e;show w.heap.size<=b;omega
     ·have h2:=(JL HD.out.own e).1;show w.heap.size<=b;omega
    ·have hr:UD t=none:=by
      unfold UD;rw[hE,jJ5 (fun e=>hus e.2)]
     have mu:((st1.used:Int) !=(t.nodes.length:Int))=true:=by rw[bne,jM3 (show(st1.used:Int)≠(t.nodes.length:Int)by omega)];rfl
     have HR:=G hr;clear Ht Gu hp GQ FIN hE hr m2 m3 m4 m5 hus hlt;go_wp2_with (first|go_quiet (fail)|fail)
     go_ret2
     rw[HR.out];exact⟨rfl,(KPW.out.mono (fun _ _ e=>e.elim)).trans (HJ.out.drewN _).kp (fun b _ e=>by have h2:wb.heap.size<=b:=e;show w.heap.size<=b;omega)⟩
end Go.Proofs.YtmmjcbbogokmfaaGreatDoor

import Derived.Test.YtifbhcfdealfaaaGreatDoorMl19
import Derived.StillTailTactics
set_option maxRecDepth 100000
set_option maxHeartbeats 25600000
namespace Go.Proofs.YtifbhcfdealfaaaGreatDoor
open Go.Proofs.Tryz
open Go.RowKit
theorem Tryz.mixed:prog.follows .mixedOrders=true:=by kernel_rfl
def BdS.ex(b:BdS)(A:OA)(c:Nat)(l:List Use):BdS:={b with xA:=A,xc:=c,all:=l}
structure ExS(W:World)(g:Nat)(t:Tre)(s:Sl)(b:BdS)(S:UseS)(wr:World):Prop where
 us:∃A c,UsW W.heap.size wr g W.heap.size (W.heap.size+1) t s (b.ex A c S.1) S.2
 kp:Kp (fun k=>W.heap.size<=k\/k=g) W wr
section
variable{W wr w1:World}{g:Nat}{t:Tre}{s:Sl}{b:BdS}{S:UseS}
theorem ExS.old(h:ExS W g t s b S wr)(ho:Old wr w1):ExS W g t s b S w1:=by
 obtain⟨A,c,hu⟩:=h.us;exact⟨⟨A,c,hu.old ho⟩,h.kp.old ho⟩
theorem ExS.bx(h:ExS W g t s b S wr):∃A c,Bx wr g t s (b.ex A c S.1):=by
 obtain⟨A,c,hu⟩:=h.us;exact⟨A,c,hu.bx⟩
theorem ExS.c(h:ExS W g t s b S wr):wr.cell? ⟨g,2,none⟩=some (.slice s.aA t.attrs.length s.ac)/\wr.cell? ⟨g,3,none⟩=some (.slice s.gA t.stages.length s.gc)/\wr.cell? ⟨g,4,none⟩=some (.slice s.mA t.miles.length s.mc)/\wr.cell? ⟨g,5,none⟩=some (.slice s.pA t.steps.length s.pc)/\
  wr.cell? ⟨W.heap.size,0,none⟩=some (.pointer (some ⟨g,0,none⟩))/\g<wr.heap.size/\W.heap.size<wr.heap.size/\W.heap.size+1<wr.heap.size:=by
 obtain⟨A,c,hu⟩:=h.us;exact⟨Blk.at_ hu.bx 2 rfl,Blk.at_ hu.bx 3 rfl,Blk.at_ hu.bx 4 rfl,Blk.at_ hu.bx 5 rfl,hu.c0.at_ 0 rfl,Blk.lt hu.bx,hu.c0.lt,hu.c1.lt⟩
theorem ExS.add(h:ExS W g t s b S wr)(hl:S.1.length<=2000000000)(root ahead step lays:Int)(hr:root<=2000000000):
  Calls prog 172 #[iv root,iv ahead,iv step,iv lays,.pointer (some ⟨W.heap.size,0,none⟩),.pointer (some ⟨W.heap.size+1,0,none⟩)] wr fun e w' =>e=.returned (.tuple #[])/\ExS W g t s b (Jr root ahead step lays S) w' /\
   ∀(lb:Nat) (T:TypeId) (cs:Array Value),Blk wr lb T cs->T≠138->T≠3->256≠T->Blk w' lb T cs:=by
 obtain⟨A,c,hu⟩:=h.us;refine(jDp W.heap.size wr g W.heap.size (W.heap.size+1) t s (b.ex A c S.1) S.2 hu hl root ahead step lays hr).mono fun e w' ⟨he,A1,c1,u1,k1⟩=> ?_;refine⟨he,⟨⟨A1,c1,u1⟩,h.kp.trans k1 (fun k hk e=> ?_)⟩,fun lb T cs hb n1 n2 n3=>hu.blk hb n1 n2 n3 k1⟩;rcases e with rfl|rfl|e
 ·exact .inr rfl
 ·exact .inl (Nat.le_succ _)
 ·exact .inl (Ko hu.row e).1
end
theorem jBS(W:World)(o:Obj)(T:TypeId)(cs:Array Value):Blk ((W.alloc o).alloc (.cells cs T)) (W.heap.size+1) T cs:=by
 have:=jQ2 (W.alloc o) T cs;rw[show(W.alloc o).heap.size=W.heap.size+1 by simp]at this;exact this
def ExR(W:World)(g:Nat)(t:Tre)(s:Sl)(b:BdS)(l:List Use)(e:Ending)(w' :World):Prop:=
 e=.returned (.tuple #[])/\∃A c,Bx w' g t s (b.ex A c l)/\w'.ownsRow W.heap.size 256 5 (.slice A l.length c) l.length (l.flatMap Jt)/\Kp (fun k=>k=g) W w'
theorem UI(w0 W:World)(t:Tre)(s:Sl)(ns:List MNd)(ps:List MSt)(TF:TrF w0 t s ns ps)(n:Nat)(hn:n<=1000000)(D:List Dk)(wf:WfT n t D)(ho:Old w0 W)(g:Nat)(hg:w0.heap.size<=g)(b:BdS)(h:Bx W g t s (b.ex none 0 []))(m:Nat)(hm:MW W b.b1 m (jW t.nA)):
  Calls prog 118 #[.pointer (some ⟨g,0,none⟩)] W (ExR W g t s b (Zs t D)):=by
 have GI:=((jQ0 NoX W).alloc (.cells #[.pointer (some ⟨g,0,none⟩)] 130)).alloc (.cells #[.int .i64 0] 3);have E0:=G (show ExS W g t s b (VK t D 0) ((W.alloc (.cells #[.pointer (some ⟨g,0,none⟩)] 130)).alloc (.cells #[.int .i64 0] 3))from
  ⟨⟨none,0,⟨Blk.old h GI,(jQ2 W _ _).alloc _,jBS W _ _ _,World.ownsRow_nil _ _ _ _,GI.size⟩⟩,GI.mono (fun _ _ e=>e.elim)⟩)
 have HT:=G (fun wr S (k:ExS W g t s b S wr)=>TF.old (w' :=wr) (ho.trans k.kp (fun q hq e=>e.elim (fun e=>by have:=ho.size;omega) (fun e=>by omega))));have HM:=G (fun wr S (k:ExS W g t s b S wr)=>hm.kp k.kp (fun e=>e.elim (fun e=>by have:=MapW.lt hm;omega) (fun e=>hm.ne h e)));have WF:=G wf;have HL:=G wf.lens;have HN:=G hn;have la:=wf.lA;have lg:=wf.lG;have lm:=wf.lM;have ls:=wf.lS;have g1:IntKind.i64.wrap ((t.attrs.length:Int)+(t.stages.length:Int))=(t.attrs.length:Int)+(t.stages.length:Int):=jQ3 _ (by omega);have g2:IntKind.i64.wrap ((t.attrs.length:Int)+(t.stages.length:Int)+(t.miles.length:Int))=(t.attrs.length:Int)+(t.stages.length:Int)+(t.miles.length:Int):=jQ3 _ (by omega);have g3:IntKind.i64.wrap ((t.attrs.length:Int)+(t.stages.length:Int)+(t.miles.length:Int)+(t.steps.length:Int))=(D.length:Int):=by
  rw[jQ3 _ (by omega),<-HL.out];omega
 have Gq:g<W.heap.size:=Blk.lt h;obtain⟨d2,d3,d4,d5,_,_,_,_⟩:=E0.out.c;have Br:=G (⟨la,lg,lm,ls⟩:t.attrs.length<=1000000/\t.stages.length<=1000000/\t.miles.length<=1000000/\t.steps.length<=1000000);have HD:=G (show D.length<=4000000 by have:=HL.out;omega);clear TF wf ho hg h hm hn la lg lm ls GI;go_enter func118,ntmps118;go_wp2;go_quiet (fail);go_wp2;go_loopw [5,6,7,8,41] (fun a sv m p i wr=>∃k:Nat,k<=D.length/\a=.int .i64 (Yb (D.take k):Int)/\sv=.int .i64 (uw (D.take k):Int)/\m=.int .i64 (uv (D.take k):Int)/\p=.int .i64 (Ze (D.take k):Int)/\i=.int .i64 (k:Int)/\ExS W g t s b (VK t D k) wr) (fun _ _ _ _ i _=>D.length-(intOf i).toNat)
 case atStart=>exact⟨0,Nat.zero_le _,rfl,rfl,rfl,rfl,rfl,E0.out.old ((jQ0 NoX _).drewN _)⟩
 case round=>
  clear E0;obtain⟨k,hk,rfl,rfl,rfl,rfl,rfl,hE⟩:=hrel;by_cases hlt:k<D.length
  ·obtain⟨d,hd⟩:∃d,D[k]? =some d:=⟨_,jJ9 hlt⟩;have hT:=HT.out _ _ hE;have hlen:=Yd WF.out k;have Q4:=xz (t:=t) hd;have Ni:=Yj hd;obtain⟨ca,cg,cm,cs⟩:=UW d (D.take k);rw[<-Ni]at ca cg cm cs;obtain⟨la,lg,lm,ls⟩:=xk k D;obtain⟨e2,e3,e4,e5,eq0,l1,l2,l3⟩:=hE.c;have eA:Yb D=t.attrs.length:=by rw[WF.out.eA];rfl
   have eG:uw D=t.stages.length:=by rw[WF.out.eG];rfl
   have eM:uv D=t.miles.length:=by rw[WF.out.eM];rfl
   have eS:Ze D=t.steps.length:=by rw[WF.out.eS];rfl
   rw[eA]at la;rw[eG]at lg;rw[eM]at lm;rw[eS]at ls;have pa:=WF.out.lA;have pg:=WF.out.lG;have pm:=WF.out.lM;have pS:=WF.out.lS;have Bc:=HD.out;have Dx:d∈D:=List.mem_of_getElem? hd;have oA:∀y,t.attrs[Yb (D.take k)]? =some y->d.asA=none->(y.order==(k:Int))=false:=fun y hy hn=>jM3 (WF.out.noA hd hn hy);have oG:∀y,t.stages[uw (D.take k)]? =some y->d.asG=none->(y.order==(k:Int))=false:=fun y hy hn=>jM3 (WF.out.noG hd hn hy);have oM:∀y,t.miles[uv (D.take k)]? =some y->d.asM=none->(y.order==(k:Int))=false:=fun y hy hn=>jM3 (WF.out.noM hd hn hy);have HE:=G hE;have V5:=G Q4;have TC:=G ca;have TB:=G cg;have TA:=G cm;have Tz:=G cs;have f1:(0:Int)<=(k:Int):=(by omega);have f2:(k:Int)<(D.length:Int):=(by omega);have f3:IntKind.i64.wrap ((k:Int)+1)=(k:Int)+1:=jQ3 _ (by omega);have xA:=fun x (e:d=.A x)=>WF.out.atA (x:=x) (by rw[hd,e]);have xG:=fun x (e:d=.jG9 x)=>WF.out.atG (x:=x) (by rw[hd,e]);have xM:=fun x (e:d=.M x)=>WF.out.atM (x:=x) (by rw[hd,e]);have xS:=fun x (e:d=.S x)=>WF.out.atS (x:=x) (by rw[hd,e]);have GY:=fun a (ha:a∈d.roots)=>jCg WF.out Dx ha;generalize Yb (D.take k)=a at*;generalize uw (D.take k)=gg at*;generalize uv (D.take k)=mm at*;generalize Ze (D.take k)=pp at*;generalize VK t D k=S at*;have a1:(0:Int)<=(a:Int):=(by omega);have a2:(a:Int).toNat=a:=(by omega);have a3:IntKind.i64.wrap ((a:Int)+1)=(a:Int)+1:=jQ3 _ (by omega);have b1:(0:Int)<=(gg:Int):=(by omega);have b2:(gg:Int).toNat=gg:=(by omega);have b3:IntKind.i64.wrap ((gg:Int)+1)=(gg:Int)+1:=jQ3 _ (by omega);have c1' :(0:Int)<=(mm:Int):=(by omega);have c2' :(mm:Int).toNat=mm:=(by omega);have c3' :IntKind.i64.wrap ((mm:Int)+1)=(mm:Int)+1:=jQ3 _ (by omega);have d1' :(0:Int)<=(pp:Int):=(by omega);have d2' :(pp:Int).toNat=pp:=(by omega);have d3' :IntKind.i64.wrap ((pp:Int)+1)=(pp:Int)+1:=jQ3 _ (by omega);clear hE Q4 Ni ca cg cm cs eA eG eM eS Bc hd Dx pa pg pm pS;cases d with
   |A x=>
    obtain⟨hx,Le⟩:=xA x rfl;have alt:a<t.attrs.length:=(jM5 hx).1;obtain⟨bb,o,hA,hc⟩:=jK (C:=atC) (fun x=>rfl) hT.rA hx alt;have h0:wr.cell? ⟨bb,o+a*7,none⟩=some (.string x.name):=hc 0 _ rfl;have h1:wr.cell? ⟨bb,o+a*7+1,none⟩=some (.int .i64 x.at_):=hc 1 _ rfl;have h2:wr.cell? ⟨bb,o+a*7+2,none⟩=some (.int .i64 (k:Int)):=by rw[<-Le];exact hc 2 _ rfl
    have h3:wr.cell? ⟨bb,o+a*7+3,none⟩=some (.int .i64 x.kind):=hc 3 _ rfl;have h4:wr.cell? ⟨bb,o+a*7+4,none⟩=some (.bool x.opt):=hc 4 _ rfl;have h5:wr.cell? ⟨bb,o+a*7+5,none⟩=some (.int .i64 x.dflt):=hc 5 _ rfl;have h6:wr.cell? ⟨bb,o+a*7+6,none⟩=some (.int .i64 x.when_):=hc 6 _ rfl;have a4:(a:Int)<(t.attrs.length:Int):=(by omega);have r1:=GY x.dflt (List.mem_cons_self ..);have r2:=GY x.when_ (jN1 _ (List.mem_cons_self ..));have Pr:=G (fun ob=>(HE.out.old ((jQ0 NoX wr).alloc ob)).add (by omega) x.dflt a (-1) a (by omega));have SK:=G (fun w2 (u:ExS W g t s b (Jr x.dflt a (-1) a S) w2)=>u.add (jL4 (KN ..) (by omega)) x.when_ (-1) (-1) (-1) (by omega));have Gz:=G (jQ2 wr 60 #[.string x.name,.int .i64 x.at_,.int .i64 (k:Int),.int .i64 x.kind,.bool x.opt,.int .i64 x.dflt,.int .i64 x.when_]);have Rt:∀w2,Blk w2 wr.heap.size 60 #[.string x.name,.int .i64 x.at_,.int .i64 (k:Int),.int .i64 x.kind,.bool x.opt,.int .i64 x.dflt,.int .i64 x.when_]->w2.cell? ⟨wr.heap.size,6,none⟩=some (.int .i64 x.when_):=fun w2 hb=>hb.at_ 6 rfl;have CJ:=G Rt;have GL:=G hlt;rw[hA]at e2;clear hx Le alt hc hT hA oA oG oM xA xG xM xS GY Rt hlt hlen r1 r2 la lg lm ls;unfold iv at*;go_wp2_with (first|(go_at_call 172;first|(refine(SK.out _ U1.out).mono ?_;rintro e w3 ⟨rfl,hX,hB⟩;have U2:=G hX;clear hX hB)|(refine(Pr.out _).mono ?_;rintro e w2 ⟨rfl,hX,hB⟩;have U1:=G hX;have m6:=CJ.out w2 (hB _ _ _ Gz.out (by decide) (by decide) (by decide));clear hX hB))|fail);refine⟨⟨k+1,by have:=GL.out;omega,by rw[TC.out];rfl,by rw[TB.out];rfl,by rw[TA.out];rfl,by rw[Tz.out];rfl,by rw[show((k+1:Nat):Int)=(k:Int)+1 by omega],by rw[V5.out];exact U2.out⟩,by have:=GL.out;simp only[intOf];omega⟩
   |jG9 x=>
    have qA:¬(a:Int)<(t.attrs.length:Int)\/∃bb o y,s.aA=some ⟨bb,o,none⟩/\(a:Int)<(t.attrs.length:Int)/\wr.cell? ⟨bb,o+a*7+2,none⟩=some (.int .i64 y)/\(y==(k:Int))=false:=by
     by_cases hh:a<t.attrs.length
     ·obtain⟨bb,o,hA,hc⟩:=jK (C:=atC) (fun x=>rfl) hT.rA (jJ9 hh) hh;exact .inr ⟨bb,o,_,hA,by omega,hc 2 _ rfl,oA _ (jJ9 hh) rfl⟩
     ·exact .inl (by omega)
    obtain⟨hx,Le⟩:=xG x rfl;have alt:gg<t.stages.length:=(jM5 hx).1;obtain⟨bb,o,hA,hc⟩:=jK (C:=sgC) (fun x=>rfl) hT.rG hx alt;have h2:wr.cell? ⟨bb,o+gg*7+2,none⟩=some (.int .i64 (k:Int)):=by rw[<-Le];exact hc 2 _ rfl
    have h5:wr.cell? ⟨bb,o+gg*7+5,none⟩=some (.int .i64 x.opens):=hc 5 _ rfl;have Ic:=G (fun w2 S' (u:ExS W g t s b S' w2)=>(show w2.cell? ⟨bb,o+gg*7+6,none⟩=some (.int .i64 x.closes)by
     obtain⟨b',o',Gy,SU⟩:=jK (C:=sgC) (fun x=>rfl) (HT.out w2 S' u).rG hx alt;rw[hA]at Gy;injection Gy with Gy;injection Gy with e6 e7;subst e6 e7;exact SU 6 _ rfl))
    have Ij:=G (fun w2 S' (u:ExS W g t s b S' w2)=>(show w2.cell? ⟨g,3,none⟩=some (.slice (some ⟨bb,o,none⟩) t.stages.length s.gc)by rw[<-hA];exact u.c.2.1));have b4:(gg:Int)<(t.stages.length:Int):=(by omega);have r1:=GY x.opens (List.mem_cons_self ..);have r2:=GY x.closes (jN1 _ (List.mem_cons_self ..));have Pr:=G (HE.out.add (by omega) x.opens (-1) (-1) (-1) (by omega));have SK:=G (fun w2 (u:ExS W g t s b (Jr x.opens (-1) (-1) (-1) S) w2)=>u.add (jL4 (KN ..) (by omega)) x.closes (-1) (-1) (-1) (by omega));have GL:=G hlt;rw[hA]at e3;clear hx Le alt hc hT hA oA oG oM xA xG xM xS GY hlt hlen la lg lm ls r1 r2;unfold iv at*;rcases qA with nA|⟨bA,oA',yA,Ll,nA,mA,kA⟩
    all_goals
     try (rw[Ll]at e2;clear Ll)
     go_wp2_with (first|(go_at_call 172;first|(refine(SK.out _ U1.out).mono ?_;rintro e w3 ⟨rfl,hX,hB⟩;have U2:=G hX;clear hX hB)|(refine Pr.out.mono ?_;rintro e w2 ⟨rfl,hX,hB⟩;have U1:=G hX;have m6:=Ic.out w2 _ hX;have m3:=Ij.out w2 _ hX;clear hX hB))|fail);refine⟨⟨k+1,by have:=GL.out;omega,by rw[TC.out];rfl,by rw[TB.out];rfl,by rw[TA.out];rfl,by rw[Tz.out];rfl,by rw[show((k+1:Nat):Int)=(k:Int)+1 by omega],by rw[V5.out];exact U2.out⟩,by have:=GL.out;simp only[intOf];omega⟩
   |M x=>
    have qA:¬(a:Int)<(t.attrs.length:Int)\/∃bb o y,s.aA=some ⟨bb,o,none⟩/\(a:Int)<(t.attrs.length:Int)/\wr.cell? ⟨bb,o+a*7+2,none⟩=some (.int .i64 y)/\(y==(k:Int))=false:=by
     by_cases hh:a<t.attrs.length
     ·obtain⟨bb,o,hA,hc⟩:=jK (C:=atC) (fun x=>rfl) hT.rA (jJ9 hh) hh;exact .inr ⟨bb,o,_,hA,by omega,hc 2 _ rfl,oA _ (jJ9 hh) rfl⟩
     ·exact .inl (by omega)
    have qG:¬(gg:Int)<(t.stages.length:Int)\/∃bb o y,s.gA=some ⟨bb,o,none⟩/\(gg:Int)<(t.stages.length:Int)/\wr.cell? ⟨bb,o+gg*7+2,none⟩=some (.int .i64 y)/\(y==(k:Int))=false:=by
     by_cases hh:gg<t.stages.length
     ·obtain⟨bb,o,hA,hc⟩:=jK (C:=sgC) (fun x=>rfl) hT.rG (jJ9 hh) hh;exact .inr ⟨bb,o,_,hA,by omega,hc 2 _ rfl,oG _ (jJ9 hh) rfl⟩
     ·exact .inl (by omega)
    obtain⟨hx,Le⟩:=xM x rfl;have alt:mm<t.miles.length:=(jM5 hx).1;obtain⟨bb,o,hA,hc⟩:=jK (C:=miC) (fun x=>rfl) hT.rM hx alt;have h2:wr.cell? ⟨bb,o+mm*6+2,none⟩=some (.int .i64 (k:Int)):=by rw[<-Le];exact hc 2 _ rfl
    have h5:wr.cell? ⟨bb,o+mm*6+5,none⟩=some (.int .i64 x.when_):=hc 5 _ rfl;have b4:(mm:Int)<(t.miles.length:Int):=(by omega);have r1:=GY x.when_ (List.mem_cons_self ..);have Pr:=G (HE.out.add (by omega) x.when_ (-1) (-1) (-1) (by omega));have GL:=G hlt;rw[hA]at e4;clear hx Le alt hc hT hA oA oG oM xA xG xM xS GY hlt hlen la lg lm ls r1;unfold iv at*;rcases qA with nA|⟨bA,oA',yA,Ll,nA,mA,kA⟩
    all_goals rcases qG with nG|⟨bG,oG',yG,Sb,nG,mG,kG⟩
    all_goals
     try (rw[Ll]at e2;clear Ll)
     try (rw[Sb]at e3;clear Sb)
     go_wp2_with (first|(go_at_call 172;refine Pr.out.mono ?_;rintro e w2 ⟨rfl,hX,hB⟩;have U1:=G hX;clear hX hB)|fail);refine⟨⟨k+1,by have:=GL.out;omega,by rw[TC.out];rfl,by rw[TB.out];rfl,by rw[TA.out];rfl,by rw[Tz.out];rfl,by rw[show((k+1:Nat):Int)=(k:Int)+1 by omega],by rw[V5.out];exact U1.out⟩,by have:=GL.out;simp only[intOf];omega⟩
   |S x=>
    have qA:¬(a:Int)<(t.attrs.length:Int)\/∃bb o y,s.aA=some ⟨bb,o,none⟩/\(a:Int)<(t.attrs.length:Int)/\wr.cell? ⟨bb,o+a*7+2,none⟩=some (.int .i64 y)/\(y==(k:Int))=false:=by
     by_cases hh:a<t.attrs.length
     ·obtain⟨bb,o,hA,hc⟩:=jK (C:=atC) (fun x=>rfl) hT.rA (jJ9 hh) hh;exact .inr ⟨bb,o,_,hA,by omega,hc 2 _ rfl,oA _ (jJ9 hh) rfl⟩
     ·exact .inl (by omega)
    have qG:¬(gg:Int)<(t.stages.length:Int)\/∃bb o y,s.gA=some ⟨bb,o,none⟩/\(gg:Int)<(t.stages.length:Int)/\wr.cell? ⟨bb,o+gg*7+2,none⟩=some (.int .i64 y)/\(y==(k:Int))=false:=by
     by_cases hh:gg<t.stages.length
     ·obtain⟨bb,o,hA,hc⟩:=jK (C:=sgC) (fun x=>rfl) hT.rG (jJ9 hh) hh;exact .inr ⟨bb,o,_,hA,by omega,hc 2 _ rfl,oG _ (jJ9 hh) rfl⟩
     ·exact .inl (by omega)
    have qM:¬(mm:Int)<(t.miles.length:Int)\/∃bb o y,s.mA=some ⟨bb,o,none⟩/\(mm:Int)<(t.miles.length:Int)/\wr.cell? ⟨bb,o+mm*6+2,none⟩=some (.int .i64 y)/\(y==(k:Int))=false:=by
     by_cases hh:mm<t.miles.length
     ·obtain⟨bb,o,hA,hc⟩:=jK (C:=miC) (fun x=>rfl) hT.rM (jJ9 hh) hh;exact .inr ⟨bb,o,_,hA,by omega,hc 2 _ rfl,oM _ (jJ9 hh) rfl⟩
     ·exact .inl (by omega)
    have hx:=xS x rfl;have alt:pp<t.steps.length:=(jM5 hx).1;obtain⟨y,hy,WJ⟩:∃y,ps[pp]? =some y/\y.s=x:=by
     rw[<-hT.pe,jM1]at hx;obtain⟨y,hy,WJ⟩:=jM4 hx;exact⟨y,hy,WJ⟩
    have CZ:=List.mem_of_getElem? hy;have Q5:x.effects.length<=1000000:=by
     have Wx:x∈t.steps:=List.mem_of_getElem? hx;rw[WF.out.eS]at Wx;exact(WF.out.short _ (XQ Wx)).2
    have Nr:∀e∈x.effects,e.name.size<=9223372036854775807:=fun e he=>by
     have Wx:x∈t.steps:=List.mem_of_getElem? hx;rw[WF.out.eS]at Wx;have:=WF.out.nm _ (XQ Wx) e.name (jN1 _ (jN1 _ (List.mem_append_right _ (List.mem_map_of_mem he))));have:=HN.out;omega
    subst WJ;obtain⟨bb,o,hA,hc⟩:=jK (C:=stC) (fun x=>rfl) hT.rP hy alt;have h0:wr.cell? ⟨bb,o+pp*8,none⟩=some (.string y.s.name):=hc 0 _ rfl;have h1:wr.cell? ⟨bb,o+pp*8+1,none⟩=some (.int .i64 y.s.at_):=hc 1 _ rfl;have h2:wr.cell? ⟨bb,o+pp*8+2,none⟩=some (.int .i64 y.s.order):=hc 2 _ rfl;have h3:wr.cell? ⟨bb,o+pp*8+3,none⟩=some (.slice y.pA y.s.params.length y.pc):=hc 3 _ rfl;have h4:wr.cell? ⟨bb,o+pp*8+4,none⟩=some (.string y.s.in_):=hc 4 _ rfl;have h5:wr.cell? ⟨bb,o+pp*8+5,none⟩=some (.int .i64 y.s.inAt):=hc 5 _ rfl;have h6:wr.cell? ⟨bb,o+pp*8+6,none⟩=some (.int .i64 y.s.when_):=hc 6 _ rfl;have h7:wr.cell? ⟨bb,o+pp*8+7,none⟩=some (.slice y.eA y.s.effects.length y.ec):=hc 7 _ rfl;have b4:(pp:Int)<(t.steps.length:Int):=(by omega);have r1:=GY y.s.when_ (List.mem_cons_self ..);have FC:∀e∈y.s.effects,e.worth<=1000000:=fun e he=>GY e.worth (jN1 _ (List.mem_map_of_mem he));have Ws:=G FC;have I2:=G Nr;have BC:=G CZ;have BO:=G Q5;have Pr:=G (fun ob=>(HE.out.old ((jQ0 NoX wr).alloc ob)).add (by omega) y.s.when_ (-1) pp (-1) (by omega));have Gz:=G (jQ2 wr 66 #[.string y.s.name,.int .i64 y.s.at_,.int .i64 y.s.order,.slice y.pA y.s.params.length y.pc,.string y.s.in_,.int .i64 y.s.inAt,.int .i64 y.s.when_,.slice y.eA y.s.effects.length y.ec]);have Rt:∀w2,Blk w2 wr.heap.size 66 #[.string y.s.name,.int .i64 y.s.at_,.int .i64 y.s.order,.slice y.pA y.s.params.length y.pc,.string y.s.in_,.int .i64 y.s.inAt,.int .i64 y.s.when_,.slice y.eA y.s.effects.length y.ec]->w2.cell? ⟨wr.heap.size,7,none⟩=some (.slice y.eA y.s.effects.length y.ec):=fun w2 hb=>hb.at_ 7 rfl;have CJ:=G Rt;have GL:=G hlt;have BN:=G hlen;rw[hA]at e5;clear hx hy CZ Q5 Nr alt hc hT hA oA oG oM xA xG xM xS GY FC Rt hlt hlen r1 la lg lm ls;unfold iv at*;go_upto_region 16 with fail;go_cut [75]from 76 to 94 (fun v wx=>v=.bool false/\wr=wx)
    case first=>
     rcases qA with nA|⟨bA,oA',yA,Ll,nA,mA,kA⟩
     all_goals
      try (rw[Ll]at e2;clear Ll)
      go_wp2;go_meet
      case rel=>exact⟨rfl,rfl⟩
    case rest=>
     obtain⟨rfl,hw⟩:=hcut;subst hw;clear qA;go_upto_region 21 with fail;go_cut [114]from 115 to 133 (fun v wx=>v=.bool false/\wr=wx)
     case first=>
      rcases qG with nG|⟨bG,oG',yG,Sb,nG,mG,kG⟩
      all_goals
       try (rw[Sb]at e3;clear Sb)
       go_wp2;go_meet
       case rel=>exact⟨rfl,rfl⟩
     case rest=>
      obtain⟨rfl,hw⟩:=hcut;subst hw;clear qG;go_upto_region 25 with fail;go_cut [156]from 157 to 175 (fun v wx=>v=.bool false/\wr=wx)
      case first=>
       rcases qM with nM|⟨bM,oM',yM,DR,nM,mM,kM⟩
       all_goals
        try (rw[DR]at e4;clear DR)
        go_wp2;go_meet
        case rel=>exact⟨rfl,rfl⟩
      case rest=>
       obtain⟨rfl,hw⟩:=hcut;subst hw;clear qM;go_wp2_with (first|(go_at_call 172;refine(Pr.out _).mono ?_;rintro e w2 ⟨rfl,hX,hB⟩;have U1:=G hX;have m7:=CJ.out w2 (hB _ _ _ Gz.out (by decide) (by decide) (by decide));clear hX hB)|fail);clear m7 h0 h1 h2 h3 h4 h5 h6 h7;go_loopw [59] (fun i wq=>∃j:Nat,j<=y.s.effects.length/\i=.int .i64 (j:Int)/\ExS W g t s b (xr t.nA pp (y.s.effects.take j) (Jr y.s.when_ (-1) pp (-1) S)) wq) (fun i _=>y.s.effects.length-(intOf i).toNat)
       case atStart=>exact⟨0,Nat.zero_le _,rfl,U1.out⟩
       case round=>
        clear U1;obtain⟨j,hj,rfl,hq⟩:=hrel;by_cases Fs:j<y.s.effects.length
        ·have Du:=((HT.out _ _ hq).po y BC.out).2;obtain⟨b2',o2,GJ,Fm⟩:=jK (C:=efC) (fun x=>rfl) Du (jJ9 Fs) Fs;have Db:xr t.nA pp (y.s.effects.take (j+1)) (Jr y.s.when_ (-1) pp (-1) S)=Jr y.s.effects[j].worth (-1) pp (jC t.nA y.s.effects[j].name) (xr t.nA pp (y.s.effects.take j) (Jr y.s.when_ (-1) pp (-1) S)):=by
          rw[jK2 Fs,Zl]
         have NU:=xp t.nA pp (y.s.effects.take j) (Jr y.s.when_ (-1) pp (-1) S);have Ay:=KN y.s.when_ (-1) pp (-1) S;have PA:=BN.out;have Ru:=BO.out;rw[jK9]at NU;have TO:=Ws.out _ (jL6 Fs);have Dt:=I2.out _ (jL6 Fs);have Bl:=G Db;generalize y.s.effects[j]=ef at*;generalize xr t.nA pp (y.s.effects.take j) (Jr y.s.when_ (-1) pp (-1) S)=S2 at*;have n0:wr.cell? ⟨b2',o2+j*3,none⟩=some (.string ef.name):=Fm 0 _ rfl;have n1:wr.cell? ⟨b2',o2+j*3+1,none⟩=some (.int .i64 ef.at_):=Fm 1 _ rfl;have n2:wr.cell? ⟨b2',o2+j*3+2,none⟩=some (.int .i64 ef.worth):=Fm 2 _ rfl;obtain⟨_,_,_,_,eq1,l4,l5,l6⟩:=hq.c;obtain⟨A3,c3,Mt⟩:=hq.bx;have HP:=G (fun W1 (hO:Old wr W1)=>qP W1 g t s (b.ex A3 c3 S2.1) (Blk.old Mt hO) t.nA m (MW.old (HM.out _ _ hq) hO) ef.name Dt);have EN:=G (fun W1 (hO:Old wr W1)=>(hq.old hO).add (by omega) ef.worth (-1) pp (jC t.nA ef.name) (by omega));have Ev:=G (fun W1 (hO:Old wr W1)=>(hq.old hO).c.2.2.2.2.1);have CS:=G (jQ2 wr 74 #[.string ef.name,.int .i64 ef.at_,.int .i64 ef.worth]);have j1:(0:Int)<=(j:Int):=(by omega);have j2:(j:Int).toNat=j:=(by omega);have j3:(j:Int)<(y.s.effects.length:Int):=(by omega);have j4:IntKind.i64.wrap ((j:Int)+1)=(j:Int)+1:=jQ3 _ (by omega);have EC:=G Fs;rw[GJ];clear hq Du GJ Fm Db NU Ay PA Ru TO Dt Mt Fs hj;generalize jC t.nA ef.name=pl at*;unfold iv at*;go_wp2_with fail;refine wp_region_still_tail 8 Tryz.mixed (by kernel_rfl) ?_;simp only[List.take_succ_cons,List.take_zero,List.drop_succ_cons,List.drop_zero];show wpStill prog _ (wr.alloc (.cells #[.string ef.name,.int .i64 ef.at_,.int .i64 ef.worth] 74)).drew _ _ _;have O5:Old wr (wr.alloc (.cells #[.string ef.name,.int .i64 ef.at_,.int .i64 ef.worth] 74)).drew:=((jQ0 NoX wr).alloc _).drew;have BZ:=HP.out _ O5;have Io:=G (EN.out _ O5);have q5:=Ev.out _ O5;have m0:=CS.out.drew.at_ 0 (v:=.string ef.name) rfl;have m2:=CS.out.drew.at_ 2 (v:=.int .i64 ef.worth) rfl;clear HP EN Ev CS n0 n1 n2 eq1 l4 l5 l6
         repeat (first|still_call (BZ.mono (fun _ _ h=>⟨h.1,h.2.symm⟩))|still_step)
         refine wpStill_nil ?_;go_wp2_with (first|(go_at_call 172;refine Io.out.mono ?_;rintro e w6 ⟨rfl,hX,hB⟩;have U3:=G hX;clear hX hB)|fail);exact⟨⟨j+1,by have:=EC.out;omega,by rw[show((j+1:Nat):Int)=(j:Int)+1 by omega],by rw[Bl.out];exact U3.out⟩,by have:=EC.out;simp only[intOf];omega⟩
        ·obtain rfl:j=y.s.effects.length:=(by omega);rw[List.take_length]at hq;have U9:=G hq;clear hq hj Fs;go_wp2;refine⟨⟨k+1,by have:=GL.out;omega,by rw[TC.out];rfl,by rw[TB.out];rfl,by rw[TA.out];rfl,by rw[Tz.out];rfl,by rw[show((k+1:Nat):Int)=(k:Int)+1 by omega],by rw[V5.out];exact U9.out⟩,by have:=GL.out;simp only[intOf];omega⟩
  ·obtain rfl:k=D.length:=(by omega);have hl:=Ye t D;rw[<-hl];have HE:=G hE;clear hE hlt hk hl;go_wp2;go_end0;obtain⟨A,c,u⟩:=HE.out.us;exact⟨rfl,A,c,u.bx,u.row,HE.out.kp.mono (fun q hq e=>e.elim (fun e=>by omega) (fun e=>e))⟩
end Go.Proofs.YtifbhcfdealfaaaGreatDoor

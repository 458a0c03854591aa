import Derived.Test.YtifbhcfdealfaaaGreatDoorMd26
import Derived.Test.YtifbhcfdealfaaaGreatDoorMd28
set_option maxRecDepth 100000
set_option maxHeartbeats 25600000
namespace Go.Proofs.YtifbhcfdealfaaaGreatDoor
open Go.Proofs.Tryz
open Go.RowKit
theorem xV(w:World)(n:Nat)(h:w.heap.size=n):MW (w.alloc (.map #[] 0)) n 0 (jW []):=by
 subst h;exact(MW.new w).congr (fun _=>rfl)
theorem Km{w:World}{base base' :Nat}{e:TypeId}{size:Nat}{v:Value}{n:Nat}{xs:List Value}(h:w.ownsRow base e size v n xs)(hb:base' <=base):w.ownsRow base' e size v n xs:=by
 refine⟨h.1,?_⟩;rcases h.2 with hn|⟨g,cap,cur,e1,h2,rest⟩
 ·exact .inl hn
 ·exact .inr ⟨g,cap,cur,e1,jL4 hb h2,rest⟩
def bd0(w:World):BdS:=⟨w.heap.size+1+1,w.heap.size+1+1+1,w.heap.size+1+1+1+1,w.heap.size+1+1+1+1+1,w.heap.size+1+1+1+1+1+1,none,0,[],none,0,[],(0,0)⟩
theorem jAa(w:World)(t:Tre)(s:Sl):NbS w (w.heap.size+1) t s (bd0 w) 0 0 0 0 (0,0) (((((((w.alloc (.cells #[.string t.name,iv t.at_,.slice s.aA t.attrs.length s.ac,.slice s.gA t.stages.length s.gc,.slice s.mA t.miles.length s.mc,.slice s.pA t.steps.length s.pc,.slice s.nA t.nodes.length s.nc,.slice s.oA t.ats.length s.oc] 39)).alloc (.cells #[.string t.name,iv t.at_,.slice s.aA t.attrs.length s.ac,.slice s.gA t.stages.length s.gc,.slice s.mA t.miles.length s.mc,.slice s.pA t.steps.length s.pc,.slice s.nA t.nodes.length s.nc,.slice s.oA t.ats.length s.oc,.map (some (w.heap.size+1+1)),.map (some (w.heap.size+1+1+1)),.map (some (w.heap.size+1+1+1+1)),.map (some (w.heap.size+1+1+1+1+1)),.map (some (w.heap.size+1+1+1+1+1+1)),.slice none 0 0,.slice none 0 0,iv 0,iv 0] 138)).alloc (.map #[] 0)).alloc (.map #[] 0)).alloc (.map #[] 0)).alloc (.map #[] 0)).alloc (.map #[] 0)):=by
 refine⟨?_,?_,?_,?_,?_,?_,?_,?_,?_⟩
 ·have h:=(jBS w (.cells (jr t s).toArray 39) 138 (bdC t s (bd0 w)).toArray);exact((((h.alloc _).alloc _).alloc _).alloc _).alloc _
 ·exact(((MW.old (xV _ _ (by simp[bd0])) ((jQ0 NoX _).alloc _)).old ((jQ0 NoX _).alloc _)).old ((jQ0 NoX _).alloc _))
 ·exact((MW.old (xV _ _ (by simp[bd0])) ((jQ0 NoX _).alloc _)).old ((jQ0 NoX _).alloc _))
 ·exact(MW.old (xV _ _ (by simp[bd0])) ((jQ0 NoX _).alloc _))
 ·exact xV _ _ (by simp[bd0])
 ·simp only[bd0];omega
 ·simp only[bd0];omega
 ·exact((((((jQ0 NoX w).alloc _).alloc _).alloc _).alloc _).alloc _).alloc _ |>.alloc _
 ·exact((((((jQ2 w 39 (jr t s).toArray).alloc _).alloc _).alloc _).alloc _).alloc _).alloc _
structure BdW(w:World)(g:Nat)(t:Tre)(s:Sl)(b:BdS)(W:World):Prop where
 bx:Bx W g t s b
 m1:MW W b.b1 1000000 (jW t.nA)
 m2:MW W b.b2 1000000 (jW t.nG)
 m3:MW W b.b3 1000000 (jW t.nM)
 m4:MW W b.b4 1000000 (jW t.nS)
 rX:W.ownsRow w.heap.size 256 5 (.slice b.xA b.all.length b.xc) b.all.length (b.all.flatMap Jt)
 rU:W.ownsRow w.heap.size 3 1 (.slice b.uA b.ups.length b.uc) b.ups.length (b.ups.map iv)
 ge:w.heap.size<=g/\w.heap.size<=b.b1/\w.heap.size<=b.b2/\w.heap.size<=b.b3/\w.heap.size<=b.b4
 old:Old w W
def jHY(w:World)(t:Tre)(s:Sl)(D:List Dk)(e:Ending)(W:World):Prop:=∃g b,e=.returned (.pointer (some ⟨g,0,none⟩))/\BdW w g t s b W/\b.all=Zs t D/\b.ups=[]/\b.uA=none/\b.p=VG t
theorem KM{n:Nat}(hn:n<=1000000){x:BA}(h:x.size<=n):x.size<=9223372036854775807:=by omega
theorem xU(w:World)(t:Tre)(s:Sl)(ns:List MNd)(ps:List MSt)(TF:TrF w t s ns ps)(n:Nat)(hn:n<=1000000)(D:List Dk)(wf:WfT n t D):Calls prog 56 #[.agg (jr t s).toArray] w (jHY w t s D):=by
 have X6:= @run_makeMap prog;have H0:=G (jAa w t s);have HT:=G (fun W (ho:Old w W)=>TF.old ho);have WF:=G wf;have HN:=G hn;have HQ:=G (fun k1 k2 k3 k4 p W (h:NbS w (w.heap.size+1) t s (bd0 w) k1 k2 k3 k4 p W)=>(show W.cell? ⟨w.heap.size,3,none⟩=some (.slice s.gA t.stages.length s.gc)/\W.cell? ⟨w.heap.size,4,none⟩=some (.slice s.mA t.miles.length s.mc)/\W.cell? ⟨w.heap.size,5,none⟩=some (.slice s.pA t.steps.length s.pc)from⟨h.q.at_ 3 rfl,h.q.at_ 4 rfl,h.q.at_ 5 rfl⟩));have HE:=G (fun k1 k2 k3 k4 p W (h:NbS w (w.heap.size+1) t s (bd0 w) k1 k2 k3 k4 p W) (e1:t.nA.take k1=t.nA)=>UI w W t s ns ps TF n hn D wf h.old (w.heap.size+1) (Nat.le_succ _) {bd0 w with p:=p} h.bx k1 (by have h1:=h.m1;rw[e1]at h1;exact h1));clear TF wf hn;unfold jr;unfold iv at*;go_enter func56,ntmps56;go_wp2;refine wp_loop_rounds 6 ?_;rw[rounds_succ];go_wp2;rw[rounds_succ];go_wp2;rw[rounds_succ];go_wp2;rw[rounds_succ];go_wp2;rw[rounds_succ];go_wp2;rw[rounds_succ];go_wp2;go_loopw [29] (fun i wr=>∃k:Nat,k<=t.attrs.length/\i=.int .i64 (k:Int)/\NbS w (w.heap.size+1) t s (bd0 w) k 0 0 0 (nmP (fun x:Atr=>(x.name,x.at_)) t.attrs k ((0,0))) wr) (fun i _=>t.attrs.length-(intOf i).toNat)
 case atStart=>exact⟨0,Nat.zero_le _,rfl,H0.out⟩
 case round=>
  clear H0;obtain⟨k,hk,rfl,hS⟩:=hrel;have HS:=G hS;by_cases hlt:k<t.attrs.length
  ·have hT:=HT.out _ hS.old;obtain⟨x,Gn⟩:∃x,x=t.attrs[k]:=⟨_,rfl⟩;obtain⟨bb,o,hA,hc⟩:=jK (C:=atC) (fun x=>rfl) hT.rA (x:=x) (by rw[Gn];exact jJ9 hlt) hlt;have c0:wr.cell? ⟨bb,o+k*7,none⟩=some (.string x.name):=hc 0 _ rfl;have c1:wr.cell? ⟨bb,o+k*7+1,none⟩=some (.int .i64 x.at_):=hc 1 _ rfl;have c2:wr.cell? ⟨bb,o+k*7+2,none⟩=some (.int .i64 x.order):=hc 2 _ rfl;have c3:wr.cell? ⟨bb,o+k*7+3,none⟩=some (.int .i64 x.kind):=hc 3 _ rfl;have c4:wr.cell? ⟨bb,o+k*7+4,none⟩=some (.bool x.opt):=hc 4 _ rfl;have c5:wr.cell? ⟨bb,o+k*7+5,none⟩=some (.int .i64 x.dflt):=hc 5 _ rfl;have c6:wr.cell? ⟨bb,o+k*7+6,none⟩=some (.int .i64 x.when_):=hc 6 _ rfl;have hN:=hS.next1 ((jQ0 NoX wr).alloc (.cells #[.string x.name,.int .i64 x.at_,.int .i64 x.order,.int .i64 x.kind,.bool x.opt,.int .i64 x.dflt,.int .i64 x.when_] 60)) hlt WF.out.lA (by
    have hm:t.attrs[k]∈t.attrs:=jL6 hlt;exact KM HN.out (WF.out.nm _ (jEk (by rw[<-WF.out.eA];exact hm)) _ (List.mem_cons_self ..)))
   have hp:=KC (fun x:Atr=>(x.name,x.at_)) t.attrs k hlt ((0,0));simp only at hp;rw[show(List.map (fun x:Atr=>x.name) t.attrs)=t.nA from rfl]at hp;rw[<-hp,<-Gn]at hN;have Wf:=G hN;have f1:(0:Int)<=(k:Int):=(by omega);have f2:(k:Int).toNat=k:=(by omega);have f3:(k:Int)<(t.attrs.length:Int):=(by omega);have f4:IntKind.i64.wrap ((k:Int)+1)=(k:Int)+1:=jQ3 _ (by have:=WF.out.lA;omega);have F8:=G hlt;rw[hA];clear hT hA hc hN hp Gn hS hlt hk;unfold iv at*;go_wp2_with (first|(go_at_call 117;refine Wf.out.mono ?_;rintro e w2 ⟨rfl,hX⟩;have HX:=G hX;clear hX)|fail);exact⟨⟨k+1,by have:=F8.out;omega,by rw[show((k+1:Nat):Int)=(k:Int)+1 by omega],HX.out⟩,by have:=F8.out;simp only[intOf];omega⟩
  ·obtain rfl:k=t.attrs.length:=(by omega);rw[YG]at hS;have H1:=G hS;obtain⟨q3,q4,q5⟩:=HQ.out _ _ _ _ _ _ hS;clear hS HS hk hlt;go_wp2_with fail;go_loopw [45] (fun i wr=>∃k:Nat,k<=t.stages.length/\i=.int .i64 (k:Int)/\NbS w (w.heap.size+1) t s (bd0 w) t.attrs.length k 0 0 (nmP (fun x:Stg=>(x.name,x.at_)) t.stages k (kP [] (t.attrs.map fun x=>(x.name,x.at_)) (0,0))) wr) (fun i _=>t.stages.length-(intOf i).toNat)
   case atStart=>exact⟨0,Nat.zero_le _,rfl,H1.out⟩
   case round=>
    clear H1;obtain⟨k,hk,rfl,hS⟩:=hrel;have HS:=G hS;by_cases hlt:k<t.stages.length
    ·have hT:=HT.out _ hS.old;obtain⟨x,Gn⟩:∃x,x=t.stages[k]:=⟨_,rfl⟩;obtain⟨bb,o,hA,hc⟩:=jK (C:=sgC) (fun x=>rfl) hT.rG (x:=x) (by rw[Gn];exact jJ9 hlt) hlt;have c0:wr.cell? ⟨bb,o+k*7,none⟩=some (.string x.name):=hc 0 _ rfl;have c1:wr.cell? ⟨bb,o+k*7+1,none⟩=some (.int .i64 x.at_):=hc 1 _ rfl;have c2:wr.cell? ⟨bb,o+k*7+2,none⟩=some (.int .i64 x.order):=hc 2 _ rfl;have c3:wr.cell? ⟨bb,o+k*7+3,none⟩=some (.string x.in_):=hc 3 _ rfl;have c4:wr.cell? ⟨bb,o+k*7+4,none⟩=some (.int .i64 x.inAt):=hc 4 _ rfl;have c5:wr.cell? ⟨bb,o+k*7+5,none⟩=some (.int .i64 x.opens):=hc 5 _ rfl;have c6:wr.cell? ⟨bb,o+k*7+6,none⟩=some (.int .i64 x.closes):=hc 6 _ rfl;have hN:=hS.next2 ((jQ0 NoX wr).alloc (.cells #[.string x.name,.int .i64 x.at_,.int .i64 x.order,.string x.in_,.int .i64 x.inAt,.int .i64 x.opens,.int .i64 x.closes] 83)) hlt WF.out.lG (by
      have hm:t.stages[k]∈t.stages:=jL6 hlt;exact KM HN.out (WF.out.nm _ (jDC (by rw[<-WF.out.eG];exact hm)) _ (List.mem_cons_self ..)))
     have hp:=KC (fun x:Stg=>(x.name,x.at_)) t.stages k hlt (kP [] (t.attrs.map fun x=>(x.name,x.at_)) (0,0));simp only at hp;rw[show(List.map (fun x:Stg=>x.name) t.stages)=t.nG from rfl]at hp;rw[<-hp,<-Gn]at hN;have Wf:=G hN;have f1:(0:Int)<=(k:Int):=(by omega);have f2:(k:Int).toNat=k:=(by omega);have f3:(k:Int)<(t.stages.length:Int):=(by omega);have f4:IntKind.i64.wrap ((k:Int)+1)=(k:Int)+1:=jQ3 _ (by have:=WF.out.lG;omega);have F8:=G hlt;rw[hA];clear hT hA hc hN hp Gn hS hlt hk;unfold iv at*;go_wp2_with (first|(go_at_call 117;refine Wf.out.mono ?_;rintro e w2 ⟨rfl,hX⟩;have HX:=G hX;clear hX)|fail);exact⟨⟨k+1,by have:=F8.out;omega,by rw[show((k+1:Nat):Int)=(k:Int)+1 by omega],HX.out⟩,by have:=F8.out;simp only[intOf];omega⟩
    ·obtain rfl:k=t.stages.length:=(by omega);rw[YG]at hS;have H2:=G hS;obtain⟨q3,q4,q5⟩:=HQ.out _ _ _ _ _ _ hS;clear hS HS hk hlt;go_wp2_with fail;go_loopw [61] (fun i wr=>∃k:Nat,k<=t.miles.length/\i=.int .i64 (k:Int)/\NbS w (w.heap.size+1) t s (bd0 w) t.attrs.length t.stages.length k 0 (nmP (fun x:Mil=>(x.name,x.at_)) t.miles k (kP [] (t.stages.map fun x=>(x.name,x.at_)) (kP [] (t.attrs.map fun x=>(x.name,x.at_)) (0,0)))) wr) (fun i _=>t.miles.length-(intOf i).toNat)
     case atStart=>exact⟨0,Nat.zero_le _,rfl,H2.out⟩
     case round=>
      clear H2;obtain⟨k,hk,rfl,hS⟩:=hrel;have HS:=G hS;by_cases hlt:k<t.miles.length
      ·have hT:=HT.out _ hS.old;obtain⟨x,Gn⟩:∃x,x=t.miles[k]:=⟨_,rfl⟩;obtain⟨bb,o,hA,hc⟩:=jK (C:=miC) (fun x=>rfl) hT.rM (x:=x) (by rw[Gn];exact jJ9 hlt) hlt;have c0:wr.cell? ⟨bb,o+k*6,none⟩=some (.string x.name):=hc 0 _ rfl;have c1:wr.cell? ⟨bb,o+k*6+1,none⟩=some (.int .i64 x.at_):=hc 1 _ rfl;have c2:wr.cell? ⟨bb,o+k*6+2,none⟩=some (.int .i64 x.order):=hc 2 _ rfl;have c3:wr.cell? ⟨bb,o+k*6+3,none⟩=some (.string x.in_):=hc 3 _ rfl;have c4:wr.cell? ⟨bb,o+k*6+4,none⟩=some (.int .i64 x.inAt):=hc 4 _ rfl;have c5:wr.cell? ⟨bb,o+k*6+5,none⟩=some (.int .i64 x.when_):=hc 5 _ rfl;have hN:=hS.next3 ((jQ0 NoX wr).alloc (.cells #[.string x.name,.int .i64 x.at_,.int .i64 x.order,.string x.in_,.int .i64 x.inAt,.int .i64 x.when_] 85)) hlt WF.out.lM (by
        have hm:t.miles[k]∈t.miles:=jL6 hlt;exact KM HN.out (WF.out.nm _ (jDB (by rw[<-WF.out.eM];exact hm)) _ (List.mem_cons_self ..)))
       have hp:=KC (fun x:Mil=>(x.name,x.at_)) t.miles k hlt (kP [] (t.stages.map fun x=>(x.name,x.at_)) (kP [] (t.attrs.map fun x=>(x.name,x.at_)) (0,0)));simp only at hp;rw[show(List.map (fun x:Mil=>x.name) t.miles)=t.nM from rfl]at hp;rw[<-hp,<-Gn]at hN;have Wf:=G hN;have f1:(0:Int)<=(k:Int):=(by omega);have f2:(k:Int).toNat=k:=(by omega);have f3:(k:Int)<(t.miles.length:Int):=(by omega);have f4:IntKind.i64.wrap ((k:Int)+1)=(k:Int)+1:=jQ3 _ (by have:=WF.out.lM;omega);have F8:=G hlt;rw[hA];clear hT hA hc hN hp Gn hS hlt hk;unfold iv at*;go_wp2_with (first|(go_at_call 117;refine Wf.out.mono ?_;rintro e w2 ⟨rfl,hX⟩;have HX:=G hX;clear hX)|fail);exact⟨⟨k+1,by have:=F8.out;omega,by rw[show((k+1:Nat):Int)=(k:Int)+1 by omega],HX.out⟩,by have:=F8.out;simp only[intOf];omega⟩
      ·obtain rfl:k=t.miles.length:=(by omega);rw[YG]at hS;have H3:=G hS;obtain⟨q3,q4,q5⟩:=HQ.out _ _ _ _ _ _ hS;clear hS HS hk hlt;go_wp2_with fail;go_loopw [77] (fun i wr=>∃k:Nat,k<=t.steps.length/\i=.int .i64 (k:Int)/\NbS w (w.heap.size+1) t s (bd0 w) t.attrs.length t.stages.length t.miles.length k (nmP (fun x:Stp=>(x.name,x.at_)) t.steps k (kP [] (t.miles.map fun x=>(x.name,x.at_)) (kP [] (t.stages.map fun x=>(x.name,x.at_)) (kP [] (t.attrs.map fun x=>(x.name,x.at_)) (0,0))))) wr) (fun i _=>t.steps.length-(intOf i).toNat)
       case atStart=>exact⟨0,Nat.zero_le _,rfl,H3.out⟩
       case round=>
        clear H3;obtain⟨k,hk,rfl,hS⟩:=hrel;have HS:=G hS;by_cases hlt:k<t.steps.length
        ·have hT:=HT.out _ hS.old;obtain⟨x,hx,Gn⟩:∃x,ps[k]? =some x/\x.s=t.steps[k]:=by
          have h9:(ps.map (·.s))[k]? =some t.steps[k]:=by rw[hT.pe];exact jJ9 hlt
          rw[jM1]at h9;obtain⟨x,hx,Gn⟩:=jM4 h9;exact⟨x,hx,Gn⟩
         obtain⟨bb,o,hA,hc⟩:=jK (C:=stC) (fun x=>rfl) hT.rP hx hlt;have c0:wr.cell? ⟨bb,o+k*8,none⟩=some (.string x.s.name):=hc 0 _ rfl;have c1:wr.cell? ⟨bb,o+k*8+1,none⟩=some (.int .i64 x.s.at_):=hc 1 _ rfl;have c2:wr.cell? ⟨bb,o+k*8+2,none⟩=some (.int .i64 x.s.order):=hc 2 _ rfl;have c3:wr.cell? ⟨bb,o+k*8+3,none⟩=some (.slice x.pA x.s.params.length x.pc):=hc 3 _ rfl;have c4:wr.cell? ⟨bb,o+k*8+4,none⟩=some (.string x.s.in_):=hc 4 _ rfl;have c5:wr.cell? ⟨bb,o+k*8+5,none⟩=some (.int .i64 x.s.inAt):=hc 5 _ rfl;have c6:wr.cell? ⟨bb,o+k*8+6,none⟩=some (.int .i64 x.s.when_):=hc 6 _ rfl;have c7:wr.cell? ⟨bb,o+k*8+7,none⟩=some (.slice x.eA x.s.effects.length x.ec):=hc 7 _ rfl;have hN:=hS.next4 ((jQ0 NoX wr).alloc (.cells #[.string x.s.name,.int .i64 x.s.at_,.int .i64 x.s.order,.slice x.pA x.s.params.length x.pc,.string x.s.in_,.int .i64 x.s.inAt,.int .i64 x.s.when_,.slice x.eA x.s.effects.length x.ec] 66)) hlt WF.out.lS (by
          have hm:t.steps[k]∈t.steps:=jL6 hlt;exact KM HN.out (WF.out.nm _ (XQ (by rw[<-WF.out.eS];exact hm)) _ (List.mem_cons_self ..)))
         have hp:=KC (fun x:Stp=>(x.name,x.at_)) t.steps k hlt (kP [] (t.miles.map fun x=>(x.name,x.at_)) (kP [] (t.stages.map fun x=>(x.name,x.at_)) (kP [] (t.attrs.map fun x=>(x.name,x.at_)) (0,0))));simp only at hp;rw[show(List.map (fun x:Stp=>x.name) t.steps)=t.nS from rfl]at hp;rw[<-hp,<-Gn]at hN;have Wf:=G hN;have f1:(0:Int)<=(k:Int):=(by omega);have f2:(k:Int).toNat=k:=(by omega);have f3:(k:Int)<(t.steps.length:Int):=(by omega);have f4:IntKind.i64.wrap ((k:Int)+1)=(k:Int)+1:=jQ3 _ (by have:=WF.out.lS;omega);have F8:=G hlt;rw[hA];clear hT hA hc hN hp Gn hS hlt hk hx;unfold iv at*;go_wp2_with (first|(go_at_call 117;refine Wf.out.mono ?_;rintro e w2 ⟨rfl,hX⟩;have HX:=G hX;clear hX)|fail);exact⟨⟨k+1,by have:=F8.out;omega,by rw[show((k+1:Nat):Int)=(k:Int)+1 by omega],HX.out⟩,by have:=F8.out;simp only[intOf];omega⟩
        ·obtain rfl:k=t.steps.length:=(by omega);rw[YG]at hS;have H4:=G hS;obtain⟨q3,q4,q5⟩:=HQ.out _ _ _ _ _ _ hS;clear hS HS hk hlt;have If:=G (HE.out _ _ _ _ _ _ H4.out (by unfold Tre.nA;rw[jK4 (by rw[jK7];exact jL3 _)]));go_wp2_with (first|(go_at_call 118;refine If.out.mono ?_;rintro e w2 ⟨rfl,hX⟩;have HX:=G hX;clear hX)|fail);go_ret;obtain⟨A,c,Mt,WP,Ga⟩:=HX.out;have h4:=H4.out;have t1:t.nA.take t.attrs.length=t.nA:=by unfold Tre.nA;rw[jK4 (by rw[jK7];exact jL3 _)]
         have t2:t.nG.take t.stages.length=t.nG:=by unfold Tre.nG;rw[jK4 (by rw[jK7];exact jL3 _)]
         have t3:t.nM.take t.miles.length=t.nM:=by unfold Tre.nM;rw[jK4 (by rw[jK7];exact jL3 _)]
         have t4:t.nS.take t.steps.length=t.nS:=by unfold Tre.nS;rw[jK4 (by rw[jK7];exact jL3 _)]
         have n1:=h4.m1;rw[t1]at n1;have n2:=h4.m2;rw[t2]at n2;have n3:=h4.m3;rw[t3]at n3;have n4:=h4.m4;rw[t4]at n4;obtain⟨g1,g2,g3,g4⟩:=h4.bx_ne;exact⟨_,_,rfl,⟨Mt,MapW.mono (n1.kp Ga g1) WF.out.lA,MapW.mono (n2.kp Ga g2) WF.out.lG,MapW.mono (n3.kp Ga g3) WF.out.lM,MapW.mono (n4.kp Ga g4) WF.out.lS,Km WP h4.old.size,World.ownsRow_nil _ _ _ _,h4.ge,h4.old.trans Ga (fun q hq e=>absurd (show w.heap.size<=q by rw[e];exact h4.ge.1) (Nat.not_le_of_lt hq))⟩,rfl,rfl,rfl,rfl⟩
end Go.Proofs.YtifbhcfdealfaaaGreatDoor

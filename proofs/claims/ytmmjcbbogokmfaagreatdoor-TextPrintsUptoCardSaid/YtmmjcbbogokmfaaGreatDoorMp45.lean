import Derived.Test.YtmmjcbbogokmfaaGreatDoorMp19
import Derived.Test.YtmmjcbbogokmfaaGreatDoorMp36
set_option maxRecDepth 100000
set_option maxHeartbeats 25600000
namespace Go.Proofs.YtmmjcbbogokmfaaGreatDoor
open Go.Proofs.Tryz
open Go.RowKit
def xk(w:World)(e:Ending)(W:World):Prop:=e=.returned (.tuple #[.slice none 0 0,iv 8])/\Kp (Jo w.heap.size) w W
theorem Zg(w:World)(hg:Sg w)(h8:8<=w.heap.size)(t:Tre)(s:Sl)(ns:List MNd)(ps:List MSt)(TD:TrD w t s ns ps)(FY:(jv t).ok=false):
  Calls prog 14 #[.agg (jF t s).toArray] w (xk w):=by
 obtain⟨w1,Nf⟩:∃w1,w1=w.alloc (.cells (jF t s).toArray 29):=⟨_,rfl⟩;have FN:Old w w1:=by rw[Nf];exact(jQ0 NoX w).alloc _
 have hJ:w1.heap.size=w.heap.size+1:=by rw[Nf];simp
 have Nv:Pr w1 t s 0 [] none 0 ((w.alloc (.cells (jF t s).toArray 29)).alloc (.cells (jF t s++[Value.int .i64 0,Value.slice none 0 0]).toArray 129)):=by rw[Nf];exact Vc _ t s
 have TD2:TrD ((w.alloc (.cells (jF t s).toArray 29)).alloc (.cells (jF t s++[Value.int .i64 0,Value.slice none 0 0]).toArray 129)) t s ns ps:=TD.old (((jQ0 NoX w).alloc _).alloc _);have LD:=G (Vi _ t s ns ps TD2);have HB:=G ((jQ2 w 29 (jF t s).toArray).alloc (.cells (jF t s++[Value.int .i64 0,Value.slice none 0 0]).toArray 129));replace Nv:=G Nv;have Nz:=TD.nd.cnt;have HG:=G (hg.old FN);have MY:=G (show 8<=w1.heap.size by rw[hJ];omega);have KPW:=G FN;have NF:Hid ((jv t).l.length<=4000000):=G (by
  have h1:=Kh TD;have e:(jv t).l.length=t.count:=by
   have ha:∀(fam:Int) (l:List Int) (i:Nat) (x:LayP),(ja fam l i x).l.length=x.l.length:=by
    intro fam l
    induction l with
    |nil=>exact fun i x=>rfl
    |cons o l ih=>exact fun i x=>by rw[ja,ih,Vh]
   unfold jv;rw[ha,ha,ha,ha];exact List.length_replicate
  rw[e];exact h1)
 have LDP:=G (fun(w3:World) (q:Nat) (FX:Blk w3 q 134 ((jv t).l.flatMap lpC).toArray) (Gi:Kp (Jo ((w.alloc (.cells (jF t s).toArray 29)).alloc (.cells (jF t s++[Value.int .i64 0,Value.slice none 0 0]).toArray 129)).heap.size) ((w.alloc (.cells (jF t s).toArray 29)).alloc (.cells (jF t s++[Value.int .i64 0,Value.slice none 0 0]).toArray 129)) w3)=>(show PrS w w1 t s (jv t).l q 0 [] none 0 w3 from⟨Nv.out.far Gi,FX,HB.out.kp Gi (fun e:_ <=w.heap.size=>by have:=HB.out.lt;omega)⟩));have Pv:=G (fun W next l B bc (hp:Pr w1 t s next l B bc W)=>jg W (hp.sg HG.out MY.out) t.name);clear Nv TD TD2 FN hg h8 Nf;have Wh:=G FY;clear FY;unfold jCD at LD;generalize (jv t).ok=lok at*;generalize (jv t).l=L at*;unfold jF iv at*;simp only[jN6,jN8]at*;go_enter func14,ntmps14;go_wp2_with (first|(go_at_call 51;refine LD.out.mono ?_;rintro e w3 ⟨q,rfl,FX,hq,Gi⟩;have P3:=G (LDP.out w3 q FX Gi);have p3:=P3.out.box.at_ 0 (v:=.string t.name) rfl;rw[Wh.out];clear FX hq Gi LD LDP HB)|fail);go_loopw [6,7] (fun b i wr=>b=.bool false/\i=.int .i64 0/\PrS w w1 t s L q 0 [] none 0 wr) (fun _ i _=>0)
 case atStart=>exact⟨rfl,rfl,P3.out⟩
 case round=>
  clear P3 p3;obtain⟨rfl,rfl,hS⟩:=hrel;have HF:=G hS;clear hS;go_wp2_with (first|go_quiet (fail)|fail)
  go_ret2
  exact⟨rfl,(KPW.out.mono (fun _ _ e=>e.elim)).trans (HF.out.pr.drewN _).kp (fun b _ e=>by have h2:w1.heap.size<=b:=e;show w.heap.size<=b;omega)⟩
theorem Yp(w:World)(hg:Sg w)(h8:8<=w.heap.size)(t:Tre)(s:Sl)(ns:List MNd)(ps:List MSt)(TD:TrD w t s ns ps)(FY:(jv t).ok=true)(GC:jb t.name=false):
  Calls prog 14 #[.agg (jF t s).toArray] w (xk w):=by
 obtain⟨w1,Nf⟩:∃w1,w1=w.alloc (.cells (jF t s).toArray 29):=⟨_,rfl⟩;have FN:Old w w1:=by rw[Nf];exact(jQ0 NoX w).alloc _
 have hJ:w1.heap.size=w.heap.size+1:=by rw[Nf];simp
 have Nv:Pr w1 t s 0 [] none 0 ((w.alloc (.cells (jF t s).toArray 29)).alloc (.cells (jF t s++[Value.int .i64 0,Value.slice none 0 0]).toArray 129)):=by rw[Nf];exact Vc _ t s
 have TD2:TrD ((w.alloc (.cells (jF t s).toArray 29)).alloc (.cells (jF t s++[Value.int .i64 0,Value.slice none 0 0]).toArray 129)) t s ns ps:=TD.old (((jQ0 NoX w).alloc _).alloc _);have LD:=G (Vi _ t s ns ps TD2);have HB:=G ((jQ2 w 29 (jF t s).toArray).alloc (.cells (jF t s++[Value.int .i64 0,Value.slice none 0 0]).toArray 129));replace Nv:=G Nv;have Nz:=TD.nd.cnt;have HG:=G (hg.old FN);have MY:=G (show 8<=w1.heap.size by rw[hJ];omega);have KPW:=G FN;have NF:Hid ((jv t).l.length<=4000000):=G (by
  have h1:=Kh TD;have e:(jv t).l.length=t.count:=by
   have ha:∀(fam:Int) (l:List Int) (i:Nat) (x:LayP),(ja fam l i x).l.length=x.l.length:=by
    intro fam l
    induction l with
    |nil=>exact fun i x=>rfl
    |cons o l ih=>exact fun i x=>by rw[ja,ih,Vh]
   unfold jv;rw[ha,ha,ha,ha];exact List.length_replicate
  rw[e];exact h1)
 have LDP:=G (fun(w3:World) (q:Nat) (FX:Blk w3 q 134 ((jv t).l.flatMap lpC).toArray) (Gi:Kp (Jo ((w.alloc (.cells (jF t s).toArray 29)).alloc (.cells (jF t s++[Value.int .i64 0,Value.slice none 0 0]).toArray 129)).heap.size) ((w.alloc (.cells (jF t s).toArray 29)).alloc (.cells (jF t s++[Value.int .i64 0,Value.slice none 0 0]).toArray 129)) w3)=>(show PrS w w1 t s (jv t).l q 0 [] none 0 w3 from⟨Nv.out.far Gi,FX,HB.out.kp Gi (fun e:_ <=w.heap.size=>by have:=HB.out.lt;omega)⟩));have Pv:=G (fun W next l B bc (hp:Pr w1 t s next l B bc W)=>jg W (hp.sg HG.out MY.out) t.name);rw[show js (sb t.name)=false from GC]at Pv;clear Nv TD TD2 FN hg h8 GC Nf;have Wh:=G FY;clear FY;unfold jCD at LD;generalize (jv t).ok=lok at*;generalize (jv t).l=L at*;unfold jF iv at*;simp only[jN6,jN8]at*;go_enter func14,ntmps14;go_wp2_with (first|(go_at_call 20;refine(Pv.out _ _ _ _ _ P3.out.pr).mono ?_;rintro e w4 ⟨rfl,rfl⟩)|(go_at_call 51;refine LD.out.mono ?_;rintro e w3 ⟨q,rfl,FX,hq,Gi⟩;have P3:=G (LDP.out w3 q FX Gi);have p3:=P3.out.box.at_ 0 (v:=.string t.name) rfl;rw[Wh.out];clear FX hq Gi LD LDP HB)|fail);go_loopw [6,7] (fun b i wr=>b=.bool false/\i=.int .i64 0/\PrS w w1 t s L q 0 [] none 0 wr) (fun _ i _=>0)
 case atStart=>exact⟨rfl,rfl,P3.out⟩
 case round=>
  clear P3 p3;obtain⟨rfl,rfl,hS⟩:=hrel;have HF:=G hS;clear hS;go_wp2_with (first|go_quiet (fail)|fail)
  go_ret2
  exact⟨rfl,(KPW.out.mono (fun _ _ e=>e.elim)).trans (HF.out.pr.drewN _).kp (fun b _ e=>by have h2:w1.heap.size<=b:=e;show w.heap.size<=b;omega)⟩
theorem Yo(w:World)(hg:Sg w)(h8:8<=w.heap.size)(t:Tre)(s:Sl)(ns:List MNd)(ps:List MSt)(TD:TrD w t s ns ps)(FY:(jv t).ok=true)(GC:jb t.name=true)(O:Option Nat)(hO:jw t (jv t).l 0=O)(Fh:O≠some t.nodes.length)
  (Ef:∀w1,Old w w1->∀d∈(jv t).l,∀(W:World) (next:Nat) (l:LB) (B:OA) (bc:Nat),next<=1000000->Pr w1 t s next l B bc W->
   Calls prog 52 #[.pointer (some ⟨w1.heap.size,0,none⟩),iv d.1,iv d.2] W (TrR w1 t s l B bc (kZ t d next) W)):
  Calls prog 14 #[.agg (jF t s).toArray] w (xk w):=by
 obtain⟨w1,Nf⟩:∃w1,w1=w.alloc (.cells (jF t s).toArray 29):=⟨_,rfl⟩;have FN:Old w w1:=by rw[Nf];exact(jQ0 NoX w).alloc _
 have hJ:w1.heap.size=w.heap.size+1:=by rw[Nf];simp
 have Nv:Pr w1 t s 0 [] none 0 ((w.alloc (.cells (jF t s).toArray 29)).alloc (.cells (jF t s++[Value.int .i64 0,Value.slice none 0 0]).toArray 129)):=by rw[Nf];exact Vc _ t s
 have TD2:TrD ((w.alloc (.cells (jF t s).toArray 29)).alloc (.cells (jF t s++[Value.int .i64 0,Value.slice none 0 0]).toArray 129)) t s ns ps:=TD.old (((jQ0 NoX w).alloc _).alloc _);have LD:=G (Vi _ t s ns ps TD2);have HB:=G ((jQ2 w 29 (jF t s).toArray).alloc (.cells (jF t s++[Value.int .i64 0,Value.slice none 0 0]).toArray 129));replace Nv:=G Nv;have Nz:=TD.nd.cnt;have HG:=G (hg.old FN);have MY:=G (show 8<=w1.heap.size by rw[hJ];omega);have KPW:=G FN;have NF:Hid ((jv t).l.length<=4000000):=G (by
  have h1:=Kh TD;have e:(jv t).l.length=t.count:=by
   have ha:∀(fam:Int) (l:List Int) (i:Nat) (x:LayP),(ja fam l i x).l.length=x.l.length:=by
    intro fam l
    induction l with
    |nil=>exact fun i x=>rfl
    |cons o l ih=>exact fun i x=>by rw[ja,ih,Vh]
   unfold jv;rw[ha,ha,ha,ha];exact List.length_replicate
  rw[e];exact h1)
 have MV:=G (Ef w1 FN);have LDP:=G (fun(w3:World) (q:Nat) (FX:Blk w3 q 134 ((jv t).l.flatMap lpC).toArray) (Gi:Kp (Jo ((w.alloc (.cells (jF t s).toArray 29)).alloc (.cells (jF t s++[Value.int .i64 0,Value.slice none 0 0]).toArray 129)).heap.size) ((w.alloc (.cells (jF t s).toArray 29)).alloc (.cells (jF t s++[Value.int .i64 0,Value.slice none 0 0]).toArray 129)) w3)=>(show PrS w w1 t s (jv t).l q 0 [] none 0 w3 from⟨Nv.out.far Gi,FX,HB.out.kp Gi (fun e:_ <=w.heap.size=>by have:=HB.out.lt;omega)⟩));have Pv:=G (fun W next l B bc (hp:Pr w1 t s next l B bc W)=>jg W (hp.sg HG.out MY.out) t.name);rw[show js (sb t.name)=true from GC]at Pv;clear Nv TD TD2 FN hg h8 GC Nf Ef;have Wh:=G FY;have HO:=G hO;have I1:=G Fh;clear FY hO Fh;unfold jCD at LD;generalize (jv t).ok=lok at*;generalize (jv t).l=L at*;unfold jF iv at*;simp only[jN6,jN8]at*;go_enter func14,ntmps14;go_wp2_with (first|(go_at_call 20;refine(Pv.out _ _ _ _ _ P3.out.pr).mono ?_;rintro e w4 ⟨rfl,rfl⟩)|(go_at_call 51;refine LD.out.mono ?_;rintro e w3 ⟨q,rfl,FX,hq,Gi⟩;have P3:=G (LDP.out w3 q FX Gi);have p3:=P3.out.box.at_ 0 (v:=.string t.name) rfl;rw[Wh.out];clear FX hq Gi LD LDP HB)|fail);go_loopw [6,7] (fun b i wr=>∃(j nx:Nat) (z:Bool),j<=L.length/\b=.bool z/\i=.int .i64 (j:Int)/\(z=true->jw t (L.drop j) nx=O/\nx<=1000000)/\PrS w w1 t s L q nx [] none 0 wr) (fun _ i _=>L.length-(intOf i).toNat)
 case atStart=>exact⟨0,0,true,Nat.zero_le _,rfl,rfl,fun _=>⟨HO.out,by decide⟩,P3.out⟩
 case round=>
  clear P3 p3 HO;obtain⟨j,nx,z,hj,rfl,rfl,hz,hS⟩:=hrel;cases z with
  |false=>
   have HF:=G hS;clear hS hz;go_wp2_with (first|go_quiet (fail)|fail)
   go_ret2
   exact⟨rfl,(KPW.out.mono (fun _ _ e=>e.elim)).trans (HF.out.pr.drewN _).kp (fun b _ e=>by have h2:w1.heap.size<=b:=e;show w.heap.size<=b;omega)⟩
  |true=>
   obtain⟨WH,FB⟩:=hz rfl;clear hz;have HS:=G hS;by_cases hlt:j<L.length
   ·have hd:L.drop j=L[j]::L.drop (j+1):=jM9 hlt;have hm:L[j]∈L:=jL6 hlt;have hx:L[j]? =some L[j]:=jJ9 hlt;rw[hd,jw]at WH;generalize L[j]=d at*;have HR:=G (MV.out d hm _ nx [] none 0 FB (hS.pr.old ((jQ0 NoX wr).drew)));rw[hJ]at HR;have Hx:=G hx;have b1:(0:Int)<=(j:Int):=(by omega);have b2:(j:Int).toNat=j:=(by omega);have b3:(j:Int)<(L.length:Int):=(by omega);have b4:IntKind.i64.wrap ((j:Int)+1)=(j:Int)+1:=jQ3 _ (by have:=NF.out;omega);have Dm:=G (show∀nx2:Nat,(∀n,kZ t d nx=some n->nx2=n)->((kZ t d nx).isSome=true->jw t (L.drop (j+1)) nx2=O/\nx2<=1000000)from fun nx2 h2 h3=>by
     cases e:kZ t d nx with
     |none=>rw[e]at h3;cases h3
     |some m=>
      rw[e,jL2]at WH;obtain rfl:=h2 m e;exact⟨WH,qe e FB Nz⟩)
    generalize (kZ t d nx)=od at*;clear hS hd hm hx WH FB;go_wp2;refine jL (S:=fun W=>∃n',PrS w w1 t s L q n' [] none 0 W) 13 rfl (by kernel_rfl) ⟨nx,HS.out.old ((jQ0 NoX wr).drew)⟩ (fun Ha=> ?_)
    iterate 11 (refine' tOn rfl rfl (by kernel_rfl) (fun _ _ _ h=>h) rfl Ha (fun w' Hh=> ?_) ?_;rotate_left;(obtain⟨n',Ru⟩:=Hh;have s0:=(JW Ru Hx.out).1;have s1:=(JW Ru Hx.out).2;clear Ru;go_simp<;>with_reducible rfl);simp only[Act.put,jJ1,jJ2,jJ3])
    refine yU rfl (by kernel_rfl) (by decide) (fun K hK=> ?_);go_simp;go_at_call 52;refine HR.out.mono ?_;rintro e w2 ⟨rfl,n2,Fu,hX,GJ⟩;have WX:=G ((HS.out.old ((jQ0 NoX wr).drew)).step hX GJ);have GL:=G (Dm.out n2 Fu);generalize od.isSome=z2 at*;clear hX GJ Fu;go_simp;refine hK.out _ _ ⟨n2,WX.out⟩ (fun Ha=> ?_);clear hK K
    iterate 1 (refine' tOn rfl rfl (by kernel_rfl) (fun _ _ _ h=>h) rfl Ha (fun w' Hh=> ?_) ?_;rotate_left;(clear Hh;go_simp<;>with_reducible rfl);simp only[Act.put,jJ1,jJ2,jJ3])
    refine wpAnyH_done (by kernel_rfl) ?_ _;clear Ha;go_wp2;exact⟨⟨j+1,n2,z2,by omega,rfl,by rw[show((j+1:Nat):Int)=(j:Int)+1 by omega],GL.out,WX.out⟩,by simp only[intOf];omega⟩
   ·obtain rfl:j=L.length:=(by omega);rw[List.drop_length,jw]at WH;have hN:nx≠t.nodes.length:=fun e=>I1.out (by rw[<-WH,e]);have k8:=hS.pr.c8;rw[hJ]at k8;have k6:=hS.box.at_ 6 (v:=.slice s.nA t.nodes.length s.nc) rfl;have LN:((nx:Int) !=(t.nodes.length:Int))=true:=by
     rw[bne,jM3 (show(nx:Int)≠(t.nodes.length:Int)by omega)];rfl
    have HF:=G hS;clear hS WH hN;go_wp2_with (first|go_quiet (fail)|fail)
    go_ret2
    exact⟨rfl,(KPW.out.mono (fun _ _ e=>e.elim)).trans (HF.out.pr.drewN _).kp (fun b _ e=>by have h2:w1.heap.size<=b:=e;show w.heap.size<=b;omega)⟩
def jCC(w:World)(o:Option LB)(e:Ending)(W:World):Prop:=match o with|some l=>jEM w l e W|none=>xk w e W
theorem jAc(w:World)(hg:Sg w)(hT:TabW w)(h8:8<=w.heap.size)(t:Tre)(s:Sl)(ns:List MNd)(ps:List MSt)(TD:TrD w t s ns ps)(hv:∀n∈t.nodes,n.vn<=9223372036854775807/\n.vt.size<=100000000)(Mi:Zv t<=jN):
  Calls prog 14 #[.agg (jF t s).toArray] w (jCC w (vG t)):=by
 have RT:(jv t).ok=true->∀w1,Old w w1->∀d∈(jv t).l,∀(W:World) (next:Nat) (l:LB) (B:OA) (bc:Nat),next<=1000000->Pr w1 t s next l B bc W->
   Calls prog 52 #[.pointer (some ⟨w1.heap.size,0,none⟩),iv d.1,iv d.2] W (TrR w1 t s l B bc (kZ t d next) W):=fun FY w1 ho d hd W next l B bc hn hp=>by
  have L:=Qi FY;obtain⟨i,hi,rfl⟩:=List.mem_iff_getElem.1 hd;obtain⟨f,k,hf,Y1,Cn⟩:=L.of i (by rw[<-L.len];exact hi);rw[jJ9 hi]at Y1;injection Y1 with Y1;rw[Y1];have X4:=(jM5 Cn).1;have Ir:=Zh t;refine jAL w1 W (hg.old ho) (jL4 h8 ho.size) t s ns ps (TD.old ho) f k ⟨fun e=> ?_,fun e=> ?_,fun e=> ?_,fun e=> ?_⟩ hf next l B bc hn hp
  ·rw[e]at X4;omega
  ·rw[e]at X4;omega
  ·rw[e]at X4;omega
  ·rw[e]at X4;omega
 unfold jCC;cases hfit:ua t with
 |true=>
  obtain⟨lE,hb⟩:=jBX hfit;have hp:vG t=some lE:=by unfold vG;rw[jJ6 hfit,hb]
  rw[hp];have FY:(jv t).ok=true:=by
   unfold ua at hfit;rw[Bool.and_eq_true,Bool.and_eq_true]at hfit;exact hfit.1.1
  have DK:=jBW hfit;refine qm w hg h8 t s ns ps TD (fun w1 ho=>⟨RT FY w1 ho,fun d hd W next l l' B bc Aq hk hl=> ?_⟩) hfit lE hb (jL4 (qn hp) Mi);obtain⟨x,y,hr⟩:=jDV hfit hd;obtain⟨h1,h2⟩:=Qh FY d hd;have PX:=jEE w1 (hg.old ho) (jL4 h8 ho.size) t s ns (TD.old ho).nd DK (jB4 w1 (hT.old ho) (jL4 h8 ho.size) t s (fun n hn=>⟨fun e=>⟨qb (DK n hn) e,(hv n hn).1⟩,(hv n hn).2⟩)) (t.nodes.length+1);exact jDi w1 W (hg.old ho) (jL4 h8 ho.size) t s ns ps (TD.old ho) PX d h1 h2 hr next l l' B bc Aq hk hl
 |false=>
  have hp:vG t=none:=by unfold vG;rw[jJ5 (by rw[hfit];decide)]
  rw[hp];show Calls _ _ _ _ (xk w);cases FY:(jv t).ok with
  |false=>exact Zg w hg h8 t s ns ps TD FY
  |true=>
   cases GC:jb t.name with
   |false=>exact Yp w hg h8 t s ns ps TD FY GC
   |true=>
    refine Yo w hg h8 t s ns ps TD FY GC _ rfl (fun e=> ?_) (RT FY);unfold ua at hfit;rw[FY,GC,e]at hfit;simp at hfit
end Go.Proofs.YtmmjcbbogokmfaaGreatDoor

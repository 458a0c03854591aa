import Derived.Test.YtmmjcbbogokmfaaGreatDoorMb29
import Derived.Test.YtmmjcbbogokmfaaGreatDoorMb43
set_option maxRecDepth 100000
set_option maxHeartbeats 25600000
namespace Go.Proofs.YtmmjcbbogokmfaaGreatDoor
open Go.Proofs.Tryz
open Go.RowKit
def ur(w:World)(e:Ending)(W:World):Prop:=e=.returned (.tuple #[.slice none 0 0,iv 8])/\Kp (ZH w.heap.size) w W
theorem qY(w:World)(hg:Sg w)(h8:8<=w.heap.size)(t:Tre)(s:Sl)(ns:List MNd)(ps:List MSt)(TD:TrD w t s ns ps)(Gk:(jx t).ok=false):
  Calls prog 14 #[.agg (jJ t s).toArray] w (ur w):=by
 obtain⟨w1,Nz⟩:∃w1,w1=w.alloc (.cells (jJ t s).toArray 29):=⟨_,rfl⟩;have GW:Old w w1:=by rw[Nz];exact(jQ0 NoX w).alloc _
 have Gj:w1.heap.size=w.heap.size+1:=by rw[Nz];simp
 have Ng:Pr w1 t s 0 [] none 0 ((w.alloc (.cells (jJ t s).toArray 29)).alloc (.cells (jJ t s++[Value.int .i64 0,Value.slice none 0 0]).toArray 129)):=by rw[Nz];exact YI _ t s
 have TD2:TrD ((w.alloc (.cells (jJ t s).toArray 29)).alloc (.cells (jJ t s++[Value.int .i64 0,Value.slice none 0 0]).toArray 129)) t s ns ps:=TD.old (((jQ0 NoX w).alloc _).alloc _);have LD:=G (YL _ t s ns ps TD2);have HB:=G ((jQ2 w 29 (jJ t s).toArray).alloc (.cells (jJ t s++[Value.int .i64 0,Value.slice none 0 0]).toArray 129));replace Ng:=G Ng;have NN:=TD.nd.cnt;have HG:=G (hg.old GW);have PD:=G (show 8<=w1.heap.size by rw[Gj];omega);have KPW:=G GW;have NY:Hid ((jx t).l.length<=4000000):=G (by
  have h1:=Ky TD;have e:(jx t).l.length=t.count:=by
   have ha:∀(fam:Int) (l:List Int) (i:Nat) (x:LayP),(jY fam l i x).l.length=x.l.length:=by
    intro fam l
    induction l with
    |nil=>exact fun i x=>rfl
    |cons o l ih=>exact fun i x=>by rw[jY,ih,YK]
   unfold jx;rw[ha,ha,ha,ha];exact List.length_replicate
  rw[e];exact h1)
 have LDP:=G (fun(w3:World) (q:Nat) (Fy:Blk w3 q 134 ((jx t).l.flatMap lpC).toArray) (G7:Kp (ZH ((w.alloc (.cells (jJ t s).toArray 29)).alloc (.cells (jJ t s++[Value.int .i64 0,Value.slice none 0 0]).toArray 129)).heap.size) ((w.alloc (.cells (jJ t s).toArray 29)).alloc (.cells (jJ t s++[Value.int .i64 0,Value.slice none 0 0]).toArray 129)) w3)=>(show PrS w w1 t s (jx t).l q 0 [] none 0 w3 from⟨Ng.out.far G7,Fy,HB.out.kp G7 (fun e:_ <=w.heap.size=>by have:=HB.out.lt;omega)⟩));have Lk:=G (fun W next l B bc (hp:Pr w1 t s next l B bc W)=>jf W (hp.sg HG.out PD.out) t.name);clear Ng TD TD2 GW hg h8 Nz;have MF:=G Gk;clear Gk;unfold jDB at LD;generalize (jx t).ok=lok at*;generalize (jx t).l=L at*;unfold jJ iv at*;simp only[jN6,jN8]at*;go_enter func14,ntmps14;go_wp2_with (first|(go_at_call 51;refine LD.out.mono ?_;rintro e w3 ⟨q,rfl,Fy,hq,G7⟩;have P3:=G (LDP.out w3 q Fy G7);have p3:=P3.out.box.at_ 0 (v:=.string t.name) rfl;rw[MF.out];clear Fy hq G7 LD LDP HB)|fail);go_loopw [6,7] (fun b i wr=>b=.bool false/\i=.int .i64 0/\PrS w w1 t s L q 0 [] none 0 wr) (fun _ i _=>0)
 case atStart=>exact⟨rfl,rfl,P3.out⟩
 case round=>
  clear P3 p3;obtain⟨rfl,rfl,hS⟩:=hrel;have HF:=G hS;clear hS;go_wp2_with (first|go_quiet (fail)|fail)
  go_ret2
  exact⟨rfl,(KPW.out.mono (fun _ _ e=>e.elim)).trans (HF.out.pr.drewN _).kp (fun b _ e=>by have h2:w1.heap.size<=b:=e;show w.heap.size<=b;omega)⟩
theorem Zb(w:World)(hg:Sg w)(h8:8<=w.heap.size)(t:Tre)(s:Sl)(ns:List MNd)(ps:List MSt)(TD:TrD w t s ns ps)(Gk:(jx t).ok=true)(Gr:jb t.name=false):
  Calls prog 14 #[.agg (jJ t s).toArray] w (ur w):=by
 obtain⟨w1,Nz⟩:∃w1,w1=w.alloc (.cells (jJ t s).toArray 29):=⟨_,rfl⟩;have GW:Old w w1:=by rw[Nz];exact(jQ0 NoX w).alloc _
 have Gj:w1.heap.size=w.heap.size+1:=by rw[Nz];simp
 have Ng:Pr w1 t s 0 [] none 0 ((w.alloc (.cells (jJ t s).toArray 29)).alloc (.cells (jJ t s++[Value.int .i64 0,Value.slice none 0 0]).toArray 129)):=by rw[Nz];exact YI _ t s
 have TD2:TrD ((w.alloc (.cells (jJ t s).toArray 29)).alloc (.cells (jJ t s++[Value.int .i64 0,Value.slice none 0 0]).toArray 129)) t s ns ps:=TD.old (((jQ0 NoX w).alloc _).alloc _);have LD:=G (YL _ t s ns ps TD2);have HB:=G ((jQ2 w 29 (jJ t s).toArray).alloc (.cells (jJ t s++[Value.int .i64 0,Value.slice none 0 0]).toArray 129));replace Ng:=G Ng;have NN:=TD.nd.cnt;have HG:=G (hg.old GW);have PD:=G (show 8<=w1.heap.size by rw[Gj];omega);have KPW:=G GW;have NY:Hid ((jx t).l.length<=4000000):=G (by
  have h1:=Ky TD;have e:(jx t).l.length=t.count:=by
   have ha:∀(fam:Int) (l:List Int) (i:Nat) (x:LayP),(jY fam l i x).l.length=x.l.length:=by
    intro fam l
    induction l with
    |nil=>exact fun i x=>rfl
    |cons o l ih=>exact fun i x=>by rw[jY,ih,YK]
   unfold jx;rw[ha,ha,ha,ha];exact List.length_replicate
  rw[e];exact h1)
 have LDP:=G (fun(w3:World) (q:Nat) (Fy:Blk w3 q 134 ((jx t).l.flatMap lpC).toArray) (G7:Kp (ZH ((w.alloc (.cells (jJ t s).toArray 29)).alloc (.cells (jJ t s++[Value.int .i64 0,Value.slice none 0 0]).toArray 129)).heap.size) ((w.alloc (.cells (jJ t s).toArray 29)).alloc (.cells (jJ t s++[Value.int .i64 0,Value.slice none 0 0]).toArray 129)) w3)=>(show PrS w w1 t s (jx t).l q 0 [] none 0 w3 from⟨Ng.out.far G7,Fy,HB.out.kp G7 (fun e:_ <=w.heap.size=>by have:=HB.out.lt;omega)⟩));have Lk:=G (fun W next l B bc (hp:Pr w1 t s next l B bc W)=>jf W (hp.sg HG.out PD.out) t.name);rw[show jQ (sb t.name)=false from Gr]at Lk;clear Ng TD TD2 GW hg h8 Gr Nz;have MF:=G Gk;clear Gk;unfold jDB at LD;generalize (jx t).ok=lok at*;generalize (jx t).l=L at*;unfold jJ iv at*;simp only[jN6,jN8]at*;go_enter func14,ntmps14;go_wp2_with (first|(go_at_call 20;refine(Lk.out _ _ _ _ _ P3.out.pr).mono ?_;rintro e w4 ⟨rfl,rfl⟩)|(go_at_call 51;refine LD.out.mono ?_;rintro e w3 ⟨q,rfl,Fy,hq,G7⟩;have P3:=G (LDP.out w3 q Fy G7);have p3:=P3.out.box.at_ 0 (v:=.string t.name) rfl;rw[MF.out];clear Fy hq G7 LD LDP HB)|fail);go_loopw [6,7] (fun b i wr=>b=.bool false/\i=.int .i64 0/\PrS w w1 t s L q 0 [] none 0 wr) (fun _ i _=>0)
 case atStart=>exact⟨rfl,rfl,P3.out⟩
 case round=>
  clear P3 p3;obtain⟨rfl,rfl,hS⟩:=hrel;have HF:=G hS;clear hS;go_wp2_with (first|go_quiet (fail)|fail)
  go_ret2
  exact⟨rfl,(KPW.out.mono (fun _ _ e=>e.elim)).trans (HF.out.pr.drewN _).kp (fun b _ e=>by have h2:w1.heap.size<=b:=e;show w.heap.size<=b;omega)⟩
theorem Za(w:World)(hg:Sg w)(h8:8<=w.heap.size)(t:Tre)(s:Sl)(ns:List MNd)(ps:List MSt)(TD:TrD w t s ns ps)(Gk:(jx t).ok=true)(Gr:jb t.name=true)(O:Option Nat)(hO:kG t (jx t).l 0=O)(Fa:O≠some t.nodes.length)
  (CA:∀w1,Old w w1->∀d∈(jx t).l,∀(W:World) (next:Nat) (l:LB) (B:OA) (bc:Nat),next<=1000000->Pr w1 t s next l B bc W->
   Calls prog 52 #[.pointer (some ⟨w1.heap.size,0,none⟩),iv d.1,iv d.2] W (TrR w1 t s l B bc (km t d next) W)):
  Calls prog 14 #[.agg (jJ t s).toArray] w (ur w):=by
 obtain⟨w1,Nz⟩:∃w1,w1=w.alloc (.cells (jJ t s).toArray 29):=⟨_,rfl⟩;have GW:Old w w1:=by rw[Nz];exact(jQ0 NoX w).alloc _
 have Gj:w1.heap.size=w.heap.size+1:=by rw[Nz];simp
 have Ng:Pr w1 t s 0 [] none 0 ((w.alloc (.cells (jJ t s).toArray 29)).alloc (.cells (jJ t s++[Value.int .i64 0,Value.slice none 0 0]).toArray 129)):=by rw[Nz];exact YI _ t s
 have TD2:TrD ((w.alloc (.cells (jJ t s).toArray 29)).alloc (.cells (jJ t s++[Value.int .i64 0,Value.slice none 0 0]).toArray 129)) t s ns ps:=TD.old (((jQ0 NoX w).alloc _).alloc _);have LD:=G (YL _ t s ns ps TD2);have HB:=G ((jQ2 w 29 (jJ t s).toArray).alloc (.cells (jJ t s++[Value.int .i64 0,Value.slice none 0 0]).toArray 129));replace Ng:=G Ng;have NN:=TD.nd.cnt;have HG:=G (hg.old GW);have PD:=G (show 8<=w1.heap.size by rw[Gj];omega);have KPW:=G GW;have NY:Hid ((jx t).l.length<=4000000):=G (by
  have h1:=Ky TD;have e:(jx t).l.length=t.count:=by
   have ha:∀(fam:Int) (l:List Int) (i:Nat) (x:LayP),(jY fam l i x).l.length=x.l.length:=by
    intro fam l
    induction l with
    |nil=>exact fun i x=>rfl
    |cons o l ih=>exact fun i x=>by rw[jY,ih,YK]
   unfold jx;rw[ha,ha,ha,ha];exact List.length_replicate
  rw[e];exact h1)
 have Z3:=G (CA w1 GW);have LDP:=G (fun(w3:World) (q:Nat) (Fy:Blk w3 q 134 ((jx t).l.flatMap lpC).toArray) (G7:Kp (ZH ((w.alloc (.cells (jJ t s).toArray 29)).alloc (.cells (jJ t s++[Value.int .i64 0,Value.slice none 0 0]).toArray 129)).heap.size) ((w.alloc (.cells (jJ t s).toArray 29)).alloc (.cells (jJ t s++[Value.int .i64 0,Value.slice none 0 0]).toArray 129)) w3)=>(show PrS w w1 t s (jx t).l q 0 [] none 0 w3 from⟨Ng.out.far G7,Fy,HB.out.kp G7 (fun e:_ <=w.heap.size=>by have:=HB.out.lt;omega)⟩));have Lk:=G (fun W next l B bc (hp:Pr w1 t s next l B bc W)=>jf W (hp.sg HG.out PD.out) t.name);rw[show jQ (sb t.name)=true from Gr]at Lk;clear Ng TD TD2 GW hg h8 Gr Nz CA;have MF:=G Gk;have HO:=G hO;have EK:=G Fa;clear Gk hO Fa;unfold jDB at LD;generalize (jx t).ok=lok at*;generalize (jx t).l=L at*;unfold jJ iv at*;simp only[jN6,jN8]at*;go_enter func14,ntmps14;go_wp2_with (first|(go_at_call 20;refine(Lk.out _ _ _ _ _ P3.out.pr).mono ?_;rintro e w4 ⟨rfl,rfl⟩)|(go_at_call 51;refine LD.out.mono ?_;rintro e w3 ⟨q,rfl,Fy,hq,G7⟩;have P3:=G (LDP.out w3 q Fy G7);have p3:=P3.out.box.at_ 0 (v:=.string t.name) rfl;rw[MF.out];clear Fy hq G7 LD LDP HB)|fail);go_loopw [6,7] (fun b i wr=>∃(j nx:Nat) (z:Bool),j<=L.length/\b=.bool z/\i=.int .i64 (j:Int)/\(z=true->kG t (L.drop j) nx=O/\nx<=1000000)/\PrS w w1 t s L q nx [] none 0 wr) (fun _ i _=>L.length-(intOf i).toNat)
 case atStart=>exact⟨0,0,true,Nat.zero_le _,rfl,rfl,fun _=>⟨HO.out,by decide⟩,P3.out⟩
 case round=>
  clear P3 p3 HO;obtain⟨j,nx,z,hj,rfl,rfl,hz,hS⟩:=hrel;cases z with
  |false=>
   have HF:=G hS;clear hS hz;go_wp2_with (first|go_quiet (fail)|fail)
   go_ret2
   exact⟨rfl,(KPW.out.mono (fun _ _ e=>e.elim)).trans (HF.out.pr.drewN _).kp (fun b _ e=>by have h2:w1.heap.size<=b:=e;show w.heap.size<=b;omega)⟩
  |true=>
   obtain⟨GR,GC⟩:=hz rfl;clear hz;have HS:=G hS;by_cases hlt:j<L.length
   ·have hd:L.drop j=L[j]::L.drop (j+1):=jM9 hlt;have hm:L[j]∈L:=jL6 hlt;have hx:L[j]? =some L[j]:=jJ9 hlt;rw[hd,kG]at GR;generalize L[j]=d at*;have HR:=G (Z3.out d hm _ nx [] none 0 GC (hS.pr.old ((jQ0 NoX wr).drew)));rw[Gj]at HR;have Hx:=G hx;have b1:(0:Int)<=(j:Int):=(by omega);have b2:(j:Int).toNat=j:=(by omega);have b3:(j:Int)<(L.length:Int):=(by omega);have b4:IntKind.i64.wrap ((j:Int)+1)=(j:Int)+1:=jQ3 _ (by have:=NY.out;omega);have Z4:=G (show∀nx2:Nat,(∀n,km t d nx=some n->nx2=n)->((km t d nx).isSome=true->kG t (L.drop (j+1)) nx2=O/\nx2<=1000000)from fun nx2 h2 h3=>by
     cases e:km t d nx with
     |none=>rw[e]at h3;cases h3
     |some m=>
      rw[e,jL2]at GR;obtain rfl:=h2 m e;exact⟨GR,xo e GC NN⟩)
    generalize (km t d nx)=od at*;clear hS hd hm hx GR GC;go_wp2;refine jd (S:=fun W=>∃n',PrS w w1 t s L q n' [] none 0 W) 13 rfl (by kernel_rfl) ⟨nx,HS.out.old ((jQ0 NoX wr).drew)⟩ (fun Ha=> ?_)
    iterate 11 (refine' tOn rfl rfl (by kernel_rfl) (fun _ _ _ h=>h) rfl Ha (fun w' Hj=> ?_) ?_;rotate_left;(obtain⟨n',Pj⟩:=Hj;have s0:=(Jo Pj Hx.out).1;have s1:=(Jo Pj Hx.out).2;clear Pj;go_simp<;>with_reducible rfl);simp only[Act.put,jJ1,jJ2,jJ3])
    refine Vy rfl (by kernel_rfl) (by decide) (fun K hK=> ?_);go_simp;go_at_call 52;refine HR.out.mono ?_;rintro e w2 ⟨rfl,n2,Fv,hX,Gz⟩;have Wv:=G ((HS.out.old ((jQ0 NoX wr).drew)).step hX Gz);have GG:=G (Z4.out n2 Fv);generalize od.isSome=z2 at*;clear hX Gz Fv;go_simp;refine hK.out _ _ ⟨n2,Wv.out⟩ (fun Ha=> ?_);clear hK K
    iterate 1 (refine' tOn rfl rfl (by kernel_rfl) (fun _ _ _ h=>h) rfl Ha (fun w' Hj=> ?_) ?_;rotate_left;(clear Hj;go_simp<;>with_reducible rfl);simp only[Act.put,jJ1,jJ2,jJ3])
    refine wpAnyH_done (by kernel_rfl) ?_ _;clear Ha;go_wp2;exact⟨⟨j+1,n2,z2,by omega,rfl,by rw[show((j+1:Nat):Int)=(j:Int)+1 by omega],GG.out,Wv.out⟩,by simp only[intOf];omega⟩
   ·obtain rfl:j=L.length:=(by omega);rw[List.drop_length,kG]at GR;have hN:nx≠t.nodes.length:=fun e=>EK.out (by rw[<-GR,e]);have k8:=hS.pr.c8;rw[Gj]at k8;have k6:=hS.box.at_ 6 (v:=.slice s.nA t.nodes.length s.nc) rfl;have Ap:((nx:Int) !=(t.nodes.length:Int))=true:=by
     rw[bne,jM3 (show(nx:Int)≠(t.nodes.length:Int)by omega)];rfl
    have HF:=G hS;clear hS GR hN;go_wp2_with (first|go_quiet (fail)|fail)
    go_ret2
    exact⟨rfl,(KPW.out.mono (fun _ _ e=>e.elim)).trans (HF.out.pr.drewN _).kp (fun b _ e=>by have h2:w1.heap.size<=b:=e;show w.heap.size<=b;omega)⟩
def jDA(w:World)(o:Option LB)(e:Ending)(W:World):Prop:=match o with|some l=>jFd w l e W|none=>ur w e W
theorem jBd(w:World)(hg:Sg w)(hT:TabW w)(h8:8<=w.heap.size)(t:Tre)(s:Sl)(ns:List MNd)(ps:List MSt)(TD:TrD w t s ns ps)(hv:∀n∈t.nodes,n.vn<=9223372036854775807/\n.vt.size<=100000000)(Rt:Ze t<=jv):
  Calls prog 14 #[.agg (jJ t s).toArray] w (jDA w (yV t)):=by
 have RT:(jx t).ok=true->∀w1,Old w w1->∀d∈(jx t).l,∀(W:World) (next:Nat) (l:LB) (B:OA) (bc:Nat),next<=1000000->Pr w1 t s next l B bc W->
   Calls prog 52 #[.pointer (some ⟨w1.heap.size,0,none⟩),iv d.1,iv d.2] W (TrR w1 t s l B bc (km t d next) W):=fun Gk w1 ho d hd W next l B bc hn hp=>by
  have L:=Xs Gk;obtain⟨i,hi,rfl⟩:=List.mem_iff_getElem.1 hd;obtain⟨f,k,hf,SA,Tt⟩:=L.of i (by rw[<-L.len];exact hi);rw[jJ9 hi]at SA;injection SA with SA;rw[SA];have PP:=(jM5 Tt).1;have Ag:=qf t;refine jBQ w1 W (hg.old ho) (jL4 h8 ho.size) t s ns ps (TD.old ho) f k ⟨fun e=> ?_,fun e=> ?_,fun e=> ?_,fun e=> ?_⟩ hf next l B bc hn hp
  ·rw[e]at PP;omega
  ·rw[e]at PP;omega
  ·rw[e]at PP;omega
  ·rw[e]at PP;omega
 unfold jDA;cases hfit:Qk t with
 |true=>
  obtain⟨lE,hb⟩:=jCV hfit;have hp:yV t=some lE:=by unfold yV;rw[jJ6 hfit,hb]
  rw[hp];have Gk:(jx t).ok=true:=by
   unfold Qk at hfit;rw[Bool.and_eq_true,Bool.and_eq_true]at hfit;exact hfit.1.1
  have Ce:=jCU hfit;refine xt w hg h8 t s ns ps TD (fun w1 ho=>⟨RT Gk w1 ho,fun d hd W next l l' B bc Dt hk hl=> ?_⟩) hfit lE hb (jL4 (xu hp) Rt);obtain⟨x,y,hr⟩:=jEb hfit hd;obtain⟨h1,h2⟩:=Xr Gk d hd;have PX:=jFI w1 (hg.old ho) (jL4 h8 ho.size) t s ns (TD.old ho).nd Ce (jCz w1 (hT.old ho) (jL4 h8 ho.size) t s (fun n hn=>⟨fun e=>⟨jBO (Ce n hn) e,(hv n hn).1⟩,(hv n hn).2⟩)) (t.nodes.length+1);exact jEn w1 W (hg.old ho) (jL4 h8 ho.size) t s ns ps (TD.old ho) PX d h1 h2 hr next l l' B bc Dt hk hl
 |false=>
  have hp:yV t=none:=by unfold yV;rw[jJ5 (by rw[hfit];decide)]
  rw[hp];show Calls _ _ _ _ (ur w);cases Gk:(jx t).ok with
  |false=>exact qY w hg h8 t s ns ps TD Gk
  |true=>
   cases Gr:jb t.name with
   |false=>exact Zb w hg h8 t s ns ps TD Gk Gr
   |true=>
    refine Za w hg h8 t s ns ps TD Gk Gr _ rfl (fun e=> ?_) (RT Gk);unfold Qk at hfit;rw[Gk,Gr,e]at hfit;simp at hfit
theorem ut{α:Type}{f:α->Nat}{c n:Nat}(h:∀x,c<=f x)(l:List α)(hl:(l.map f).sum<=n):c*l.length<=n:=by
 have:∀l:List α,c*l.length<=(l.map f).sum:=by
  intro l
  induction l with
  |nil=>exact Nat.zero_le _
  |cons a l ih=>
   have:=h a;rw[List.map_cons,List.sum_cons,jK6,Nat.mul_add];omega
 exact jL4 (this l) hl
theorem jHm{α:Type}{f:α->Nat}{n:Nat}{l:List α}(hl:(l.map f).sum<=n){x:α}(hx:x∈l):f x<=n:=by
 induction l with
 |nil=>cases hx
 |cons a l ih=>
  rw[List.map_cons,List.sum_cons]at hl;rcases jN4 hx with rfl|hx
  ·omega
  ·exact ih (by omega) hx
structure Sz9(t:Tre):Prop where
 nA:t.attrs.length<=1000000
 nG:t.stages.length<=1000000
 nM:t.miles.length<=1000000
 nP:t.steps.length<=1000000
 nN:t.nodes.length<=1000000
 nS:∀x∈t.steps,x.params.length<=1000000/\x.effects.length<=1000000
 no:∀n∈t.nodes,n.kids.length<=1000000/\n.vs=[]/\n.vn<=9223372036854775807/\n.vt.size<=100000000
 full:Ze t<=jv
theorem jHt{t:Tre}(h1:Ze t<=20000000)(h2:qD t<=6300000)(h3:yf t.nodes<=6300000)(h4:∀n∈t.nodes,NdOk 6300000 n):Sz9 t:=by
 unfold qD at h2;have a1:=ut (f:=wtA) (c:=10) (by intro x;unfold wtA;omega) t.attrs (n:=6300000) (by omega);have a2:=ut (f:=wtG) (c:=10) (by intro x;unfold wtG;omega) t.stages (n:=6300000) (by omega);have a3:=ut (f:=wtM) (c:=10) (by intro x;unfold wtM;omega) t.miles (n:=6300000) (by omega);have a4:=ut (f:=wtS) (c:=10) (by intro x;unfold wtS;omega) t.steps (n:=6300000) (by omega);have a5:=ut (f:=wtN) (c:=10) (by intro x;unfold wtN;omega) t.nodes (n:=6300000) h3;refine⟨by omega,by omega,by omega,by omega,by omega,fun x hx=> ?_,fun n hn=> ?_,jL4 h1 (by decide)⟩
 ·have b:=jHm (f:=wtS) (n:=6300000) (l:=t.steps) (by omega) hx;unfold wtS at b;have c1:=ut (f:=wtP) (c:=10) (by intro x;unfold wtP;omega) x.params (n:=6300000) (by omega);have c2:=ut (f:=wtE) (c:=10) (by intro x;unfold wtE;omega) x.effects (n:=6300000) (by omega);exact⟨by omega,by omega⟩
 ·have b:=h4 n hn;have b1:=b.kids;have b2:=b.vt;exact⟨by omega,b.vs,b.vn,by omega⟩
def Is9(l:LB)(t:Tre):Prop:=l.length<=60000/\∃m r f,ka l=.ok m/\m.stack=[]/\yh l f=some r/\r.tree=t
theorem Is9.sz{l:LB}{t:Tre}(h:Is9 l t):Sz9 t:=by
 obtain⟨hl,m,r,f,h1,h2,h3,rfl⟩:=h;obtain⟨a,b,c,d⟩:=jFj h1 h2 h3 hl;exact jHt a b c d
theorem jIf{l:LB}(hl:l.length<=60000)(h:jDD l=0):∃t,Is9 l t:=by
 unfold jDD qZ at h;rw[jJ6 hl]at h;cases hb:ka l with
 |error k=>rw[hb]at h;cases h
 |ok m=>
  rw[hb]at h;simp only at h;by_cases hm:m.stack=[]
  ·obtain⟨r,hk⟩:=qW hb hm hl;exact⟨r.tree,hl,m,r,_,hb,hm,hk,rfl⟩
  ·rw[jJ5 hm]at h;cases h
theorem jHW{l:LB}{t:Tre}(h:Is9 l t)(fill:LB):∃b,yV t=some b/\b.length<=jv/\(zB fill b.length b false 0).length<=11*b.length/\((zB fill b.length b false 0).length<=60000->∃u,Is9 (zB fill b.length b false 0) u/\u.str=t.str):=by
 have G6:=h.sz.full;obtain⟨hl,m,r,f,h1,h2,h3,rfl⟩:=h;obtain⟨P,p1,p2,p3,p4⟩:=jAK h1 h2 h3;obtain⟨Q,q1,q2,q3⟩:=Qr fill P (bz P).length 0 p2 p3 (jL3 _);obtain⟨⟨m',a1,a2⟩,a3⟩:=p4 Q q2 q3;refine⟨bz P,p1,jL4 (xu p1) G6,YP fill _ _ _ _,fun hc=> ?_⟩;rw[q1]at hc⊢;obtain⟨r',Sq⟩:=qW a1 a2 hc;exact⟨r'.tree,⟨hc,m',r',_,a1,a2,Sq,rfl⟩,a3 _ _ Sq⟩
theorem jHq{w:World}{g:Nat}{src:BA}{r:Rdr}{s:Sl}(h:St w g src r s):∃ns ps,TrF w r.tree s ns ps:=by
 obtain⟨ns,ps,hR⟩:=h.rows;refine⟨ns,ps,Rd.of_own hR.rA,Rd.of_own hR.rG,Rd.of_own hR.rM,Rd.of_own hR.rP,Rd.of_own hR.rN,?_,hR.pe,hR.ne,fun x hx=>⟨(hR.po x hx).ps,(hR.po x hx).es⟩,fun x hx=>⟨(hR.no x hx).kids,(hR.no x hx).vs⟩⟩;have:=Rd.of_own hR.rO
 rwa [show r.tree.ats.flatMap oC=r.tree.ats.map iv from List.map_eq_flatMap.symm]at this
theorem Sz9.trd{w:World}{t:Tre}(z:Sz9 t){s:Sl}{ns:List MNd}{ps:List MSt}(h:TrF w t s ns ps):TrD w t s ns ps:=
 ⟨⟨h.rN,h.ne,z.nN,fun x hx=>⟨(h.no x hx).1,by have:=(z.no x.n (by rw[<-h.ne];exact List.mem_map_of_mem hx)).1;omega⟩⟩,h.rA,h.rG,h.rM,h.rP,h.pe,fun x hx=>⟨⟨(h.po x hx).1,(z.nS x.s (by rw[<-h.pe];exact List.mem_map_of_mem hx)).1⟩,(h.po x hx).2,(z.nS x.s (by rw[<-h.pe];exact List.mem_map_of_mem hx)).2⟩,z.nA,z.nG,z.nM,z.nP⟩
theorem Sz9.str{t:Tre}(z:Sz9 t):TrB t.str:=
 ⟨by show(t.attrs.map _).length<=_;rw[jK7];exact z.nA,by show(t.stages.map _).length<=_;rw[jK7];exact z.nG,by show(t.miles.map _).length<=_;rw[jK7];exact z.nM,by show(t.steps.map _).length<=_;rw[jK7];exact z.nP,z.nN,Nat.zero_le _,
  fun x hx=>by
   obtain⟨y,hy,rfl⟩:=List.mem_map.1 (show x∈t.steps.map Stp.str from hx);have:=z.nS y hy;show(y.params.map _).length<=_ /\(y.effects.map _).length<=_;rw[jK7,jK7];exact this,
  fun n hn=>by have:=z.no n hn;rw[this.2.1];exact⟨by omega,Nat.zero_le _⟩⟩
def jKR(w:World)(t:Tre)(e:Ending)(W:World):Prop:=∃s ns ps,e=.returned (.tuple #[.agg (jJ t s).toArray,.int .i64 0,.int .i64 0])/\TrF W t s ns ps/\Old w W
theorem jFL(w:World)(hg:Sg w)(h8:8<=w.heap.size)(A:OA)(n c:Nat)(l:LB)(hr:Rd w 1 A n (l.map bv)){t:Tre}(h:Is9 l t):Calls prog 26 #[.slice A n c] w (jKR w t):=by
 obtain⟨hl,m,r,f,h1,h2,h3,rfl⟩:=h;exact(qb w hg h8 A n c l hr hl m h1 h2 f r h3).mono fun e W ⟨g,s,he,hs,ho,_⟩=>by
  obtain⟨ns,ps,ht⟩:=jHq hs;exact⟨s,ns,ps,he,ht,ho⟩
def jKQ(w:World)(b:LB)(e:Ending)(W:World):Prop:=∃A c,e=.returned (.tuple #[.slice A b.length c,.int .i64 0])/\Rd W 1 A b.length (b.map bv)/\Old w W
theorem jGH(w:World)(hg:Sg w)(hT:TabW w)(h8:8<=w.heap.size){t:Tre}{s:Sl}{ns:List MNd}{ps:List MSt}(h:TrF w t s ns ps)(z:Sz9 t){b:LB}(hb:yV t=some b):
  Calls prog 14 #[.agg (jJ t s).toArray] w (jKQ w b):=by
 refine(jBd w hg hT h8 t s ns ps (z.trd h) (fun n hn=>(z.no n hn).2.2) z.full).mono fun e W h=> ?_;unfold jDA at h;rw[hb]at h;obtain⟨A,c,rfl,Hh,hk⟩:=h;exact⟨A,c,rfl,Rd.of_own Hh,(jQ0 NoX w).trans hk (fun b hb (e:w.heap.size<=b)=>by omega)⟩
def jJv(w:World)(t:Tre)(e:Ending)(W:World):Prop:=∃s ns ps,e=.returned (.agg (jJ t s).toArray)/\TrF W t s ns ps/\Old w W
theorem jFY(w:World){t:Tre}{s:Sl}{ns:List MNd}{ps:List MSt}(h:TrF w t s ns ps)(z:Sz9 t){u:Tre}(hu:t.str=u):Calls prog 31 #[.agg (jJ t s).toArray] w (jJv w u):=by
 subst hu;refine(jJp w t s ns ps h z.nA z.nG z.nM z.nP z.nS).mono fun e W ⟨r,he,hb,e1,e2,e3,e4⟩=> ?_;have eP:r.qs.length=t.steps.length:=(by rw[<-jK7 (f:=MSt.s),e4,jK7]);refine⟨⟨r.aA,r.ac,r.gA,r.gc,r.mA,r.mc,r.pA,r.pc,s.nA,s.nc,none,0,s.z⟩,ns,r.qs,?_,?_,hb.ho⟩
 ·rw[he];unfold brC jJ;rw[e1,e2,e3,eP];simp only[Tre.str,jK7,jN2]
 ·have hA:=Rd.of_own hb.rA;have hG:=Rd.of_own hb.rG;have hM:=Rd.of_own hb.rM;have hP:=Rd.of_own hb.rP;rw[e1]at hA;rw[e2]at hG;rw[e3]at hM;rw[show r.qs.length=(t.steps.map Stp.str).length by rw[jK7];exact eP]at hP;exact⟨hA,hG,hM,hP,h.rN.old hb.ho,Rd.none_,e4,h.ne,fun x hx=>⟨Rd.of_own (hb.po x hx).p,Rd.of_own (hb.po x hx).e⟩,fun x hx=>⟨(h.no x hx).1.old hb.ho,(h.no x hx).2.old hb.ho⟩⟩
def Qs(fl:LB)(l:LB)(q:Bool)(k:Nat):LB:=zB fl l.length l q k
section
variable{fl Y:LB}{y d:UInt8}{q q' :Bool}{k:Nat}
theorem jE2:Qs fl (92::d::Y) true k=92::d::Qs fl Y true k:=by
 unfold Qs;rw[jK6,jK6,Qq,yF fl (Y.length+1) Y.length Y true k (by omega) (by omega)]
theorem jE0(h1:¬(q=true/\y=92/\Y≠ []))(h2:(if y=34 then !q else q)=false)(h3:y=32\/y=10)(h4:fl≠ []):Qs fl (y::Y) q k=jFz fl k++Qs fl Y false (k+1):=by
 unfold Qs;rw[jK6,zB,jJ5 h1];simp only;rw[h2,jJ6 ⟨rfl,h3,h4⟩]
theorem jE1(h1:¬(q=true/\y=92/\Y≠ []))(h2:(if y=34 then !q else q)=q')(h3:¬(q' =false/\(y=32\/y=10)/\fl≠ [])):Qs fl (y::Y) q k=y::Qs fl Y q' k:=by
 unfold Qs;rw[jK6,zB,jJ5 h1];simp only;rw[h2,jJ5 h3]
end
theorem jEz{fl Y:LB}{y:UInt8}{q q' :Bool}(h1:¬(q=true/\y=92/\Y≠ []))(h2:(if y=34 then !q else q)=q')(h3:¬(q' =false/\(y=32\/y=10)/\fl≠ [])):
  (q=true/\q' =true/\((y.toNat:Int)==92)=true/\Y=[]/\((y.toNat:Int)==34)=false)\/
  (q=true/\q' =false/\((y.toNat:Int)==92)=false/\((y.toNat:Int)==34)=true/\((y.toNat:Int)==32)=false/\((y.toNat:Int)==10)=false)\/
  (q=true/\q' =true/\((y.toNat:Int)==92)=false/\((y.toNat:Int)==34)=false)\/
  (q=false/\q' =true/\((y.toNat:Int)==34)=true)\/
  (q=false/\q' =false/\((y.toNat:Int)==34)=false/\((y.toNat:Int)==32)=false/\((y.toNat:Int)==10)=false)\/
  (q=false/\q' =false/\((y.toNat:Int)==34)=false/\((y.toNat:Int)==32)=true/\fl=[])\/
  (q=false/\q' =false/\((y.toNat:Int)==34)=false/\((y.toNat:Int)==32)=false/\((y.toNat:Int)==10)=true/\fl=[]):=by
 have e:∀z:UInt8,((y.toNat:Int)==(z.toNat:Int))=decide (y=z):=fun z=>by
  by_cases hz:y=z
  ·rw[hz,beq_self_eq_true,jK5 rfl]
  ·rw[jK3 hz,beq_eq_false_iff_ne];exact fun h=>hz (UInt8.toNat_inj.1 (by omega))
 have e92:((y.toNat:Int)==92)=decide (y=92):=e 92;have e34:((y.toNat:Int)==34)=decide (y=34):=e 34;have e32:((y.toNat:Int)==32)=decide (y=32):=e 32;have e10:((y.toNat:Int)==10)=decide (y=10):=e 10;rw[e92,e34,e32,e10];by_cases y34:y=34
 ·subst y34;simp only[if_true]at h2;cases q<;>cases q' <;>simp at*
 ·rw[jJ5 y34]at h2;subst h2;cases q
  ·by_cases y32:y=32
   ·subst y32;simp at*;exact h3
   ·by_cases y10:y=10
    ·subst y10;simp at*;exact h3
    ·simp[y34,y32,y10]
  ·by_cases y92:y=92
   ·subst y92;simp at*;exact h1
   ·simp[y34,y92]
theorem eq9{y z:UInt8}(h:y=z):((y.toNat:Int)==(z.toNat:Int))=true:=by rw[h,beq_self_eq_true]
theorem ne9{y z:UInt8}(h:y≠z):((y.toNat:Int)==(z.toNat:Int))=false:=jM3 fun e=>h (UInt8.toNat_inj.1 (by omega))
theorem UI{α:Type}{l:List α}{i:Nat}(h:i<l.length):∃y,l[i]? =some y/\l.drop i=y::l.drop (i+1):=⟨l[i],jJ9 h,jM9 h⟩
theorem ZO{w W:World}{p:Addr}{v:Value}(h:w.cell? p=some v)(ho:Old w W):W.cell? p=some v:=(World.cell?_of_block (ho.block _ (jg h) (fun f=>f))).trans h
theorem jBL:∀j:Fin 8,(#[Value.string ⟨#[32]⟩,.string ⟨#[9]⟩,.string ⟨#[10]⟩,.string ⟨#[13]⟩,.string ⟨#[35,10]⟩,.string ⟨#[10,9,32]⟩,.string ⟨#[35,97,34,123,255,10]⟩,.string ⟨#[32,35,32,115,116,97,103,101,32,35,10]⟩]:Array Value)[j.val]? =some (.string ⟨(rows9.getD j.val []).toArray⟩):=by
 intro j;have h:j.val=0\/j.val=1\/j.val=2\/j.val=3\/j.val=4\/j.val=5\/j.val=6\/j.val=7:=(by omega);rcases h with e|e|e|e|e|e|e|e<;>rw[e]<;>rfl
theorem jFX(w:World)(T:TypeId)(zs cs:List Value)(hl:zs.length=cs.length):(w.alloc (.cells zs.toArray T)).there w.heap.size 0 cs.toArray.size/\Blk ((w.alloc (.cells zs.toArray T)).setCells w.heap.size 0 cs.toArray.toList) w.heap.size T cs.toArray/\Old w ((w.alloc (.cells zs.toArray T)).setCells w.heap.size 0 cs.toArray.toList):=by
 have hb:=jQ2 w T zs.toArray;refine⟨Blk.there hb 0 _ (by rw[jJ8,jJ8,hl];exact Nat.le_of_eq (Nat.zero_add _)),Blk.setWhole hb _ hl,((jQ0 NoX w).alloc _).trans (Kp.setCells _ _ _ _) (fun b hb e=>by have:b=w.heap.size:=e;omega)⟩
theorem jCu(w:World)(hg:Sg w)(h8:8<=w.heap.size)(B:OA)(d:Nat)(l:LB)(hr:Rd w 1 B l.length (l.map bv))(v:Value)(h0:jDD l≠0):
  Calls prog 7 #[.slice B l.length d,v] w fun e w' =>e=.returned (.bool true)/\Old w w' :=by
 have HP:=G (jDu w hg h8 B l.length d l hr);have HK:=G (fun W (hO:Old w W)=>uO W (hg.old hO) (jL4 h8 hO.size));unfold jJH at HP;have b1:((jDD l:Int) !=0)=true:=bne_iff_ne.2 (by omega);generalize jDD l=z at*;generalize jBj l=y at*;clear hg h8 hr h0;go_enter func7,ntmps7;go_wp2_with (first|(go_at_call 12;refine(HK.out _ FL.out).mono ?_;rintro e wk ⟨rfl,ho⟩;have EH:=G (FL.out.trans ho (fun _ _ e=>e));clear ho)|(go_at_call 26;refine HP.out.mono ?_;rintro e w2 ⟨nm,ta,aA,an,ac,gA,gn,gc,mA,mn,mc,pA,pn,pc,nA,nn,nc,oA,on,oc,rfl,ho⟩;have FL:=G (ho.alloc (.cells #[.string nm,.int .i64 ta,.slice aA an ac,.slice gA gn gc,.slice mA mn mc,.slice pA pn pc,.slice nA nn nc,.slice oA on oc] 29));clear ho)|fail);go_ret;exact⟨rfl,EH.out⟩
end Go.Proofs.YtmmjcbbogokmfaaGreatDoor

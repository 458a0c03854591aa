import Derived.Test.YtifbhcfdealfaaaGreatDoorMl13
import Derived.Test.YtifbhcfdealfaaaGreatDoorMl19
import Derived.Laws.MakeOwn
import Derived.Lib.LaidTab
import Derived.LaidLaws
set_option maxRecDepth 100000
set_option maxHeartbeats 25600000
namespace Go.Proofs.YtifbhcfdealfaaaGreatDoor
open Go.Proofs.Tryz
open Go.RowKit
theorem jA8:(prog.info? 4).map (fun i=>(i.zero,i.size,i.bytes))=some (some (.bool false),1,1):=by kernel_rfl
theorem jM{a b c:World}(h:Old a b)(k:Old b c):Old a c:=h.trans k (fun _ _ e=>e)
def bC(l:List Bool):Array Value:=(l.map Value.bool).toArray
theorem XT(n:Nat):madeCells #[Value.bool false] (n*1)=bC (List.replicate n false):=by
 unfold madeCells bC;apply Array.ext
 ·simp
 ·intro i h1 h2;simp;rw[Nat.mod_one];rfl
theorem ZL(n:Nat)(hn:n<=4000000)(W:World):
  (Instr.makeSlice 112 (.int .i64 (n:Int)) (.int .i64 (n:Int))).run prog W=.ok (.slice (some ⟨W.heap.size,0,none⟩) n n) (W.alloc (.cells (bC (List.replicate n false)) 4)):=by
 obtain⟨i,hi,FJ,Fv,FU⟩:=info_parts jA8;have hr:=run_make (P:=prog) W 112 4 i (.bool false) underlying112 hi FJ .i64 .i64 n n (by omega) (by omega) (by rw[FU];omega) (by omega);simp only[jL1,Fv]at hr;rw[hr,show(Value.bool false).cells= #[Value.bool false]from rfl,XT]
theorem jGO(l:List Bool)(i:Nat)(h:i<l.length):(bC l)[i]? =some (.bool l[i]):=by
 unfold bC;rw[jJ7,jM1,jJ9 h];rfl
theorem jFE(l:List Bool)(i:Nat)(b:Bool):(bC l).setIfInBounds i (.bool b)=bC (l.set i b):=by
 unfold bC;rw[jJ1,List.map_set]
def tK(i:Nat)(l:List Nd):Option (List Bool)->Bool
 |some kid' =>yE (i+1) l kid'
 |none=>false
theorem uC(i:Nat)(n:Nd)(l:List Nd)(kid:List Bool):yE i (n::l) kid=if js n=true then tK i l (zy i n.kids kid)else false:=by
 rw[yE];cases zy i n.kids kid<;>rfl
theorem QV(i:Nat)(k:Int)(l:List Int)(kid:List Bool):zy i (k::l) kid=if k<0\/(i:Int)<=k\/kid.getD k.toNat false=true then none else zy i l (kid.set k.toNat true):=by rw[zy]
theorem QT(w:World)(hg:Sg w)(A:OA)(c:Nat)(xs:List MNd)(hr:Rd w 7 A xs.length (xs.flatMap ndC))(hx:∀x∈xs,Rd w 1 x.A x.n.kids.length (x.n.kids.map iv)/\x.n.kids.length<=2000000)(hl:xs.length<=4000000):
  Calls prog 226 #[.slice A xs.length c] w fun e w' =>e=.returned (.bool (yE 0 (xs.map (·.n)) (List.replicate xs.length false)))/\Old w w' :=by
 have ME:=ZL xs.length hl;have H0:=G ((jQ0 NoX w).alloc (.cells (bC (List.replicate xs.length false)) 4));have Gz:=G (jQ2 w 4 (bC (List.replicate xs.length false)));have HG:=G hg;have HX:=G hx;have Lv:=G hr;have Hl:=G hl;have Fi:=G (show yE 0 (xs.map (·.n)) (List.replicate xs.length false)=yE 0 ((xs.map (·.n)).drop 0) (List.replicate xs.length false)from rfl);have Sm:=G (show(List.replicate xs.length false).length=xs.length from List.length_replicate);generalize yE 0 (xs.map (·.n)) (List.replicate xs.length false)=R at Fi⊢;generalize List.replicate xs.length false=kid0 at*;clear hg hr hx hl;go_enter func226,ntmps226;go_wp2;go_loopw [13] (fun s wr=>∃(i:Nat) (kid:List Bool),i<=xs.length/\s=.int .i64 (i:Int)/\kid.length=xs.length/\Blk wr w.heap.size 4 (bC kid)/\Old w wr/\R=yE i ((xs.map (·.n)).drop i) kid) (fun s _=>xs.length-(intOf s).toNat)
 case atStart=>exact⟨0,kid0,Nat.zero_le _,rfl,Sm.out,Gz.out,H0.out,Fi.out⟩
 case round=>
  clear H0 Gz Fi Sm ME;obtain⟨i,kid,hi,rfl,FV,hB,hO,hR⟩:=hrel;by_cases hlt:i<xs.length
  ·obtain⟨bb,o,hA,hc⟩:=jK (C:=ndC) (fun x=>rfl) (Lv.out.old hO) (jJ9 hlt) hlt;have Wx:=HX.out _ (jL6 hlt);rw[jM9 (by rw[jK7];exact hlt),List.getElem_map,uC]at hR;generalize xs[i]=x at*;have h0:wr.cell? ⟨bb,o+i*7,none⟩=some (.int .i64 x.n.op):=hc 0 _ rfl;have h1:wr.cell? ⟨bb,o+i*7+1,none⟩=some (.string x.n.name):=hc 1 _ rfl;have h2:wr.cell? ⟨bb,o+i*7+2,none⟩=some (.int .i64 x.n.vk):=hc 2 _ rfl;have h3:wr.cell? ⟨bb,o+i*7+3,none⟩=some (.int .i64 x.n.vn):=hc 3 _ rfl;have h4:wr.cell? ⟨bb,o+i*7+4,none⟩=some (.string x.n.vt):=hc 4 _ rfl;have h5:wr.cell? ⟨bb,o+i*7+5,none⟩=some (.slice x.vA x.n.vs.length x.vc):=hc 5 _ rfl;have h6:wr.cell? ⟨bb,o+i*7+6,none⟩=some (.slice x.A x.n.kids.length x.c):=hc 6 _ rfl;have FS:=G (hO.alloc (.cells (ndC x).toArray 146));have Fg:=G (hB.alloc (.cells (ndC x).toArray 146));have Wt:=G (jQ2 wr 146 (ndC x).toArray);have HT:=G (Yv (wr.alloc (.cells (ndC x).toArray 146)) (HG.out.old FS.out) x);have i1:(0:Int)<=(i:Int):=(by omega);have i2:(i:Int).toNat=i:=(by omega);have i3:(i:Int)<(xs.length:Int):=(by omega);have i4:IntKind.i64.wrap ((i:Int)+1)=(i:Int)+1:=jQ3 _ (by have:=Hl.out;omega);have F8:=G hlt;have DY:=G Wx;have V0:=G FV;have HR:=G hR;rw[hA];clear hc hA Wx hR hO hB hlt hi FV;unfold ndC iv at HT Wt Fg;cases GY:js x.n with
   |false=>
    rw[GY]at HT HR;have Fy:=G (show R=false by rw[HR.out];rfl);clear HR GY;go_wp2_with (first|(go_at_call 136;refine HT.out.mono ?_;rintro e w2 ⟨rfl,GI⟩;have Gd:=G (jM FS.out GI);clear GI)|fail);go_ret;exact⟨by rw[Fy.out];rfl,Gd.out⟩
   |true=>
    rw[GY]at HT HR;have Nx:=G (show R=tK i ((xs.map (·.n)).drop (i+1)) (zy i x.n.kids kid)by rw[HR.out];rfl);clear HR GY;go_wp2_with (first|(go_at_call 136;refine HT.out.mono ?_;rintro e w2 ⟨rfl,GI⟩;have Gd:=G (jM FS.out GI);have AR:=(Wt.out.old GI).at_ 6 (v:=.slice x.A x.n.kids.length x.c) rfl;have Gj:=G (Fg.out.old GI);clear GI)|fail);obtain⟨wo,TO⟩:∃u,u=wr:=⟨_,rfl⟩;subst TO;clear AR h0 h1 h2 h3 h4 h5 h6;have Ny:=G (show Blk w2 w.heap.size 4 (bC kid)from Gj.out);have C7:=G (show zy i x.n.kids kid=zy i (x.n.kids.drop 0) kid from rfl);generalize zy i x.n.kids kid=T at Nx C7;go_loopw [24] (fun s wr=>∃(j:Nat) (kd:List Bool),j<=x.n.kids.length/\s=.int .i64 (j:Int)/\kd.length=xs.length/\Blk wr w.heap.size 4 (bC kd)/\Old w wr/\T=zy i (x.n.kids.drop j) kd) (fun s _=>x.n.kids.length-(intOf s).toNat)
    case atStart=>exact⟨0,kid,Nat.zero_le _,rfl,V0.out,Ny.out,Gd.out,C7.out⟩
    case round=>
     clear Ny C7 Gj Fg Wt HT FS Gd;obtain⟨j,kd,hj,rfl,FV,hB,hO,hT⟩:=hrel;have HB:=G hB;have HO:=G hO;have Sp:=G FV;have R7:w.heap.size<wr.heap.size:=hB.lt;by_cases Fs:j<x.n.kids.length
     ·have Rv:=(DY.out.1.old hO);obtain⟨kb,ko,u,GJ,hu,NC⟩:=Rv.at_ Fs;rw[jM1,jJ9 Fs]at hu;obtain rfl:=jL5 hu;rw[jM9 Fs,QV]at hT;generalize x.n.kids[j]=kv at*;replace NC:wr.cell? ⟨kb,ko+j,none⟩=some (.int .i64 kv):=NC;have j1:(0:Int)<=(j:Int):=(by omega);have j2:(j:Int).toNat=j:=(by omega);have j3:(j:Int)<(x.n.kids.length:Int):=(by omega);have j4:IntKind.i64.wrap ((j:Int)+1)=(j:Int)+1:=jQ3 _ (by have:=DY.out.2;omega);have Nn:=G Fs;rw[GJ];by_cases e1:kv<0
      ·rw[jJ6 (.inl e1)]at hT;have Fy:=G (show R=false by rw[Nx.out,hT];rfl);clear hT Rv GJ hB hO FV hj Fs;go_wp2;go_ret;exact⟨by rw[Fy.out];rfl,HO.out⟩
      by_cases e2:(i:Int)<=kv
      ·rw[jJ6 (.inr (.inl e2))]at hT;have Fy:=G (show R=false by rw[Nx.out,hT];rfl);clear hT Rv GJ hB hO FV hj Fs;go_wp2;go_ret;exact⟨by rw[Fy.out];rfl,HO.out⟩
      have LK:kv.toNat<kd.length:=by rw[FV];omega
      have Ff:=(hB.cell kv.toNat).trans (jGO kd kv.toNat LK);have Ir:=hB.frozen kv.toNat;have k1:(0:Int)<=kv:=(by omega);have k2:kv<(xs.length:Int):=(by omega);have GP:kd.getD kv.toNat false=kd[kv.toNat]:=by rw[List.getD,jJ9 LK];rfl
      cases e3:kd[kv.toNat]with
      |true=>
       rw[jJ6 (.inr (.inr (by rw[GP,e3])))]at hT;rw[e3]at Ff;have Fy:=G (show R=false by rw[Nx.out,hT];rfl);clear hT Rv GJ hB hO FV hj Fs GP e3 LK;go_wp2;go_ret;exact⟨by rw[Fy.out];rfl,HO.out⟩
      |false=>
       rw[jJ5 (by rw[GP,e3];simp[e1,e2])]at hT;rw[e3]at Ff;have V4:=G hT;have WI:=G (show Blk (wr.setCell ⟨w.heap.size,kv.toNat,none⟩ (.bool true)) w.heap.size 4 (bC (kd.set kv.toNat true))from by rw[<-jFE];exact hB.set_ _ _);have Tv:=G (hO.setCell (p:=⟨w.heap.size,kv.toNat,none⟩) (fun h=>absurd h (by simp only;omega)) (.bool true));clear hT Rv GJ hB hO FV hj Fs GP e3 LK;go_wp2;exact⟨⟨j+1,_,by have:=Nn.out;omega,by rw[show((j+1:Nat):Int)=(j:Int)+1 by omega],by rw[List.length_set];exact Sp.out,WI.out,Tv.out,V4.out⟩,by have:=Nn.out;simp only[intOf];omega⟩
     ·obtain rfl:j=x.n.kids.length:=(by omega);rw[List.drop_length]at hT;have BR:=G (show R=yE (i+1) ((xs.map (·.n)).drop (i+1)) kd by rw[Nx.out,hT];rfl);clear hT hB hO FV hj Fs;go_wp2;exact⟨⟨i+1,kd,by have:=F8.out;omega,by rw[show((i+1:Nat):Int)=(i:Int)+1 by omega],Sp.out,HB.out,HO.out,BR.out⟩,by have:=F8.out;simp only[intOf];omega⟩
  ·obtain rfl:i=xs.length:=(by omega);have Gh:R=true:=by rw[hR,List.drop_of_length_le (by rw[jK7];exact jL3 _)];rfl
   have HR:=G Gh;have HO:=G hO;clear Gh hR hO hB hlt hi FV;go_wp2;go_ret;exact⟨by rw[HR.out];rfl,HO.out⟩
theorem VU(x:BA×Int):∀(l:List (BA×Int)) (old:List BA) (p:Wr9N),kP old (l++[x]) p=jP (decide (0<=jC (old++l.map (·.1)) x.1)) (kP old l p) x.2 92
 |[],old,p=>by rw[List.map_nil,jN7];rfl
 |y::l,old,p=>by
  rw[jN6,kP,VU x l,kP,List.map_cons,jK1];rfl
def nmP{α:Type}(f:α->BA×Int)(l:List α)(k:Nat)(p:Wr9N):Wr9N:=kP [] ((l.map f).take k) p
theorem KC{α:Type}(f:α->BA×Int)(l:List α)(k:Nat)(hk:k<l.length)(p:Wr9N):nmP f l (k+1) p=jP (decide (0<=jC ((l.map fun x=>(f x).1).take k) (f l[k]).1)) (nmP f l k p) (f l[k]).2 92:=by
 unfold nmP;rw[jK2 (by rw[jK7];exact hk),VU,jN8,List.getElem_map,List.map_take,List.map_map];rfl
theorem YG{α:Type}(f:α->BA×Int)(l:List α)(p:Wr9N):nmP f l l.length p=kP [] (l.map f) p:=by
 unfold nmP;rw[jK4 (by rw[jK7];exact jL3 _)]
theorem zU{α:Type}(f:α->BA)(l:List α)(k:Nat)(hk:k<l.length):(l.map f).take (k+1)=(l.map f).take k++[f l[k]]:=by
 rw[jK2 (by rw[jK7];exact hk),List.getElem_map]
structure NbS(w:World)(g:Nat)(t:Tre)(s:Sl)(b:BdS)(k1 k2 k3 k4:Nat)(p:Wr9N)(W:World):Prop where
 bx:Bx W g t s {b with p:=p}
 m1:MW W b.b1 k1 (jW (t.nA.take k1))
 m2:MW W b.b2 k2 (jW (t.nG.take k2))
 m3:MW W b.b3 k3 (jW (t.nM.take k3))
 m4:MW W b.b4 k4 (jW (t.nS.take k4))
 ne:b.b1≠b.b2/\b.b1≠b.b3/\b.b1≠b.b4/\b.b2≠b.b3/\b.b2≠b.b4/\b.b3≠b.b4
 ge:w.heap.size<=g/\w.heap.size<=b.b1/\w.heap.size<=b.b2/\w.heap.size<=b.b3/\w.heap.size<=b.b4
 old:Old w W
 q:Blk W w.heap.size 39 (jr t s).toArray
section
variable{w W W1:World}{g:Nat}{t:Tre}{s:Sl}{b:BdS}{k1 k2 k3 k4:Nat}{p:Wr9N}
theorem NbS.keep(h:NbS w g t s b k1 k2 k3 k4 p W)(ho:Old W W1):NbS w g t s b k1 k2 k3 k4 p W1:=
 ⟨Blk.old h.bx ho,h.m1.old ho,h.m2.old ho,h.m3.old ho,h.m4.old ho,h.ne,h.ge,yz h.old ho,h.q.old ho⟩
theorem NbS.bx_ne(h:NbS w g t s b k1 k2 k3 k4 p W):b.b1≠g/\b.b2≠g/\b.b3≠g/\b.b4≠g:=⟨h.m1.ne h.bx,h.m2.ne h.bx,h.m3.ne h.bx,h.m4.ne h.bx⟩
theorem NbS.next1(h:NbS w g t s b k1 k2 k3 k4 p W)(ho:Old W W1)(hk:k1<t.attrs.length)(hl:t.attrs.length<=1000000)(hn:t.attrs[k1].name.size<=9223372036854775807):
  Calls prog 117 #[.pointer (some ⟨g,0,none⟩),.int .i64 1,.int .i64 (k1:Int),.string t.attrs[k1].name,iv t.attrs[k1].at_] W1 fun e w' =>e=.returned (.tuple #[])/\NbS w g t s b (k1+1) k2 k3 k4 (jP (decide (0<=jC (t.nA.take k1) t.attrs[k1].name)) p t.attrs[k1].at_ 92) w' :=by
 have hlen:(t.nA.take k1).length=k1:=by rw[jK9];unfold Tre.nA;rw[jK7];omega
 have hN:=jEj W1 g t s {b with p:=p} (Blk.old h.bx ho) (t.nA.take k1) k1 (by omega) (h.m1.old ho) t.attrs[k1].name hn t.attrs[k1].at_ (by omega);rw[hlen]at hN;refine hN.mono fun e w' ⟨he,hr⟩=>⟨he,⟨hr.1,by have h9:=hr.2.1;rw[show t.nA.take (k1+1)=t.nA.take k1++[t.attrs[k1].name]from zU (fun x:Atr=>x.name) t.attrs k1 hk];exact h9,(h.m2.old ho).kp hr.2.2 (fun e=>e.elim h.bx_ne.2.1 (h.ne.1).symm),(h.m3.old ho).kp hr.2.2 (fun e=>e.elim h.bx_ne.2.2.1 (h.ne.2.1).symm),(h.m4.old ho).kp hr.2.2 (fun e=>e.elim h.bx_ne.2.2.2 (h.ne.2.2.1).symm),h.ne,h.ge,?_,(h.q.old ho).kp hr.2.2 (fun e=>e.elim (fun e=>Blk.ne_ h.q h.bx (by decide) e) (fun e=>(h.m1.ne h.q) e.symm))⟩⟩;exact(yz h.old ho).trans hr.2.2 (fun q hq e=>by
  have g1:=h.ge.1;have g2:=h.ge.2.1;rcases e with e|e
  ·exact absurd (show w.heap.size<=q by rw[e];exact g1) (Nat.not_le_of_lt hq)
  ·exact absurd (show w.heap.size<=q by rw[e];exact g2) (Nat.not_le_of_lt hq))
theorem NbS.next2(h:NbS w g t s b k1 k2 k3 k4 p W)(ho:Old W W1)(hk:k2<t.stages.length)(hl:t.stages.length<=1000000)(hn:t.stages[k2].name.size<=9223372036854775807):
  Calls prog 117 #[.pointer (some ⟨g,0,none⟩),.int .i64 2,.int .i64 (k2:Int),.string t.stages[k2].name,iv t.stages[k2].at_] W1 fun e w' =>e=.returned (.tuple #[])/\NbS w g t s b k1 (k2+1) k3 k4 (jP (decide (0<=jC (t.nG.take k2) t.stages[k2].name)) p t.stages[k2].at_ 92) w' :=by
 have hlen:(t.nG.take k2).length=k2:=by rw[jK9];unfold Tre.nG;rw[jK7];omega
 have hN:=jEi W1 g t s {b with p:=p} (Blk.old h.bx ho) (t.nG.take k2) k2 (by omega) (h.m2.old ho) t.stages[k2].name hn t.stages[k2].at_ (by omega);rw[hlen]at hN;refine hN.mono fun e w' ⟨he,hr⟩=>⟨he,⟨hr.1,(h.m1.old ho).kp hr.2.2 (fun e=>e.elim h.bx_ne.1 h.ne.1),by have h9:=hr.2.1;rw[show t.nG.take (k2+1)=t.nG.take k2++[t.stages[k2].name]from zU (fun x:Stg=>x.name) t.stages k2 hk];exact h9,(h.m3.old ho).kp hr.2.2 (fun e=>e.elim h.bx_ne.2.2.1 (h.ne.2.2.2.1).symm),(h.m4.old ho).kp hr.2.2 (fun e=>e.elim h.bx_ne.2.2.2 (h.ne.2.2.2.2.1).symm),h.ne,h.ge,?_,(h.q.old ho).kp hr.2.2 (fun e=>e.elim (fun e=>Blk.ne_ h.q h.bx (by decide) e) (fun e=>(h.m2.ne h.q) e.symm))⟩⟩;exact(yz h.old ho).trans hr.2.2 (fun q hq e=>by
  have g1:=h.ge.1;have g2:=h.ge.2.2.1;rcases e with e|e
  ·exact absurd (show w.heap.size<=q by rw[e];exact g1) (Nat.not_le_of_lt hq)
  ·exact absurd (show w.heap.size<=q by rw[e];exact g2) (Nat.not_le_of_lt hq))
theorem NbS.next3(h:NbS w g t s b k1 k2 k3 k4 p W)(ho:Old W W1)(hk:k3<t.miles.length)(hl:t.miles.length<=1000000)(hn:t.miles[k3].name.size<=9223372036854775807):
  Calls prog 117 #[.pointer (some ⟨g,0,none⟩),.int .i64 3,.int .i64 (k3:Int),.string t.miles[k3].name,iv t.miles[k3].at_] W1 fun e w' =>e=.returned (.tuple #[])/\NbS w g t s b k1 k2 (k3+1) k4 (jP (decide (0<=jC (t.nM.take k3) t.miles[k3].name)) p t.miles[k3].at_ 92) w' :=by
 have hlen:(t.nM.take k3).length=k3:=by rw[jK9];unfold Tre.nM;rw[jK7];omega
 have hN:=jEh W1 g t s {b with p:=p} (Blk.old h.bx ho) (t.nM.take k3) k3 (by omega) (h.m3.old ho) t.miles[k3].name hn t.miles[k3].at_ (by omega);rw[hlen]at hN;refine hN.mono fun e w' ⟨he,hr⟩=>⟨he,⟨hr.1,(h.m1.old ho).kp hr.2.2 (fun e=>e.elim h.bx_ne.1 h.ne.2.1),(h.m2.old ho).kp hr.2.2 (fun e=>e.elim h.bx_ne.2.1 h.ne.2.2.2.1),by have h9:=hr.2.1;rw[show t.nM.take (k3+1)=t.nM.take k3++[t.miles[k3].name]from zU (fun x:Mil=>x.name) t.miles k3 hk];exact h9,(h.m4.old ho).kp hr.2.2 (fun e=>e.elim h.bx_ne.2.2.2 (h.ne.2.2.2.2.2).symm),h.ne,h.ge,?_,(h.q.old ho).kp hr.2.2 (fun e=>e.elim (fun e=>Blk.ne_ h.q h.bx (by decide) e) (fun e=>(h.m3.ne h.q) e.symm))⟩⟩;exact(yz h.old ho).trans hr.2.2 (fun q hq e=>by
  have g1:=h.ge.1;have g2:=h.ge.2.2.2.1;rcases e with e|e
  ·exact absurd (show w.heap.size<=q by rw[e];exact g1) (Nat.not_le_of_lt hq)
  ·exact absurd (show w.heap.size<=q by rw[e];exact g2) (Nat.not_le_of_lt hq))
theorem NbS.next4(h:NbS w g t s b k1 k2 k3 k4 p W)(ho:Old W W1)(hk:k4<t.steps.length)(hl:t.steps.length<=1000000)(hn:t.steps[k4].name.size<=9223372036854775807):
  Calls prog 117 #[.pointer (some ⟨g,0,none⟩),.int .i64 4,.int .i64 (k4:Int),.string t.steps[k4].name,iv t.steps[k4].at_] W1 fun e w' =>e=.returned (.tuple #[])/\NbS w g t s b k1 k2 k3 (k4+1) (jP (decide (0<=jC (t.nS.take k4) t.steps[k4].name)) p t.steps[k4].at_ 92) w' :=by
 have hlen:(t.nS.take k4).length=k4:=by rw[jK9];unfold Tre.nS;rw[jK7];omega
 have hN:=jEg W1 g t s {b with p:=p} (Blk.old h.bx ho) (t.nS.take k4) k4 (by omega) (h.m4.old ho) t.steps[k4].name hn t.steps[k4].at_ (by omega);rw[hlen]at hN;refine hN.mono fun e w' ⟨he,hr⟩=>⟨he,⟨hr.1,(h.m1.old ho).kp hr.2.2 (fun e=>e.elim h.bx_ne.1 h.ne.2.2.1),(h.m2.old ho).kp hr.2.2 (fun e=>e.elim h.bx_ne.2.1 h.ne.2.2.2.2.1),(h.m3.old ho).kp hr.2.2 (fun e=>e.elim h.bx_ne.2.2.1 h.ne.2.2.2.2.2),by have h9:=hr.2.1;rw[show t.nS.take (k4+1)=t.nS.take k4++[t.steps[k4].name]from zU (fun x:Stp=>x.name) t.steps k4 hk];exact h9,h.ne,h.ge,?_,(h.q.old ho).kp hr.2.2 (fun e=>e.elim (fun e=>Blk.ne_ h.q h.bx (by decide) e) (fun e=>(h.m4.ne h.q) e.symm))⟩⟩;exact(yz h.old ho).trans hr.2.2 (fun q hq e=>by
  have g1:=h.ge.1;have g2:=h.ge.2.2.2.2;rcases e with e|e
  ·exact absurd (show w.heap.size<=q by rw[e];exact g1) (Nat.not_le_of_lt hq)
  ·exact absurd (show w.heap.size<=q by rw[e];exact g2) (Nat.not_le_of_lt hq))
end
open Go.RowKit Go.ChangeShapes
theorem zV{P:Program}{w:World}:∀{l:List (String×DataW Unit)} {ps:List MemPlace},DataW.LaidVars P w l ps->∀n d,(n,d)∈l->∃g t cs fuel p,P.globalNamed n=some g/\(P.globals[g]?).map (·.type)=some t/\w.var? P n=some cs/\DataW.trod (fun _=>()) P w 0 (fun _=>true) false fuel t cs.toList=some (d,p)
 |[],_,_,_,_,hm=>by cases hm
 |(n',d')::r,ps,h,n,d,hm=>by
  obtain⟨g,t,cs,fuel,p,q,h1,h2,h3,h4,h5,_⟩:=h;rcases jN4 hm with e|e
  ·cases e;exact⟨g,t,cs,fuel,p,h1,h2,h3,h4⟩
  ·exact zV h5 n d e
theorem VT{H:Type}{enc:TypeId×Value->H}{P:Program}{w:World}{base:Nat}{sp:Nat->Bool}{held:Bool}{fuel:Nat}{t e:TypeId}{n:Nat}{cs:List Value}{ts:List LB}{p:List MemPlace}
  (ht:P.underlying t=some (.array n e)) (he:P.underlying e=some .string) (AP:P.cellsOf e=1) (AO:P.cellsOf t=n)
  (h:DataW.trod enc P w base sp held fuel t cs=some (.agg (ts.map fun s=>.lit (.string s)),p)):cs=wvs ts:=by
 cases fuel with
 |zero=>simp[DataW.trod]at h
 |succ fuel=>
  simp only[DataW.trod,ht,AP,AO,Nat.mul_one]at h;split at h
  ·rename_i hl;obtain⟨xs,hm,hx⟩:=jM4 h;have Gn:xs.map (·.1)=ts.map fun s=>(DataW.lit (.string s):DataW H):=by
    have:=congrArg Prod.fst hx;simpa using this
   have Gp:xs.length=n:=(by simpa using Lib.mapM_length hm);have Ps:ts.length=n:=by
    have:=congrArg List.length Gn;simp at this;omega
   unfold wvs;apply List.ext_getElem?;intro i;by_cases hi:i<n
   ·obtain⟨b,hb,hf⟩:=Lib.mapM_at hm i i (by simp[hi]);obtain⟨s,hc,rfl,_⟩:=DataW.trod_string he hf;have h1:cs[i]? =some (.string s):=by
     have:=congrArg (·[0]?) hc;simpa [List.getElem?_take,List.getElem?_drop]using this
    have h2:(xs.map (·.1))[i]? =some (DataW.lit (.string s.data.toList):DataW H):=(by simp[hb]);rw[Gn]at h2;simp only[jM1,Option.map_eq_some_iff,DataW.lit.injEq,Lit.string.injEq]at h2;obtain⟨s',Dc,e'⟩:=h2;rw[h1,jM1,Dc,e'];rfl
   ·rw[List.getElem?_eq_none (by omega),List.getElem?_eq_none (by simp;omega)]
  ·cases h
theorem jG3:prog.globalNamed "docket/text.reserved" =some 1:=by kernel_rfl
theorem jG2:prog.globalNamed "docket/text.signs" =some 3:=by kernel_rfl
theorem jG4:prog.globalNamed "strconv.ErrSyntax" =some 7:=by kernel_rfl
theorem gNo:prog.globalNamed "docket/kinds.nothing" =some 0:=by kernel_rfl
theorem jGC:(prog.globals[1]?).map (·.type)=some 248:=by kernel_rfl
theorem jGB:(prog.globals[3]?).map (·.type)=some 329:=by kernel_rfl
theorem gNoT:(prog.globals[0]?).map (·.type)=some 81:=by kernel_rfl
theorem jDf:prog.cellsOf 248=35:=by kernel_rfl
theorem jDg:prog.cellsOf 329=19:=by kernel_rfl
theorem jBP:prog.cellsOf 9=1:=by kernel_rfl
theorem jDe:prog.cellsOf 81=2/\prog.cellsOf 56=1/\prog.cellsOf 4=1:=⟨by kernel_rfl,by kernel_rfl,by kernel_rfl⟩
theorem VV{W:World}{l:List (String×DataW Unit)}{n:String}{g m:Nat}{T:TypeId}{ts:List LB}(h:laidMet prog l W)(hm:(n,.agg (ts.map fun s=>.lit (.string s)))∈l)(hg:prog.globalNamed n=some g)(hT:(prog.globals[g]?).map (·.type)=some T)(hu:prog.underlying T=some (.array m 9))(hc:prog.cellsOf T=m):W.rangeAt g 0 (wvs ts):=by
 obtain⟨ps,hv,_⟩:=h;obtain⟨g',t',cs,fuel,p,h1,h2,h3,h4⟩:=zV hv n _ hm;obtain rfl:=jL5 (hg.symm.trans h1);obtain rfl:=jL5 (hT.symm.trans h2);have e:=VT hu underlying9 jBP hc h4;intro j v hj;rw[Nat.zero_add,World.var?_cell hg h3 j,<-Array.getElem?_toList,e];exact hj
theorem jCV{W:World}{l:List (String×DataW Unit)}(h:laidMet prog l W)(h1:("docket/text.reserved",Rows.laid_docket_text_reserved)∈l)(h2:("docket/text.signs",Rows.laid_docket_text_signs)∈l)(h3:("strconv.ErrSyntax",Rows.laid_strconv_ErrSyntax)∈l):Sg W/\8<=W.heap.size:=by
 refine⟨⟨VV (ts:=resL) h h1 jG3 jGC underlying248 jDf,VV (ts:=signL) h h2 jG2 jGB underlying329 jDg⟩,?_⟩;obtain⟨ps,hv,_⟩:=h;obtain⟨g',t',cs,fuel,p,e1,e2,e3,e4⟩:=zV hv _ _ h3;have hlt:7<W.heap.size:=by
  unfold World.var? at e3;rw[jG4]at e3;rcases Nat.lt_or_ge 7 W.heap.size with hl|hl
  ·exact hl
  ·simp[Array.getElem?_eq_none hl]at e3
 exact hlt
theorem jDJ{W:World}{l:List (String×DataW Unit)}(h:laidMet prog l W)(h1:("docket/kinds.nothing",Rows.laid_docket_kinds_nothing)∈l):Kn W:=by
 obtain⟨ps,hv,_⟩:=h;obtain⟨g',t',cs,fuel,p,e1,e2,e3,e4⟩:=zV hv _ _ h1;obtain rfl:=jL5 (gNo.symm.trans e1);obtain rfl:=jL5 (gNoT.symm.trans e2);obtain⟨q0,q1,q2⟩:=jDe;have ML:cs.toList=[.int .i64 0,.bool true]:=by
  unfold Rows.laid_docket_kinds_nothing at e4;obtain⟨y0,y1,n,hx,hl,f0,f1⟩:=trod_struct2 underlying81 e4;simp only[q0,q1,q2]at hl f0 f1;obtain⟨a,ca,xa⟩:=DataW.trod_int underlying56 f0;obtain⟨b,cb,xb⟩:=DataW.trod_bool underlying4 f1;generalize cs.toList=zs at*
  match zs,hl with
  |[u,v],_=>
   simp at ca cb hx
   simp_all
 intro j v hj;rw[Nat.zero_add,World.var?_cell gNo e3 j,<-Array.getElem?_toList,ML];exact hj
noncomputable def low:Nat:=(World.holding prog default ⟨#[],#[],[]⟩).heap.size
def pow10:List Int:=[1,10,100,1000,10000,100000,1000000,10000000,100000000,1000000000,10000000000,100000000000,1000000000000,10000000000000,100000000000000,1000000000000000,10000000000000000,100000000000000000,1000000000000000000,10000000000000000000]
def bru32:List Int:=[0,1,28,2,29,14,24,3,30,22,20,15,25,17,4,8,31,27,13,23,21,19,16,7,26,12,18,6,11,5,10,9]
def bru64:List Int:=[0,1,56,2,57,49,28,3,61,58,42,50,38,29,17,4,62,47,59,36,45,43,51,22,53,39,33,30,24,18,12,5,63,55,48,27,60,41,37,16,46,35,44,21,52,32,23,11,54,26,40,15,34,20,31,10,25,14,19,9,13,8,7,6]
noncomputable def laidWorld (os:Os):World:=
 let w0:=World.holding prog os ⟨#[.cells #[.string ⟨#[105,110,118,97,108,105,100,32,115,121,110,116,97,120]⟩] 394,.cells #[.string ⟨#[118,97,108,117,101,32,111,117,116,32,111,102,32,114,97,110,103,101]⟩] 394],#[],[]⟩
 let put (h:Array Obj) (g:Nat) (cs:Array Value):Array Obj:=h.modify g fun
  | .cells _ t frozen=>.cells cs t frozen
  |o=>o
 let h0:=put w0.heap 0 #[.int .i64 0,.bool true]
 let h1:=put h0 1 (wvs resL).toArray
 let h2:=put h1 3 (wvs signL).toArray
 let h3:=put h2 4 (pow10.map fun z=>Value.int .u64 z).toArray
 let h4:=put h3 7 #[.iface 392 (.pointer (some ⟨low,0,none⟩))]
 let h5:=put h4 8 #[.iface 392 (.pointer (some ⟨low+1,0,none⟩))]
 let h6:=put h5 5 (bru32.map fun z=>Value.int .u8 z).toArray
 let h7:=put h6 6 (bru64.map fun z=>Value.int .u8 z).toArray
 {w0 with heap:=h7}
end Go.Proofs.YtifbhcfdealfaaaGreatDoor

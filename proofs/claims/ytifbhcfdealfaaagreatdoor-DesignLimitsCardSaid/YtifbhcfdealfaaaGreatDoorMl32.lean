import Derived.Test.YtifbhcfdealfaaaGreatDoorMl29
import Derived.Test.YtifbhcfdealfaaaGreatDoorMl30
set_option maxRecDepth 100000
set_option maxHeartbeats 25600000
namespace Go.Proofs.YtifbhcfdealfaaaGreatDoor
open Go.Proofs.Tryz
open Go.RowKit
structure LkT(n:Nat)(t:Tre)(D:List Dk):Prop where
 wf:WfT n t D
 nb:n<=1000000
section
variable{n:Nat}{t:Tre}{D:List Dk}
theorem LkT.all(h:LkT n t D):∀u∈Zs t D,UseOk t u/\u.root<(t.nodes.length:Int):=jFF h.wf
theorem LkT.len(h:LkT n t D):(Zs t D).length<=2000000000:=by
 rw[<-Ye];have:=Yd h.wf D.length;omega
theorem LkT.jG9(h:LkT n t D):∀x∈t.stages,x.in_.size<=1000000:=fun x hx=>by
 have:=h.wf.nm _ (jDC (by rw[<-h.wf.eG];exact hx)) x.in_ (by simp[Dk.names]);have:=h.nb;omega
theorem LkT.M(h:LkT n t D):∀x∈t.miles,x.in_.size<=1000000:=fun x hx=>by
 have:=h.wf.nm _ (jDB (by rw[<-h.wf.eM];exact hx)) x.in_ (by simp[Dk.names]);have:=h.nb;omega
theorem LkT.S(h:LkT n t D):∀x∈t.steps,∀a∈(Dk.S x).names,a.size<=1000000:=fun x hx a ha=>by
 have:=h.wf.nm _ (XQ (by rw[<-h.wf.eS];exact hx)) a ha;have:=h.nb;omega
end
theorem BdK.from_{w W0 W2 W:World}{g:Nat}{t:Tre}{s:Sl}{b:BdS}(h:BdK w W2 g t s b W)(ho:Old W0 W2):BdK w W0 g t s b W:=⟨h.toBdW,(ho.mono (fun _ _ e=>e.elim)).trans h.kp0 (fun _ _ e=>e)⟩
def jBZ(w W:World)(g:Nat)(t:Tre)(s:Sl)(b:BdS)(r:Wr9N)(e:Ending)(w' :World):Prop:=
 e=.returned (.tuple #[iv r.1,iv (r.2:Int)])/\∃uA uc p,BdK w W g t s {b with uA:=uA,uc:=uc,ups:=t.ups,p:=p} w'
theorem jDY(w:World)(t:Tre)(s:Sl)(ns:List MNd)(ps:List MSt)(CX:CxB w t s ns ps)(W:World)(g:Nat)(b:BdS)(hB:BdW w g t s b W)(hu:b.ups=[])(W6:b.uA=none){n:Nat}{D:List Dk}(K:LkT n t D)(hD:b.all=Zs t D)(q:Nat)(name:BA)(hq:W.cell? ⟨q,0,none⟩=some (.string name)):
  Calls prog 119 #[.pointer (some ⟨g,0,none⟩),.pointer (some ⟨q,0,none⟩)] W fun e w' =>e=.returned (.tuple #[])/\∃uA uc,BdK w W g t s {b with uA:=uA,uc:=uc,ups:=t.ups,p:=vE t b.all name b.p} w' :=by
 have HN:=G (XJ w t s ns ps CX W g b hB hu W6 (by rw[hD];exact K.all) (by rw[hD];exact K.len) K.jG9 K.M K.S name);clear CX hB hu W6 K hD;go_enter func119,ntmps119;go_wp2_with (first|(go_at_call 120;refine HN.out.mono ?_;rintro e w2 ⟨rfl,hX⟩;have HX:=G hX;clear hX)|fail);go_end0;exact⟨rfl,HX.out⟩
theorem Zi(w:World)(t:Tre)(s:Sl)(ns:List MNd)(ps:List MSt)(CX:CxB w t s ns ps)(W:World)(g:Nat)(b:BdS)(hB:BdW w g t s b W)(hu:b.ups=[])(W6:b.uA=none){n:Nat}{D:List Dk}(K:LkT n t D)(hD:b.all=Zs t D)(hp:b.p=VG t)(name:BA):
  Calls prog 57 #[.pointer (some ⟨g,0,none⟩),.string name] W (jBZ w W g t s b (Kr t D name)):=by
 have Dh:∀(fn:Fn) (first cap:Array Value) (w:World),(Instr.makeFunc fn first cap).run prog w=.ok (.func fn first cap) w:=fun _ _ _ _=>rfl;have Gq:g<W.heap.size:=Blk.lt hB.bx;have O2:=((jQ0 NoX W).alloc (.cells #[.string name] 9)).alloc (.cells #[.func (.func 119) #[] #[.pointer (some ⟨W.heap.size,0,none⟩)],.func (.func 121) #[] #[],.func (.func 122) #[] #[],.func (.func 123) #[] #[]] 219);have Q1:=((jQ2 W 9 #[.string name]).alloc (.cells #[.func (.func 119) #[] #[.pointer (some ⟨W.heap.size,0,none⟩)],.func (.func 121) #[] #[],.func (.func 122) #[] #[],.func (.func 123) #[] #[]] 219)).at_ 0 (v:=.string name) rfl;have Q2:=jBS W (.cells #[.string name] 9) 219 #[.func (.func 119) #[] #[.pointer (some ⟨W.heap.size,0,none⟩)],.func (.func 121) #[] #[],.func (.func 122) #[] #[],.func (.func 123) #[] #[]];have HW:=G (fun b' w' (h:BdK w ((W.alloc (.cells #[.string name] 9)).alloc (.cells #[.func (.func 119) #[] #[.pointer (some ⟨W.heap.size,0,none⟩)],.func (.func 121) #[] #[],.func (.func 122) #[] #[],.func (.func 123) #[] #[]] 219)) g t s b' w')=>(show BdK w W g t s b' w' from h.from_ O2));have H1:=G (jDY w t s ns ps CX _ g b (hB.keep O2) hu W6 K hD _ name Q1);have HC:=G (fun b' w' (h:BdK w ((W.alloc (.cells #[.string name] 9)).alloc (.cells #[.func (.func 119) #[] #[.pointer (some ⟨W.heap.size,0,none⟩)],.func (.func 121) #[] #[],.func (.func 122) #[] #[],.func (.func 123) #[] #[]] 219)) g t s b' w')=>
  (⟨(Q2.kp h.kp0 (fun e=>by omega)).at_ 1 rfl,(Q2.kp h.kp0 (fun e=>by omega)).at_ 2 rfl,(Q2.kp h.kp0 (fun e=>by omega)).at_ 3 rfl,Blk.at_ h.bx 15 rfl,Blk.at_ h.bx 16 rfl⟩:
   w'.cell? ⟨W.heap.size+1,1,none⟩=some (.func (.func 121) #[] #[])/\w'.cell? ⟨W.heap.size+1,2,none⟩=some (.func (.func 122) #[] #[])/\w'.cell? ⟨W.heap.size+1,3,none⟩=some (.func (.func 123) #[] #[])/\w'.cell? ⟨g,15,none⟩=some (.int .i64 b'.p.1)/\w'.cell? ⟨g,16,none⟩=some (.int .i64 (b'.p.2:Int))))
 have H2:=G (fun wx b' (h:BdW w g t s b' wx) (Q0:b'.ups=t.ups)=>ut w t s ns ps CX wx g b' h Q0);have H3:=G (fun wx b' (h:BdW w g t s b' wx) (ha:b'.all=b.all)=>Xi w t s ns ps CX wx h.old g b' h.bx h.rXd (by rw[ha,hD];exact K.all) (by rw[ha,hD];exact K.len));have H4:=G (fun wx b' (h:BdW w g t s b' wx) (Q0:b'.ups=t.ups) (hn:Zn t.ups)=>ud w t s ns ps CX wx g b' h Q0 hn);have Ly:Kr t D name=if(vE t b.all name b.p).2≠0 then vE t b.all name b.p else if(jw t.ups 0 t.stages (vE t b.all name b.p)).2≠0 then jw t.ups 0 t.stages (vE t b.all name b.p)else if(vG t b.all (jw t.ups 0 t.stages (vE t b.all name b.p))).2≠0 then vG t b.all (jw t.ups 0 t.stages (vE t b.all name b.p))else
   if(zF t (vG t b.all (jw t.ups 0 t.stages (vE t b.all name b.p)))).2≠0 then zF t (vG t b.all (jw t.ups 0 t.stages (vE t b.all name b.p)))else(0,0):=by rw[hD,hp];rfl
 have CD:=G (fun h=>jEf (t:=t) (p:=vE t b.all name b.p) h);obtain⟨p1,GM⟩:∃p1,p1=vE t b.all name b.p:=⟨_,rfl⟩;rw[<-GM]at H1 Ly CD;obtain⟨p2,FW⟩:∃p2,p2=jw t.ups 0 t.stages p1:=⟨_,rfl⟩;rw[<-FW]at Ly CD;obtain⟨p3,LH⟩:∃p3,p3=vG t b.all p2:=⟨_,rfl⟩;rw[<-LH]at Ly;obtain⟨p4,TY⟩:∃p4,p4=zF t p3:=⟨_,rfl⟩;rw[<-TY]at Ly;have WA:=G FW;have Tb:=G LH;have Bo:=G TY;rw[Ly];have way:(p1.2≠0)\/(p1.2=0/\p2.2≠0)\/(p1.2=0/\p2.2=0/\p3.2≠0)\/(p1.2=0/\p2.2=0/\p3.2=0/\p4.2≠0)\/(p1.2=0/\p2.2=0/\p3.2=0/\p4.2=0):=(by omega);clear CX hB hu W6 K hD hp O2 Q1 Q2 GM FW LH TY Ly;unfold jBZ iv;rcases way with a1|⟨a1,a2⟩|⟨a1,a2,a3⟩|⟨a1,a2,a3,a4⟩|⟨a1,a2,a3,a4⟩
 all_goals
  first
   |(have t1:((p1.2:Int) !=0)=true:=bne_iff_ne.2 (by omega))
   |(have t1:((p1.2:Int) !=0)=false:=by rw[a1];rfl)
  first
   |(have t2:((p2.2:Int) !=0)=true:=bne_iff_ne.2 (by omega))
   |(have t2:((p2.2:Int) !=0)=false:=by rw[a2];rfl)
   |skip
  first
   |(have t3:((p3.2:Int) !=0)=true:=bne_iff_ne.2 (by omega))
   |(have t3:((p3.2:Int) !=0)=false:=by rw[a3];rfl)
   |skip
  first
   |(have t4:((p4.2:Int) !=0)=true:=bne_iff_ne.2 (by omega))
   |(have t4:((p4.2:Int) !=0)=false:=by rw[a4];rfl)
   |skip
  have A1:=G a1
  try have A2:=G a2
  try have A3:=G a3
  try have A4:=G a4
  clear a1
  try clear a2
  try clear a3
  try clear a4
  go_enter func57,ntmps57;go_wp2;refine wp_loop_rounds 5 ?_
  iterate 5
   try
    rw[rounds_succ];go_wp2_with (first
     |(go_at_call 119;refine H1.out.mono ?_;rintro e w1 ⟨rfl,uA,uc,hX⟩;have B1:=G hX;have BF:=G hX;obtain⟨f1,f2,f3,e15,e16⟩:=HC.out _ _ hX;clear hX)
     |(go_at_call 121;refine(H2.out _ _ B1.out.toBdW rfl).mono ?_;rintro e w2 ⟨rfl,hX⟩;have hY:=B1.out.put hX;simp only at hY;rw[<-WA.out]at hY;have B2:=G hY;have BF:=G hY;obtain⟨f1,f2,f3,e15,e16⟩:=HC.out _ _ hY;clear hX hY)
     |(go_at_call 122;refine(H3.out _ _ B2.out.toBdW rfl).mono ?_;rintro e w3 ⟨rfl,hX⟩;have hY:=B2.out.put hX;simp only at hY;rw[<-Tb.out]at hY;have B3:=G hY;have BF:=G hY;obtain⟨f1,f2,f3,e15,e16⟩:=HC.out _ _ hY;clear hX hY)
     |(go_at_call 123;refine(H4.out _ _ B3.out.toBdW rfl (CD.out A2.out)).mono ?_;rintro e w4 ⟨rfl,hX⟩;have hY:=(⟨hX.toBdW,B3.out.kp0.trans hX.kp0 (fun _ _ e=>e)⟩:BdK w _ g t s _ w4);simp only at hY;rw[<-Bo.out]at hY;have BF:=G hY;obtain⟨f1,f2,f3,e15,e16⟩:=HC.out _ _ hY;clear hX hY)
     |fail)
    try go_quiet (fail)
    try go_wp2
  go_ret2
  first
   |exact⟨rfl,_,_,_,_,HW.out _ _ (BF.out.keep ((jQ0 NoX _).drewN _))⟩
   |exact⟨rfl,_,_,_,_,HW.out _ _ BF.out⟩
end Go.Proofs.YtifbhcfdealfaaaGreatDoor

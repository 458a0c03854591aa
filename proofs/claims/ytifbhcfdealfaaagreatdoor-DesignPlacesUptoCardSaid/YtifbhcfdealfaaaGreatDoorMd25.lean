import Derived.Test.YtifbhcfdealfaaaGreatDoorMd24
set_option maxRecDepth 100000
set_option maxHeartbeats 25600000
namespace Go.Proofs.YtifbhcfdealfaaaGreatDoor
open Go.Proofs.Tryz
open Go.RowKit
theorem jDQ:(prog.info? 256).map (fun i=>(i.zero,i.size,i.bytes))=some (some (.agg #[.int .i64 0,.int .i64 0,.int .i64 0,.int .i64 0,.int .i64 0]),5,40):=by kernel_rfl
theorem jCn(u:Use):∀v∈Jt u,v.oneCell' =true:=by
 intro v hv;simp only[Jt,iv,List.mem_cons,List.mem_nil_iff,or_false]at hv;rcases hv with rfl|rfl|rfl|rfl|rfl<;>rfl
structure UsW(base:Nat)(W:World)(g q0 q1:Nat)(t:Tre)(s:Sl)(b:BdS)(fr:Int):Prop where
 bx:Bx W g t s b
 c0:Blk W q0 130 #[.pointer (some ⟨g,0,none⟩)]
 c1:Blk W q1 3 #[iv fr]
 row:W.ownsRow base 256 5 (.slice b.xA b.all.length b.xc) b.all.length (b.all.flatMap Jt)
 le:base<=W.heap.size
def UsX(g q1:Nat)(b:BdS):Nat->Prop:=fun k=>k=g\/k=q1\/b.xA.map (·.block)=some k
section
variable{base g q0 q1:Nat}{W W' :World}{t:Tre}{s:Sl}{b:BdS}{fr:Int}
theorem UsW.old(h:UsW base W g q0 q1 t s b fr)(ho:Old W W'):UsW base W' g q0 q1 t s b fr:=
 ⟨Blk.old h.bx ho,h.c0.old ho,h.c1.old ho,jJ h.row ho (fun _ _ e=>e),jL4 h.le ho.size⟩
theorem UsW.g_ne(h:UsW base W g q0 q1 t s b fr):b.xA.map (·.block)≠some g:=by rw[<-jA];exact jH h.row h.bx (by decide)
theorem UsW.q0_ne(h:UsW base W g q0 q1 t s b fr):b.xA.map (·.block)≠some q0:=by rw[<-jA];exact jH h.row h.c0 (by decide)
theorem UsW.q1_ne(h:UsW base W g q0 q1 t s b fr):b.xA.map (·.block)≠some q1:=by rw[<-jA];exact jH h.row h.c1 (by decide)
end
theorem UsW.blk{base g q0 q1:Nat}{W W' :World}{t:Tre}{s:Sl}{b:BdS}{fr:Int}(h:UsW base W g q0 q1 t s b fr){lb:Nat}{T:TypeId}{cs:Array Value}(hb:Blk W lb T cs)(h1:T≠138)(h2:T≠3)(h3:256≠T)(hk:Kp (UsX g q1 b) W W'):Blk W' lb T cs:=
 hb.kp hk (fun e=>by
  rcases e with rfl|rfl|e
  ·exact Blk.ne_ hb h.bx h1 rfl
  ·exact Blk.ne_ hb h.c1 h2 rfl
  ·exact jH h.row hb h3 (by rw[jA];exact e))
def UsR(base:Nat)(W:World)(g q0 q1:Nat)(t:Tre)(s:Sl)(b:BdS)(S:UseS)(w' :World):Prop:=
 ∃A c,UsW base w' g q0 q1 t s {b with xA:=A,xc:=c,all:=S.1} S.2/\Kp (UsX g q1 b) W w'
theorem KJ{α:Type}{f:α->List Value}(l:List α)(x:α):(l++[x]).flatMap f=l.flatMap f++f x:=by
 rw[jN5,jL9,List.flatMap_nil,jN7]
theorem jDp(base:Nat)(W:World)(g q0 q1:Nat)(t:Tre)(s:Sl)(b:BdS)(fr:Int)(h:UsW base W g q0 q1 t s b fr)(hl:b.all.length<=2000000000)(root ahead step lays:Int)(hr:root<=2000000000):
  Calls prog 172 #[iv root,iv ahead,iv step,iv lays,.pointer (some ⟨q0,0,none⟩),.pointer (some ⟨q1,0,none⟩)] W fun e w' =>e=.returned (.tuple #[])/\UsR base W g q0 q1 t s b (Jr root ahead step lays (b.all,fr)) w' :=by
 have H:=G h;unfold Jr;by_cases h0:0<=root
 ·rw[jJ6 h0];have p0:=h.c0.at_ 0 (v:=.pointer (some ⟨g,0,none⟩)) rfl;have p1:=h.c1.at_ 0 (v:=iv fr) rfl;have p14:=Blk.at_ h.bx 14 (v:=.slice b.xA b.all.length b.xc) rfl;have z14:=Blk.frozen h.bx 14;have z1:=h.c1.frozen 0;have q1' :IntKind.i64.wrap (root+1)=root+1:=jQ3 _ (by omega);obtain⟨i0,hi,FJ,Fv,FU⟩:=info_parts jDQ;have FM:=G (show b.all.length+1<=maxLen by unfold maxLen;omega);have FN:=G (show(b.all.length+1)*40<=140737488355328 by omega);have HO:=G ((jQ0 NoX W).drew.alloc (.cells (Jt ⟨fr,root,ahead,step,lays⟩).toArray 256));have fin:∀A1 c1 w2,w2.ownsRow base 256 5 (.slice A1 (b.all.length+1) c1) (b.all.length+1) (b.all.flatMap Jt++Jt ⟨fr,root,ahead,step,lays⟩)->(W.drew.alloc (.cells (Jt ⟨fr,root,ahead,step,lays⟩).toArray 256)).grownBy w2 (b.xA.map (·.block))->
    w2.cell? ⟨q0,0,none⟩=some (.pointer (some ⟨g,0,none⟩))/\w2.cell? ⟨g,14,none⟩=some (.slice b.xA b.all.length b.xc)/\w2.frozen? ⟨g,14,none⟩=false/\w2.cell? ⟨q1,0,none⟩=some (iv fr)/\w2.frozen? ⟨q1,0,none⟩=false/\
    UsR base W g q0 q1 t s b (b.all++[⟨fr,root,ahead,step,lays⟩],root+1) ((w2.setCell ⟨g,14,none⟩ (.slice A1 (b.all.length+1) c1)).setCell ⟨q1,0,none⟩ (iv (root+1))):=by
   intro A1 c1 w2 hI Gg;have k2:=vL Gg;have hO:=HO.out;have bx2:Bx w2 g t s b:=(Blk.old H.out.bx hO).kp k2 H.out.g_ne;have c02:=(H.out.c0.old hO).kp k2 H.out.q0_ne;have c12:=(H.out.c1.old hO).kp k2 H.out.q1_ne;have ne1:q1≠g:=Blk.ne_ c12 bx2 (by decide);have ne0:q0≠g:=Blk.ne_ c02 bx2 (by decide);have ne2:q0≠q1:=Blk.ne_ c02 c12 (by decide);have kk:Kp (UsX g q1 b) W w2:=Kp.trans (hO.mono (fun _ _ e=>e.elim)) k2 (fun k hk e=>.inr (.inr e));refine⟨c02.at_ 0 rfl,Blk.at_ bx2 14 rfl,Blk.frozen bx2 14,c12.at_ 0 rfl,c12.frozen 0,A1,c1,⟨?_,?_,?_,?_,?_⟩,?_⟩
   ·have h1:=(Blk.setL (cs:=bdC t s b) bx2 14 (.slice A1 (b.all.length+1) c1)).far (p:=⟨q1,0,none⟩) ne1.symm (iv (root+1));unfold Bx;show Blk _ g _ (bdC t s {b with xA:=A1,xc:=c1,all:=b.all++[⟨fr,root,ahead,step,lays⟩]}).toArray;simp only[bdC,jJ4,List.length_singleton]at h1⊢;exact h1
   ·exact(c02.far (p:=⟨g,14,none⟩) ne0 _).far (p:=⟨q1,0,none⟩) ne2 _
   ·exact(c12.far (p:=⟨g,14,none⟩) ne1 _).set_ 0 (iv (root+1))
   ·have k3:Kp (fun k=>k=g\/k=q1) w2 ((w2.setCell ⟨g,14,none⟩ (.slice A1 (b.all.length+1) c1)).setCell ⟨q1,0,none⟩ (iv (root+1))):=
     ((jQ0 (fun k=>k=g\/k=q1) w2).setCell (p:=⟨g,14,none⟩) (fun _=>.inl rfl) _).setCell (p:=⟨q1,0,none⟩) (fun _=>.inr rfl) _
    show World.ownsRow _ base _ 5 (.slice A1 (b.all++[_]).length c1) (b.all++[_]).length _;rw[jJ4,List.length_singleton,KJ];refine jJ hI k3 (fun k e hx=> ?_);rcases hx with rfl|rfl
    ·exact jH hI bx2 (by decide) e
    ·exact jH hI c12 (by decide) e
   ·exact jL4 (jL4 H.out.le hO.size) (by have:=k2.size;simpa [World.setCell]using this)
   ·exact(kk.setCell (p:=⟨g,14,none⟩) (fun _=>.inl rfl) _).setCell (p:=⟨q1,0,none⟩) (fun _=>.inr (.inl rfl)) _
  have HF:=G fin;have Gq:g<W.heap.size:=Blk.lt h.bx;have Aj:q0<W.heap.size:=h.c0.lt;have TW:q1<W.heap.size:=h.c1.lt;clear h hl hr fin;unfold iv at*;go_enter func172,ntmps172;go_wp2;go_region_law ((refine jl _ rfl (.tmp 16) (.tmp 23) 136 rfl base 256 i0 _ 5 40 underlying136 hi FJ Fv FU rfl (by decide) (.slice b.xA b.all.length b.xc) b.all.length (b.all.flatMap Jt) rfl (jJ H.out.row HO.out (fun _ _ e=>e)) _ 1 1 (Jt ⟨fr,root,ahead,step,lays⟩) rfl (Rd.row_new _ _ 5 1 _ rfl) (jCn _) FM.out FN.out (jL4 H.out.le HO.out.size) ?_;intro A1 c1 w2 hI hgrow F1;rw[jA]at hgrow;obtain⟨p0,p14,z14,p1,z1,hR⟩:=HF.out A1 c1 w2 hI hgrow;have HR:=G hR;clear hI hgrow F1 hR))
  all_goals
   go_wp2;go_end0;exact⟨rfl,HR.out⟩
 ·rw[jJ5 h0];have hs:UsR base W g q0 q1 t s b (b.all,fr) W:=⟨b.xA,b.xc,h,jQ0 _ _⟩;have HS:=G hs;clear h hl hr hs;unfold iv at*;go_enter func172,ntmps172;go_wp2;go_end0;exact⟨rfl,HS.out⟩
end Go.Proofs.YtifbhcfdealfaaaGreatDoor

import Derived.Test.YtmmjcbbogokmfaaGreatDoorMp42
set_option maxRecDepth 100000
set_option maxHeartbeats 25600000
namespace Go.Proofs.YtmmjcbbogokmfaaGreatDoor
open Go.Proofs.Tryz
open Go.RowKit
theorem jBq{t:TypeId}(ht:prog.underlying t=some (.slice (prog.elem t))){s:Nat}(hs:∀w,(sizeOf (prog.elem t)).run prog w=.ok s w)(g len c l h:Nat)(L H:Int)(hL:L=l)(hH:H=h)(It:l<=h)(hh:h<=c)(Nb:l<c)(w:World):
  (Instr.slice t (.slice (some ⟨g,0,none⟩) len c) (some (.int .i64 L)) (some (.int .i64 H)) none).run prog w=.ok (.slice (some ⟨g,l*s,none⟩) (h-l) (c-l)) w:=by
 subst hL hH;rw[run_slice_lh (ht:=ht) (h0:=by omega) (h1:=by omega) (h2:=by omega),hs];have:¬c=l:=(by omega);simp[sliced,this,Addr.add];exact fun h=>h.symm
theorem ZO:prog.underlying 25=some (.slice (prog.elem 25)):=by kernel_rfl
theorem Vy(w:World):(sizeOf (prog.elem 25)).run prog w=.ok 8 w:=by kernel_rfl
theorem ZP:prog.underlying 26=some (.slice (prog.elem 26)):=by kernel_rfl
theorem Vz(w:World):(sizeOf (prog.elem 26)).run prog w=.ok 7 w:=by kernel_rfl
theorem Jw{W:World}{g:Nat}{t:Tre}{s:Sl}(h:Blk W g 29 (jF t s).toArray):W.cell? ⟨g,2,none⟩=some (.slice s.aA t.attrs.length s.ac)/\W.cell? ⟨g,3,none⟩=some (.slice s.gA t.stages.length s.gc)/\W.cell? ⟨g,4,none⟩=some (.slice s.mA t.miles.length s.mc)/\W.cell? ⟨g,5,none⟩=some (.slice s.pA t.steps.length s.pc)/\W.cell? ⟨g,6,none⟩=some (.slice s.nA t.nodes.length s.nc)/\W.cell? ⟨g,7,none⟩=some (.slice s.oA t.ats.length s.oc):=
 ⟨h.at_ 2 rfl,h.at_ 3 rfl,h.at_ 4 rfl,h.at_ 5 rfl,h.at_ 6 rfl,h.at_ 7 rfl⟩
theorem Vr{W:World}{g:Nat}{t:Tre}{m:Mk9}(h:Blk W g 29 (jF t (slM m t)).toArray):W.cell? ⟨g,2,none⟩=some (.slice (some ⟨m.gA,0,none⟩) t.attrs.length (t.attrs.length+80))/\W.cell? ⟨g,3,none⟩=some (.slice (some ⟨m.gG,0,none⟩) t.stages.length (t.stages.length+80))/\W.cell? ⟨g,4,none⟩=some (.slice (some ⟨m.gM,0,none⟩) t.miles.length (t.miles.length+80))/\W.cell? ⟨g,5,none⟩=some (.slice (some ⟨m.gP,0,none⟩) t.steps.length (t.steps.length+8))/\W.cell? ⟨g,6,none⟩=some (.slice (some ⟨m.gN,0,none⟩) t.nodes.length (t.nodes.length+8))/\W.cell? ⟨g,7,none⟩=some (.slice (some ⟨m.gO,0,none⟩) t.ats.length (t.ats.length+80)):=
 Jw h
theorem qL{W:World}{g:Nat}{cs:List Value}(h:Blk W g 29 cs.toArray):W.rangeAt g 0 cs:=fun j v hv=>by
 rw[Nat.zero_add];exact h.at_ j (by rw[jJ7];exact hv)
theorem vI(t:Tre)(s:Sl):(prog.info? 29).map (·.size)=some (jF t s).length:=by
 rw[show(jF t s).length=8 from rfl]
 kernel_rfl
theorem zb{α:Type}{C:α->List Value}{z:Nat}(hz:∀x,(C x).length=z){w:World}{g:Nat}{T:TypeId}{xs rest:List α}(h:Blk w g T ((xs++rest).flatMap C).toArray){k:Nat}{x:α}(hx:xs[k]? =some x){i:Nat}{u:Value}(hi:(C x)[i]? =some u):w.cell? ⟨g,k*z+i,none⟩=some u:=by
 obtain⟨b,o,e,hc⟩:=jP hz (jAd hz h rfl) hx (jM5 hx).1;cases e;have:=hc i u hi
 rwa [Nat.zero_add]at this
section
variable{w:World}{t:Tre}{m:Mk9}{s:Sl}{ns ns2:List MNd}{ps ps2:List MSt}
theorem jCZ(h:TrM w t m ns ps)(q:TrF w t s ns2 ps2)(b:TrB t){k:Nat}(hk:k<t.steps.length):∃(gp ge:Nat) (pl:List Prm) (el:List Eff) (B E:OA) (bc ec bb oo:Nat),s.pA=some ⟨bb,oo,none⟩/\pl.length<=1000000/\el.length<=1000000/\
  (∀W,Old w W->W.cell? ⟨m.gP,k*8+3,none⟩=some (.slice (some ⟨gp,0,none⟩) pl.length (pl.length+80))/\W.cell? ⟨m.gP,k*8+7,none⟩=some (.slice (some ⟨ge,0,none⟩) el.length (el.length+80))/\W.cell? ⟨bb,oo+k*8+3,none⟩=some (.slice B pl.length bc)/\W.cell? ⟨bb,oo+k*8+7,none⟩=some (.slice E el.length ec))/\
  (∀W,Old w W->Calls prog 65 #[.slice (some ⟨gp,0,none⟩) (pl.length+80) (pl.length+80),.slice B pl.length bc,.agg (prC kG).toArray] W fun e w' =>e=.returned (.bool true)/\Old W w')/\
  (∀W,Old w W->Calls prog 66 #[.slice (some ⟨ge,0,none⟩) (el.length+80) (el.length+80),.slice E el.length ec,.agg (efC jp).toArray] W fun e w' =>e=.returned (.bool true)/\Old W w'):=by
 have h1:k<ps.length:=by rw[h.trf.lenP];exact hk
 have h2:k<ps2.length:=by rw[q.lenP];exact hk
 have e1:=jJ9 h1;have e2:=jJ9 h2;generalize ps[k]=x at e1;generalize ps2[k]=y at e2;have hs:=h.trf.st2 q b k x y e1 e2;obtain⟨g1,g2,a1,a2,a3,a4,a5,a6⟩:=h.po x (List.mem_of_getElem? e1);obtain⟨bb,oo,hA,hc⟩:=jP (C:=stC) (fun _=>rfl) q.rP e2 hk;obtain⟨xs,xA,xc,xE,xec⟩:=x;obtain⟨ys,yA,yc,yE,yec⟩:=y;obtain⟨he,px,py,ex,ey,pl,el⟩:=hs;simp only at he a1 a2 a3 a4 a5 a6 px py ex ey pl el;subst he a1 a2 a4 a5;have hb:=b.nS xs (by rw[<-h.pe];exact List.mem_map.2 ⟨_,List.mem_of_getElem? e1,rfl⟩);refine⟨g1,g2,xs.params,xs.effects,yA,yE,yc,yec,bb,oo,hA,hb.1,hb.2,fun W hO=>⟨?_,?_,?_,?_⟩,fun W hO=> ?_,fun W hO=> ?_⟩
 ·exact zb (C:=stC) (fun _=>rfl) (h.bP.old hO) e1 rfl
 ·exact zb (C:=stC) (fun _=>rfl) (h.bP.old hO) e1 rfl
 ·rw[Nat.add_assoc];exact(World.cell?_of_block (hO.block _ (je (hc 3 _ rfl)) (fun f=>f))).trans (hc 3 _ rfl)
 ·rw[Nat.add_assoc];exact(World.cell?_of_block (hO.block _ (je (hc 7 _ rfl)) (fun f=>f))).trans (hc 7 _ rfl)
 ·exact Zr W g1 yA yc xs.params (a3.old hO) (py.old hO) (by omega)
 ·exact Ys W g2 yE yec xs.effects (a6.old hO) (ey.old hO) (by omega)
theorem jC1(h:TrM w t m ns ps)(q:TrF w t s ns2 ps2)(b:TrB t){k:Nat}(hk:k<t.nodes.length):∃(gp ge:Nat) (pl:List Int) (el:List BA) (B E:OA) (bc ec bb oo:Nat),s.nA=some ⟨bb,oo,none⟩/\pl.length<=2000000/\el.length<=2000000/\
  (∀W,Old w W->W.cell? ⟨m.gN,k*7+6,none⟩=some (.slice (some ⟨gp,0,none⟩) pl.length (pl.length+80))/\W.cell? ⟨m.gN,k*7+5,none⟩=some (.slice (some ⟨ge,0,none⟩) el.length (el.length+80))/\W.cell? ⟨bb,oo+k*7+6,none⟩=some (.slice B pl.length bc)/\W.cell? ⟨bb,oo+k*7+5,none⟩=some (.slice E el.length ec))/\
  (∀W,Old w W->Calls prog 24 #[.slice (some ⟨gp,0,none⟩) (pl.length+80) (pl.length+80),.slice B pl.length bc,.int .i64 (-77)] W fun e w' =>e=.returned (.bool true)/\Old W w')/\
  (∀W,Old w W->Calls prog 25 #[.slice (some ⟨ge,0,none⟩) (el.length+80) (el.length+80),.slice E el.length ec,.string Jn] W fun e w' =>e=.returned (.bool true)/\Old W w'):=by
 have h1:k<ns.length:=by rw[h.trf.lenN];exact hk
 have h2:k<ns2.length:=by rw[q.lenN];exact hk
 have e1:=jJ9 h1;have e2:=jJ9 h2;generalize ns[k]=x at e1;generalize ns2[k]=y at e2;have hs:=h.trf.nd2 q b k x y e1 e2;obtain⟨g1,g2,a1,a2,a3,a4,a5,a6⟩:=h.no x (List.mem_of_getElem? e1);obtain⟨bb,oo,hA,hc⟩:=jP (C:=ndC) (fun _=>rfl) q.rN e2 hk;obtain⟨xs,xA,xc,xE,xec⟩:=x;obtain⟨ys,yA,yc,yE,yec⟩:=y;obtain⟨he,px,py,ex,ey,pl,el⟩:=hs;simp only at he a1 a2 a3 a4 a5 a6 px py ex ey pl el;subst he a1 a2 a4 a5;have hb:=b.nK xs (by rw[<-h.ne];exact List.mem_map.2 ⟨_,List.mem_of_getElem? e1,rfl⟩);refine⟨g1,g2,xs.kids,xs.vs,yA,yE,yc,yec,bb,oo,hA,hb.1,hb.2,fun W hO=>⟨?_,?_,?_,?_⟩,fun W hO=> ?_,fun W hO=> ?_⟩
 ·exact zb (C:=ndC) (fun _=>rfl) (h.bN.old hO) e1 rfl
 ·exact zb (C:=ndC) (fun _=>rfl) (h.bN.old hO) e1 rfl
 ·rw[Nat.add_assoc];exact(World.cell?_of_block (hO.block _ (je (hc 6 _ rfl)) (fun f=>f))).trans (hc 6 _ rfl)
 ·rw[Nat.add_assoc];exact(World.cell?_of_block (hO.block _ (je (hc 5 _ rfl)) (fun f=>f))).trans (hc 5 _ rfl)
 ·exact jBK W g1 yA yc xs.kids (a3.old hO) (py.old hO) (by omega)
 ·exact jFW W g2 yE yec xs.vs (a6.old hO) (ey.old hO) (by omega)
theorem xC{α:Type}{C:α->List Value}{z:Nat}(hz:∀x,(C x).length=z){W:World}{g:Nat}{T:TypeId}{xs:List α}{y:α}(h:Blk W g T ((xs++List.replicate 8 y).flatMap C).toArray){n k:Nat}(hn:xs.length=n)(hk:k<8):W.rangeAt g (n*z+k*z) (C y):=fun j v hv=>by
 subst hn;have hx:(xs++List.replicate 8 y)[xs.length+k]? =some y:=(by rw[List.getElem?_append_right (by omega),Nat.add_sub_cancel_left,List.getElem?_replicate,jJ6 hk]);have:=zb hz (rest:=[]) (by rw[jN7];exact h) hx hv
 rwa [Nat.add_mul]at this
end
theorem Xk(n:Nat)(hn:n<=1000000000100):∃M:List Value,M.length=n*8/\∀W:World,(Instr.makeSlice 25 (.int .i64 (n:Int)) (.int .i64 (n:Int))).run prog W=.ok (.slice (some ⟨W.heap.size,0,none⟩) n n) (W.alloc (.cells M.toArray 111)):=by
 have Ni:∃i,prog.info? 111=some i/\(∃z,i.zero=some z)/\i.size=8/\i.bytes<=200:=by
  cases hq:prog.info? 111 with
  |none=>
   have:=kr;rw[hq]at this;cases this
  |some i=>
   have h1:=kr;have h2:(prog.info? 111).map (fun i=>(i.zero.isSome,decide (i.bytes<=200)))=some (true,true):=(by kernel_rfl);rw[hq]at h1 h2;simp only[Option.map_some,Option.some.injEq,Prod.mk.injEq,decide_eq_true_eq]at h1 h2;exact⟨i,rfl,Option.isSome_iff_exists.1 h2.1,h1,h2.2⟩
 obtain⟨i,hi,⟨z,Fm⟩,Fi,Fl⟩:=Ni;refine⟨(madeCells z.cells (n*i.size)).toList,by rw[Array.length_toList,size_madeCells,Fi],fun W=> ?_⟩;have hb:(i.bytes:Int)*(n:Int)<=281474976710656:=by
  have h3:i.bytes*n<=200*1000000000100:=Nat.mul_le_mul Fl hn;have h4:((i.bytes*n:Nat):Int)<=281474976710656:=by omega
  rwa [Int.natCast_mul]at h4
 have hr:=run_make (P:=prog) W 25 111 i z underlying25 hi Fm .i64 .i64 n n (by omega) (by omega) hb (by omega);simp only[jL1]at hr;rw[hr]
theorem Xl(n:Nat)(hn:n<=1000000000100):∃M:List Value,M.length=n*7/\∀W:World,(Instr.makeSlice 26 (.int .i64 (n:Int)) (.int .i64 (n:Int))).run prog W=.ok (.slice (some ⟨W.heap.size,0,none⟩) n n) (W.alloc (.cells M.toArray 46)):=by
 have Ni:∃i,prog.info? 46=some i/\(∃z,i.zero=some z)/\i.size=7/\i.bytes<=200:=by
  cases hq:prog.info? 46 with
  |none=>
   have:=kt;rw[hq]at this;cases this
  |some i=>
   have h1:=kt;have h2:(prog.info? 46).map (fun i=>(i.zero.isSome,decide (i.bytes<=200)))=some (true,true):=(by kernel_rfl);rw[hq]at h1 h2;simp only[Option.map_some,Option.some.injEq,Prod.mk.injEq,decide_eq_true_eq]at h1 h2;exact⟨i,rfl,Option.isSome_iff_exists.1 h2.1,h1,h2.2⟩
 obtain⟨i,hi,⟨z,Fm⟩,Fi,Fl⟩:=Ni;refine⟨(madeCells z.cells (n*i.size)).toList,by rw[Array.length_toList,size_madeCells,Fi],fun W=> ?_⟩;have hb:(i.bytes:Int)*(n:Int)<=281474976710656:=by
  have h3:i.bytes*n<=200*1000000000100:=Nat.mul_le_mul Fl hn;have h4:((i.bytes*n:Nat):Int)<=281474976710656:=by omega
  rwa [Int.natCast_mul]at h4
 have hr:=run_make (P:=prog) W 26 46 i z underlying26 hi Fm .i64 .i64 n n (by omega) (by omega) hb (by omega);simp only[jL1]at hr;rw[hr]
theorem QW(x:MSt):∀u∈stC x,u.oneCell' =true:=by
 unfold stC iv;simp[Value.oneCell']
theorem QX(x:MNd):∀u∈ndC x,u.oneCell' =true:=by
 unfold ndC iv;simp[Value.oneCell']
theorem Blk.next8{α:Type}{C:α->List Value}{z:Nat}(hz:∀x,(C x).length=z){w:World}{g:Nat}{T:TypeId}{qs:List α}{mk:α}{n k:Nat}(hk:k<n)(hq:qs.length=k)(h:Blk w g T ((qs++List.replicate (n-k) mk).flatMap C).toArray)(y:α):Blk (w.setCells g (k*z) (C y)) g T (((qs++[y])++List.replicate (n-(k+1)) mk).flatMap C).toArray:=by
 rw[show n-k=(n-(k+1))+1 by omega,List.replicate_succ,jN5,jL9]at h;have h2:=Blk.setCells h (C y) (by rw[hz,hz]);rw[jy hz,hq]at h2;rw[jN5,jN5,List.flatMap_singleton,jK1];exact h2
theorem kC{W:World}{g:Nat}{T:TypeId}{cs:List Value}(h:Blk W g T cs.toArray):W.rangeAt g 0 cs:=fun j v hv=>by
 rw[Nat.zero_add];exact h.at_ j (by rw[jJ7];exact hv)
structure WhS(w:World)(t:Tre)(s:Sl)(uc:List Value)(W:World):Prop where
 ho:Old w W
 bt:Blk W w.heap.size 29 (jF t s).toArray
 br:∃z:List Value,z.length=8/\Blk W (w.heap.size+1) 29 z.toArray
 bu:Blk W (w.heap.size+1+1) 29 uc.toArray
def FrT(T:TypeId)(w W:World):Prop:=∀g T' cs,T' ≠T->Blk w g T' cs->Blk W g T' cs
section
variable{w W W1:World}{t:Tre}{s:Sl}{uc:List Value}{T:TypeId}
theorem Blk.setL9{g:Nat}{cs:List Value}(h:Blk w g T cs.toArray)(i:Nat)(u:Value):Blk (w.setCell ⟨g,i,none⟩ u) g T (cs.set i u).toArray:=by
 have:=h.set_ i u
 rwa [jJ1]at this
theorem FrT.refl(T:TypeId)(w:World):FrT T w w:=fun _ _ _ _ h=>h
theorem FrT.old{w0:World}(h:FrT T w0 W)(ho:Old W W1):FrT T w0 W1:=fun g T' cs hT hb=>(h g T' cs hT hb).old ho
theorem FrT.set{w0:World}(h:FrT T w0 W){g:Nat}{cs:Array Value}(hg:Blk W g T cs)(o:Nat)(vs:List Value):FrT T w0 (W.setCells g o vs):=fun g' T' cs' hT hb=>(h g' T' cs' hT hb).kp (Kp.setCells _ _ _ _) (fun e=>(h g' T' cs' hT hb).ne_ hg hT e)
theorem FrT.set1{w0:World}(h:FrT T w0 W){g:Nat}{cs:Array Value}(hg:Blk W g T cs)(o:Nat)(v:Value):FrT T w0 (W.setCell ⟨g,o,none⟩ v):=fun g' T' cs' hT hb=>(h g' T' cs' hT hb).far (fun e=>(h g' T' cs' hT hb).ne_ hg hT e) v
theorem WhS.old(h:WhS w t s uc W)(ho:Old W W1):WhS w t s uc W1:=⟨jW h.ho ho,h.bt.old ho,h.br.imp fun _ hz=>⟨hz.1,hz.2.old ho⟩,h.bu.old ho⟩
theorem WhS.frt(h:WhS w t s uc W)(ho:Old w W1)(hf:FrT T W W1)(hT:T≠29):WhS w t s uc W1:=⟨ho,hf _ _ _ (Ne.symm hT) h.bt,h.br.imp fun _ hz=>⟨hz.1,hf _ _ _ (Ne.symm hT) hz.2⟩,hf _ _ _ (Ne.symm hT) h.bu⟩
theorem WhS.set(h:WhS w t s uc W)(i:Nat)(u:Value):WhS w t s (uc.set i u) (W.setCell ⟨w.heap.size+1+1,i,none⟩ u)/\FrT 29 W (W.setCell ⟨w.heap.size+1+1,i,none⟩ u):=
 ⟨⟨h.ho.setCell (p:=⟨w.heap.size+1+1,i,none⟩) (fun hb=>absurd hb (by show¬w.heap.size+1+1<w.heap.size;omega)) u,h.bt.far (show w.heap.size≠w.heap.size+1+1 by omega) u,h.br.imp fun _ hz=>⟨hz.1,hz.2.far (show w.heap.size+1≠w.heap.size+1+1 by omega) u⟩,Blk.setL9 h.bu i u⟩,(FrT.refl _ W).set1 h.bu i u⟩
theorem MarkS.frt{x:MSt}(h:MarkS W x)(hf:FrT 111 W W1):MarkS W1 x:=by
 obtain⟨g,k,a,b,c,d,e,f⟩:=h;exact⟨g,k,a,b,hf _ _ _ (by decide) c,d,e,hf _ _ _ (by decide) f⟩
theorem MarkS.frtN{x:MSt}(h:MarkS W x)(hf:FrT 46 W W1):MarkS W1 x:=by
 obtain⟨g,k,a,b,c,d,e,f⟩:=h;exact⟨g,k,a,b,hf _ _ _ (by decide) c,d,e,hf _ _ _ (by decide) f⟩
theorem MarkS.frtT{x:MSt}(h:MarkS W x)(hf:FrT 29 W W1):MarkS W1 x:=by
 obtain⟨g,k,a,b,c,d,e,f⟩:=h;exact⟨g,k,a,b,hf _ _ _ (by decide) c,d,e,hf _ _ _ (by decide) f⟩
theorem MarkN.frtT{x:MNd}(h:MarkN W x)(hf:FrT 29 W W1):MarkN W1 x:=by
 obtain⟨g,k,a,b,c,d,e,f⟩:=h;exact⟨g,k,a,b,hf _ _ _ (by decide) c,d,e,hf _ _ _ (by decide) f⟩
theorem MarkN.frt{x:MNd}(h:MarkN W x)(hf:FrT 46 W W1):MarkN W1 x:=by
 obtain⟨g,k,a,b,c,d,e,f⟩:=h;exact⟨g,k,a,b,hf _ _ _ (by decide) c,d,e,hf _ _ _ (by decide) f⟩
end
theorem TrM.frtT{w W:World}{t:Tre}{m:Mk9}{ns:List MNd}{ps:List MSt}(h:TrM w t m ns ps)(hf:FrT 29 w W):TrM W t m ns ps:=
 ⟨hf _ _ _ (by decide) h.bO,hf _ _ _ (by decide) h.bA,hf _ _ _ (by decide) h.bG,hf _ _ _ (by decide) h.bM,hf _ _ _ (by decide) h.bP,hf _ _ _ (by decide) h.bN,h.pe,h.ne,fun x hx=>(h.po x hx).frtT hf,fun x hx=>(h.no x hx).frtT hf⟩
theorem Kt(t:Tre)(s:Sl):∀u∈jF t s,u.oneCell' =true:=by
 unfold jF;simp[Value.oneCell',iv]
structure WcStep(w wr:World)(g:Nat)(qs:List MSt)(n:Nat)(W:World):Prop where
 qM:∀x∈qs,MarkS W x
 row:Blk W g 111 ((qs++List.replicate n Yh).flatMap stC).toArray
 fr:FrT 111 wr W
 ho:Old w W
section
variable{w wr W W1:World}{g:Nat}{qs:List MSt}{n:Nat}
theorem WcStep.old(h:WcStep w wr g qs n W)(ho:Old W W1):WcStep w wr g qs n W1:=⟨fun x hx=>(h.qM x hx).old ho,h.row.old ho,h.fr.old ho,jW h.ho ho⟩
theorem WcStep.set1(h:WcStep w wr g qs n W){b:Nat}{cs:List Value}(hb:Blk W b 111 cs.toArray)(hg:g<b)(hw:w.heap.size<=b)(i:Nat)(u:Value):WcStep w wr g qs n (W.setCell ⟨b,i,none⟩ u)/\Blk (W.setCell ⟨b,i,none⟩ u) b 111 (cs.set i u).toArray/\FrT 111 W (W.setCell ⟨b,i,none⟩ u):=by
 have hf:=(FrT.refl 111 W).set1 hb i u;exact⟨⟨fun x hx=>(h.qM x hx).frt hf,h.row.far (show g≠b by omega) u,h.fr.set1 hb i u,h.ho.setCell (p:=⟨b,i,none⟩) (fun hx=>absurd hx (by show¬b<w.heap.size;omega)) u⟩,Blk.setL9 hb i u,hf⟩
theorem WcStep.next{k:Nat}(h:WcStep w wr g qs (n-k) W)(hk:k<n)(hq:qs.length=k)(hw:w.heap.size<=g){y:MSt}(hy:MarkS W y):WcStep w wr g (qs++[y]) (n-(k+1)) (W.setCells g (k*8) (stC y)):=by
 have hf:=(FrT.refl 111 W).set h.row (k*8) (stC y);refine⟨fun x hx=> ?_,Blk.next8 (C:=stC) (z:=8) (fun _=>rfl) hk hq h.row y,h.fr.set h.row _ _,h.ho.trans (Kp.setCells _ _ _ _) (fun b hb e=>by have:b=g:=e;omega)⟩;rcases jM6 hx with hx|hx
 ·exact(h.qM x hx).frt hf
 ·rw[jM7 hx];exact hy.frt hf
end
structure WcNode(w wr:World)(g:Nat)(qs:List MNd)(n:Nat)(W:World):Prop where
 qM:∀x∈qs,MarkN W x
 row:Blk W g 46 ((qs++List.replicate n Vf).flatMap ndC).toArray
 fr:FrT 46 wr W
 ho:Old w W
section
variable{w wr W W1:World}{g:Nat}{qs:List MNd}{n:Nat}
theorem WcNode.old(h:WcNode w wr g qs n W)(ho:Old W W1):WcNode w wr g qs n W1:=⟨fun x hx=>(h.qM x hx).old ho,h.row.old ho,h.fr.old ho,jW h.ho ho⟩
theorem WcNode.set1(h:WcNode w wr g qs n W){b:Nat}{cs:List Value}(hb:Blk W b 46 cs.toArray)(hg:g<b)(hw:w.heap.size<=b)(i:Nat)(u:Value):WcNode w wr g qs n (W.setCell ⟨b,i,none⟩ u)/\Blk (W.setCell ⟨b,i,none⟩ u) b 46 (cs.set i u).toArray/\FrT 46 W (W.setCell ⟨b,i,none⟩ u):=by
 have hf:=(FrT.refl 46 W).set1 hb i u;exact⟨⟨fun x hx=>(h.qM x hx).frt hf,h.row.far (show g≠b by omega) u,h.fr.set1 hb i u,h.ho.setCell (p:=⟨b,i,none⟩) (fun hx=>absurd hx (by show¬b<w.heap.size;omega)) u⟩,Blk.setL9 hb i u,hf⟩
theorem WcNode.next{k:Nat}(h:WcNode w wr g qs (n-k) W)(hk:k<n)(hq:qs.length=k)(hw:w.heap.size<=g){y:MNd}(hy:MarkN W y):WcNode w wr g (qs++[y]) (n-(k+1)) (W.setCells g (k*7) (ndC y)):=by
 have hf:=(FrT.refl 46 W).set h.row (k*7) (ndC y);refine⟨fun x hx=> ?_,Blk.next8 (C:=ndC) (z:=7) (fun _=>rfl) hk hq h.row y,h.fr.set h.row _ _,h.ho.trans (Kp.setCells _ _ _ _) (fun b hb e=>by have:b=g:=e;omega)⟩;rcases jM6 hx with hx|hx
 ·exact(h.qM x hx).frt hf
 ·rw[jM7 hx];exact hy.frt hf
end
theorem jGq(w:World)(t:Tre)(m:Mk9)(s:Sl)(ns ns2:List MNd)(ps ps2:List MSt)(h:TrM w t m ns ps)(k:TrF w t s ns2 ps2)(b:TrB t):
  Calls prog 17 #[.agg (jF t (slM m t)).toArray,.agg (jF t s).toArray] w fun e w' =>e=.returned (.bool true)/\Old w w' :=by
 have ho:Old w ((w.alloc (.cells (jF t (slM m t)).toArray 29)).alloc (.cells (jF t s).toArray 29)):=((jQ0 NoX w).alloc _).alloc _;have Ei:=(jQ2 w 29 (jF t (slM m t)).toArray).old ((jQ0 NoX _).alloc (.cells (jF t s).toArray 29));have Rv:=jQ2 (w.alloc (.cells (jF t (slM m t)).toArray 29)) 29 (jF t s).toArray;rw[show(w.alloc (.cells (jF t (slM m t)).toArray 29)).heap.size=w.heap.size+1 by simp]at Rv;have Fi:=vI t (slM m t);have Fl:=vI t s;have Ee:=fun W (hB:Blk W w.heap.size 29 (jF t (slM m t)).toArray)=>Vr hB;have Y5:=fun W (hB:Blk W (w.heap.size+1) 29 (jF t s).toArray)=>Jw hB;have hS:=fun W (hO:Old w W)=>jAC W t (slM m t) s ns ns2 ps ps2 (h.old hO).trf (k.old hO) b;have Fb:Hid (t.attrs.length<=1000000/\t.stages.length<=1000000/\t.miles.length<=1000000/\t.steps.length<=1000000/\t.nodes.length<=1000000/\t.ats.length<=2000000):=G ⟨b.nA,b.nG,b.nM,b.nP,b.nN,b.nO⟩;go_enter func17,ntmps17;generalize jF t (slM m t)=cu at*;generalize jF t s=ct at*;have HO:=G ho;have C6:=G Ei;have MK:=G Rv;have Lz:=G Ee;have FV:=G Y5;have Dh:=G Fi;have BC:=G Fl;have HS:=G hS;clear ho Ei Rv Ee Y5 Fi Fl hS;have HM:=G h;have HF:=G k;have HB:=G b;clear h k b;go_wp2_with fail;generalize (w.alloc (.cells cu.toArray 29)).alloc (.cells ct.toArray 29)=w0 at*;have e_ats:IntKind.i64.wrap ((t.ats.length:Int)+80)=(t.ats.length:Int)+80:=jQ3 _ (by have:=HB.out.nO;omega);have e_attrs:IntKind.i64.wrap ((t.attrs.length:Int)+80)=(t.attrs.length:Int)+80:=jQ3 _ (by have:=HB.out.nA;omega);have e_stages:IntKind.i64.wrap ((t.stages.length:Int)+80)=(t.stages.length:Int)+80:=jQ3 _ (by have:=HB.out.nG;omega);have e_miles:IntKind.i64.wrap ((t.miles.length:Int)+80)=(t.miles.length:Int)+80:=jQ3 _ (by have:=HB.out.nM;omega);have e_steps:IntKind.i64.wrap ((t.steps.length:Int)+8)=(t.steps.length:Int)+8:=jQ3 _ (by have:=HB.out.nP;omega);have e_nodes:IntKind.i64.wrap ((t.nodes.length:Int)+8)=(t.nodes.length:Int)+8:=jQ3 _ (by have:=HB.out.nN;omega);have s_ats:=fun W=>yD (P:=prog) jBe qT (some ⟨m.gO,0,none⟩) t.ats.length (t.ats.length+80) (t.ats.length+80) .i64 ((t.ats.length:Int)+80) (by simp) (jL3 _) W;have s_attrs:=fun W=>yD (P:=prog) yt yW (some ⟨m.gA,0,none⟩) t.attrs.length (t.attrs.length+80) (t.attrs.length+80) .i64 ((t.attrs.length:Int)+80) (by simp) (jL3 _) W;have s_stages:=fun W=>yD (P:=prog) Jq JB (some ⟨m.gG,0,none⟩) t.stages.length (t.stages.length+80) (t.stages.length+80) .i64 ((t.stages.length:Int)+80) (by simp) (jL3 _) W;have s_miles:=fun W=>yD (P:=prog) yq yV (some ⟨m.gM,0,none⟩) t.miles.length (t.miles.length+80) (t.miles.length+80) .i64 ((t.miles.length:Int)+80) (by simp) (jL3 _) W;have s_steps:=fun W=>jBq ZO (s:=8) Vy m.gP t.steps.length (t.steps.length+8) t.steps.length (t.steps.length+8) (t.steps.length:Int) ((t.steps.length:Int)+8) rfl (by simp) (by omega) (jL3 _) (by omega) W;rw[Nat.add_sub_cancel_left]at s_steps;have s_nodes:=fun W=>jBq ZP (s:=7) Vz m.gN t.nodes.length (t.nodes.length+8) t.nodes.length (t.nodes.length+8) (t.nodes.length:Int) ((t.nodes.length:Int)+8) rfl (by simp) (by omega) (jL3 _) (by omega) W;rw[Nat.add_sub_cancel_left]at s_nodes;have W6:=G (fun W (hO:Old w0 W)=>(show Blk W w.heap.size 29 cu.toArray/\Blk W (w.heap.size+1) 29 ct.toArray from⟨C6.out.old hO,MK.out.old hO⟩));obtain⟨LA,Lp⟩:∃S:World->Prop,S=fun W=>Blk W w.heap.size 29 cu.toArray/\Blk W (w.heap.size+1) 29 ct.toArray:=⟨_,rfl⟩;have Wg:=G (show∀W,LA W->Blk W w.heap.size 29 cu.toArray/\Blk W (w.heap.size+1) 29 ct.toArray from fun W h=>by rw[Lp]at h;exact h);replace W6:Hid (∀W,Old w0 W->LA W):=G (fun W hO=>by rw[Lp];exact W6.out W hO);clear Lp;have BG:=G (fun W (hO:Old w0 W)=>HS.out W (jW HO.out hO));have Px:=G (fun W (hO:Old w0 W)=>jBK W m.gO s.oA s.oc t.ats (HM.out.bO.old (jW HO.out hO)) (HF.out.rO.old (jW HO.out hO)) (by have:=HB.out.nO;omega));have EU:=G (fun W (hO:Old w0 W)=>VD W m.gA s.aA s.ac t.attrs (HM.out.bA.old (jW HO.out hO)) (HF.out.rA.old (jW HO.out hO)) (by have:=HB.out.nA;omega));have ET:=G (fun W (hO:Old w0 W)=>Zq W m.gG s.gA s.gc t.stages (HM.out.bG.old (jW HO.out hO)) (HF.out.rG.old (jW HO.out hO)) (by have:=HB.out.nG;omega));have ER:=G (fun W (hO:Old w0 W)=>VC W m.gM s.mA s.mc t.miles (HM.out.bM.old (jW HO.out hO)) (HF.out.rM.old (jW HO.out hO)) (by have:=HB.out.nM;omega));unfold atC jS Jn iv at EU;unfold sgC kI Jn iv at ET;unfold miC jR Jn iv at ER;clear HS C6 MK;refine jL (S:=LA) 17 rfl (by kernel_rfl) (W6.out _ ((jQ0 NoX w0)).drew) (fun Ha=> ?_);refine' tOn rfl rfl (by kernel_rfl) (fun _ _ _ h=>h) rfl Ha (fun w' Hh=>jO 29 (.tmp 2) rfl w.heap.size 0 rfl cu _ (qL (Wg.out _ Hh).1) underlying29 rfl Dh.out) ?_;simp only[Act.put,jJ1,jJ2,jJ3];refine' tOn rfl rfl (by kernel_rfl) (fun _ _ _ h=>h) rfl Ha (fun w' Hh=>jO 29 (.tmp 3) rfl (w.heap.size+1) 0 rfl ct _ (qL (Wg.out _ Hh).2) underlying29 rfl BC.out) ?_;simp only[Act.put,jJ1,jJ2,jJ3];refine yU rfl (by kernel_rfl) (by decide) (fun K hK=> ?_);go_simp;go_at_call 30;refine(BG.out _ ((jQ0 NoX w0)).drew).mono ?_;rintro e v1 ⟨rfl,hX⟩;have V1:=G (jW ((jQ0 NoX w0)).drew hX);clear hX;go_simp;refine hK.out _ _ (W6.out _ V1.out) (fun Ha=> ?_);clear hK K
 iterate 11 (refine' tOn rfl rfl (by kernel_rfl) (fun _ _ _ h=>h) rfl Ha (fun w' Hh=> ?_) ?_;rotate_left;((obtain⟨NV,Nu⟩:=Wg.out _ Hh;obtain⟨u2,u3,u4,u5,u6,u7⟩:=Lz.out _ NV;obtain⟨t2,t3,t4,t5,t6,t7⟩:=FV.out _ Nu;clear NV Nu);go_simp<;>with_reducible rfl);simp only[Act.put,jJ1,jJ2,jJ3])
 refine yU rfl (by kernel_rfl) (by decide) (fun K hK=> ?_);go_simp;go_at_call 24;refine(Px.out _ V1.out).mono ?_;rintro e v2 ⟨rfl,hX⟩;have V2:=G (jW V1.out hX);clear hX;go_simp;refine hK.out _ _ (W6.out _ V2.out) (fun Ha=> ?_);clear hK K
 iterate 2 (refine' tOn rfl rfl (by kernel_rfl) (fun _ _ _ h=>h) rfl Ha (fun w' Hh=> ?_) ?_;rotate_left;((obtain⟨NV,Nu⟩:=Wg.out _ Hh;obtain⟨u2,u3,u4,u5,u6,u7⟩:=Lz.out _ NV;obtain⟨t2,t3,t4,t5,t6,t7⟩:=FV.out _ Nu;clear NV Nu);go_simp<;>with_reducible rfl);simp only[Act.put,jJ1,jJ2,jJ3])
 refine wpAnyH_done (by kernel_rfl) ?_ _;go_wp2_with fail;refine jL (S:=LA) 26 rfl (by kernel_rfl) (W6.out _ V2.out.drew) (fun Ha=> ?_)
 iterate 10 (refine' tOn rfl rfl (by kernel_rfl) (fun _ _ _ h=>h) rfl Ha (fun w' Hh=> ?_) ?_;rotate_left;((obtain⟨NV,Nu⟩:=Wg.out _ Hh;obtain⟨u2,u3,u4,u5,u6,u7⟩:=Lz.out _ NV;obtain⟨t2,t3,t4,t5,t6,t7⟩:=FV.out _ Nu;clear NV Nu);go_simp<;>with_reducible rfl);simp only[Act.put,jJ1,jJ2,jJ3])
 refine yU rfl (by kernel_rfl) (by decide) (fun K hK=> ?_);go_simp;go_at_call 62;refine(EU.out _ V2.out.drew).mono ?_;rintro e v3 ⟨rfl,hX⟩;have V3:=G (jW V2.out.drew hX);clear hX;go_simp;refine hK.out _ _ (W6.out _ V3.out) (fun Ha=> ?_);clear hK K
 iterate 12 (refine' tOn rfl rfl (by kernel_rfl) (fun _ _ _ h=>h) rfl Ha (fun w' Hh=> ?_) ?_;rotate_left;((obtain⟨NV,Nu⟩:=Wg.out _ Hh;obtain⟨u2,u3,u4,u5,u6,u7⟩:=Lz.out _ NV;obtain⟨t2,t3,t4,t5,t6,t7⟩:=FV.out _ Nu;clear NV Nu);go_simp<;>with_reducible rfl);simp only[Act.put,jJ1,jJ2,jJ3])
 refine yU rfl (by kernel_rfl) (by decide) (fun K hK=> ?_);go_simp;go_at_call 63;refine(ET.out _ V3.out).mono ?_;rintro e v4 ⟨rfl,hX⟩;have V4:=G (jW V3.out hX);clear hX;go_simp;refine hK.out _ _ (W6.out _ V4.out) (fun Ha=> ?_);clear hK K
 iterate 2 (refine' tOn rfl rfl (by kernel_rfl) (fun _ _ _ h=>h) rfl Ha (fun w' Hh=> ?_) ?_;rotate_left;((obtain⟨NV,Nu⟩:=Wg.out _ Hh;obtain⟨u2,u3,u4,u5,u6,u7⟩:=Lz.out _ NV;obtain⟨t2,t3,t4,t5,t6,t7⟩:=FV.out _ Nu;clear NV Nu);go_simp<;>with_reducible rfl);simp only[Act.put,jJ1,jJ2,jJ3])
 refine wpAnyH_done (by kernel_rfl) ?_ _;go_wp2_with fail;refine jL (S:=LA) 12 rfl (by kernel_rfl) (W6.out _ V4.out.drew) (fun Ha=> ?_)
 iterate 10 (refine' tOn rfl rfl (by kernel_rfl) (fun _ _ _ h=>h) rfl Ha (fun w' Hh=> ?_) ?_;rotate_left;((obtain⟨NV,Nu⟩:=Wg.out _ Hh;obtain⟨u2,u3,u4,u5,u6,u7⟩:=Lz.out _ NV;obtain⟨t2,t3,t4,t5,t6,t7⟩:=FV.out _ Nu;clear NV Nu);go_simp<;>with_reducible rfl);simp only[Act.put,jJ1,jJ2,jJ3])
 refine yU rfl (by kernel_rfl) (by decide) (fun K hK=> ?_);go_simp;go_at_call 64;refine(ER.out _ V4.out.drew).mono ?_;rintro e v5 ⟨rfl,hX⟩;have V5:=G (jW V4.out.drew hX);clear hX;go_simp;refine hK.out _ _ (W6.out _ V5.out) (fun Ha=> ?_);clear hK K
 iterate 1 (refine' tOn rfl rfl (by kernel_rfl) (fun _ _ _ h=>h) rfl Ha (fun w' Hh=> ?_) ?_;rotate_left;((obtain⟨NV,Nu⟩:=Wg.out _ Hh;obtain⟨u2,u3,u4,u5,u6,u7⟩:=Lz.out _ NV;obtain⟨t2,t3,t4,t5,t6,t7⟩:=FV.out _ Nu;clear NV Nu);go_simp<;>with_reducible rfl);simp only[Act.put,jJ1,jJ2,jJ3])
 refine wpAnyH_done (by kernel_rfl) ?_ _;go_wp2_with fail;have VL:=G V5.out;clear V1 V2 V3 V4 V5;go_loopw [5,6,7] (fun i _ _ wr=>∃j:Nat,j<=t.steps.length/\i=.int .i64 j/\Old w0 wr) (fun i _ _ _=>t.steps.length-(intOf i).toNat)
 case atStart=>exact⟨0,Nat.zero_le _,rfl,VL.out⟩
 case round=>
  obtain⟨j,hj,rfl,Hj⟩:=hrel;have HW:=G Hj;clear Hj;have u5:=(Lz.out _ (Wg.out _ (W6.out _ HW.out)).1).2.2.2.1;have u6:=(Lz.out _ (Wg.out _ (W6.out _ HW.out)).1).2.2.2.2.1;have t5:=(FV.out _ (Wg.out _ (W6.out _ HW.out)).2).2.2.2.1;have t6:=(FV.out _ (Wg.out _ (W6.out _ HW.out)).2).2.2.2.2.1;by_cases hlt:j<t.steps.length
  ·obtain⟨gp,ge,pl,el,B,E,bc,ec,bb,oo,hA,N0,AM,Fp,SW,SV⟩:=jCZ HM.out HF.out HB.out hlt;have HC:=G (fun W (hO:Old w0 W)=>Fp W (jW HO.out hO));have HP:=G (fun W (hO:Old w0 W)=>SW W (jW HO.out hO));have HE:=G (fun W (hO:Old w0 W)=>SV W (jW HO.out hO));have t0:∀W,Old w0 W->W.cell? ⟨w.heap.size+1,5,none⟩=some (.slice (some ⟨bb,oo,none⟩) t.steps.length s.pc):=fun W hO=>by
    have:=(FV.out _ (Wg.out _ (W6.out _ hO)).2).2.2.2.1
    rwa [hA]at this
   have GV:=G (fun W (hO:Old w0 W)=>(show W.cell? ⟨w.heap.size+1,5,none⟩=some (.slice (some ⟨bb,oo,none⟩) t.steps.length s.pc)/\W.cell? ⟨bb,oo+j*8+3,none⟩=some (.slice B pl.length bc)/\W.cell? ⟨bb,oo+j*8+7,none⟩=some (.slice E el.length ec)from⟨t0 W hO,(HC.out W hO).2.2.1,(HC.out W hO).2.2.2⟩));obtain⟨NL,Lq⟩:∃S:World->Prop,S=fun W=>W.cell? ⟨w.heap.size+1,5,none⟩=some (.slice (some ⟨bb,oo,none⟩) t.steps.length s.pc)/\W.cell? ⟨bb,oo+j*8+3,none⟩=some (.slice B pl.length bc)/\W.cell? ⟨bb,oo+j*8+7,none⟩=some (.slice E el.length ec):=⟨_,rfl⟩;have MW:=G (show∀W,NL W->W.cell? ⟨w.heap.size+1,5,none⟩=some (.slice (some ⟨bb,oo,none⟩) t.steps.length s.pc)/\W.cell? ⟨bb,oo+j*8+3,none⟩=some (.slice B pl.length bc)/\W.cell? ⟨bb,oo+j*8+7,none⟩=some (.slice E el.length ec)from fun W h=>by rw[Lq]at h;exact h);replace GV:Hid (∀W,Old w0 W->NL W):=G (fun W hO=>by rw[Lq];exact GV.out W hO);clear Lq t0 Fp SW SV hA;have x1:=(HC.out _ HW.out).1;have x2:=(HC.out _ HW.out).2.1;have b5:(j:Int)<=1000000:=by have:=HB.out.nP;omega
   have b6:(0:Int)<=(j:Int):=(by omega);have b7:(j:Int)<(t.steps.length:Int):=(by omega);have b8:(j:Int).toNat=j:=(by omega);have ep:IntKind.i64.wrap ((pl.length:Int)+80)=(pl.length:Int)+80:=jQ3 _ (by omega);have ee:IntKind.i64.wrap ((el.length:Int)+80)=(el.length:Int)+80:=jQ3 _ (by omega);have s_p:=fun W=>yD (P:=prog) Jr JC (some ⟨gp,0,none⟩) pl.length (pl.length+80) (pl.length+80) .i64 ((pl.length:Int)+80) (by simp) (jL3 _) W;have s_e:=fun W=>yD (P:=prog) JQ zh (some ⟨ge,0,none⟩) el.length (el.length+80) (el.length+80) .i64 ((el.length:Int)+80) (by simp) (jL3 _) W;unfold prC kG Jn iv at HP;unfold efC jp Jn iv at HE;go_wp2_with fail;refine jL (S:=NL) 30 rfl (by kernel_rfl) (GV.out _ HW.out.drew) (fun Ha=> ?_)
   iterate 12 (refine' tOn rfl rfl (by kernel_rfl) (fun _ _ _ h=>h) rfl Ha (fun w' Hh=> ?_) ?_;rotate_left;((obtain⟨l0,l3,l7⟩:=MW.out _ Hh);go_simp<;>with_reducible rfl);simp only[Act.put,jJ1,jJ2,jJ3])
   refine yU rfl (by kernel_rfl) (by decide) (fun K hK=> ?_);go_simp;go_at_call 65;refine(HP.out _ HW.out.drew).mono ?_;rintro e v6 ⟨rfl,hX⟩;have V6:=G (jW HW.out.drew hX);clear hX;go_simp;refine hK.out _ _ (GV.out _ V6.out) (fun Ha=> ?_);clear hK K
   iterate 14 (refine' tOn rfl rfl (by kernel_rfl) (fun _ _ _ h=>h) rfl Ha (fun w' Hh=> ?_) ?_;rotate_left;((obtain⟨l0,l3,l7⟩:=MW.out _ Hh);go_simp<;>with_reducible rfl);simp only[Act.put,jJ1,jJ2,jJ3])
   refine yU rfl (by kernel_rfl) (by decide) (fun K hK=> ?_);go_simp;go_at_call 66;refine(HE.out _ V6.out).mono ?_;rintro e v7 ⟨rfl,hX⟩;have V7:=G (jW V6.out hX);clear hX;go_simp;refine hK.out _ _ (GV.out _ V7.out) (fun Ha=> ?_);clear hK K
   iterate 2 (refine' tOn rfl rfl (by kernel_rfl) (fun _ _ _ h=>h) rfl Ha (fun w' Hh=> ?_) ?_;rotate_left;((obtain⟨l0,l3,l7⟩:=MW.out _ Hh);go_simp<;>with_reducible rfl);simp only[Act.put,jJ1,jJ2,jJ3])
   refine wpAnyH_done (by kernel_rfl) ?_ _;go_wp2_with fail;go_roundw
   case rel=>exact⟨j+1,by omega,by go_num,V7.out⟩
   case measure=>simp[intOf];omega
  ·obtain rfl:j=t.steps.length:=(by omega);go_wp2_with fail;have VL:=HW;clear HW u5 u6 t5 t6 hj hlt;go_loopw [8,9,10] (fun i _ _ wr=>∃j:Nat,j<=t.nodes.length/\i=.int .i64 j/\Old w0 wr) (fun i _ _ _=>t.nodes.length-(intOf i).toNat)
   case atStart=>exact⟨0,Nat.zero_le _,rfl,VL.out⟩
   case round=>
    obtain⟨j,hj,rfl,Hj⟩:=hrel;have HW:=G Hj;clear Hj;have u5:=(Lz.out _ (Wg.out _ (W6.out _ HW.out)).1).2.2.2.1;have u6:=(Lz.out _ (Wg.out _ (W6.out _ HW.out)).1).2.2.2.2.1;have t5:=(FV.out _ (Wg.out _ (W6.out _ HW.out)).2).2.2.2.1;have t6:=(FV.out _ (Wg.out _ (W6.out _ HW.out)).2).2.2.2.2.1;by_cases hlt:j<t.nodes.length
    ·obtain⟨gp,ge,pl,el,B,E,bc,ec,bb,oo,hA,N0,AM,Fp,SW,SV⟩:=jC1 HM.out HF.out HB.out hlt;have HC:=G (fun W (hO:Old w0 W)=>Fp W (jW HO.out hO));have HP:=G (fun W (hO:Old w0 W)=>SW W (jW HO.out hO));have HE:=G (fun W (hO:Old w0 W)=>SV W (jW HO.out hO));have t0:∀W,Old w0 W->W.cell? ⟨w.heap.size+1,6,none⟩=some (.slice (some ⟨bb,oo,none⟩) t.nodes.length s.nc):=fun W hO=>by
      have:=(FV.out _ (Wg.out _ (W6.out _ hO)).2).2.2.2.2.1
      rwa [hA]at this
     have GV:=G (fun W (hO:Old w0 W)=>(show W.cell? ⟨w.heap.size+1,6,none⟩=some (.slice (some ⟨bb,oo,none⟩) t.nodes.length s.nc)/\W.cell? ⟨bb,oo+j*7+6,none⟩=some (.slice B pl.length bc)/\W.cell? ⟨bb,oo+j*7+5,none⟩=some (.slice E el.length ec)from⟨t0 W hO,(HC.out W hO).2.2.1,(HC.out W hO).2.2.2⟩));obtain⟨NL,Lq⟩:∃S:World->Prop,S=fun W=>W.cell? ⟨w.heap.size+1,6,none⟩=some (.slice (some ⟨bb,oo,none⟩) t.nodes.length s.nc)/\W.cell? ⟨bb,oo+j*7+6,none⟩=some (.slice B pl.length bc)/\W.cell? ⟨bb,oo+j*7+5,none⟩=some (.slice E el.length ec):=⟨_,rfl⟩;have MW:=G (show∀W,NL W->W.cell? ⟨w.heap.size+1,6,none⟩=some (.slice (some ⟨bb,oo,none⟩) t.nodes.length s.nc)/\W.cell? ⟨bb,oo+j*7+6,none⟩=some (.slice B pl.length bc)/\W.cell? ⟨bb,oo+j*7+5,none⟩=some (.slice E el.length ec)from fun W h=>by rw[Lq]at h;exact h);replace GV:Hid (∀W,Old w0 W->NL W):=G (fun W hO=>by rw[Lq];exact GV.out W hO);clear Lq t0 Fp SW SV hA;have x1:=(HC.out _ HW.out).1;have x2:=(HC.out _ HW.out).2.1;have b5:(j:Int)<=1000000:=by have:=HB.out.nN;omega
     have b6:(0:Int)<=(j:Int):=(by omega);have b7:(j:Int)<(t.nodes.length:Int):=(by omega);have b8:(j:Int).toNat=j:=(by omega);have ep:IntKind.i64.wrap ((pl.length:Int)+80)=(pl.length:Int)+80:=jQ3 _ (by omega);have ee:IntKind.i64.wrap ((el.length:Int)+80)=(el.length:Int)+80:=jQ3 _ (by omega);have s_p:=fun W=>yD (P:=prog) jBe qT (some ⟨gp,0,none⟩) pl.length (pl.length+80) (pl.length+80) .i64 ((pl.length:Int)+80) (by simp) (jL3 _) W;have s_e:=fun W=>yD (P:=prog) jFk Uw (some ⟨ge,0,none⟩) el.length (el.length+80) (el.length+80) .i64 ((el.length:Int)+80) (by simp) (jL3 _) W;unfold iv at HP;unfold Jn at HE;go_wp2_with fail;refine jL (S:=NL) 29 rfl (by kernel_rfl) (GV.out _ HW.out.drew) (fun Ha=> ?_)
     iterate 11 (refine' tOn rfl rfl (by kernel_rfl) (fun _ _ _ h=>h) rfl Ha (fun w' Hh=> ?_) ?_;rotate_left;((obtain⟨l0,l3,l7⟩:=MW.out _ Hh);go_simp<;>with_reducible rfl);simp only[Act.put,jJ1,jJ2,jJ3])
     refine yU rfl (by kernel_rfl) (by decide) (fun K hK=> ?_);go_simp;go_at_call 24;refine(HP.out _ HW.out.drew).mono ?_;rintro e v8 ⟨rfl,hX⟩;have V8:=G (jW HW.out.drew hX);clear hX;go_simp;refine hK.out _ _ (GV.out _ V8.out) (fun Ha=> ?_);clear hK K
     iterate 14 (refine' tOn rfl rfl (by kernel_rfl) (fun _ _ _ h=>h) rfl Ha (fun w' Hh=> ?_) ?_;rotate_left;((obtain⟨l0,l3,l7⟩:=MW.out _ Hh);go_simp<;>with_reducible rfl);simp only[Act.put,jJ1,jJ2,jJ3])
     refine yU rfl (by kernel_rfl) (by decide) (fun K hK=> ?_);go_simp;go_at_call 25;refine(HE.out _ V8.out).mono ?_;rintro e v9 ⟨rfl,hX⟩;have V9:=G (jW V8.out hX);clear hX;go_simp;refine hK.out _ _ (GV.out _ V9.out) (fun Ha=> ?_);clear hK K
     iterate 2 (refine' tOn rfl rfl (by kernel_rfl) (fun _ _ _ h=>h) rfl Ha (fun w' Hh=> ?_) ?_;rotate_left;((obtain⟨l0,l3,l7⟩:=MW.out _ Hh);go_simp<;>with_reducible rfl);simp only[Act.put,jJ1,jJ2,jJ3])
     refine wpAnyH_done (by kernel_rfl) ?_ _;go_wp2_with fail;go_roundw
     case rel=>exact⟨j+1,by omega,by go_num,V9.out⟩
     case measure=>simp[intOf];omega
    ·obtain rfl:j=t.nodes.length:=(by omega);go_wp2_with fail;have VL:=HW;clear HW u5 u6 t5 t6 hj hlt;have HR:=G (fun W (hO:Old w0 W) j (hj:j<8)=>(show W.rangeAt m.gP (t.steps.length*8+j*8) (stC Yh)/\W.rangeAt m.gN (t.nodes.length*7+j*7) (ndC Vf)from⟨xC (C:=stC) (fun _=>rfl) (HM.out.bP.old (jW HO.out hO)) HM.out.trf.lenP hj,xC (C:=ndC) (fun _=>rfl) (HM.out.bN.old (jW HO.out hO)) HM.out.trf.lenN hj⟩));have Bo:=G (show(prog.info? 111).map (·.size)=some (stC Yh).length from kr);have Bp:=G (show(prog.info? 46).map (·.size)=some (ndC Vf).length from kt);have Bq:=G (fun W (_:Old w0 W)=>qQ W);have Bw:=G (fun W (_:Old w0 W)=>qz W);have Br:=G (fun W (_:Old w0 W)=>qU W Yh Yh ⟨rfl,Rd.none_,Rd.none_,Rd.none_,Rd.none_,Nat.zero_le _,Nat.zero_le _⟩);have Bx:=G (fun W (_:Old w0 W)=>qV W Vf Vf ⟨rfl,Rd.none_,Rd.none_,Rd.none_,Rd.none_,Nat.zero_le _,Nat.zero_le _⟩);generalize stC Yh=cS at*;generalize ndC Vf=cN at*;go_loopw [13] (fun i wr=>∃j:Nat,j<=8/\i=.int .i64 j/\Old w0 wr) (fun i _=>8-(intOf i).toNat)
     case atStart=>exact⟨0,Nat.zero_le _,rfl,VL.out⟩
     case round=>
      obtain⟨j,hj,rfl,Hj⟩:=hrel;have HW:=G Hj;clear Hj;by_cases hlt:j<8
      ·have hR:=fun W (hO:Old w0 W)=>HR.out W hO j hlt;have GV:=G hR;obtain⟨NL,Lq⟩:∃S:World->Prop,S=fun W=>W.rangeAt m.gP (t.steps.length*8+j*8) cS/\W.rangeAt m.gN (t.nodes.length*7+j*7) cN:=⟨_,rfl⟩;have MW:=G (show∀W,NL W->W.rangeAt m.gP (t.steps.length*8+j*8) cS/\W.rangeAt m.gN (t.nodes.length*7+j*7) cN from fun W h=>by rw[Lq]at h;exact h);replace GV:Hid (∀W,Old w0 W->NL W):=G (fun W hO=>by rw[Lq];exact GV.out W hO);clear Lq hR;have b6:(0:Int)<=(j:Int):=(by omega);have b7:(j:Int)<8:=(by omega);have b8:(j:Int).toNat=j:=(by omega);go_wp2_with fail;refine jL (S:=NL) 16 rfl (by kernel_rfl) (GV.out _ HW.out.drew) (fun Ha=> ?_)
       iterate 3 (refine' tOn rfl rfl (by kernel_rfl) (fun _ _ _ h=>h) rfl Ha (fun w' Hh=> ?_) ?_;rotate_left;((clear Hh);go_simp<;>with_reducible rfl);simp only[Act.put,jJ1,jJ2,jJ3])
       refine' tOn rfl rfl (by kernel_rfl) (fun _ _ _ h=>h) rfl Ha (fun w' Hh=>jO 111 (.tmp 193) rfl m.gP (t.steps.length*8+j*8) rfl cS _ (MW.out _ Hh).1 underlying111 rfl Bo.out) ?_;simp only[Act.put,jJ1,jJ2,jJ3];refine yU rfl (by kernel_rfl) (by decide) (fun K hK=> ?_);go_simp;go_at_call 47;refine(Bq.out _ HW.out.drew).mono ?_;rintro e v10 ⟨rfl,hX⟩;have V10:=G (jW HW.out.drew hX);clear hX;go_simp;refine hK.out _ _ (GV.out _ V10.out) (fun Ha=> ?_);clear hK K;refine yU rfl (by kernel_rfl) (by decide) (fun K hK=> ?_);go_simp;go_at_call 67;refine(Br.out _ V10.out).mono ?_;rintro e v11 ⟨rfl,hX⟩;have V11:=G (jW V10.out hX);clear hX;go_simp;refine hK.out _ _ (GV.out _ V11.out) (fun Ha=> ?_);clear hK K
       iterate 5 (refine' tOn rfl rfl (by kernel_rfl) (fun _ _ _ h=>h) rfl Ha (fun w' Hh=> ?_) ?_;rotate_left;((clear Hh);go_simp<;>with_reducible rfl);simp only[Act.put,jJ1,jJ2,jJ3])
       refine' tOn rfl rfl (by kernel_rfl) (fun _ _ _ h=>h) rfl Ha (fun w' Hh=>jO 46 (.tmp 201) rfl m.gN (t.nodes.length*7+j*7) rfl cN _ (MW.out _ Hh).2 underlying46 rfl Bp.out) ?_;simp only[Act.put,jJ1,jJ2,jJ3];refine yU rfl (by kernel_rfl) (by decide) (fun K hK=> ?_);go_simp;go_at_call 50;refine(Bw.out _ V11.out).mono ?_;rintro e v12 ⟨rfl,hX⟩;have V12:=G (jW V11.out hX);clear hX;go_simp;refine hK.out _ _ (GV.out _ V12.out) (fun Ha=> ?_);clear hK K;refine yU rfl (by kernel_rfl) (by decide) (fun K hK=> ?_);go_simp;go_at_call 68;refine(Bx.out _ V12.out).mono ?_;rintro e v13 ⟨rfl,hX⟩;have V13:=G (jW V12.out hX);clear hX;go_simp;refine hK.out _ _ (GV.out _ V13.out) (fun Ha=> ?_);clear hK K
       iterate 2 (refine' tOn rfl rfl (by kernel_rfl) (fun _ _ _ h=>h) rfl Ha (fun w' Hh=> ?_) ?_;rotate_left;((clear Hh);go_simp<;>with_reducible rfl);simp only[Act.put,jJ1,jJ2,jJ3])
       refine wpAnyH_done (by kernel_rfl) ?_ _;go_wp2_with fail;go_roundw
       case rel=>exact⟨j+1,by omega,by go_num,V13.out⟩
       case measure=>simp[intOf];omega
      ·obtain rfl:j=8:=(by omega);go_wp2_with fail;go_ret;exact⟨rfl,jW HO.out HW.out⟩
theorem jGe(w:World)(t:Tre)(s:Sl)(ns:List MNd)(ps:List MSt)(h:TrF w t s ns ps)(b:TrB t):
  Calls prog 11 #[.agg (jF t s).toArray] w fun e w' =>∃n:Int,e=.returned (.int .i64 n)/\Old w w' :=by
 have HF:=G h;have HB:=G b;clear h b;have FV:=G (fun W (hB:Blk W w.heap.size 29 (jF t s).toArray)=>Jw hB);go_enter func11,ntmps11;generalize jF t s=ct at*;have H0:=G (And.intro (jQ2 w 29 ct.toArray) ((jQ0 NoX w).alloc (.cells ct.toArray 29)));have c:=FV.out _ H0.out.1;obtain⟨t2,t3,t4,t5,t6,t7⟩:=c;go_wp2_with fail;clear t2 t3 t4 t5 t6 t7;generalize w.alloc (.cells ct.toArray 29)=w0 at*;go_loopw [3,4] (fun n i wr=>∃(x:Int) (k:Nat),k<=t.steps.length/\n=.int .i64 x/\i=.int .i64 k/\Blk wr w.heap.size 29 ct.toArray/\Old w wr) (fun _ i _=>t.steps.length-(intOf i).toNat)
 case atStart=>exact⟨_,0,Nat.zero_le _,rfl,rfl,H0.out.1,H0.out.2⟩
 case round=>
  obtain⟨x,k,hk,rfl,rfl,hb,ho⟩:=hrel;have RL:=G (And.intro hb ho);have f5:=(FV.out _ hb).2.2.2.1;clear hb ho;by_cases hlt:k<t.steps.length
  ·have b5:(k:Int)<=1000000:=by have:=HB.out.nP;omega
   have b6:(0:Int)<=(k:Int):=(by omega);have b7:(k:Int)<(t.steps.length:Int):=(by omega);have b8:(k:Int).toNat=k:=(by omega);by_cases hx:x<=100000
   ·have e1:=jJ9 (show k<ps.length by rw[HF.out.lenP];exact hlt);generalize ps[k]'_=y at e1;obtain⟨bb,oo,hA,NP⟩:=jP (C:=stC) (fun _=>rfl) (HF.out.rP.old RL.out.2) e1 hlt;rw[hA]at f5;have c1:wr.cell? ⟨bb,oo+k*8+3,none⟩=some (.slice y.pA y.s.params.length y.pc):=by rw[Nat.add_assoc];exact NP 3 _ rfl
    have c2:wr.cell? ⟨bb,oo+k*8+7,none⟩=some (.slice y.eA y.s.effects.length y.ec):=by rw[Nat.add_assoc];exact NP 7 _ rfl
    clear hA NP e1;go_wp2_with fail;go_quiet (fail);go_wp2_with fail;go_roundw
    case rel=>exact⟨_,k+1,by omega,rfl,by go_num,RL.out.1.drewN _,RL.out.2.drewN _⟩
    case measure=>simp[intOf];omega
   ·go_wp2_with fail;go_loopw [3,5] (fun n i wr=>∃(x:Int) (k:Nat),k<=t.nodes.length/\n=.int .i64 x/\i=.int .i64 k/\Blk wr w.heap.size 29 ct.toArray/\Old w wr) (fun _ i _=>t.nodes.length-(intOf i).toNat)
    case atStart=>exact⟨_,0,Nat.zero_le _,rfl,rfl,RL.out.1,RL.out.2⟩
    case round=>
     obtain⟨x,k,hk,rfl,rfl,hb,ho⟩:=hrel;have Lx:=G (And.intro hb ho);have f6:=(FV.out _ hb).2.2.2.2.1;clear hb ho;by_cases hlt:k<t.nodes.length
     ·have b5:(k:Int)<=1000000:=by have:=HB.out.nN;omega
      have b6:(0:Int)<=(k:Int):=(by omega);have b7:(k:Int)<(t.nodes.length:Int):=(by omega);have b8:(k:Int).toNat=k:=(by omega);by_cases hx:x<=100000
      ·have e1:=jJ9 (show k<ns.length by rw[HF.out.lenN];exact hlt);generalize ns[k]'_=y at e1;obtain⟨bb,oo,hA,NP⟩:=jP (C:=ndC) (fun _=>rfl) (HF.out.rN.old Lx.out.2) e1 hlt;rw[hA]at f6;have c1:wr.cell? ⟨bb,oo+k*7+6,none⟩=some (.slice y.A y.n.kids.length y.c):=by rw[Nat.add_assoc];exact NP 6 _ rfl
       have c2:wr.cell? ⟨bb,oo+k*7+5,none⟩=some (.slice y.vA y.n.vs.length y.vc):=by rw[Nat.add_assoc];exact NP 5 _ rfl
       clear hA NP e1;go_wp2_with fail;go_quiet (fail);go_wp2_with fail;go_roundw
       case rel=>exact⟨_,k+1,by omega,rfl,by go_num,Lx.out.1.drewN _,Lx.out.2.drewN _⟩
       case measure=>simp[intOf];omega
      ·go_wp2_with fail;go_ret;exact⟨⟨_,rfl⟩,Lx.out.2⟩
     ·have b7:¬(k:Int)<(t.nodes.length:Int):=(by omega);go_wp2_with fail;go_ret;exact⟨⟨_,rfl⟩,Lx.out.2⟩
  ·have b7:¬(k:Int)<(t.steps.length:Int):=(by omega);go_wp2_with fail;go_loopw [3,5] (fun n i wr=>∃(x:Int) (k:Nat),k<=t.nodes.length/\n=.int .i64 x/\i=.int .i64 k/\Blk wr w.heap.size 29 ct.toArray/\Old w wr) (fun _ i _=>t.nodes.length-(intOf i).toNat)
   case atStart=>exact⟨_,0,Nat.zero_le _,rfl,rfl,RL.out.1,RL.out.2⟩
   case round=>
    obtain⟨x,k,hk,rfl,rfl,hb,ho⟩:=hrel;have Lx:=G (And.intro hb ho);have f6:=(FV.out _ hb).2.2.2.2.1;clear hb ho;by_cases hlt:k<t.nodes.length
    ·have b5:(k:Int)<=1000000:=by have:=HB.out.nN;omega
     have b6:(0:Int)<=(k:Int):=(by omega);have b7:(k:Int)<(t.nodes.length:Int):=(by omega);have b8:(k:Int).toNat=k:=(by omega);by_cases hx:x<=100000
     ·have e1:=jJ9 (show k<ns.length by rw[HF.out.lenN];exact hlt);generalize ns[k]'_=y at e1;obtain⟨bb,oo,hA,NP⟩:=jP (C:=ndC) (fun _=>rfl) (HF.out.rN.old Lx.out.2) e1 hlt;rw[hA]at f6;have c1:wr.cell? ⟨bb,oo+k*7+6,none⟩=some (.slice y.A y.n.kids.length y.c):=by rw[Nat.add_assoc];exact NP 6 _ rfl
      have c2:wr.cell? ⟨bb,oo+k*7+5,none⟩=some (.slice y.vA y.n.vs.length y.vc):=by rw[Nat.add_assoc];exact NP 5 _ rfl
      clear hA NP e1;go_wp2_with fail;go_quiet (fail);go_wp2_with fail;go_roundw
      case rel=>exact⟨_,k+1,by omega,rfl,by go_num,Lx.out.1.drewN _,Lx.out.2.drewN _⟩
      case measure=>simp[intOf];omega
     ·go_wp2_with fail;go_ret;exact⟨⟨_,rfl⟩,Lx.out.2⟩
    ·have b7:¬(k:Int)<(t.nodes.length:Int):=(by omega);go_wp2_with fail;go_ret;exact⟨⟨_,rfl⟩,Lx.out.2⟩
end Go.Proofs.YtmmjcbbogokmfaaGreatDoor

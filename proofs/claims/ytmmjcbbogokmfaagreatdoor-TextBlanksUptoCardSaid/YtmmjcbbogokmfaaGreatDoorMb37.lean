import Derived.Test.YtmmjcbbogokmfaaGreatDoorMb28
import Derived.LaidEqlPtr
set_option maxRecDepth 100000
set_option maxHeartbeats 25600000
namespace Go.Proofs.YtmmjcbbogokmfaaGreatDoor
open Go.Proofs.Tryz
open Go.RowKit
theorem Blk.same{w:World}{g:Nat}{t t' :TypeId}{cs cs' :Array Value}(h:Blk w g t cs)(h' :Blk w g t' cs'):cs=cs' :=by
 unfold Blk at h h';rw[h]at h';injection h' with h';injection h' with h1 _
theorem Rp.uniq{w:World}{a:OA}{l:LB}(h:Rp w a l):∀{l' :LB},Rp w a l' ->l=l' :=by
 induction h with
 |nil=>intro l' h';exact h'.nil_of.symm
 |cons g p nx l hp hb _ ih=>
  intro l' h';generalize ha:(some ⟨g,0,none⟩:OA)=a at h';cases h' with
  |nil=>cases ha
  |cons g' p' nx' l2 hp' Gs hn' =>
   injection ha with ha;injection ha with ha;subst ha;have e:=hb.same Gs;simp only[Array.mk.injEq,List.cons.injEq,Value.string.injEq,Value.pointer.injEq]at e;obtain⟨rfl,rfl,_⟩:=e;rw[ih hn']
inductive Ps (w:World):OA->Nat->LB->Prop
 |nil:Ps w none 0 []
 |at_ (g:Nat) (p:BA) (nx:OA) (l:LB) (i:Nat):i<p.size->p.size<=1000000000000->Blk w g 225 #[.string p,.pointer nx,.int .i64 ((sb p++l).length:Int)]->Rp w nx l->Ps w (some ⟨g,0,none⟩) i ((sb p).drop i++l)
theorem Rp.ps{w:World}{a:OA}{l:LB}(h:Rp w a l)(hl:l.length<=1000000000000):Ps w a 0 l:=by
 cases h with
 |nil=>exact .nil
 |cons g p nx l hp hb hn=>exact .at_ g p nx l 0 hp (by rw[jJ4,jB]at hl;omega) hb hn
theorem Ps.len{w W:World}{a:OA}{i:Nat}{l:LB}(h:Ps w a i l)(ho:Old w W):rlen (.pointer a) W-i=l.length:=by
 cases h with
 |nil=>rfl
 |at_ g p nx l i hi _ hb hn=>
  rw[((Rp.cons g p nx l (by omega) hb hn).old ho).rlen,jJ4,jJ4,jK8,jB];omega
theorem Ps.next{w:World}{p:BA}{nx:OA}{l:LB}{i g:Nat}(hi:i<p.size)(hp:p.size<=1000000000000)(hm:((sb p).drop i++l).length<=1000000000000)(hb:Blk w g 225 #[.string p,.pointer nx,.int .i64 ((sb p++l).length:Int)])(hn:Rp w nx l):
  (sb p).drop i++l=p[i]::((sb p).drop (i+1)++l)/\(i+1<p.size->Ps w (some ⟨g,0,none⟩) (i+1) ((sb p).drop (i+1)++l))/\(i+1=p.size->Ps w nx 0 ((sb p).drop (i+1)++l)):=by
 refine⟨by rw[yI p i hi,jN6],fun h=>.at_ g p nx l (i+1) h hp hb hn,fun h=> ?_⟩;rw[List.drop_of_length_le (by rw[jB];omega),jN8];exact hn.ps (by rw[jJ4]at hm;omega)
theorem Xk:∀l:LB,ltB l l=false
 |[]=>rfl
 |a::l=>by rw[ltB,jJ6 rfl];exact Xk l
theorem jGe(l:LB):ltB l []=false:=by cases l<;>rfl
theorem jEH(l:LB):ltB [] l=false:=by cases l<;>rfl
theorem XP:(prog.info? 225).map (·.size)=some 3:=by kernel_rfl
theorem jD9(w:World)(a:Addr):(binOp .neq 166 (.pointer (some a)) (.pointer (some a))).run prog w=.ok (.bool false) w:=by
 obtain⟨j,hj,_⟩:=jM4 XP;have h:∀d:Nat,(Op.equalIn (d+1) 166 (.pointer (some a)) (.pointer (some a))).run prog w=.ok true w:=fun d=>by
  simp[Op.equalIn,run_underlying underlying166,sizeOf,typeInfo,hj,run_sameAddr_same]
 simp only[binOp];simp[Op.equal,Op.maxDepth,h 9999]
theorem jBt(w:World){g g' :Nat}{ta tb:TypeId}{ca cb:Array Value}(Fa:g≠g')(ha:Blk w g ta ca)(hb:Blk w g' tb cb):(binOp .neq 166 (.pointer (some ⟨g,0,none⟩)) (.pointer (some ⟨g',0,none⟩))).run prog w=.ok (.bool true) w:=by
 obtain⟨j,hj,G6⟩:=jM4 XP;have hn:(⟨g,0,none⟩:Addr)≠⟨g',0,none⟩:=fun e=>Fa (by injection e);have h:∀d:Nat,(Op.equalIn (d+1) 166 (.pointer (some ⟨g,0,none⟩)) (.pointer (some ⟨g',0,none⟩))).run prog w=.ok false w:=fun d=>by
  simp[Op.equalIn,run_underlying underlying166,sizeOf,typeInfo,hj,show j.size≠0 by rw[G6];decide,run_sameAddr_other w hn ha hb]
 simp only[binOp];simp[Op.equal,Op.maxDepth,h 9999]
theorem ZT(w:World)(a b:OA)(x y:LB)(hx:Rp w a x)(hy:Rp w b y)(hl:x.length<=1000000000000)(Gg:y.length<=1000000000000):
  Calls prog 177 #[.pointer a,.pointer b] w fun e w' =>e=.returned (.bool (JB x y))/\Old w w' :=by
 have H1:=G (Vf w a x hx);have H2:=G (Vf w b y hy);by_cases Fa:x.length=y.length
 case neg=>
  have Hr:=G (show JB x y=decide (x.length<y.length)by unfold JB;rw[jJ5 Fa]);have b1:((x.length:Int) !=(y.length:Int))=true:=bne_iff_ne.2 (by omega);rw[Hr.out];clear hx hy;generalize x.length=n at*;generalize y.length=k at*;go_enter func177,ntmps177;go_wp2_with (first|(go_at_call_of 174 (Value.pointer a);refine H1.out.mono ?_;rintro e w1 ⟨rfl,rfl⟩)|(go_at_call_of 174 (Value.pointer b);refine H2.out.mono ?_;rintro e w1 ⟨rfl,rfl⟩))
  all_goals (go_ret;refine⟨jBT ?_,jQ0 _ _⟩;simp<;>omega)
 case pos=>
  have Hr:=G (show JB x y=ltB x y by unfold JB;rw[jJ6 Fa]);have b1:((x.length:Int) !=(y.length:Int))=false:=by rw[Fa];simp
  have H0:=G (show Ps w a 0 x/\Ps w b 0 y/\x.length=y.length from⟨hx.ps hl,hy.ps Gg,Fa⟩);have CJ:=G hl;generalize JB x y=R at*;clear hx hy hl Gg Fa;generalize Fl:x.length=n1 at*;generalize Fv:y.length=n2 at*;go_enter func177,ntmps177;go_wp2_with (first|(go_at_call_of 174 (Value.pointer a);refine H1.out.mono ?_;rintro e w1 ⟨rfl,rfl⟩)|(go_at_call_of 174 (Value.pointer b);refine H2.out.mono ?_;rintro e w1 ⟨rfl,rfl⟩));have Y6:=G Fl;have LH:=G Fv;clear H1 H2 b1 Fl Fv;go_loopw [0,1,5,6] (fun v0 v1 v5 v6 wr=>∃(a b:OA) (i j:Nat) (rx ry:LB),v0=.pointer a/\v1=.pointer b/\v5=.int .i64 i/\v6=.int .i64 j/\Ps w a i rx/\Ps w b j ry/\rx.length=ry.length/\rx.length<=1000000000000/\R=ltB rx ry/\Old w wr) (fun v0 _ v5 _ wr=>rlen v0 wr-(intOf v5).toNat)
  case atStart=>exact⟨a,b,0,0,x,y,rfl,rfl,rfl,rfl,H0.out.1,H0.out.2.1,by rw[Y6.out,LH.out];exact H0.out.2.2,by rw[Y6.out];exact CJ.out,Hr.out,jQ0 _ _⟩
  case round=>
   clear H0 Hr CJ Y6 LH;obtain⟨a,b,i,j,rx,ry,rfl,rfl,rfl,rfl,Ch,Cg,hlen,W4,hR,Ht⟩:=hrel;have Wf:=G (Ch.len Ht);have FX:=G Ht;have Fe:=G hlen;have HR:=G hR;cases Ch with
   |nil=>
    have Hf:=G (show R=false by rw[HR.out,jEH]);clear hR Ht hlen Cg W4;go_wp2;go_ret;exact⟨by rw[Hf.out];rfl,FX.out⟩
   |at_ gx px nx lx _ Lw V6 NF GC=>
    cases Cg with
    |nil=>
     have Hf:=G (show R=false by rw[HR.out,jGe]);clear hR Ht hlen W4;go_wp2;go_ret;exact⟨by rw[Hf.out];rfl,FX.out⟩
    |at_ gy py ny ly _ hiy Nm NE hny=>
     by_cases hg:gx=gy
     ·have Hf:=G (show R=false by
       subst hg;have e:=NF.same NE;simp only[Array.mk.injEq,List.cons.injEq,Value.string.injEq,Value.pointer.injEq]at e;obtain⟨rfl,rfl,_⟩:=e;have e2:=GC.uniq hny;subst e2;have h3:=Fe.out;rw[jJ4,jJ4,jK8,jK8,jB]at h3;have:i=j:=(by omega);subst this;rw[HR.out,Xk])
      subst hg;clear hR Ht hlen W4 Lw NF GC hiy NE hny;have Rh:=jD9 wr ⟨gx,0,none⟩;go_wp2;go_ret;exact⟨by rw[Hf.out];rfl,FX.out⟩
     ·have Mu:=NF.old FX.out;have Mt:=NE.old FX.out;have p0:=Mu.at_ 0 (v:=.string px) rfl;have p1:=Mu.at_ 1 (v:=.pointer nx) rfl;have q0:=Mt.at_ 0 (v:=.string py) rfl;have q1:=Mt.at_ 1 (v:=.pointer ny) rfl;have Nx:=G (Ps.next Lw V6 W4 NF GC);have Ny:=G (Ps.next hiy Nm (by rw[<-Fe.out];exact W4) NE hny);have a1:(i:Int)<(px.size:Int):=(by omega);have a2:(0:Int)<=(i:Int):=(by omega);have a3:(i:Int).toNat=i:=(by omega);have a5:(j:Int)<(py.size:Int):=(by omega);have a6:(0:Int)<=(j:Int):=(by omega);have a7:(j:Int).toNat=j:=(by omega);have Rh:=jBt wr hg Mu Mt;have a8:IntKind.i64.wrap ((i:Int)+1)=(i:Int)+1:=jQ3 _ (by omega);have a9:IntKind.i64.wrap ((j:Int)+1)=(j:Int)+1:=jQ3 _ (by omega);by_cases hc:px[i]=py[j]
      ·have c1:((px[i].toNat:Int) !=(py[j].toNat:Int))=false:=by rw[hc];simp
       have GQ:=G (show R=ltB ((sb px).drop (i+1)++lx) ((sb py).drop (j+1)++ly)by rw[HR.out,Nx.out.1,Ny.out.1,hc,ltB,jJ6 rfl]);have SQ:=G (show((sb px).drop (i+1)++lx).length=((sb py).drop (j+1)++ly).length by
        have h3:=Fe.out;rw[Nx.out.1,Ny.out.1,jK6,jK6]at h3;omega)
       have Lg:=G (show((sb px).drop (i+1)++lx).length+1<=1000000000000 by
        have h3:=W4;rw[Nx.out.1,jK6]at h3;exact h3)
       have Pp:=G (show((sb px).drop i++lx).length=((sb px).drop (i+1)++lx).length+1 by rw[Nx.out.1,jK6]);clear hR Ht hlen W4 NF GC NE hny Mu Mt hc HR;generalize (sb px).drop (i+1)++lx=rx at*;generalize (sb py).drop (j+1)++ly=ry at*;by_cases e1:i+1=px.size
       ·have d1:(((i:Int)+1)==(px.size:Int))=true:=by rw[show(i:Int)+1=(px.size:Int)by omega];simp
        have P1:=G (Nx.out.2.2 e1);by_cases e2:j+1=py.size
        ·have d2:(((j:Int)+1)==(py.size:Int))=true:=by rw[show(j:Int)+1=(py.size:Int)by omega];simp
         have P2:=G (Ny.out.2.2 e2);clear e1 e2;go_wp2;go_quiet (fail);go_wp2;exact⟨⟨nx,ny,0,0,rx,ry,rfl,rfl,rfl,rfl,P1.out,P2.out,SQ.out,by have:=Lg.out;omega,GQ.out,FX.out.drewN _⟩,Nat.lt_of_lt_of_eq (Nat.lt_of_le_of_lt (Nat.le_of_eq (P1.out.len (FX.out.drewN _))) (by rw[Pp.out];omega)) Wf.out.symm⟩
        ·have d2:(((j:Int)+1)==(py.size:Int))=false:=jM3 (by omega);have P2:=G (Ny.out.2.1 (by omega));clear e1 e2;go_wp2;go_quiet (fail);go_wp2;exact⟨⟨nx,(some ⟨gy,0,none⟩),0,(j+1),rx,ry,rfl,rfl,rfl,by go_num,P1.out,P2.out,SQ.out,by have:=Lg.out;omega,GQ.out,FX.out.drewN _⟩,Nat.lt_of_lt_of_eq (Nat.lt_of_le_of_lt (Nat.le_of_eq (P1.out.len (FX.out.drewN _))) (by rw[Pp.out];omega)) Wf.out.symm⟩
       ·have d1:(((i:Int)+1)==(px.size:Int))=false:=jM3 (by omega);have P1:=G (Nx.out.2.1 (by omega));by_cases e2:j+1=py.size
        ·have d2:(((j:Int)+1)==(py.size:Int))=true:=by rw[show(j:Int)+1=(py.size:Int)by omega];simp
         have P2:=G (Ny.out.2.2 e2);clear e1 e2;go_wp2;go_quiet (fail);go_wp2;exact⟨⟨(some ⟨gx,0,none⟩),ny,(i+1),0,rx,ry,rfl,rfl,by go_num,rfl,P1.out,P2.out,SQ.out,by have:=Lg.out;omega,GQ.out,FX.out.drewN _⟩,Nat.lt_of_lt_of_eq (Nat.lt_of_le_of_lt (Nat.le_of_eq (P1.out.len (FX.out.drewN _))) (by rw[Pp.out];omega)) Wf.out.symm⟩
        ·have d2:(((j:Int)+1)==(py.size:Int))=false:=jM3 (by omega);have P2:=G (Ny.out.2.1 (by omega));clear e1 e2;go_wp2;go_quiet (fail);go_wp2;exact⟨⟨(some ⟨gx,0,none⟩),(some ⟨gy,0,none⟩),(i+1),(j+1),rx,ry,rfl,rfl,by go_num,by go_num,P1.out,P2.out,SQ.out,by have:=Lg.out;omega,GQ.out,FX.out.drewN _⟩,Nat.lt_of_lt_of_eq (Nat.lt_of_le_of_lt (Nat.le_of_eq (P1.out.len (FX.out.drewN _))) (by rw[Pp.out];omega)) Wf.out.symm⟩
      ·have c1:((px[i].toNat:Int) !=(py[j].toNat:Int))=true:=bne_iff_ne.2 (fun e=>hc (UInt8.toNat_inj.1 (by omega)));have Hf:=G (show R=decide (px[i].toNat<py[j].toNat)by rw[HR.out,Nx.out.1,Ny.out.1,ltB,jJ5 hc]);clear hR Ht hlen W4 NF GC NE hny Mu Mt hc HR Nx Ny;go_wp2;go_quiet (fail);go_wp2
       all_goals (go_ret;refine⟨?_,FX.out.drewN _⟩;rw[Hf.out];refine jBT ?_;simp<;>omega)
theorem Xo(w:World)(a b:OA)(x y:LB)(hx:Rp w a x)(hy:Rp w b y)(hl:x.length<=1000000000000)(Gg:y.length<=1000000000000):
  Calls prog 204 #[.pointer a,.pointer b] w fun e w' =>∃p,e=.returned (.pointer p)/\Rp w' p (ZC x y)/\Old w w' :=by
 have H:=G (ZT w b a y x hy hx Gg hl);have Hy:=G (show ZC x y=if JB y x=true then y else x from rfl);have HX:=G hx;have HY:=G hy;clear hx hy hl Gg;generalize ZC x y=R at*;generalize JB y x=q at*;cases q
 ·have HR:=G (show R=x by rw[Hy.out];rfl);clear Hy;go_enter func204,ntmps204;go_wp2_with (go_at_call 177;refine H.out.mono ?_;rintro e w1 ⟨rfl,ho⟩);go_ret;rw[HR.out];exact⟨a,rfl,HX.out.old ho,ho⟩
 ·have HR:=G (show R=y by rw[Hy.out];rfl);clear Hy;go_enter func204,ntmps204;go_wp2_with (go_at_call 177;refine H.out.mono ?_;rintro e w1 ⟨rfl,ho⟩);go_ret;rw[HR.out];exact⟨b,rfl,HY.out.old ho,ho⟩
def ZV(a b:OA):Value:=.agg #[.pointer a,.pointer b]
def XC(w:World)(xy:LB×LB)(e:Ending)(w' :World):Prop:=∃a b,e=.returned (ZV a b)/\Rp w' a xy.1/\Rp w' b xy.2/\Old w w'
theorem Rp.box{X:Nat->Prop}{w w1:World}{a:OA}{l:LB}(h:Rp w a l)(ho:Kp X w w1)(hx:∀b,X b->∃cs,Blk w b 220 cs):Rp w1 a l:=by
 induction h with
 |nil=>exact .nil
 |cons g p nx l hp hb _ ih=>
  refine .cons g p nx l hp (hb.kp ho (fun he=> ?_)) ih;obtain⟨cs,hc⟩:=hx g he;exact(hb.ne_ hc (by decide)) rfl
def BxS(V:World)(g:Nat)(W:World):Prop:=Kp (fun k=>k=g) V W/\∃u v,Blk W g 220 #[u,v]
theorem BxS.old{V W W' :World}{g:Nat}(h:BxS V g W)(ho:Old W W'):BxS V g W' :=⟨h.1.old ho,by obtain⟨u,v,hb⟩:=h.2;exact⟨u,v,hb.old ho⟩⟩
theorem BxS.put{V W:World}{g:Nat}(h:BxS V g W)(x y:Value):BxS V g ((W.setCell ⟨g,0,none⟩ x).setCell ⟨g,1,none⟩ y)/\Blk ((W.setCell ⟨g,0,none⟩ x).setCell ⟨g,1,none⟩ y) g 220 #[x,y]:=by
 obtain⟨u,v,hb⟩:=h.2;have Fk:Blk ((W.setCell ⟨g,0,none⟩ x).setCell ⟨g,1,none⟩ y) g 220 #[x,y]:=(by simpa using (hb.set_ 0 x).set_ 1 y);exact⟨⟨(h.1.setCell (p:=⟨g,0,none⟩) (fun _=>rfl) x).setCell (p:=⟨g,1,none⟩) (fun _=>rfl) y,x,y,Fk⟩,Fk⟩
theorem Qv(w:World)(hg:Sg w)(a b:OA)(y:LB)(hy:Rp w b y)(Gg:y.length<=100000000000)(n:Nat)(h1:1<=n)(h2:n<58)(hw:qL n=false):
  Calls prog 173 #[ZV a b,yv n] w (XC w (ju n++y,ju n++y)):=by
 have he:kX n=false:=jK3 (by omega);have HE:=G (fun W=>Jb W n);rw[he]at HE;have HW:=G (fun W=>Zi W n);have MK:decide (n<=2\/23<=n)=false:=hw;rw[MK]at HW;have HS:=G (fun W (hO:Old w W)=>JO W (hg.old hO) n h1 h2);have Fe:(ju n).length<=20:=by
  have:∀n:Fin 58,(ju n.val).length<=20:=(by decide+kernel);exact this ⟨n,h2⟩
 generalize Lr:ju n=sp at*;have b1:((n:Int)==60)=false:=jM3 (by omega);have b2:¬(58:Int)<=(n:Int):=(by omega);unfold yv ZV at*;clear he hw MK hg Lr;go_enter func173,ntmps173;go_wp2_with (first|(go_at_call 202;refine(HE.out _).mono ?_;rintro e w1 ⟨rfl,rfl⟩)|(go_at_call 203;refine(HS.out _ (((jQ0 NoX w).alloc _).alloc _)).mono ?_;rintro e w1 ⟨rfl,rfl⟩)|(go_at_call 205;refine(HW.out _).mono ?_;rintro e w1 ⟨rfl,rfl⟩));have hV:Old w ((w.alloc (.cells #[.pointer a,.pointer b] 220)).alloc (.cells #[.pointer none,.pointer none] 220)):=((jQ0 NoX w).alloc _).alloc _;have Nv:Blk ((w.alloc (.cells #[.pointer a,.pointer b] 220)).alloc (.cells #[.pointer none,.pointer none] 220)) w.heap.size 220 #[.pointer a,.pointer b]:=(jQ2 _ _ _).alloc _;have Gl:Blk ((w.alloc (.cells #[.pointer a,.pointer b] 220)).alloc (.cells #[.pointer none,.pointer none] 220)) (w.heap.size+1) 220 #[.pointer none,.pointer none]:=by
  have:=jQ2 (w.alloc (.cells #[.pointer a,.pointer b] 220)) 220 #[.pointer none,.pointer none]
  rwa [show(w.alloc (.cells #[.pointer a,.pointer b] 220)).heap.size=w.heap.size+1 by simp]at this
 generalize ((w.alloc (.cells #[.pointer a,.pointer b] 220)).alloc (.cells #[.pointer none,.pointer none] 220))=V at*;generalize hS:w.heap.size=S at*;have Fm:=G Nv;have LK:=G Gl;have HV:=G hV;have HY:=G (fun W (hk:Kp (fun k=>k=S+1) V.drew W)=>hy.kp (n:=S) (by omega) ((hV.mono (Y:=fun k=>k=S+1) (fun _ _ f=>f.elim)).drew.trans hk (fun _ _ h=>h)) (fun b hb e=>by omega));clear Nv Gl hV HE HW HS;refine jd (S:=fun W=>BxS V.drew (S+1) W) 10 rfl (by kernel_rfl) ⟨jQ0 _ _,_,_,LK.out.drew⟩ (fun Ha=> ?_)
 (refine' jM 0 rfl rfl (by kernel_rfl) (fun _ _ _ h=>h) rfl Ha (fun w' Hj=> ?_) ?_;rotate_left;(have s0:w'.cell? ⟨S,0,none⟩=some (.pointer a):=(Fm.out.drew.kp Hj.1 (by omega)).at_ 0 rfl;have s1:w'.cell? ⟨S,1,none⟩=some (.pointer b):=(Fm.out.drew.kp Hj.1 (by omega)).at_ 1 rfl;clear Hj;go_simp<;>with_reducible rfl);simp only[Act.put,jJ1,jJ2,jJ3])
 (refine' jM 1 rfl rfl (by kernel_rfl) (fun _ _ _ h=>h) rfl Ha (fun w' Hj=> ?_) ?_;rotate_left;(have s0:w'.cell? ⟨S,0,none⟩=some (.pointer a):=(Fm.out.drew.kp Hj.1 (by omega)).at_ 0 rfl;have s1:w'.cell? ⟨S,1,none⟩=some (.pointer b):=(Fm.out.drew.kp Hj.1 (by omega)).at_ 1 rfl;clear Hj;go_simp<;>with_reducible rfl);simp only[Act.put,jJ1,jJ2,jJ3])
 (refine' jM 2 rfl rfl (by kernel_rfl) (fun _ _ _ h=>h) rfl Ha (fun w' Hj=> ?_) ?_;rotate_left;(have s0:w'.cell? ⟨S,0,none⟩=some (.pointer a):=(Fm.out.drew.kp Hj.1 (by omega)).at_ 0 rfl;have s1:w'.cell? ⟨S,1,none⟩=some (.pointer b):=(Fm.out.drew.kp Hj.1 (by omega)).at_ 1 rfl;clear Hj;go_simp<;>with_reducible rfl);simp only[Act.put,jJ1,jJ2,jJ3])
 (refine' jM 4 rfl rfl (by kernel_rfl) (fun _ _ _ h=>h) rfl Ha (fun w' Hj=> ?_) ?_;rotate_left;(have s0:w'.cell? ⟨S,0,none⟩=some (.pointer a):=(Fm.out.drew.kp Hj.1 (by omega)).at_ 0 rfl;have s1:w'.cell? ⟨S,1,none⟩=some (.pointer b):=(Fm.out.drew.kp Hj.1 (by omega)).at_ 1 rfl;clear Hj;go_simp<;>with_reducible rfl);simp only[Act.put,jJ1,jJ2,jJ3])
 (refine' jM 5 rfl rfl (by kernel_rfl) (fun _ _ _ h=>h) rfl Ha (fun w' Hj=> ?_) ?_;rotate_left;(have s0:w'.cell? ⟨S,0,none⟩=some (.pointer a):=(Fm.out.drew.kp Hj.1 (by omega)).at_ 0 rfl;have s1:w'.cell? ⟨S,1,none⟩=some (.pointer b):=(Fm.out.drew.kp Hj.1 (by omega)).at_ 1 rfl;clear Hj;go_simp<;>with_reducible rfl);simp only[Act.put,jJ1,jJ2,jJ3])
 (refine' jM 6 rfl rfl (by kernel_rfl) (fun _ _ _ h=>h) rfl Ha (fun w' Hj=> ?_) ?_;rotate_left;(have s0:w'.cell? ⟨S,0,none⟩=some (.pointer a):=(Fm.out.drew.kp Hj.1 (by omega)).at_ 0 rfl;have s1:w'.cell? ⟨S,1,none⟩=some (.pointer b):=(Fm.out.drew.kp Hj.1 (by omega)).at_ 1 rfl;clear Hj;go_simp<;>with_reducible rfl);simp only[Act.put,jJ1,jJ2,jJ3])
 refine jh 3 rfl (by kernel_rfl) (fun K hK=> ?_);go_simp;go_at_call 142;refine(je _ b y (HY.out _ Ha.1) ⟨sp.toArray⟩ (by rw[<-jB,yS];omega)).mono ?_;rintro e w1 ⟨p,rfl,pr,po⟩;go_simp;refine hK.out _ _ (Ha.old po) (fun Ha=> ?_);clear hK K;refine jh 7 rfl (by kernel_rfl) (fun K hK=> ?_);go_simp;go_at_call 142;refine(je _ b y (HY.out _ Ha.1) ⟨sp.toArray⟩ (by rw[<-jB,yS];omega)).mono ?_;rintro e w2 ⟨q,rfl,qr,qo⟩;go_simp;refine hK.out _ _ (Ha.old qo) (fun Ha=> ?_);clear hK K
 (refine' jM 8 rfl rfl (by kernel_rfl) (fun _ _ _ h=>h) rfl Ha (fun w' Hj=> ?_) ?_;rotate_left;(have s0:w'.cell? ⟨S,0,none⟩=some (.pointer a):=(Fm.out.drew.kp Hj.1 (by omega)).at_ 0 rfl;have s1:w'.cell? ⟨S,1,none⟩=some (.pointer b):=(Fm.out.drew.kp Hj.1 (by omega)).at_ 1 rfl;clear Hj;go_simp<;>with_reducible rfl);simp only[Act.put,jJ1,jJ2,jJ3])
 have HR:=G (show Rp w2 p (sp++y)/\Rp w2 q (sp++y)from⟨pr.old qo,qr⟩);clear pr po qr qo;obtain⟨u0,v0,GL⟩:=Ha.2;have c0:w2.cell? ⟨S+1,0,none⟩=some u0:=GL.at_ 0 rfl;have c1:w2.cell? ⟨S+1,1,none⟩=some v0:=GL.at_ 1 rfl;have z0:=GL.frozen 0;have z1:=GL.frozen 1;have Gb:=Ha.put (.pointer p) (.pointer q);refine jh 9 rfl (by kernel_rfl) (fun K hK=> ?_);go_simp;refine hK.out _ _ Gb.1 (fun GF=> ?_);refine wpAnyH_done (by kernel_rfl) ?_ _;clear hK K c0 c1 z0 z1;have HF:=G Gb.2;have MD:=G (fun(r:OA) (h:Rp w2 r (sp++y))=>h.box (X:=fun k=>k=S+1) (((jQ0 (fun k=>k=S+1) w2).setCell (p:=⟨S+1,0,none⟩) (fun _=>rfl) (.pointer p)).setCell (p:=⟨S+1,1,none⟩) (fun _=>rfl) (.pointer q)) (fun b e=>by subst e;obtain⟨u,v,hb⟩:=Ha.2;exact⟨_,hb⟩));have HK:=G Gb.1.1;have Au:=G Ha;clear Gb GF Ha;generalize (w2.setCell ⟨S+1,0,none⟩ (.pointer p)).setCell ⟨S+1,1,none⟩ (.pointer q)=W3 at*;go_wp2;refine zp (g:=S+1) (cs:= #[.pointer p,.pointer q]) rfl rfl HF.out underlying220 rfl (by kernel_rfl) rfl ?_;exact⟨p,q,rfl,MD.out _ HR.out.1,MD.out _ HR.out.2,(HV.out.drew).trans HK.out (fun b hb e=>by have e' :b=S+1:=e;omega)⟩
theorem ZR(w:World)(hg:Sg w)(a b:OA)(x:LB)(hx:Rp w a x)(hl:x.length<=100000000000)(n k:Nat)(h1:1<=k)(h2:k<58)(hw:qL k=true)(hn:n=k\/n=60/\k=34):
  Calls prog 173 #[ZV a b,yv n] w (XC w (9::(ju k++x),ju k++x)):=by
 have he:kX n=false:=jK3 (by omega);have HE:=G (fun W=>Jb W n);rw[he]at HE;have HW:=G (fun W=>Zi W k);have MK:decide (k<=2\/23<=k)=true:=hw;rw[MK]at HW;have HS:=G (fun W (hO:Old w W)=>JO W (hg.old hO) k h1 h2);have Fe:(ju k).length<=20:=by
  have:∀n:Fin 58,(ju n.val).length<=20:=(by decide+kernel);exact this ⟨k,h2⟩
 generalize Lr:ju k=sp at*;obtain⟨st,Hm⟩:∃st:BA,st=⟨sp.toArray⟩:=⟨_,rfl⟩;have Sn:sb st=sp:=by rw[Hm];rfl
 rw[<-Hm]at HS;have G6:st.size<=20:=by rw[<-jB,Sn];exact Fe
 have RJ:=fun w=>run_string_add_sum (P:=prog) w ⟨#[9]⟩ st (by show 1+st.size<=_;omega);have Pu:=G (show sb (⟨#[9]⟩++st)=9::sp by rw[KV,Sn];rfl);generalize RD:(⟨#[9]⟩++st:BA)=ct at*;have CG:=G Sn;have CM:=G (show ct.size<=21 by rw[<-jB,Pu.out,jK6];omega);clear he hw MK hg Lr Hm Sn;unfold ZV;rcases hn with rfl|⟨rfl,rfl⟩
 ·have b1:((n:Int)==60)=false:=jM3 (by omega);have b2:¬(58:Int)<=(n:Int):=(by omega);unfold yv at*;go_enter func173,ntmps173;go_wp2_with (first|(go_at_call 202;refine(HE.out _).mono ?_;rintro e w1 ⟨rfl,rfl⟩)|(go_at_call 203;refine(HS.out _ (((jQ0 NoX w).alloc _).alloc _)).mono ?_;rintro e w1 ⟨rfl,rfl⟩)|(go_at_call 205;refine(HW.out _).mono ?_;rintro e w1 ⟨rfl,rfl⟩));have hV:Old w ((w.alloc (.cells #[.pointer a,.pointer b] 220)).alloc (.cells #[.pointer none,.pointer none] 220)):=((jQ0 NoX w).alloc _).alloc _;have Nv:Blk ((w.alloc (.cells #[.pointer a,.pointer b] 220)).alloc (.cells #[.pointer none,.pointer none] 220)) w.heap.size 220 #[.pointer a,.pointer b]:=(jQ2 _ _ _).alloc _;have Gl:Blk ((w.alloc (.cells #[.pointer a,.pointer b] 220)).alloc (.cells #[.pointer none,.pointer none] 220)) (w.heap.size+1) 220 #[.pointer none,.pointer none]:=by
   have:=jQ2 (w.alloc (.cells #[.pointer a,.pointer b] 220)) 220 #[.pointer none,.pointer none]
   rwa [show(w.alloc (.cells #[.pointer a,.pointer b] 220)).heap.size=w.heap.size+1 by simp]at this
  generalize ((w.alloc (.cells #[.pointer a,.pointer b] 220)).alloc (.cells #[.pointer none,.pointer none] 220))=V at*;generalize hS:w.heap.size=S at*;have Fm:=G Nv;have LK:=G Gl;have HV:=G hV;have HX:=G (fun W (hk:Kp (fun k=>k=S+1) V.drew W)=>hx.kp (n:=S) (by omega) ((hV.mono (Y:=fun k=>k=S+1) (fun _ _ f=>f.elim)).drew.trans hk (fun _ _ h=>h)) (fun b hb e=>by omega));clear Nv Gl hV HE HW HS;refine jd (S:=fun W=>BxS V.drew (S+1) W) 11 rfl (by kernel_rfl) ⟨jQ0 _ _,_,_,LK.out.drew⟩ (fun Ha=> ?_)
  (refine' jM 0 rfl rfl (by kernel_rfl) (fun _ _ _ h=>h) rfl Ha (fun w' Hj=> ?_) ?_;rotate_left;(have s0:w'.cell? ⟨S,0,none⟩=some (.pointer a):=(Fm.out.drew.kp Hj.1 (by omega)).at_ 0 rfl;have s1:w'.cell? ⟨S,1,none⟩=some (.pointer b):=(Fm.out.drew.kp Hj.1 (by omega)).at_ 1 rfl;clear Hj;go_simp<;>with_reducible rfl);simp only[Act.put,jJ1,jJ2,jJ3])
  (refine' jM 1 rfl rfl (by kernel_rfl) (fun _ _ _ h=>h) rfl Ha (fun w' Hj=> ?_) ?_;rotate_left;(have s0:w'.cell? ⟨S,0,none⟩=some (.pointer a):=(Fm.out.drew.kp Hj.1 (by omega)).at_ 0 rfl;have s1:w'.cell? ⟨S,1,none⟩=some (.pointer b):=(Fm.out.drew.kp Hj.1 (by omega)).at_ 1 rfl;clear Hj;go_simp<;>with_reducible rfl);simp only[Act.put,jJ1,jJ2,jJ3])
  (refine' jM 2 rfl rfl (by kernel_rfl) (fun _ _ _ h=>h) rfl Ha (fun w' Hj=> ?_) ?_;rotate_left;(have s0:w'.cell? ⟨S,0,none⟩=some (.pointer a):=(Fm.out.drew.kp Hj.1 (by omega)).at_ 0 rfl;have s1:w'.cell? ⟨S,1,none⟩=some (.pointer b):=(Fm.out.drew.kp Hj.1 (by omega)).at_ 1 rfl;clear Hj;go_simp<;>with_reducible rfl);simp only[Act.put,jJ1,jJ2,jJ3])
  (refine' jM 3 rfl rfl (by kernel_rfl) (fun _ _ _ h=>h) rfl Ha (fun w' Hj=> ?_) ?_;rotate_left;(have s0:w'.cell? ⟨S,0,none⟩=some (.pointer a):=(Fm.out.drew.kp Hj.1 (by omega)).at_ 0 rfl;have s1:w'.cell? ⟨S,1,none⟩=some (.pointer b):=(Fm.out.drew.kp Hj.1 (by omega)).at_ 1 rfl;clear Hj;go_simp<;>with_reducible rfl);simp only[Act.put,jJ1,jJ2,jJ3])
  (refine' jM 5 rfl rfl (by kernel_rfl) (fun _ _ _ h=>h) rfl Ha (fun w' Hj=> ?_) ?_;rotate_left;(have s0:w'.cell? ⟨S,0,none⟩=some (.pointer a):=(Fm.out.drew.kp Hj.1 (by omega)).at_ 0 rfl;have s1:w'.cell? ⟨S,1,none⟩=some (.pointer b):=(Fm.out.drew.kp Hj.1 (by omega)).at_ 1 rfl;clear Hj;go_simp<;>with_reducible rfl);simp only[Act.put,jJ1,jJ2,jJ3])
  (refine' jM 6 rfl rfl (by kernel_rfl) (fun _ _ _ h=>h) rfl Ha (fun w' Hj=> ?_) ?_;rotate_left;(have s0:w'.cell? ⟨S,0,none⟩=some (.pointer a):=(Fm.out.drew.kp Hj.1 (by omega)).at_ 0 rfl;have s1:w'.cell? ⟨S,1,none⟩=some (.pointer b):=(Fm.out.drew.kp Hj.1 (by omega)).at_ 1 rfl;clear Hj;go_simp<;>with_reducible rfl);simp only[Act.put,jJ1,jJ2,jJ3])
  (refine' jM 7 rfl rfl (by kernel_rfl) (fun _ _ _ h=>h) rfl Ha (fun w' Hj=> ?_) ?_;rotate_left;(have s0:w'.cell? ⟨S,0,none⟩=some (.pointer a):=(Fm.out.drew.kp Hj.1 (by omega)).at_ 0 rfl;have s1:w'.cell? ⟨S,1,none⟩=some (.pointer b):=(Fm.out.drew.kp Hj.1 (by omega)).at_ 1 rfl;clear Hj;go_simp<;>with_reducible rfl);simp only[Act.put,jJ1,jJ2,jJ3])
  refine jh 4 rfl (by kernel_rfl) (fun K hK=> ?_);go_simp;go_at_call 142;refine(je _ a x (HX.out _ Ha.1) ct (by have:=CM.out;omega)).mono ?_;rintro e w1 ⟨p,rfl,pr,po⟩;go_simp;refine hK.out _ _ (Ha.old po) (fun Ha=> ?_);clear hK K;refine jh 8 rfl (by kernel_rfl) (fun K hK=> ?_);go_simp;go_at_call 142;refine(je _ a x (HX.out _ Ha.1) st (by omega)).mono ?_;rintro e w2 ⟨q,rfl,qr,qo⟩;go_simp;refine hK.out _ _ (Ha.old qo) (fun Ha=> ?_);clear hK K
  (refine' jM 9 rfl rfl (by kernel_rfl) (fun _ _ _ h=>h) rfl Ha (fun w' Hj=> ?_) ?_;rotate_left;(have s0:w'.cell? ⟨S,0,none⟩=some (.pointer a):=(Fm.out.drew.kp Hj.1 (by omega)).at_ 0 rfl;have s1:w'.cell? ⟨S,1,none⟩=some (.pointer b):=(Fm.out.drew.kp Hj.1 (by omega)).at_ 1 rfl;clear Hj;go_simp<;>with_reducible rfl);simp only[Act.put,jJ1,jJ2,jJ3])
  have HP:Rp w2 p (9::(sp++x)):=by have:=pr.old qo;rw[Pu.out]at this;exact this
  have HQ:Rp w2 q (sp++x):=by have:=qr;rw[CG.out]at this;exact this
  clear pr po qr qo;have HR:=G (show Rp w2 p (9::(sp++x))/\Rp w2 q (sp++x)from⟨HP,HQ⟩);clear HP HQ;obtain⟨u0,v0,GL⟩:=Ha.2;have c0:w2.cell? ⟨S+1,0,none⟩=some u0:=GL.at_ 0 rfl;have c1:w2.cell? ⟨S+1,1,none⟩=some v0:=GL.at_ 1 rfl;have z0:=GL.frozen 0;have z1:=GL.frozen 1;have Gb:=Ha.put (.pointer p) (.pointer q);refine jh 10 rfl (by kernel_rfl) (fun K hK=> ?_);go_simp;refine hK.out _ _ Gb.1 (fun GF=> ?_);refine wpAnyH_done (by kernel_rfl) ?_ _;clear hK K c0 c1 z0 z1;have HF:=G Gb.2;have MD:=G (fun(r:OA) (l:LB) (h:Rp w2 r l)=>h.box (X:=fun k=>k=S+1) (((jQ0 (fun k=>k=S+1) w2).setCell (p:=⟨S+1,0,none⟩) (fun _=>rfl) (.pointer p)).setCell (p:=⟨S+1,1,none⟩) (fun _=>rfl) (.pointer q)) (fun b e=>by subst e;obtain⟨u,v,hb⟩:=Ha.2;exact⟨_,hb⟩));have HK:=G Gb.1.1;clear Gb GF Ha;generalize (w2.setCell ⟨S+1,0,none⟩ (.pointer p)).setCell ⟨S+1,1,none⟩ (.pointer q)=W3 at*;go_wp2;refine zp (g:=S+1) (cs:= #[.pointer p,.pointer q]) rfl rfl HF.out underlying220 rfl (by kernel_rfl) rfl ?_;exact⟨p,q,rfl,MD.out _ _ HR.out.1,MD.out _ _ HR.out.2,(HV.out.drew).trans HK.out (fun b hb e=>by have e' :b=S+1:=e;omega)⟩
 ·unfold yv at*;go_enter func173,ntmps173;go_wp2_with (first|(go_at_call 202;refine(HE.out _).mono ?_;rintro e w1 ⟨rfl,rfl⟩)|(go_at_call 203;refine(HS.out _ (((jQ0 NoX w).alloc _).alloc _)).mono ?_;rintro e w1 ⟨rfl,rfl⟩)|(go_at_call 205;refine(HW.out _).mono ?_;rintro e w1 ⟨rfl,rfl⟩));have hV:Old w ((w.alloc (.cells #[.pointer a,.pointer b] 220)).alloc (.cells #[.pointer none,.pointer none] 220)):=((jQ0 NoX w).alloc _).alloc _;have Nv:Blk ((w.alloc (.cells #[.pointer a,.pointer b] 220)).alloc (.cells #[.pointer none,.pointer none] 220)) w.heap.size 220 #[.pointer a,.pointer b]:=(jQ2 _ _ _).alloc _;have Gl:Blk ((w.alloc (.cells #[.pointer a,.pointer b] 220)).alloc (.cells #[.pointer none,.pointer none] 220)) (w.heap.size+1) 220 #[.pointer none,.pointer none]:=by
   have:=jQ2 (w.alloc (.cells #[.pointer a,.pointer b] 220)) 220 #[.pointer none,.pointer none]
   rwa [show(w.alloc (.cells #[.pointer a,.pointer b] 220)).heap.size=w.heap.size+1 by simp]at this
  generalize ((w.alloc (.cells #[.pointer a,.pointer b] 220)).alloc (.cells #[.pointer none,.pointer none] 220))=V at*;generalize hS:w.heap.size=S at*;have Fm:=G Nv;have LK:=G Gl;have HV:=G hV;have HX:=G (fun W (hk:Kp (fun k=>k=S+1) V.drew W)=>hx.kp (n:=S) (by omega) ((hV.mono (Y:=fun k=>k=S+1) (fun _ _ f=>f.elim)).drew.trans hk (fun _ _ h=>h)) (fun b hb e=>by omega));clear Nv Gl hV HE HW HS;refine jd (S:=fun W=>BxS V.drew (S+1) W) 11 rfl (by kernel_rfl) ⟨jQ0 _ _,_,_,LK.out.drew⟩ (fun Ha=> ?_)
  (refine' jM 0 rfl rfl (by kernel_rfl) (fun _ _ _ h=>h) rfl Ha (fun w' Hj=> ?_) ?_;rotate_left;(have s0:w'.cell? ⟨S,0,none⟩=some (.pointer a):=(Fm.out.drew.kp Hj.1 (by omega)).at_ 0 rfl;have s1:w'.cell? ⟨S,1,none⟩=some (.pointer b):=(Fm.out.drew.kp Hj.1 (by omega)).at_ 1 rfl;clear Hj;go_simp<;>with_reducible rfl);simp only[Act.put,jJ1,jJ2,jJ3])
  (refine' jM 1 rfl rfl (by kernel_rfl) (fun _ _ _ h=>h) rfl Ha (fun w' Hj=> ?_) ?_;rotate_left;(have s0:w'.cell? ⟨S,0,none⟩=some (.pointer a):=(Fm.out.drew.kp Hj.1 (by omega)).at_ 0 rfl;have s1:w'.cell? ⟨S,1,none⟩=some (.pointer b):=(Fm.out.drew.kp Hj.1 (by omega)).at_ 1 rfl;clear Hj;go_simp<;>with_reducible rfl);simp only[Act.put,jJ1,jJ2,jJ3])
  (refine' jM 2 rfl rfl (by kernel_rfl) (fun _ _ _ h=>h) rfl Ha (fun w' Hj=> ?_) ?_;rotate_left;(have s0:w'.cell? ⟨S,0,none⟩=some (.pointer a):=(Fm.out.drew.kp Hj.1 (by omega)).at_ 0 rfl;have s1:w'.cell? ⟨S,1,none⟩=some (.pointer b):=(Fm.out.drew.kp Hj.1 (by omega)).at_ 1 rfl;clear Hj;go_simp<;>with_reducible rfl);simp only[Act.put,jJ1,jJ2,jJ3])
  (refine' jM 3 rfl rfl (by kernel_rfl) (fun _ _ _ h=>h) rfl Ha (fun w' Hj=> ?_) ?_;rotate_left;(have s0:w'.cell? ⟨S,0,none⟩=some (.pointer a):=(Fm.out.drew.kp Hj.1 (by omega)).at_ 0 rfl;have s1:w'.cell? ⟨S,1,none⟩=some (.pointer b):=(Fm.out.drew.kp Hj.1 (by omega)).at_ 1 rfl;clear Hj;go_simp<;>with_reducible rfl);simp only[Act.put,jJ1,jJ2,jJ3])
  (refine' jM 5 rfl rfl (by kernel_rfl) (fun _ _ _ h=>h) rfl Ha (fun w' Hj=> ?_) ?_;rotate_left;(have s0:w'.cell? ⟨S,0,none⟩=some (.pointer a):=(Fm.out.drew.kp Hj.1 (by omega)).at_ 0 rfl;have s1:w'.cell? ⟨S,1,none⟩=some (.pointer b):=(Fm.out.drew.kp Hj.1 (by omega)).at_ 1 rfl;clear Hj;go_simp<;>with_reducible rfl);simp only[Act.put,jJ1,jJ2,jJ3])
  (refine' jM 6 rfl rfl (by kernel_rfl) (fun _ _ _ h=>h) rfl Ha (fun w' Hj=> ?_) ?_;rotate_left;(have s0:w'.cell? ⟨S,0,none⟩=some (.pointer a):=(Fm.out.drew.kp Hj.1 (by omega)).at_ 0 rfl;have s1:w'.cell? ⟨S,1,none⟩=some (.pointer b):=(Fm.out.drew.kp Hj.1 (by omega)).at_ 1 rfl;clear Hj;go_simp<;>with_reducible rfl);simp only[Act.put,jJ1,jJ2,jJ3])
  (refine' jM 7 rfl rfl (by kernel_rfl) (fun _ _ _ h=>h) rfl Ha (fun w' Hj=> ?_) ?_;rotate_left;(have s0:w'.cell? ⟨S,0,none⟩=some (.pointer a):=(Fm.out.drew.kp Hj.1 (by omega)).at_ 0 rfl;have s1:w'.cell? ⟨S,1,none⟩=some (.pointer b):=(Fm.out.drew.kp Hj.1 (by omega)).at_ 1 rfl;clear Hj;go_simp<;>with_reducible rfl);simp only[Act.put,jJ1,jJ2,jJ3])
  refine jh 4 rfl (by kernel_rfl) (fun K hK=> ?_);go_simp;go_at_call 142;refine(je _ a x (HX.out _ Ha.1) ct (by have:=CM.out;omega)).mono ?_;rintro e w1 ⟨p,rfl,pr,po⟩;go_simp;refine hK.out _ _ (Ha.old po) (fun Ha=> ?_);clear hK K;refine jh 8 rfl (by kernel_rfl) (fun K hK=> ?_);go_simp;go_at_call 142;refine(je _ a x (HX.out _ Ha.1) st (by omega)).mono ?_;rintro e w2 ⟨q,rfl,qr,qo⟩;go_simp;refine hK.out _ _ (Ha.old qo) (fun Ha=> ?_);clear hK K
  (refine' jM 9 rfl rfl (by kernel_rfl) (fun _ _ _ h=>h) rfl Ha (fun w' Hj=> ?_) ?_;rotate_left;(have s0:w'.cell? ⟨S,0,none⟩=some (.pointer a):=(Fm.out.drew.kp Hj.1 (by omega)).at_ 0 rfl;have s1:w'.cell? ⟨S,1,none⟩=some (.pointer b):=(Fm.out.drew.kp Hj.1 (by omega)).at_ 1 rfl;clear Hj;go_simp<;>with_reducible rfl);simp only[Act.put,jJ1,jJ2,jJ3])
  have HP:Rp w2 p (9::(sp++x)):=by have:=pr.old qo;rw[Pu.out]at this;exact this
  have HQ:Rp w2 q (sp++x):=by have:=qr;rw[CG.out]at this;exact this
  clear pr po qr qo;have HR:=G (show Rp w2 p (9::(sp++x))/\Rp w2 q (sp++x)from⟨HP,HQ⟩);clear HP HQ;obtain⟨u0,v0,GL⟩:=Ha.2;have c0:w2.cell? ⟨S+1,0,none⟩=some u0:=GL.at_ 0 rfl;have c1:w2.cell? ⟨S+1,1,none⟩=some v0:=GL.at_ 1 rfl;have z0:=GL.frozen 0;have z1:=GL.frozen 1;have Gb:=Ha.put (.pointer p) (.pointer q);refine jh 10 rfl (by kernel_rfl) (fun K hK=> ?_);go_simp;refine hK.out _ _ Gb.1 (fun GF=> ?_);refine wpAnyH_done (by kernel_rfl) ?_ _;clear hK K c0 c1 z0 z1;have HF:=G Gb.2;have MD:=G (fun(r:OA) (l:LB) (h:Rp w2 r l)=>h.box (X:=fun k=>k=S+1) (((jQ0 (fun k=>k=S+1) w2).setCell (p:=⟨S+1,0,none⟩) (fun _=>rfl) (.pointer p)).setCell (p:=⟨S+1,1,none⟩) (fun _=>rfl) (.pointer q)) (fun b e=>by subst e;obtain⟨u,v,hb⟩:=Ha.2;exact⟨_,hb⟩));have HK:=G Gb.1.1;clear Gb GF Ha;generalize (w2.setCell ⟨S+1,0,none⟩ (.pointer p)).setCell ⟨S+1,1,none⟩ (.pointer q)=W3 at*;go_wp2;refine zp (g:=S+1) (cs:= #[.pointer p,.pointer q]) rfl rfl HF.out underlying220 rfl (by kernel_rfl) rfl ?_;exact⟨p,q,rfl,MD.out _ _ HR.out.1,MD.out _ _ HR.out.2,(HV.out.drew).trans HK.out (fun b hb e=>by have e' :b=S+1:=e;omega)⟩
end Go.Proofs.YtmmjcbbogokmfaaGreatDoor

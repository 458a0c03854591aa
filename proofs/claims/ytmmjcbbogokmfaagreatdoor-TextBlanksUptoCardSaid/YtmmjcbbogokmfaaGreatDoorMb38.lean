import Derived.Test.YtmmjcbbogokmfaaGreatDoorMb37
set_option maxRecDepth 100000
set_option maxHeartbeats 25600000
namespace Go.Proofs.YtmmjcbbogokmfaaGreatDoor
open Go.Proofs.Tryz
open Go.RowKit
theorem Qw(w:World)(hg:Sg w)(a b:OA)(x y:LB)(hx:Rp w a x)(hy:Rp w b y)(hl:x.length<=100000000000)(Gg:y.length<=100000000000)(n:Nat)(hJ:58<=n)(MZ:n≠60)(he:kX n=false):
  Calls prog 173 #[ZV a b,yv n] w (XC w (ZC (9::48::x) (34::34::y),ZC (48::x) (34::34::y))):=by
 have HE:=G (fun W=>Jb W n);rw[he]at HE;have HS:=G (fun W (hO:Old w W)=>JO W (hg.old hO) 3 (by decide) (by decide));have b1:((n:Int)==60)=false:=jM3 (by omega);have b2:(58:Int)<=(n:Int):=(by omega);unfold ZV yv at*;clear he hg hJ MZ;go_enter func173,ntmps173;go_wp2_with (go_at_call 202;refine(HE.out _).mono ?_;rintro e w1 ⟨rfl,rfl⟩);have hV:Old w ((w.alloc (.cells #[.pointer a,.pointer b] 220)).alloc (.cells #[.pointer none,.pointer none] 220)):=((jQ0 NoX w).alloc _).alloc _;have Nv:Blk ((w.alloc (.cells #[.pointer a,.pointer b] 220)).alloc (.cells #[.pointer none,.pointer none] 220)) w.heap.size 220 #[.pointer a,.pointer b]:=(jQ2 _ _ _).alloc _;have Gl:Blk ((w.alloc (.cells #[.pointer a,.pointer b] 220)).alloc (.cells #[.pointer none,.pointer none] 220)) (w.heap.size+1) 220 #[.pointer none,.pointer none]:=by
  have:=jQ2 (w.alloc (.cells #[.pointer a,.pointer b] 220)) 220 #[.pointer none,.pointer none]
  rwa [show(w.alloc (.cells #[.pointer a,.pointer b] 220)).heap.size=w.heap.size+1 by simp]at this
 generalize ((w.alloc (.cells #[.pointer a,.pointer b] 220)).alloc (.cells #[.pointer none,.pointer none] 220))=V at*;generalize hS:w.heap.size=S at*;have Fm:=G (Blk.drew Nv);have HV:=G hV;have HY:=G (fun W (hk:Old V.drew W)=>hy.old (hV.drew.old hk));have HS:=G (fun W (hk:Old V.drew W)=>HS.out W (hV.drew.old hk));have LK:=G (Blk.drew Gl);clear Nv Gl HE;refine jd (S:=fun W=>BxS V.drew (S+1) W/\Old V.drew W) 5 rfl (by kernel_rfl) ⟨⟨jQ0 _ _,_,_,LK.out⟩,jQ0 _ _⟩ (fun Ha=> ?_)
 (refine' jM 0 rfl rfl (by kernel_rfl) (fun _ _ _ h=>h) rfl Ha (fun w' Hj=> ?_) ?_;rotate_left;(have s0:w'.cell? ⟨S,0,none⟩=some (.pointer a):=(Fm.out.kp Hj.1.1 (by omega)).at_ 0 rfl;have s1:w'.cell? ⟨S,1,none⟩=some (.pointer b):=(Fm.out.kp Hj.1.1 (by omega)).at_ 1 rfl;clear Hj;go_simp<;>with_reducible rfl);simp only[Act.put,jJ1,jJ2,jJ3])
 (refine' jM 1 rfl rfl (by kernel_rfl) (fun _ _ _ h=>h) rfl Ha (fun w' Hj=> ?_) ?_;rotate_left;(have s0:w'.cell? ⟨S,0,none⟩=some (.pointer a):=(Fm.out.kp Hj.1.1 (by omega)).at_ 0 rfl;have s1:w'.cell? ⟨S,1,none⟩=some (.pointer b):=(Fm.out.kp Hj.1.1 (by omega)).at_ 1 rfl;clear Hj;go_simp<;>with_reducible rfl);simp only[Act.put,jJ1,jJ2,jJ3])
 refine jh 2 rfl (by kernel_rfl) (fun K hK=> ?_);go_simp;go_at_call 203;refine(HS.out _ Ha.2).mono ?_;rintro e w1 ⟨rfl,rfl⟩;go_simp;refine hK.out _ _ Ha (fun Ha=> ?_);clear hK K;refine jh 3 rfl (by kernel_rfl) (fun K hK=> ?_);go_simp;go_at_call 142;refine(je _ b y (HY.out _ Ha.2) ⟨(ju 3).toArray⟩ (by rw[<-jB,yS];show 2+y.length<=_;omega)).mono ?_;rintro e w2 ⟨t,rfl,tr,tho⟩;go_simp;refine hK.out _ _ ⟨Ha.1.old tho,Ha.2.old tho⟩ (fun Ha=> ?_);clear hK K
 (refine' jM 4 rfl rfl (by kernel_rfl) (fun _ _ _ h=>h) rfl Ha (fun w' Hj=> ?_) ?_;rotate_left;(have s0:w'.cell? ⟨S,0,none⟩=some (.pointer a):=(Fm.out.kp Hj.1.1 (by omega)).at_ 0 rfl;have s1:w'.cell? ⟨S,1,none⟩=some (.pointer b):=(Fm.out.kp Hj.1.1 (by omega)).at_ 1 rfl;clear Hj;go_simp<;>with_reducible rfl);simp only[Act.put,jJ1,jJ2,jJ3])
 refine wpAnyH_done (by kernel_rfl) ?_ _;have hT:Rp w2 t (34::34::y):=tr;have Gi:=G (hV.drew.old Ha.2);have WK:=hx.old Gi.out;obtain⟨u0,v0,GL⟩:=Ha.1.2;have RI:=Fm.out.old Ha.2;clear Fm LK HS HY HV hV Ha tr tho hx hy;have Fm:=G (Blk.drew RI);have HX:=G (fun W (hk:Kp (fun k=>k=S+1) w2.drew W)=>WK.box ((jQ0 (fun k=>k=S+1) w2).drew.trans hk (fun _ _ h=>h)) (fun b e=>⟨#[u0,v0],by have e1:b=S+1:=e;rw[e1];exact GL⟩));have HT:=G (fun W (hk:Kp (fun k=>k=S+1) w2.drew W)=>hT.box ((jQ0 (fun k=>k=S+1) w2).drew.trans hk (fun _ _ h=>h)) (fun b e=>⟨#[u0,v0],by have e1:b=S+1:=e;rw[e1];exact GL⟩));have GN:=G (Gi.out.drew);have TP:=Blk.drew GL;clear RI WK hT GL;go_wp2;refine jd (S:=fun W=>BxS w2.drew (S+1) W) 12 rfl (by kernel_rfl) ⟨jQ0 _ _,_,_,TP⟩ (fun Ha=> ?_)
 (refine' jM 0 rfl rfl (by kernel_rfl) (fun _ _ _ h=>h) rfl Ha (fun w' Hj=> ?_) ?_;rotate_left;(have s0:w'.cell? ⟨S,0,none⟩=some (.pointer a):=(Fm.out.kp Hj.1 (by omega)).at_ 0 rfl;have s1:w'.cell? ⟨S,1,none⟩=some (.pointer b):=(Fm.out.kp Hj.1 (by omega)).at_ 1 rfl;clear Hj;go_simp<;>with_reducible rfl);simp only[Act.put,jJ1,jJ2,jJ3])
 (refine' jM 1 rfl rfl (by kernel_rfl) (fun _ _ _ h=>h) rfl Ha (fun w' Hj=> ?_) ?_;rotate_left;(have s0:w'.cell? ⟨S,0,none⟩=some (.pointer a):=(Fm.out.kp Hj.1 (by omega)).at_ 0 rfl;have s1:w'.cell? ⟨S,1,none⟩=some (.pointer b):=(Fm.out.kp Hj.1 (by omega)).at_ 1 rfl;clear Hj;go_simp<;>with_reducible rfl);simp only[Act.put,jJ1,jJ2,jJ3])
 (refine' jM 3 rfl rfl (by kernel_rfl) (fun _ _ _ h=>h) rfl Ha (fun w' Hj=> ?_) ?_;rotate_left;(have s0:w'.cell? ⟨S,0,none⟩=some (.pointer a):=(Fm.out.kp Hj.1 (by omega)).at_ 0 rfl;have s1:w'.cell? ⟨S,1,none⟩=some (.pointer b):=(Fm.out.kp Hj.1 (by omega)).at_ 1 rfl;clear Hj;go_simp<;>with_reducible rfl);simp only[Act.put,jJ1,jJ2,jJ3])
 (refine' jM 5 rfl rfl (by kernel_rfl) (fun _ _ _ h=>h) rfl Ha (fun w' Hj=> ?_) ?_;rotate_left;(have s0:w'.cell? ⟨S,0,none⟩=some (.pointer a):=(Fm.out.kp Hj.1 (by omega)).at_ 0 rfl;have s1:w'.cell? ⟨S,1,none⟩=some (.pointer b):=(Fm.out.kp Hj.1 (by omega)).at_ 1 rfl;clear Hj;go_simp<;>with_reducible rfl);simp only[Act.put,jJ1,jJ2,jJ3])
 (refine' jM 6 rfl rfl (by kernel_rfl) (fun _ _ _ h=>h) rfl Ha (fun w' Hj=> ?_) ?_;rotate_left;(have s0:w'.cell? ⟨S,0,none⟩=some (.pointer a):=(Fm.out.kp Hj.1 (by omega)).at_ 0 rfl;have s1:w'.cell? ⟨S,1,none⟩=some (.pointer b):=(Fm.out.kp Hj.1 (by omega)).at_ 1 rfl;clear Hj;go_simp<;>with_reducible rfl);simp only[Act.put,jJ1,jJ2,jJ3])
 (refine' jM 8 rfl rfl (by kernel_rfl) (fun _ _ _ h=>h) rfl Ha (fun w' Hj=> ?_) ?_;rotate_left;(have s0:w'.cell? ⟨S,0,none⟩=some (.pointer a):=(Fm.out.kp Hj.1 (by omega)).at_ 0 rfl;have s1:w'.cell? ⟨S,1,none⟩=some (.pointer b):=(Fm.out.kp Hj.1 (by omega)).at_ 1 rfl;clear Hj;go_simp<;>with_reducible rfl);simp only[Act.put,jJ1,jJ2,jJ3])
 refine jh 2 rfl (by kernel_rfl) (fun K hK=> ?_);go_simp;go_at_call 142;refine(je _ a x (HX.out _ Ha.1) ⟨#[9,48]⟩ (by show 2+x.length<=_;omega)).mono ?_;rintro e w3 ⟨p,rfl,pr,po⟩;go_simp;refine hK.out _ _ (Ha.old po) (fun Ha=> ?_);clear hK K;have hP:Rp w3 p (9::48::x):=pr;refine jh 4 rfl (by kernel_rfl) (fun K hK=> ?_);go_simp;go_at_call 204;refine(Xo _ p t (9::48::x) (34::34::y) hP (HT.out _ Ha.1) (by simp;omega) (by simp;omega)).mono ?_;rintro e w4 ⟨p4,rfl,p4r,p4o⟩;go_simp;refine hK.out _ _ (Ha.old p4o) (fun Ha=> ?_);clear hK K;refine jh 7 rfl (by kernel_rfl) (fun K hK=> ?_);go_simp;go_at_call 142;refine(je _ a x (HX.out _ Ha.1) ⟨#[48]⟩ (by show 1+x.length<=_;omega)).mono ?_;rintro e w5 ⟨q,rfl,qr,qo⟩;go_simp;refine hK.out _ _ (Ha.old qo) (fun Ha=> ?_);clear hK K;have hQ:Rp w5 q (48::x):=qr;refine jh 9 rfl (by kernel_rfl) (fun K hK=> ?_);go_simp;go_at_call 204;refine(Xo _ q t (48::x) (34::34::y) hQ (HT.out _ Ha.1) (by simp;omega) (by simp;omega)).mono ?_;rintro e w6 ⟨q4,rfl,q4r,q4o⟩;go_simp;refine hK.out _ _ (Ha.old q4o) (fun Ha=> ?_);clear hK K
 (refine' jM 10 rfl rfl (by kernel_rfl) (fun _ _ _ h=>h) rfl Ha (fun w' Hj=> ?_) ?_;rotate_left;(have s0:w'.cell? ⟨S,0,none⟩=some (.pointer a):=(Fm.out.kp Hj.1 (by omega)).at_ 0 rfl;have s1:w'.cell? ⟨S,1,none⟩=some (.pointer b):=(Fm.out.kp Hj.1 (by omega)).at_ 1 rfl;clear Hj;go_simp<;>with_reducible rfl);simp only[Act.put,jJ1,jJ2,jJ3])
 have HP:=(p4r.old qo).old q4o;have HQ:=q4r;clear pr po p4r p4o qr qo q4r q4o hP hQ;have HR:=G (show Rp w6 p4 (ZC (9::48::x) (34::34::y))/\Rp w6 q4 (ZC (48::x) (34::34::y))from⟨HP,HQ⟩);clear HP HQ;obtain⟨u0,v0,GL⟩:=Ha.2;have c0:w6.cell? ⟨S+1,0,none⟩=some u0:=GL.at_ 0 rfl;have c1:w6.cell? ⟨S+1,1,none⟩=some v0:=GL.at_ 1 rfl;have z0:=GL.frozen 0;have z1:=GL.frozen 1;have Gb:=Ha.put (.pointer p4) (.pointer q4);refine jh 11 rfl (by kernel_rfl) (fun K hK=> ?_);go_simp;refine hK.out _ _ Gb.1 (fun GF=> ?_);refine wpAnyH_done (by kernel_rfl) ?_ _;clear hK K c0 c1 z0 z1;have HF:=G Gb.2;have MD:=G (fun(r:OA) (l:LB) (h:Rp w6 r l)=>h.box (X:=fun k=>k=S+1) (((jQ0 (fun k=>k=S+1) w6).setCell (p:=⟨S+1,0,none⟩) (fun _=>rfl) (.pointer p4)).setCell (p:=⟨S+1,1,none⟩) (fun _=>rfl) (.pointer q4)) (fun b e=>by subst e;obtain⟨u,v,hb⟩:=Ha.2;exact⟨_,hb⟩));have HK:=G Gb.1.1;clear Gb GF Ha;generalize (w6.setCell ⟨S+1,0,none⟩ (.pointer p4)).setCell ⟨S+1,1,none⟩ (.pointer q4)=W3 at*;go_wp2;refine zp (g:=S+1) (cs:= #[.pointer p4,.pointer q4]) rfl rfl HF.out underlying220 rfl (by kernel_rfl) rfl ?_;exact⟨p4,q4,rfl,MD.out _ _ HR.out.1,MD.out _ _ HR.out.2,GN.out.trans HK.out (fun b hb e=>by have e' :b=S+1:=e;omega)⟩
theorem uj(w:World)(a b:OA)(x y:LB)(hx:Rp w a x)(hy:Rp w b y)(n:Nat)(he:kX n=true):
  Calls prog 173 #[ZV a b,yv n] w (XC w (x,y)):=by
 have HE:=G (fun W=>Jb W n);rw[he]at HE;have HX:=G hx;have HY:=G hy;unfold ZV yv at*;clear he hx hy;go_enter func173,ntmps173;go_wp2_with (go_at_call 202;refine(HE.out _).mono ?_;rintro e w1 ⟨rfl,rfl⟩);have Gl:Blk ((w.alloc (.cells #[.pointer a,.pointer b] 220)).alloc (.cells #[.pointer a,.pointer b] 220)) (w.heap.size+1) 220 #[.pointer a,.pointer b]:=by
  have:=jQ2 (w.alloc (.cells #[.pointer a,.pointer b] 220)) 220 #[.pointer a,.pointer b]
  rwa [show(w.alloc (.cells #[.pointer a,.pointer b] 220)).heap.size=w.heap.size+1 by simp]at this
 refine zp (g:=w.heap.size+1) (cs:= #[.pointer a,.pointer b]) rfl rfl Gl underlying220 rfl (by kernel_rfl) rfl ?_;have hO:Old w ((w.alloc (.cells #[.pointer a,.pointer b] 220)).alloc (.cells #[.pointer a,.pointer b] 220)):=((jQ0 NoX w).alloc _).alloc _;exact⟨a,b,rfl,HX.out.old hO,HY.out.old hO,hO⟩
theorem jAN(w:World)(hg:Sg w)(a b:OA)(x y:LB)(hx:Rp w a x)(hy:Rp w b y)(hl:x.length<=100000000000)(Gg:y.length<=100000000000)(n:Nat)(h1:1<=n):
  Calls prog 173 #[ZV a b,yv n] w (XC w (zT n (x,y))):=by
 unfold zT;by_cases he:kX n=true
 ·rw[jJ6 he];exact uj w a b x y hx hy n he
 ·rw[jJ5 he];have DN:kX n=false:=(by simpa using he);by_cases MZ:n=60
  ·rw[jJ6 MZ];exact ZR w hg a b x hx hl n 34 (by decide) (by decide) rfl (.inr ⟨MZ,rfl⟩)
  ·rw[jJ5 MZ];by_cases hJ:58<=n
   ·rw[jJ6 hJ];exact Qw w hg a b x y hx hy hl Gg n hJ MZ DN
   ·rw[jJ5 hJ];by_cases hw:qL n=true
    ·rw[jJ6 hw];exact ZR w hg a b x hx hl n n h1 (by omega) hw (.inl rfl)
    ·rw[jJ5 hw];exact Qv w hg a b y hy Gg n h1 (by omega) (by simpa using hw)
theorem Yf(n:Nat)(h:n<58):(ju n).length<=10:=by
 have:∀n:Fin 58,(ju n.val).length<=10:=(by decide+kernel);exact this ⟨n,h⟩
theorem uL(x y:LB):(ZC x y).length<=max x.length y.length:=by
 unfold ZC;split<;>omega
theorem jAM(n:Nat)(e:LB×LB)(k:Nat)(h1:e.1.length<=k)(h2:e.2.length<=k):(zT n e).1.length<=k+12/\(zT n e).2.length<=k+12:=by
 unfold zT;split
 ·omega
 ·split
  ·have:=Yf 34 (by decide);simp only[jK6,jJ4];omega
  ·split
   ·have a1:=uL (9::48::e.1) (34::34::e.2);have a2:=uL (48::e.1) (34::34::e.2);simp only[jK6]at a1 a2⊢;omega
   ·rename_i hJ;have:=Yf n (by omega);split
    ·simp only[jK6,jJ4];omega
    ·simp only[jJ4];omega
theorem vz:∀st:List Nat,(kY st).1.length<=12*st.length/\(kY st).2.length<=12*st.length
 |[]=>⟨jL3 _,jL3 _⟩
 |n::st=>by
  have ih:=vz st;have:=jAM n (kY st) (12*st.length) ih.1 ih.2;have e:kY (n::st)=zT n (kY st):=rfl;rw[e,jK6];omega
theorem xp(st:List Nat)(j:Nat)(hj:j<st.length):kY (st.drop (st.length-(j+1)))=zT (st.getD (st.length-1-j) 0) (kY (st.drop (st.length-j))):=by
 have h:st.length-(j+1)<st.length:=(by omega);rw[jM9 h,show st.length-(j+1)+1=st.length-j by omega];simp only[List.getD,jJ9 (show st.length-1-j<st.length by omega),Option.getD_some,show st.length-(j+1)=st.length-1-j by omega];rfl
structure RestSt(w:World)(st:List Nat)(j:Nat)(wr:World)(a b:OA):Prop where
 old:Old w wr
 box:Blk wr w.heap.size 220 #[.pointer none,.pointer none]
 ends:Blk wr (w.heap.size+1) 220 #[.pointer a,.pointer b]
 x:Rp wr a (kY (st.drop (st.length-j))).1
 y:Rp wr b (kY (st.drop (st.length-j))).2
theorem RestSt.next{w wr w1:World}{st:List Nat}{j:Nat}{a b a' b' :OA}(h:RestSt w st j wr a b)(hj:j<st.length)(ho:Old wr w1)(hx:Rp w1 a' (zT (st.getD (st.length-1-j) 0) (kY (st.drop (st.length-j)))).1)(hy:Rp w1 b' (zT (st.getD (st.length-1-j) 0) (kY (st.drop (st.length-j)))).2):
  RestSt w st (j+1) ((w1.setCell ⟨w.heap.size+1,0,none⟩ (.pointer a')).setCell ⟨w.heap.size+1,1,none⟩ (.pointer b')) a' b' :=by
 have hb:=h.ends.old ho;have hk:Kp (fun k=>k=w.heap.size+1) w1 ((w1.setCell ⟨w.heap.size+1,0,none⟩ (.pointer a')).setCell ⟨w.heap.size+1,1,none⟩ (.pointer b')):=
  ((jQ0 (fun k=>k=w.heap.size+1) w1).setCell (p:=⟨w.heap.size+1,0,none⟩) (fun _=>rfl) _).setCell (p:=⟨w.heap.size+1,1,none⟩) (fun _=>rfl) _
 refine⟨(h.old.old ho).trans hk (fun b hb e=>by omega),(h.box.old ho).kp hk (by omega),by simpa using (hb.set_ 0 (.pointer a')).set_ 1 (.pointer b'),?_,?_⟩
 ·rw[xp st j hj];exact hx.box hk (fun k e=>⟨#[.pointer a,.pointer b],by have e1:k=w.heap.size+1:=e;rw[e1];exact hb⟩)
 ·rw[xp st j hj];exact hy.box hk (fun k e=>⟨#[.pointer a,.pointer b],by have e1:k=w.heap.size+1:=e;rw[e1];exact hb⟩)
theorem zE(w:World)(hg:Sg w)(g:Nat)(r:Option Nat)(src:BA)(m:Mc)(A:OA)(c:Nat)(h:Mac w g r src m A c)(hp:∀n∈m.stack,1<=n)(hl:m.stack.length<=10000000):
  Calls prog 141 #[.pointer (some ⟨g,0,none⟩)] w (XC w (kY m.stack)):=by
 have HM:=G h;have Fq:=h.c2;have Hp:=G hp;clear hp;have H0:=G (show RestSt w m.stack 0 ((w.alloc (.cells #[.pointer none,.pointer none] 220)).alloc (.cells #[.pointer none,.pointer none] 220)) none none from by
  refine⟨((jQ0 NoX w).alloc _).alloc _,(jQ2 _ _ _).alloc _,?_,?_,?_⟩
  ·have:=jQ2 (w.alloc (.cells #[.pointer none,.pointer none] 220)) 220 #[.pointer none,.pointer none]
   rwa [show(w.alloc (.cells #[.pointer none,.pointer none] 220)).heap.size=w.heap.size+1 by simp]at this
  ·rw[Nat.sub_zero,List.drop_length];exact .nil
  ·rw[Nat.sub_zero,List.drop_length];exact .nil)
 clear h;generalize hL:m.stack.length=L at*;have HL:=G hL;clear hL;have hlt:=HM.out.blk.lt;go_enter func141,ntmps141;go_wp2;go_loopw [11] (fun i wr=>∃(j:Nat) (a b:OA),j<=L/\i=.int .i64 j/\RestSt w m.stack j wr a b) (fun i _=>L-(intOf i).toNat)
 case atStart=>exact⟨0,none,none,Nat.zero_le _,rfl,H0.out⟩
 case round=>
  clear H0;obtain⟨j,a,b,hj,rfl,Hm⟩:=hrel;have e0:wr.cell? ⟨w.heap.size+1,0,none⟩=some (.pointer a):=Hm.ends.at_ 0 rfl;have e1:wr.cell? ⟨w.heap.size+1,1,none⟩=some (.pointer b):=Hm.ends.at_ 1 rfl;by_cases Gc:j<L
  ·have FZ:=G Hm;obtain⟨bb,o,rfl,FH⟩:=(HM.out.old Hm.old).own.at_ (L-1-j) (by rw[HL.out];omega);rw[HL.out,show L-1-(L-1-j)=j by omega]at FH;have Fl:1<=m.stack.getD (L-1-j) 0:=Hp.out _ (by
    have:L-1-j<m.stack.length:=by rw[HL.out];omega
    simp[List.getD,List.getElem?_eq_getElem this])
   have Fc:=vz (m.stack.drop (m.stack.length-j));have DO:(m.stack.drop (m.stack.length-j)).length<=10000000:=by rw[jK8,HL.out];omega
   have HB:=G (jAN wr (hg.old Hm.old) a b _ _ Hm.x Hm.y (by omega) (by omega) (m.stack.getD (L-1-j) 0) Fl);have HN:=G (fun w1 a' b' ho hx hy=>Hm.next (w1:=w1) (a' :=a') (b' :=b') (by rw[HL.out];exact Gc) ho hx hy);rw[HL.out]at HB HN;generalize m.stack.getD (L-1-j) 0=n at*;have c1:(j:Int)<(L:Int):=(by omega);have c2:(0:Int)<=(j:Int):=(by omega);have c3:(j:Int).toNat=j:=(by omega);have c4:IntKind.i64.wrap ((j:Int)+1)=(j:Int)+1:=jQ3 _ (by omega);unfold yv ZV at*;clear Hm Fc DO Fl;go_wp2_with (go_at_call 173;refine HB.out.mono ?_;rintro e w1 ⟨a',b',he,hx,hy,ho⟩;obtain rfl:e=.returned (.agg #[.pointer a',.pointer b']):=he;have q0:w1.cell? ⟨w.heap.size+1,0,none⟩=some (.pointer a):=(FZ.out.ends.old ho).at_ 0 rfl;have q1:w1.cell? ⟨w.heap.size+1,1,none⟩=some (.pointer b):=(FZ.out.ends.old ho).at_ 1 rfl;have z0:=(FZ.out.ends.old ho).frozen 0;have z1:=(FZ.out.ends.old ho).frozen 1;have HX:=G hx;have HY:=G hy;have HO:=G ho;clear hx hy ho);exact⟨⟨j+1,a',b',by omega,by go_num,HN.out _ _ _ HO.out HX.out HY.out⟩,by simp[intOf];omega⟩
  ·obtain rfl:j=L:=(by omega);have z0:=Hm.box.frozen 0;have z1:=Hm.box.frozen 1;have r0:wr.cell? ⟨w.heap.size,0,none⟩=some (.pointer none):=Hm.box.at_ 0 rfl;have r1:wr.cell? ⟨w.heap.size,1,none⟩=some (.pointer none):=Hm.box.at_ 1 rfl;have hb:Blk ((wr.setCell ⟨w.heap.size,0,none⟩ (.pointer a)).setCell ⟨w.heap.size,1,none⟩ (.pointer b)) w.heap.size 220 #[.pointer a,.pointer b]:=(by simpa using (Hm.box.set_ 0 (.pointer a)).set_ 1 (.pointer b));have hk:Kp (fun k=>k=w.heap.size) wr ((wr.setCell ⟨w.heap.size,0,none⟩ (.pointer a)).setCell ⟨w.heap.size,1,none⟩ (.pointer b)):=
    ((jQ0 (fun k=>k=w.heap.size) wr).setCell (p:=⟨w.heap.size,0,none⟩) (fun _=>rfl) _).setCell (p:=⟨w.heap.size,1,none⟩) (fun _=>rfl) _
   have FY:=G (show XC w (kY m.stack) (.returned (.agg #[.pointer a,.pointer b])) ((wr.setCell ⟨w.heap.size,0,none⟩ (.pointer a)).setCell ⟨w.heap.size,1,none⟩ (.pointer b))from by
    have hx:=Hm.x;have hy:=Hm.y;rw[HL.out,Nat.sub_self,List.drop_zero]at hx hy;exact⟨a,b,rfl,hx.box hk (fun k e=>⟨#[.pointer none,.pointer none],by have e1:k=w.heap.size:=e;rw[e1];exact Hm.box⟩),hy.box hk (fun k e=>⟨#[.pointer none,.pointer none],by have e1:k=w.heap.size:=e;rw[e1];exact Hm.box⟩),Hm.old.trans hk (fun k hk e=>by have e1:k=w.heap.size:=e;omega)⟩)
   have Hb:=G hb;clear Hm hb hk;go_wp2;refine zp (g:=w.heap.size) (cs:= #[.pointer a,.pointer b]) rfl rfl Hb.out underlying220 rfl (by kernel_rfl) rfl ?_;exact FY.out
theorem QM(w:World)(x y:BA):Calls prog 207 #[.string x,.string y] w fun e w' =>e=.returned (.bool ((sb y).isPrefixOf (sb x)))/\w=w' :=by
 have Hy:=G (jBg (sb y) (sb x));rw[jB,jB]at Hy;generalize (sb y).isPrefixOf (sb x)=R at*;by_cases Fc:y.size<=x.size
 ·have d1:(y.size:Int)<=(x.size:Int):=(by omega);have d2:(0:Int)<=(y.size:Int):=(by omega);have he:((x.extract 0 y.size).toList==y.toList)=((sb x).take y.size==sb y):=by rw[ByteArray.toList_eq,ByteArray.toList_eq];show(sb (x.extract 0 y.size)==sb y)=_;rw[js];simp
  have HR:=G (show R=((x.extract 0 y.size).toList==y.toList)by rw[Hy.out,jK5 Fc,he];rfl);clear he Fc Hy;go_enter func207,ntmps207;go_wp2;go_ret;exact⟨by rw[HR.out];rfl,rfl⟩
 ·have d1:¬(y.size:Int)<=(x.size:Int):=(by omega);have HR:=G (show R=false by rw[Hy.out,jK3 Fc];rfl);clear Fc Hy;go_enter func207,ntmps207;go_wp2;go_ret;exact⟨by rw[HR.out];rfl,rfl⟩
theorem Ul(w:World)(x y:BA):Calls prog 178 #[.string x,.string y] w fun e w' =>e=.returned (.bool ((sb y).isPrefixOf (sb x)))/\w=w' :=by
 have H:=G (QM w x y);generalize (sb y).isPrefixOf (sb x)=R at*;go_enter func178,ntmps178;go_wp2_with (go_at_call 207;refine H.out.mono ?_;rintro e w1 ⟨rfl,rfl⟩);go_ret;exact⟨rfl,rfl⟩
def Pos(l:List Nat):Prop:=∀x∈l,1<=x
theorem Pos.ite{c:Prop}[Decidable c]{a b:List Nat}(ha:Pos a)(hb:Pos b):Pos (if c then a else b):=by
 split
 ·exact ha
 ·exact hb
theorem Pos.of(l:List Nat)(h:l.all (fun x=>decide (1<=x))=true):Pos l:=fun x hx=>jM8 (List.all_eq_true.1 h x hx)
theorem Pos.cons{t:Nat}{l:List Nat}(ht:1<=t)(h:Pos l):Pos (t::l):=fun x hx=>by
 rcases jN4 hx with rfl|hx
 ·exact ht
 ·exact h x hx
theorem jBK(n t:Nat)(ht:1<=t):Pos (jK n t):=by
 unfold jK yE zU kZ
 repeat' first|apply Pos.ite|exact Pos.of _ (by decide)|exact Pos.cons ht (Pos.of _ (by decide))
theorem Takes.pos{t n:Nat}{l k:List Nat}(ht:1<=t)(h:Takes t n l k):Pos l->Pos k:=by
 induction h with
 |hit l=>exact fun hp x hx=>hp x (jN1 _ hx)
 |more n x l k _ _ ih=>
  intro hp;refine ih (fun y hy=> ?_);rcases jM6 hy with hy|hy
  ·exact jBK x t ht y hy
  ·exact hp y (jN1 _ hy)
theorem Rp.far{X:Nat->Prop}{w w1:World}{a:OA}{l:LB}(T:TypeId)(hT:225≠T)(h:Rp w a l)(ho:Kp X w w1)(hx:∀b,X b->∃cs,Blk w b T cs):Rp w1 a l:=by
 induction h with
 |nil=>exact .nil
 |cons g p nx l hp hb _ ih=>
  refine .cons g p nx l hp (hb.kp ho (fun he=> ?_)) ih;obtain⟨cs,hc⟩:=hx g he;exact(hb.ne_ hc hT) rfl
theorem jEi(a b:OA)(w:World):(Instr.field 220 (.agg #[.pointer a,.pointer b]) 0).run prog w=.ok (.pointer a) w:=by kernel_rfl
theorem yw(a b:OA)(w:World):(Instr.field 220 (.agg #[.pointer a,.pointer b]) 1).run prog w=.ok (.pointer b) w:=by kernel_rfl
theorem yH(t:Nat)(ht:t<58)(st:List Nat)(h5:∀n∈st,n<85)(h:kI t st=true):∃n,n<=st.length+100/\Takes t n st (kq t st)/\(kq t st).length<=st.length+12:=by
 obtain⟨s,MM,_⟩:=KQ t ht ⟨0,st,0,0⟩ 0 h;have Ls:kO t (st.length+100) st=some s:=MM;have e:kq t st=s:=by unfold kq;rw[Ls];rfl
 obtain⟨n,hn,hT⟩:=Jg Ls;rw[e];exact⟨n,hn,hT,Yc t ht st _ s h5 h Ls⟩
def Tried(w:World)(bb:Nat)(R:LB)(e:Ending)(w' :World):Prop:=e=.returned (.tuple #[])/\∃p,Blk w' bb 166 #[.pointer p]/\Rp w' p R/\Kp (fun k=>k=bb) w w'
theorem Tried.store{w w3:World}{bb:Nat}{p q:OA}{R:LB}(hO:Old w w3)(PY:Blk w bb 166 #[.pointer p])(hq:Rp w3 q R):Tried w bb R (.returned (.tuple #[])) (w3.setCell ⟨bb,0,none⟩ (.pointer q)):=by
 have Na:=PY.old hO;have hk:Kp (fun k=>k=bb) w3 (w3.setCell ⟨bb,0,none⟩ (.pointer q)):=(jQ0 (fun k=>k=bb) w3).setCell (p:=⟨bb,0,none⟩) (fun _=>rfl) _;refine⟨rfl,q,by simpa using Na.set_ 0 (.pointer q),?_,?_⟩
 ·exact hq.far 166 (by decide) hk (fun b e=>⟨#[.pointer p],by have e1:b=bb:=e;rw[e1];exact Na⟩)
 ·exact(hO.mono (Y:=fun k=>k=bb) (fun _ _ f=>f.elim)).trans hk (fun _ _ h=>h)
theorem jFl(w:World)(hg:Sg w)(g:Nat)(r:Option Nat)(src:BA)(m:Mc)(A:OA)(c:Nat)(h:Mac w g r src m A c)(hp:Pos m.stack)(hl:m.stack.length<=1000000)(bm bb:Nat)(TQ:Blk w bm 155 #[.pointer (some ⟨g,0,none⟩)])(p:OA)(PY:Blk w bb 166 #[.pointer p])(best:LB)(hb:Rp w p best)(MW:best.length<=1000000000)(t:Nat)(h1:1<=t)(h2:t<58)(more:BA)(hm:more.size<=100):
  Calls prog 175 #[yv t,.string more,.pointer (some ⟨bm,0,none⟩),.pointer (some ⟨bb,0,none⟩)] w (Tried w bb (xW m.stack best t (sb more))):=by
 have HM:=G (KE w g r src m A c h t);have Ao:=jEi;have m0:w.cell? ⟨bm,0,none⟩=some (.pointer (some ⟨g,0,none⟩)):=TQ.at_ 0 rfl;have b0:w.cell? ⟨bb,0,none⟩=some (.pointer p):=PY.at_ 0 rfl;have MC:=G PY;have Hb:=G hb;have Hv:=G (show xW m.stack best t (sb more)=if kI t m.stack=true then(if best=[]\/JB (sb more++(kY (kq t m.stack)).1) best=true then sb more++(kY (kq t m.stack)).1 else best)else best from rfl);generalize xW m.stack best t (sb more)=R at*;by_cases hq:kI t m.stack=true
 ·obtain⟨n,hn,hT,hlen⟩:=yH t h2 m.stack h.sym hq;have HW:=G (Jd w g r src m A c h t n _ h2 hT (by omega));have Nc:=G (hT.pos h1 hp);have NK:=(vz (kq t m.stack)).1;rw[hq]at HM Hv;generalize kq t m.stack=k at*;have HR:=G (fun W (hW:Old w W) g' r' A' c' (Fs:Mac W g' r' ⟨#[]⟩ ⟨0,k,0,0⟩ A' c')=>zE W (hg.old hW) g' r' _ _ A' c' Fs Nc.out (by show k.length<=_;omega));generalize kY k=rs at*;have Fe:=G (show rs.1.length<=20000000 by omega);obtain⟨rs1,rs2⟩:=rs;simp only at HR Fe Hv NK;clear NK h hg hT hlen hn hp hl TQ PY hb;unfold yv at*;cases p with
  |none=>
   have Mv:best=[]:=Hb.out.nil_of;have GQ:=G (show R=sb more++rs1 by rw[Hv.out];simp[Mv]);clear Hv;go_enter func175,ntmps175;go_wp2_with (first|(go_at_call 176;refine HM.out.mono ?_;rintro e w1 ⟨rfl,rfl⟩)|(go_at_call 144;refine HW.out.mono ?_;rintro e w1 ⟨g',r',A',c',rfl,Fs,GS⟩;have GU:=G Fs;have FL:=G GS;clear Fs GS)|(go_at_call 141;refine(HR.out _ FL.out _ _ _ _ GU.out).mono ?_;rintro e w2 ⟨a,b,he,hx,hy,ho⟩;obtain rfl:e=.returned (.agg #[.pointer a,.pointer b]):=he;have HX:=G hx;have Gi:=G (FL.out.old ho);clear hx hy ho)|(go_at_call 142;refine(je _ a rs1 HX.out more (by have:=Fe.out;omega)).mono ?_;rintro e w3 ⟨q,rfl,hq,ho⟩;have HQ:=G hq;have GN:=G (Gi.out.old ho);have b3:w3.cell? ⟨bb,0,none⟩=some (.pointer none):=(MC.out.old GN.out).at_ 0 rfl;have z3:=(MC.out.old GN.out).frozen 0;clear hq ho));go_end0;rw[GQ.out];exact Tried.store GN.out MC.out HQ.out
  |some pa=>
   have Mv:best≠ []:=fun e=>by
    have:=Hb.out.nil_iff.2 e;cases this
   generalize haq:JB (sb more++rs1) best=q at*;have GQ:=G (show R=if q=true then sb more++rs1 else best by rw[Hv.out];simp[Mv]);have CN:=G haq;clear Hv haq;cases q
   ·have Z8:=G (show R=best by rw[GQ.out];rfl);clear GQ;go_enter func175,ntmps175;go_wp2_with (first|(go_at_call 176;refine HM.out.mono ?_;rintro e w1 ⟨rfl,rfl⟩)|(go_at_call 144;refine HW.out.mono ?_;rintro e w1 ⟨g',r',A',c',rfl,Fs,GS⟩;have GU:=G Fs;have FL:=G GS;clear Fs GS)|(go_at_call 141;refine(HR.out _ FL.out _ _ _ _ GU.out).mono ?_;rintro e w2 ⟨a,b,he,hx,hy,ho⟩;obtain rfl:e=.returned (.agg #[.pointer a,.pointer b]):=he;have HX:=G hx;have Gi:=G (FL.out.old ho);clear hx hy ho)|(go_at_call 142;refine(je _ a rs1 HX.out more (by have:=Fe.out;omega)).mono ?_;rintro e w3 ⟨q,rfl,hq,ho⟩;have HQ:=G hq;have GN:=G (Gi.out.old ho);have b3:w3.cell? ⟨bb,0,none⟩=some (.pointer (some pa)):=(MC.out.old GN.out).at_ 0 rfl;have z3:=(MC.out.old GN.out).frozen 0;clear hq ho)|(go_at_call 177;refine(ZT _ q (some pa) _ best HQ.out (Hb.out.old GN.out) (by rw[jJ4,jB];have:=Fe.out;omega) (by omega)).mono ?_;rw[CN.out];rintro e w4 ⟨rfl,ho⟩;have V1:=G (GN.out.old ho);clear ho));go_end0;rw[Z8.out];exact⟨rfl,some pa,MC.out.old V1.out,Hb.out.old V1.out,V1.out.mono (fun _ _ f=>f.elim)⟩
   ·have Z8:=G (show R=sb more++rs1 by rw[GQ.out];rfl);clear GQ;go_enter func175,ntmps175;go_wp2_with (first|(go_at_call 176;refine HM.out.mono ?_;rintro e w1 ⟨rfl,rfl⟩)|(go_at_call 144;refine HW.out.mono ?_;rintro e w1 ⟨g',r',A',c',rfl,Fs,GS⟩;have GU:=G Fs;have FL:=G GS;clear Fs GS)|(go_at_call 141;refine(HR.out _ FL.out _ _ _ _ GU.out).mono ?_;rintro e w2 ⟨a,b,he,hx,hy,ho⟩;obtain rfl:e=.returned (.agg #[.pointer a,.pointer b]):=he;have HX:=G hx;have Gi:=G (FL.out.old ho);clear hx hy ho)|(go_at_call 142;refine(je _ a rs1 HX.out more (by have:=Fe.out;omega)).mono ?_;rintro e w3 ⟨q,rfl,hq,ho⟩;have HQ:=G hq;have GN:=G (Gi.out.old ho);have b3:w3.cell? ⟨bb,0,none⟩=some (.pointer (some pa)):=(MC.out.old GN.out).at_ 0 rfl;clear hq ho)|(go_at_call 177;refine(ZT _ q (some pa) _ best HQ.out (Hb.out.old GN.out) (by rw[jJ4,jB];have:=Fe.out;omega) (by omega)).mono ?_;rw[CN.out];rintro e w4 ⟨rfl,ho⟩;have V1:=G (GN.out.old ho);have EC:=G (HQ.out.old ho);have b4:w4.cell? ⟨bb,0,none⟩=some (.pointer (some pa)):=(MC.out.old V1.out).at_ 0 rfl;have z4:=(MC.out.old V1.out).frozen 0;clear ho));go_end0;rw[Z8.out];exact Tried.store V1.out MC.out EC.out
 ·have MO:kI t m.stack=false:=(by simpa using hq);rw[MO]at HM;have GQ:=G (show R=best by rw[Hv.out,jJ5 hq]);clear Hv h hg hp TQ PY hb hq MO;unfold yv at*;go_enter func175,ntmps175;go_wp2_with (go_at_call 176;refine HM.out.mono ?_;rintro e w1 ⟨rfl,rfl⟩);go_end0;rw[GQ.out];exact⟨rfl,p,MC.out,Hb.out,jQ0 _ _⟩
theorem jFk(st:List Nat)(h5:∀n∈st,n<85)(hl:st.length<=1000000)(best:LB)(hb:best.length<=20000000)(t:Nat)(ht:t<58)(more:LB)(hm:more.length<=100):(xW st best t more).length<=20000000:=by
 unfold xW;split
 ·rename_i hq;obtain⟨n,_,_,hlen⟩:=yH t ht st h5 hq;have:=(vz (kq t st)).1;simp only;split
  ·rw[jJ4];omega
  ·exact hb
 ·exact hb
structure WdSt(w:World)(g:Nat)(wr:World)(p:OA)(best:LB):Prop where
 old:Old w wr
 bm:Blk wr w.heap.size 155 #[.pointer (some ⟨g,0,none⟩)]
 bb:Blk wr (w.heap.size+1) 166 #[.pointer p]
 rp:Rp wr p best
 len:best.length<=20000000
theorem WdSt.try_{w:World}(hg:Sg w){g:Nat}{r:Option Nat}{src:BA}{m:Mc}{A:OA}{c:Nat}(h:Mac w g r src m A c)(hp:Pos m.stack)(hl:m.stack.length<=1000000){wr:World}{p:OA}{best:LB}(hs:WdSt w g wr p best)(t:Nat)(h1:1<=t)(h2:t<58)(more:BA)(hm:more.size<=100):
  Calls prog 175 #[yv t,.string more,.pointer (some ⟨w.heap.size,0,none⟩),.pointer (some ⟨w.heap.size+1,0,none⟩)] wr fun e w' =>e=.returned (.tuple #[])/\∃p',WdSt w g w' p' (xW m.stack best t (sb more)):=by
 refine(jFl wr (hg.old hs.old) g r src m A c (h.old hs.old) hp hl _ _ hs.bm p hs.bb best hs.rp (by have:=hs.len;omega) t h1 h2 more hm).mono ?_;rintro e w' ⟨he,p',hb,hr,hk⟩;exact⟨he,p',hs.old.trans hk (fun b hb e=>by omega),hs.bm.kp hk (by omega),hb,hr,jFk m.stack h.sym hl best hs.len t h2 _ (by rw[jB];exact hm)⟩
theorem UY(st:List Nat)(w:LB)(j:Nat)(hj:j<resL.length)(best:LB):JG st w (resL.drop j) j best=JG st w (resL.drop (j+1)) (j+1) (if w.isPrefixOf resL[j]=true then xW st best (23+j) (resL[j].drop w.length)else best):=by
 rw[jM9 hj];rfl
theorem jF5(j:Nat)(hj:j<resL.length):resL[j].length<=20:=by
 have h:∀x∈resL,x.length<=20:=(by decide+kernel);exact h _ (jL6 hj)
theorem jGI{a b:LB}(h:a.isPrefixOf b=true):a.length<=b.length:=by
 rw[List.isPrefixOf_iff_prefix]at h;exact h.length_le
theorem UX(w:World)(hg:Sg w)(g:Nat)(r:Option Nat)(src:BA)(m:Mc)(A:OA)(c:Nat)(h:Mac w g r src m A c)(hp:Pos m.stack)(hl:m.stack.length<=1000000)(hf:m.from_ <src.size):
  Calls prog 143 #[.pointer (some ⟨g,0,none⟩)] w fun e w' =>∃p,e=.returned (.pointer p)/\Rp w' p (Jx m.stack ((sb src).drop m.from_))/\Old w w' /\(Jx m.stack ((sb src).drop m.from_)).length<=20000000:=by
 have LQ:sb (src.extract m.from_ src.size)=(sb src).drop m.from_:=by
  rw[js,jK4 (by rw[jK8,jB];exact jL3 _)]
 have G6:(src.extract m.from_ src.size).size=src.size-m.from_:=(by rw[<-jB,LQ,jK8,jB]);rw[<-LQ];generalize NZ:src.extract m.from_ src.size=ws at*;have hw0:0<ws.size:=(by omega);have RV:=G (qR ws hw0);have HT:=G (fun wr p best (hs:WdSt w g wr p best) t h1 h2 more hm=>hs.try_ hg h hp hl t h1 h2 more hm);have HD:=G (fun W=>zh W (ws[0]'hw0));have HL:=G (fun W (hW:Old w W)=>jf W (hg.old hW) ws);have HN:=G (fun W=>zO W ws);have Hv:=G (show Jx m.stack (sb ws)=if yd ((sb ws).headD 0)=true then xW m.stack (JG m.stack (sb ws) (resL.drop 0) 0 []) 2 []else if jQ (sb ws)=true then xW m.stack (JG m.stack (sb ws) (resL.drop 0) 0 []) 1 []else if(sb ws).length<64/\jk (sb ws)=true then xW m.stack (JG m.stack (sb ws) (resL.drop 0) 0 []) 1 [48]else JG m.stack (sb ws) (resL.drop 0) 0 []from rfl);rw[RV.out,jB]at Hv;have GY:=h.c0;have Ms:=h.c4;have HM:=G h;have Hg:=G hg.res;have H0:=G (fun n=>show WdSt w g (((w.alloc (.cells #[.pointer (some ⟨g,0,none⟩)] 155)).drewN n).alloc (.cells #[.pointer none] 166)) none []from by
  have b1:Blk (((w.alloc (.cells #[.pointer (some ⟨g,0,none⟩)] 155)).drewN n).alloc (.cells #[.pointer none] 166)) w.heap.size 155 #[.pointer (some ⟨g,0,none⟩)]:=((jQ2 _ _ _).drewN n).alloc _;have b2:=jQ2 ((w.alloc (.cells #[.pointer (some ⟨g,0,none⟩)] 155)).drewN n) 166 #[.pointer none];rw[show((w.alloc (.cells #[.pointer (some ⟨g,0,none⟩)] 155)).drewN n).heap.size=w.heap.size+1 by simp]at b2;exact⟨(((jQ0 NoX w).alloc _).drewN n).alloc _,b1,b2,.nil,by decide⟩)
 generalize Jx m.stack (sb ws)=Z at*;generalize MY:yd (ws[0]'hw0)=bd at*;generalize MW:jQ (sb ws)=bl at*;generalize hbn:jk (sb ws)=bn at*;generalize hR:JG m.stack (sb ws) (resL.drop 0) 0 []=R at*;have HR:=G hR.symm;have HG:=G (fun W (hW:Old w W)=>(hg.old hW).res);have Hx:=G (fun j (hj:j<35)=>YR resL j hj);have GA:=G (show(prog.info? 205).map (·.size)=some (wvs resL).length from jA6);have DA:∀(fn:Fn) (first cap:Array Value) (w:World),(Instr.makeFunc fn first cap).run prog w=.ok (.func fn first cap) w:=fun _ _ _ _=>rfl;generalize WY:wvs resL=cs at*;have a1:(m.from_:Int)<=(src.size:Int):=(by omega);have a2:(0:Int)<=(m.from_:Int):=(by omega);have a3:(m.from_:Int).toNat=m.from_:=(by omega);have b0:(0:Int)<(ws.size:Int):=(by omega);clear WY hR MY MW hbn h hg hp hl LQ RV Hg;clear hf G6;generalize m.stack=st at*;unfold yv at*;go_enter func143,ntmps143;go_wp2;have TV:=HM.out.old ((jQ0 NoX w).alloc (.cells #[.pointer (some ⟨g,0,none⟩)] 155));have d0:=TV.c0;have d4:=TV.c4;have d5:(w.alloc (.cells #[.pointer (some ⟨g,0,none⟩)] 155)).cell? ⟨w.heap.size,0,none⟩=some (.pointer (some ⟨g,0,none⟩)):=(jQ2 w 155 #[.pointer (some ⟨g,0,none⟩)]).at_ 0 rfl;clear TV;go_quiet (fail);clear d0 d4 d5;have LG:=G ((H0.out nq).old);go_wp2_with (first|((with_reducible refine VB 205 (.global 0) ?_);refine uG rfl 205 (.global 0) rfl 0 0 rfl cs _ (HG.out _ LG.out) underlying205 rfl GA.out ?_)|fail);go_loopw [19] (fun i wr=>∃(j:Nat) (p:OA) (best:LB),j<=35/\i=.int .i64 j/\WdSt w g wr p best/\R=JG st (sb ws) (resL.drop j) j best) (fun i _=>35-(intOf i).toNat)
 case atStart=>exact⟨0,none,[],by omega,rfl,H0.out nq,HR.out⟩
 case round=>
  clear H0 HR LG;obtain⟨j,p,best,hj,rfl,Hm,hR⟩:=hrel;have FZ:=G Hm;clear Hm;by_cases hlt:j<35
  ·have hx:=Hx.out j hlt;have NK:=jF5 j hlt;rw[UY st (sb ws) j hlt]at hR;generalize resL[j]'hlt=rw at*;have V6:sb (⟨rw.toArray⟩:BA)=rw:=yS rw;generalize (⟨rw.toArray⟩:BA)=x at*;subst V6;have b1:(j:Int)<35:=(by omega);have b2:(0:Int)<=(j:Int):=(by omega);have b3:(j:Int).toNat=j:=(by omega);have b4:IntKind.u8.wrap (j:Int)=(j:Int):=IntWalk.u8_in _ (by omega);have b5:IntKind.u8.wrap (23+(j:Int))=((23+j:Nat):Int):=by rw[show(23+(j:Int))=((23+j:Nat):Int)by omega];exact IntWalk.u8_in _ (by omega)
   have b6:IntKind.i64.wrap ((j:Int)+1)=(j:Int)+1:=jQ3 _ (by omega);have Lw:=fun w' =>Qi w' cs j _ hx hlt;have HP:=G (fun W=>Ul W x ws);clear hx;by_cases hpre:(sb ws).isPrefixOf (sb x)=true
   ·have Fc:=jGI hpre;rw[jB,jB]at Fc;rw[hpre]at HP;rw[jJ6 hpre,show(sb x).drop (sb ws).length=sb (x.extract ws.size x.size)by rw[js,jK4 (by rw[jK8,jB];exact jL3 _),jB]]at hR;have WE:(x.extract ws.size x.size).size<=100:=by rw[<-jB,js,jK9,jK8];rw[jB]at NK⊢;omega
    have c1:(ws.size:Int)<=(x.size:Int):=(by omega);have c2:(0:Int)<=(ws.size:Int):=(by omega);have c3:(ws.size:Int).toNat=ws.size:=(by omega);have GQ:=G hR;have Et:=G WE;clear hpre hR WE;have b7:(23+j:Nat)<58:=(by omega);have b8:1<=(23+j:Nat):=(by omega);generalize (23+j:Nat)=t at*;go_wp2_with (first|(go_at_call 178;refine(HP.out _).mono ?_;rintro e w1 ⟨rfl,rfl⟩)|(go_at_call 175;refine(HT.out _ _ _ FZ.out t b8 b7 _ Et.out).mono ?_;rintro e w2 ⟨rfl,p2,GJ⟩;have GT:=G GJ;clear GJ));exact⟨⟨j+1,p2,_,by omega,by go_num,GT.out,GQ.out⟩,by simp[intOf];omega⟩
   ·have Lu:(sb ws).isPrefixOf (sb x)=false:=Bool.eq_false_iff.2 hpre;rw[Lu]at HP;rw[jJ5 hpre]at hR;have GQ:=G hR;clear hpre Lu hR;go_wp2_with (go_at_call 178;refine(HP.out _).mono ?_;rintro e w1 ⟨rfl,rfl⟩);exact⟨⟨j+1,p,best,by omega,by go_num,FZ.out,GQ.out⟩,by simp[intOf];omega⟩
  ·obtain rfl:j=35:=(by omega);rw[show JG st (sb ws) (resL.drop 35) 35 best=best from rfl]at hR;rw[hR]at Hv;clear hR;have f0:=FZ.out.bb.at_ 0 (v:=.pointer p) rfl;have d1:(0:Int)<(ws.size:Int):=(by omega);cases bd
   ·cases bl
    ·by_cases h64:ws.size<64
     ·have c1:(ws.size:Int)<64:=(by omega);cases bn
      ·have HZ:=G (show Z=best by rw[Hv.out];simp);clear Hv h64;go_wp2_with (first|(go_at_call 158;refine(HD.out _).mono ?_;rintro e w1 ⟨rfl,rfl⟩)|(go_at_call 20;refine(HL.out _ FZ.out.old).mono ?_;rintro e w1 ⟨rfl,rfl⟩)|(go_at_call 69;refine(HN.out _).mono ?_;rintro e w1 ⟨rfl,rfl⟩));go_ret;rw[HZ.out];exact⟨p,rfl,FZ.out.rp,FZ.out.old,FZ.out.len⟩
      ·have HZ:=G (show Z=xW st best 1 [48]by rw[Hv.out];simp[h64]);clear Hv h64;go_wp2_with (first|(go_at_call 158;refine(HD.out _).mono ?_;rintro e w1 ⟨rfl,rfl⟩)|(go_at_call 20;refine(HL.out _ FZ.out.old).mono ?_;rintro e w1 ⟨rfl,rfl⟩)|(go_at_call 69;refine(HN.out _).mono ?_;rintro e w1 ⟨rfl,rfl⟩)|(go_at_call 175;refine(HT.out _ _ _ FZ.out 1 (by decide) (by decide) ⟨#[48]⟩ (by decide)).mono ?_;rintro e w2 ⟨rfl,p2,GJ⟩;have GT:=G GJ;have f1:=GJ.bb.at_ 0 (v:=.pointer p2) rfl;clear GJ));go_ret;rw[HZ.out];exact⟨p2,rfl,GT.out.rp,GT.out.old,GT.out.len⟩
     ·have c1:¬(ws.size:Int)<64:=(by omega);have HZ:=G (show Z=best by rw[Hv.out];simp[h64]);clear Hv h64;go_wp2_with (first|(go_at_call 158;refine(HD.out _).mono ?_;rintro e w1 ⟨rfl,rfl⟩)|(go_at_call 20;refine(HL.out _ FZ.out.old).mono ?_;rintro e w1 ⟨rfl,rfl⟩)|(go_at_call 69;refine(HN.out _).mono ?_;rintro e w1 ⟨rfl,rfl⟩));go_ret;rw[HZ.out];exact⟨p,rfl,FZ.out.rp,FZ.out.old,FZ.out.len⟩
    ·have HZ:=G (show Z=xW st best 1 []by rw[Hv.out];rfl);clear Hv;go_wp2_with (first|(go_at_call 158;refine(HD.out _).mono ?_;rintro e w1 ⟨rfl,rfl⟩)|(go_at_call 20;refine(HL.out _ FZ.out.old).mono ?_;rintro e w1 ⟨rfl,rfl⟩)|(go_at_call 69;refine(HN.out _).mono ?_;rintro e w1 ⟨rfl,rfl⟩)|(go_at_call 175;refine(HT.out _ _ _ FZ.out 1 (by decide) (by decide) ⟨#[]⟩ (by decide)).mono ?_;rintro e w2 ⟨rfl,p2,GJ⟩;have GT:=G GJ;have f1:=GJ.bb.at_ 0 (v:=.pointer p2) rfl;clear GJ));go_ret;rw[HZ.out];exact⟨p2,rfl,GT.out.rp,GT.out.old,GT.out.len⟩
   ·have HZ:=G (show Z=xW st best 2 []by rw[Hv.out];rfl);clear Hv;go_wp2_with (first|(go_at_call 158;refine(HD.out _).mono ?_;rintro e w1 ⟨rfl,rfl⟩)|(go_at_call 20;refine(HL.out _ FZ.out.old).mono ?_;rintro e w1 ⟨rfl,rfl⟩)|(go_at_call 69;refine(HN.out _).mono ?_;rintro e w1 ⟨rfl,rfl⟩)|(go_at_call 175;refine(HT.out _ _ _ FZ.out 2 (by decide) (by decide) ⟨#[]⟩ (by decide)).mono ?_;rintro e w2 ⟨rfl,p2,GJ⟩;have GT:=G GJ;have f1:=GJ.bb.at_ 0 (v:=.pointer p2) rfl;clear GJ));go_ret;rw[HZ.out];exact⟨p2,rfl,GT.out.rp,GT.out.old,GT.out.len⟩
end Go.Proofs.YtmmjcbbogokmfaaGreatDoor

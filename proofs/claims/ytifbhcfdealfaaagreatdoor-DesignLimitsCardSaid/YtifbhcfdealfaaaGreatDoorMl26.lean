import Derived.Test.YtifbhcfdealfaaaGreatDoorMl25
import GoSem.ClaimKeys
import Derived.WideKeyEntry
set_option maxRecDepth 100000
set_option maxHeartbeats 25600000
namespace Go.Proofs.YtifbhcfdealfaaaGreatDoor
open Go.Proofs.Tryz
structure TSz(t:Tre):Prop where
 nl:t.nodes.length<=1000000
 ats:t.ats.length=t.nodes.length
 kl:∀n∈t.nodes,n.kids.length<=1000000
 kk:∀n∈t.nodes,∀k∈n.kids,0<=k/\k<(t.nodes.length:Int)
 ki:∀(i:Nat) (n:Nd),t.nodes[i]? =some n->∀k∈n.kids,0<=k/\k<(i:Int)
 lA:t.attrs.length<=1000000
 lG:t.stages.length<=1000000
 lM:t.miles.length<=1000000
 lS:t.steps.length<=1000000
 pr:∀x∈t.steps,x.params.length<=1000000/\x.effects.length<=1000000
 nn:∀n∈t.nodes,n.name.size<=1000000
 vs:∀n∈t.nodes,n.vs=[]
theorem QS{n:Nat}{t:Tre}{D:List Dk}(h:WfT n t D)(hn:n<=1000000):TSz t:=by
 refine⟨h.nk.nl,h.nk.same,fun x hx=> ?_,fun x hx k hk=> ?_,fun i x hx=>(h.nk.kids i x hx).2,h.lA,h.lG,h.lM,h.lS,fun x hx=> ?_,fun x hx=>jL4 (h.nk.nn x hx).1 hn,fun x hx=>(h.nk.nn x hx).2⟩
 ·obtain⟨i,hi,e⟩:=List.getElem_of_mem hx;exact(h.nk.kids i x (by rw[jJ9 hi,e])).1
 ·obtain⟨i,hi,e⟩:=List.getElem_of_mem hx;have:=(h.nk.kids i x (by rw[jJ9 hi,e])).2 k hk;exact⟨this.1,by omega⟩
 ·rw[h.eS]at hx;obtain⟨d,hd,e⟩:=List.mem_filterMap.1 hx;cases d with
  |S y=>
   obtain rfl:=jL5 e;exact h.short _ hd
  |_=>cases e
theorem jBx(scope:List (BA×Kd)):∀(l:List Nd) (i:Nat) (ks:List Kd),(Zq scope i l ks).2.2=0->(Zq scope i l ks).1.length=ks.length+l.length
 |[],_,_,_=>rfl
 |n::l,i,ks,h=>by
  rw[Zq]at h⊢;split
  ·rename_i h0;rw[jJ6 h0]at h;rw[jBx scope l (i+1) _ h,jJ4,jK6,jK6,jN2];omega
  ·rename_i h0;rw[jJ5 h0]at h;exact absurd h h0
theorem jBy(scope:List (BA×Kd)):∀(l:List Nd) (i:Nat) (ks:List Kd),(Zq scope i l ks).2.2≠0->(Zq scope i l ks).2.1<i+l.length
 |[],_,_,h=>absurd rfl h
 |n::l,i,ks,h=>by
  rw[Zq]at h⊢;split
  ·rename_i h0;rw[jJ6 h0]at h;have:=jBy scope l (i+1) _ h;rw[jK6];omega
  ·rw[jK6];show i<i+(l.length+1);omega
theorem jC8{l:List Nd}{scope:List (BA×Kd)}(h:(ofK l scope).2.2=0):(ofK l scope).1.length=l.length:=by
 unfold ofK at h⊢;split
 ·rename_i h0;rw[jJ6 h0]at h;rw[jBx _ _ _ _ h,jN2,Nat.zero_add]
 ·rename_i h0;rw[jJ5 h0]at h;exact absurd h (by decide)
theorem jC9{l:List Nd}{scope:List (BA×Kd)}(h:(ofK l scope).2.2≠0)(hl:0<l.length):(ofK l scope).2.1<l.length:=by
 unfold ofK at h⊢;split
 ·rename_i h0;rw[jJ6 h0]at h;have:=jBy _ _ _ _ h;omega
 ·exact hl
theorem QI{t:Tre}(h:TSz t)(u:Use):∀n∈kT t u,n.kids.length<=1000000:=fun n hn=>by
 unfold kT at hn;obtain⟨m,hm,rfl⟩:=List.mem_map.1 hn;unfold Ju;rw[jK7];exact h.kl m (List.mem_of_mem_take (List.mem_of_mem_drop hm))
open Go.RowKit
structure CxB(w:World)(t:Tre)(s:Sl)(ns:List MNd)(ps:List MSt):Prop where
 tf:TrF w t s ns ps
 sg:Sg w
 kn:Kn w
 sz:TSz t
 nc:t.nodes.length<=s.nc
section
variable{w W W' :World}{t:Tre}{s:Sl}{ns:List MNd}{ps:List MSt}{g:Nat}{b:BdS}
theorem CxB.old(h:CxB w t s ns ps)(ho:Old w W):CxB W t s ns ps:=⟨h.tf.old ho,h.sg.old ho,h.kn.old ho,h.sz,h.nc⟩
theorem CxB.alone(h:CxB w t s ns ps)(hb:Bx w g t s b)(u:Use)(hu:UseOk t u/\u.root<(t.nodes.length:Int)):Calls prog 178 #[.pointer (some ⟨g,0,none⟩),.agg (Jt u).toArray] w (AlR w (kT t u)):=
 Uk w t s ns ps h.tf g b hb u hu.1.fr0 hu.1.fr hu.2 h.nc (by have:=h.sz.nl;omega) (fun n hn=>by have:=h.sz.kl n hn;omega) (fun n hn k hk=>by have:=h.sz.kk n hn k hk;have:=h.sz.nl;omega)
theorem CxB.scope(h:CxB w t s ns ps)(hb:Bx w g t s b)(u:Use)(hu:UseOk t u/\u.root<(t.nodes.length:Int)):Calls prog 179 #[.pointer (some ⟨g,0,none⟩),iv u.step] w (ScR w (vK t u.step)):=
 Qe w t s ns ps h.tf g b hb u.step hu.1.step h.sz.lA (fun x hx=>(h.sz.pr x hx).1)
theorem Qd(h:TSz t)(step:Int):(vK t step).length<=2000000:=by
 unfold vK;rw[jJ4,jK7];have:=h.lA;split
 ·cases e:t.steps[step.toNat]? with
  |none=>simp;omega
  |some x=>
   have:=(h.pr x (List.mem_of_getElem? e)).1;simp;omega
 ·simp;omega
theorem CxB.of(h:CxB w t s ns ps)(u:Use)(hu:UseOk t u/\u.root<(t.nodes.length:Int)){W0:World}{A:OA}{c:Nat}{xs:List MNd}(hL:AlW W0 (kT t u) A c xs w){sA:OA}{sc:Nat}(hs:Rd w 3 sA (vK t u.step).length ((vK t u.step).flatMap scC)):
  Calls prog 177 #[.slice A xs.length c,.slice sA (vK t u.step).length sc] w (OfR w (ofK (kT t u) (vK t u.step))):=by
 have hk:=QI h.sz u;have hlen:xs.length<=4000000:=by
  have e:xs.length=(kT t u).length:=(by rw[<-hL.e,jK7]);rw[e,JV hu.1.fr0 hu.1.fr hu.2];have:=h.sz.nl;have:=hu.1.fr0;have:=hu.2;omega
 have:=jEe w h.sg h.kn A c xs (Rd.of_own hL.row.own) (fun x hx=>⟨Rd.of_own (hL.k x hx),by have:=hk x.n (by rw[<-hL.e];exact List.mem_map_of_mem hx);omega⟩) hlen sA sc (vK t u.step) hs (by have:=Qd h.sz u.step;omega);rw[hL.e]at this;exact this
end
def jFy(p r:Wr9N):Option (Int×Nat)->Wr9N
 |some x=>kW p x.1 x.2
 |none=>r
theorem ue(t:Tre)(u:Use)(l:List Use)(p:Wr9N):vG t (u::l) p=jFy p (vG t l p) (ZP t u):=by
 rw[vG];cases ZP t u<;>rfl
theorem Xi(w:World)(t:Tre)(s:Sl)(ns:List MNd)(ps:List MSt)(CX:CxB w t s ns ps)(W:World)(hO:Old w W)(g:Nat)(b:BdS)(hb:Bx W g t s b)(hx:Rd W 5 b.xA b.all.length (b.all.flatMap Jt))(GF:∀u∈b.all,UseOk t u/\u.root<(t.nodes.length:Int))(Gp:b.all.length<=2000000000):
  Calls prog 122 #[.pointer (some ⟨g,0,none⟩)] W fun e w' =>e=.returned (.tuple #[])/\BxR W g t s b (vG t b.all b.p) w' :=by
 have c14:=Blk.at_ hb 14 (v:=.slice b.xA b.all.length b.xc) rfl;have Gq:g<W.heap.size:=Blk.lt hb;have NK:=G (CX.old hO);have WH:=G (fun W2 (ho:Old W W2)=>(Blk.old hb ho:Bx W2 g t s b));have V6:=G hx;have Pj:=G GF;have P9:=G Gp;have Fi:=G (show vG t b.all b.p=vG t (b.all.drop 0) b.p from rfl);generalize vG t b.all b.p=R at Fi⊢;have H0:=G (jQ0 NoX W);clear CX hO hb hx GF Gp;go_enter func122,ntmps122;go_wp2;go_loopw [15] (fun i wr=>∃k:Nat,k<=b.all.length/\i=.int .i64 (k:Int)/\Old W wr/\R=vG t (b.all.drop k) b.p) (fun i _=>b.all.length-(intOf i).toNat)
 case atStart=>exact⟨0,Nat.zero_le _,rfl,H0.out,Fi.out⟩
 case round=>
  clear H0 Fi c14;obtain⟨k,hk,rfl,hO,hR⟩:=hrel;by_cases hlt:k<b.all.length
  ·obtain⟨bb,o,hA,hc⟩:=jK (C:=Jt) (fun x=>rfl) (V6.out.old hO) (jJ9 hlt) hlt;have hu:=Pj.out _ (jL6 hlt);rw[jM9 hlt,ue]at hR;generalize b.all[k]=u at*;have h0:wr.cell? ⟨bb,o+k*5,none⟩=some (.int .i64 u.fr):=hc 0 _ rfl;have h1:wr.cell? ⟨bb,o+k*5+1,none⟩=some (.int .i64 u.root):=hc 1 _ rfl;have h2:wr.cell? ⟨bb,o+k*5+2,none⟩=some (.int .i64 u.ahead):=hc 2 _ rfl;have h3:wr.cell? ⟨bb,o+k*5+3,none⟩=some (.int .i64 u.step):=hc 3 _ rfl;have h4:wr.cell? ⟨bb,o+k*5+4,none⟩=some (.int .i64 u.lays):=hc 4 _ rfl;have i1:(0:Int)<=(k:Int):=(by omega);have i2:(k:Int).toNat=k:=(by omega);have i3:(k:Int)<(b.all.length:Int):=(by omega);have i4:IntKind.i64.wrap ((k:Int)+1)=(k:Int)+1:=jQ3 _ (by have:=P9.out;omega);have GI:Old W (wr.alloc (.cells #[.int .i64 u.fr,.int .i64 u.root,.int .i64 u.ahead,.int .i64 u.step,.int .i64 u.lays] 256)):=hO.alloc _;have hB:=jQ2 wr 256 #[.int .i64 u.fr,.int .i64 u.root,.int .i64 u.ahead,.int .i64 u.step,.int .i64 u.lays];have PP:=G GI;have LC:=G hB;have Hu:=G hu;have HR:=G hR;have F8:=G hlt;rw[hA];clear hA hc hR hO hlt hk hu GI hB;go_upto_region 3 with fail;generalize wr.alloc (.cells #[.int .i64 u.fr,.int .i64 u.root,.int .i64 u.ahead,.int .i64 u.step,.int .i64 u.lays] 256)=wq at*;generalize wr.heap.size=q at*;clear h0 h1 h2 h3 h4;have HS:=G (fun w2 (ho:Old wq w2)=>(⟨(LC.out.old ho).at_ 0 rfl,(LC.out.old ho).at_ 1 rfl,(LC.out.old ho).at_ 2 rfl,(LC.out.old ho).at_ 3 rfl,(LC.out.old ho).at_ 4 rfl⟩:w2.cell? ⟨q,0,none⟩=some (.int .i64 u.fr)/\w2.cell? ⟨q,1,none⟩=some (.int .i64 u.root)/\w2.cell? ⟨q,2,none⟩=some (.int .i64 u.ahead)/\w2.cell? ⟨q,3,none⟩=some (.int .i64 u.step)/\w2.cell? ⟨q,4,none⟩=some (.int .i64 u.lays)));have TD:=G (fun W2 (ho:Old wq W2)=>CxB.alone (NK.out.old (jM PP.out ho)) (WH.out W2 (jM PP.out ho)) u Hu.out);have Eo:=G (fun W2 (ho:Old wq W2)=>CxB.scope (NK.out.old (jM PP.out ho)) (WH.out W2 (jM PP.out ho)) u Hu.out);have Ts:=G (fun W2 (ho:Old wq W2) W0 A c xs hL sA sc hs=>CxB.of (NK.out.old (jM PP.out ho)) u Hu.out (W0:=W0) (A:=A) (c:=c) (xs:=xs) hL (sA:=sA) (sc:=sc) hs);unfold Jt iv at TD;unfold iv at Eo;have FS:=G (show Old wq wq.drew from(jQ0 _ _).drew);obtain⟨r,hr⟩:∃r,r=ofK (kT t u) (vK t u.step):=⟨_,rfl⟩;rw[<-hr]at Ts;have Lv:=G hr;clear hr;go_cut [4,5,6]from 19 to 30 (fun v4 v5 v6 wx=>∃A c,v4=.slice A r.1.length c/\v5=.int .i64 (r.2.1:Int)/\v6=.int .i64 (r.2.2:Int)/\Rd wx 2 A r.1.length (r.1.flatMap kdC)/\Old wq wx)
   case first=>
    go_region_held3 (fun w' =>w'.cell? ⟨q,0,none⟩=some (.int .i64 u.fr)/\w'.cell? ⟨q,1,none⟩=some (.int .i64 u.root)/\w'.cell? ⟨q,2,none⟩=some (.int .i64 u.ahead)/\w'.cell? ⟨q,3,none⟩=some (.int .i64 u.step)/\w'.cell? ⟨q,4,none⟩=some (.int .i64 u.lays)) (exact HS.out _ FS.out)
     (first
      |(go_at_call 178;refine(TD.out _ FS.out).mono ?_;rintro e w1 ⟨A1,c1,xs,rfl,hX⟩;have HX:=G hX;(try (have HC:=G (HC.out.old hX.row.old)));have FS:=G (jM FS.out hX.row.old);clear hX)
      |(go_at_call 179;refine(Eo.out _ FS.out).mono ?_;rintro e w1 ⟨A2,c2,rfl,hC,hY⟩;have HC:=G hC;(try (have HX:=G (HX.out.keep hY)));have FS:=G (jM FS.out hY);clear hC hY)
      |(go_at_call 177;refine(Ts.out _ FS.out _ _ _ _ HX.out _ _ HC.out).mono ?_;rintro e w1 ⟨A3,c3,rfl,hF,hZ⟩;have FS:=G (jM FS.out hZ);have HF:=G hF;clear hF hZ))
    all_goals
     go_wp2;go_meet;exact⟨A3,c3,rfl,rfl,rfl,HF.out,FS.out⟩
   case rest=>
    obtain⟨A3,c3,rfl,rfl,rfl,hF,RZ⟩:=hcut;have HF:=G hF;have S7:Old W wc:=jM PP.out RZ;have Cz:=G S7;have Mt:=WH.out wc S7;have c7:=Blk.at_ Mt 7 (v:=.slice s.oA t.ats.length s.oc) rfl;have c2:=Blk.at_ Mt 2 (v:=.slice s.aA t.attrs.length s.ac) rfl;have MH:g<wc.heap.size:=Blk.lt Mt;have R7:q<wc.heap.size:=(LC.out.old RZ).lt;obtain⟨q0,q1,q2,q3,q4⟩:=HS.out wc RZ;have Py:=JV Hu.out.1.fr0 Hu.out.1.fr Hu.out.2;have hf:=Hu.out.1.fr;have RI:=Hu.out.1.fr0;have GY:=Hu.out.2;have LV:=NK.out.sz.ats;have Nj:=NK.out.sz.nl;have No:=G (show Old wc wc.drew from(jQ0 _ _).drew);by_cases he:r.2.2=0
    ·have hlen:r.1.length=(kT t u).length:=by rw[Lv.out]at he⊢;exact jC8 he
     have MB:r.1.length-1<r.1.length:=(by omega);obtain⟨kb,ko,Wa,X9⟩:=jK (C:=kdC) (fun x=>rfl) hF (jJ9 MB) MB;have Dl:r.1.getLastD (0,false)=r.1[r.1.length-1]:=by rw[List.getLastD_eq_getLast?,List.getLast?_eq_getElem?,jJ9 MB];rfl
     have hK:ZP t u=if jB5 t u (r.1.getLastD (0,false))=true then none else some (t.ats.getD u.root.toNat 0,100):=by
      unfold ZP;rw[<-Lv.out,jJ5 (by omega)]
     rw[Dl]at hK;generalize r.1[r.1.length-1]=la at*;obtain⟨la,lo⟩:=la;have k0:wc.cell? ⟨kb,ko+(r.1.length-1)*2,none⟩=some (.int .i64 la):=X9 0 _ rfl;have k1:wc.cell? ⟨kb,ko+(r.1.length-1)*2+1,none⟩=some (.bool lo):=X9 1 _ rfl;have k2:IntKind.i64.wrap ((r.1.length:Int)-1)=(r.1.length:Int)-1:=jQ3 _ (by omega);have k3:0<=(r.1.length:Int)-1:=(by omega);have k4:(r.1.length:Int)-1<(r.1.length:Int):=(by omega);have HK:=G hK;rw[Wa,he];clear Wa X9 Dl hlen MB hF HF Py he hK;go_upto_region 7 with fail;have B8:=jQ2 wc 81 #[.int .i64 la,.bool lo];have L1:=G (show Old wc (wc.alloc (.cells #[.int .i64 la,.bool lo] 81))from(jQ0 _ _).alloc _);generalize wc.alloc (.cells #[.int .i64 la,.bool lo] 81)=w8 at*;generalize wc.heap.size=q8 at*;have CU:=G B8;have d0:=B8.at_ 0 (v:=.int .i64 la) rfl;have d1:=B8.at_ 1 (v:=.bool lo) rfl;have d2:=B8.lt;clear B8 k0 k1 k2 k3 k4;generalize wc=wd at*;go_cut [8]from 53 to 55 (fun v wx=>v=.bool (decide ((la,lo)=((2,false):Kd)))/\wx=w8)
     case first=>
      have ways:(la==2)=true/\la=2\/(la==2)=false/\la≠2:=by
       by_cases e:la=2
       ·exact .inl ⟨beq_iff_eq.2 e,e⟩
       ·exact .inr ⟨jM3 e,e⟩
      rcases ways with⟨y1,y2⟩|⟨y1,y2⟩
      ·subst y2;cases lo
       all_goals
        go_wp2;go_meet;exact⟨rfl,rfl⟩
      ·have y3:decide ((la,lo)=((2,false):Kd))=false:=jK3 (fun e=>y2 (congrArg Prod.fst e));have HY:=G y3;clear y2 y3;cases lo
       all_goals
        go_wp2;go_meet;exact⟨by rw[HY.out],rfl⟩
     case rest=>
      obtain⟨rfl,TN⟩:=hcut;subst TN;have Mm:=G (show Old W wc from jM Cz.out L1.out);have CT:=G (WH.out wc Mm.out);have e7:=Blk.at_ CT.out 7 (v:=.slice s.oA t.ats.length s.oc) rfl;have e2:=Blk.at_ CT.out 2 (v:=.slice s.aA t.attrs.length s.ac) rfl;have e1:=jD q1 L1.out;have e4:=jD q4 L1.out;have RC:g<wc.heap.size:=Blk.lt CT.out;have TV:q<wc.heap.size:=jU e4;have WD:=G (And.intro hf (And.intro RI (And.intro GY (And.intro LV Nj))));clear c7 c2 q0 q1 q2 q3 q4 MH R7 hf RI GY LV Nj Mt RZ S7 No L1;generalize wc=we at*
      go_upto_if 58 with fail
      go_cut [8]from 56 to 74 (fun v wx=>v=.bool (jB5 t u (la,lo))/\Old we wx)
      case first=>
       by_cases h0:0<=u.lays
       ·have Iy:=Hu.out.1.lays;have Wi:u.lays.toNat<t.attrs.length:=(by omega);obtain⟨ab,ao,DF,N8⟩:=jK (C:=atC) (fun x=>rfl) (NK.out.tf.rA.old Mm.out) (jJ9 Wi) Wi;have CP:=G (show jB5 t u (la,lo)=jBF (la,lo) (t.attrs[u.lays.toNat].kind,t.attrs[u.lays.toNat].opt)by unfold jB5;rw[jJ6 h0,jJ9 Wi];rfl);generalize t.attrs[u.lays.toNat]=y at*;have a0:we.cell? ⟨ab,ao+u.lays.toNat*7,none⟩=some (.string y.name):=N8 0 _ rfl;have a1:we.cell? ⟨ab,ao+u.lays.toNat*7+1,none⟩=some (.int .i64 y.at_):=N8 1 _ rfl;have a2:we.cell? ⟨ab,ao+u.lays.toNat*7+2,none⟩=some (.int .i64 y.order):=N8 2 _ rfl;have a3:we.cell? ⟨ab,ao+u.lays.toNat*7+3,none⟩=some (.int .i64 y.kind):=N8 3 _ rfl;have a4:we.cell? ⟨ab,ao+u.lays.toNat*7+4,none⟩=some (.bool y.opt):=N8 4 _ rfl;have a5:we.cell? ⟨ab,ao+u.lays.toNat*7+5,none⟩=some (.int .i64 y.dflt):=N8 5 _ rfl;have a6:we.cell? ⟨ab,ao+u.lays.toNat*7+6,none⟩=some (.int .i64 y.when_):=N8 6 _ rfl;have abl:ab<we.heap.size:=jU a0;have CQ:=G (fun W2 (ho:Old we W2)=>jBE W2 (NK.out.kn.old (jM Mm.out ho)) (la,lo) (y.kind,y.opt));unfold kdV at CQ;simp only at CQ;rw[DF]at e2;clear DF N8 Wi;go_wp2
        try go_region
        all_goals (try go_wp2_with (first|(go_at_call 27;refine(CQ.out _ ?_).mono ?_;(first|exact((jQ0 _ _).alloc _).drew|exact(jQ0 _ _).drew.alloc _ |exact(jQ0 _ _).alloc _);rintro e w9 ⟨rfl,hX⟩;have BE:=G hX;clear hX)|fail))
        all_goals go_meet
        all_goals exact⟨by rw[CP.out],jM (by first|exact((jQ0 _ _).alloc _).drew|exact(jQ0 _ _).drew.alloc _ |exact(jQ0 _ _).alloc _) BE.out⟩
       ·have CP:=G (show jB5 t u (la,lo)=(decide (la=2)&& !lo)by unfold jB5;rw[jJ5 h0];simp);go_wp2;go_meet;exact⟨(congrArg Value.bool CP.out).symm,jQ0 _ _⟩
      case rest=>
       obtain⟨rfl,RY⟩:=hcut;have Tt:=G (jM Mm.out RY);have Hi:=HK.out;cases hfit:jB5 t u (la,lo)with
       |true=>
        rw[hfit,jJ6 rfl]at Hi;have Fy:=G (show R=vG t (b.all.drop (k+1)) b.p by rw[HR.out,Hi];rfl);clear e7 e2 e1 e4 d0 d1 d2 RY Hi hfit;go_wp2;exact⟨⟨k+1,by have:=F8.out;omega,by rw[show((k+1:Nat):Int)=(k:Int)+1 by omega],Tt.out,Fy.out⟩,by have:=F8.out;simp only[intOf];omega⟩
       |false=>
        rw[hfit,jJ5 (by decide)]at Hi;have Wc:u.root.toNat<t.ats.length:=by have:=WD.out;omega
        obtain⟨ob,oo,v,hA,hv,hc⟩:=(NK.out.tf.rO.old Tt.out).at_ Wc;rw[jM1,jJ9 Wc]at hv;obtain rfl:=jL5 hv;have Fy:=G (show R=kW b.p t.ats[u.root.toNat] 100 by rw[HR.out,Hi,List.getD,jJ9 Wc];rfl);generalize t.ats[u.root.toNat]=av at*;have f7:=jD e7 RY;have f1:=jD e1 RY;have k2:0<=u.root:=by have:=WD.out;omega
        have k3:u.root<(t.ats.length:Int):=by have:=WD.out;omega
        have hc:wc.cell? ⟨ob,oo+u.root.toNat,none⟩=some (.int .i64 av):=hc;have No:=G (show Old wc wc.drew from(jQ0 _ _).drew);have V3:=G (kH wc.drew g t s b (WH.out _ (jM Tt.out No.out)) av 100);have c7:=jD f7 No.out;have c1:=jD f1 No.out;have cc:=jD hc No.out;have Y2:g<wc.drew.heap.size:=jU c7;have Ai:q<wc.drew.heap.size:=jU c1;have As:ob<wc.drew.heap.size:=jU cc;rw[hA]at c7;clear e7 e2 e1 e4 d0 d1 d2 RY Hi hfit f7 f1 hc hA Wc RC TV;unfold iv at V3;go_upto_region 12 with fail;refine wp_region_still_tail 10 Tryz.mixed (by kernel_rfl) ?_;simp only[List.take_succ_cons,List.take_zero,List.drop_succ_cons,List.drop_zero];show wpStill prog _ wc.drew _ _ _
        repeat still_step
        refine wpStill_nil ?_;go_wp2_with (first|(go_at_call 171;refine V3.out.mono ?_;rintro e w5 ⟨rfl,hX⟩;have Sw:=G hX;clear hX)|fail);refine bodyPost_ret (results_none rfl _ _ _) rfl ?_;rw[Fy.out];exact⟨rfl,Sw.out.1,(Tt.out.mono (fun _ _ e=>e.elim)).trans ((No.out.mono (fun _ _ e=>e.elim)).trans Sw.out.2 (fun _ _ e=>e)) (fun _ _ e=>e)⟩
    ·have G8:r.2.1<(kT t u).length:=by rw[Lv.out]at he⊢;exact jC9 he (by omega)
     have Wc:u.fr.toNat+r.2.1<t.ats.length:=(by omega);obtain⟨ob,oo,v,hA,hv,hc⟩:=(NK.out.tf.rO.old S7).at_ Wc;rw[jM1,jJ9 Wc]at hv;obtain rfl:=jL5 hv;have hK:ZP t u=some (t.ats[u.fr.toNat+r.2.1],r.2.2):=by
      unfold ZP;rw[<-Lv.out,jJ6 he,List.getD,jJ9 Wc];rfl
     have Fy:=G (show R=kW b.p t.ats[u.fr.toNat+r.2.1] r.2.2 by rw[HR.out,hK];rfl);have Do:(u.fr+(r.2.1:Int)).toNat=u.fr.toNat+r.2.1:=(by omega);generalize t.ats[u.fr.toNat+r.2.1]=av at*;rw[<-Do]at hc;have hc:wc.cell? ⟨ob,oo+(u.fr+(r.2.1:Int)).toNat,none⟩=some (.int .i64 av):=hc;have k1:IntKind.i64.wrap (u.fr+(r.2.1:Int))=u.fr+(r.2.1:Int):=jQ3 _ (by omega);have k2:0<=u.fr+(r.2.1:Int):=(by omega);have k3:u.fr+(r.2.1:Int)<(t.ats.length:Int):=(by omega);have k4:(((r.2.2:Nat):Int)==0)=false:=jM3 (by omega);have Mh:=G (fun W2 (ho:Old wc W2)=>kH W2 g t s b (WH.out W2 (jM Cz.out ho)) av r.2.2);have Ep:=G (fun w2 (ho:Old wc w2)=>(⟨jD c7 ho,jD q0 ho,jD hc ho⟩:w2.cell? ⟨g,7,none⟩=some (.slice s.oA t.ats.length s.oc)/\w2.cell? ⟨q,0,none⟩=some (.int .i64 u.fr)/\w2.cell? ⟨ob,oo+(u.fr+(r.2.1:Int)).toNat,none⟩=some (.int .i64 av)));rw[hA]at c7 Ep;have IL:=G (show t.ats.length=t.ats.length from rfl);clear hA hK G8 Wc he hF RZ S7 Mt Py hf RI GY LV Nj Do;unfold iv at Mh;go_upto_region 5 with fail;refine wp_region_still_tail 13 Tryz.mixed (by kernel_rfl) ?_;simp only[List.take_succ_cons,List.take_zero,List.drop_succ_cons,List.drop_zero];show wpStill prog _ wc.drew _ _ _;obtain⟨c7,q0,hc⟩:=Ep.out _ No.out;have V3:=G (Mh.out _ No.out);clear Mh c2 q1 q2 q3 q4
     repeat still_step
     refine wpStill_nil ?_;go_wp2_with (first|(go_at_call 171;refine V3.out.mono ?_;rintro e w5 ⟨rfl,hX⟩;have Sw:=G hX;clear hX)|fail);refine bodyPost_ret (results_none rfl _ _ _) rfl ?_;rw[Fy.out];exact⟨rfl,Sw.out.1,(Cz.out.mono (fun _ _ e=>e.elim)).trans ((No.out.mono (fun _ _ e=>e.elim)).trans Sw.out.2 (fun _ _ e=>e)) (fun _ _ e=>e)⟩
  ·obtain rfl:k=b.all.length:=(by omega);rw[List.drop_length]at hR;have HR:=G (show R=b.p from hR);have HO:=G hO;clear hR hO hlt hk;go_wp2;go_end0;rw[HR.out];exact⟨rfl,WH.out _ HO.out,HO.out.mono (fun _ _ e=>e.elim)⟩
structure PmB(w:World)(t:Tre)(b:BdS):Prop where
 m1:MW w b.b1 1000000 (jW t.nA)
 m2:MW w b.b2 1000000 (jW t.nG)
 m3:MW w b.b3 1000000 (jW t.nM)
theorem PmB.old{w w' :World}{t:Tre}{b:BdS}(h:PmB w t b)(ho:Old w w'):PmB w' t b:=⟨h.m1.old ho,h.m2.old ho,h.m3.old ho⟩
theorem jAu{t:Tre}{n:Nd}{u:Use}(h1:n.op≠25)(h2:n.op≠26):Kv t n u=if 0<=u.ahead then decide (0<=jC t.nA n.name)&&decide (jC t.nA n.name<u.ahead)else if jC t.nA n.name<0/\0<=u.step then(((t.steps[u.step.toNat]?).map fun s=>s.params.any fun p=>decide (p.name=n.name)).getD false)else decide (0<=jC t.nA n.name):=by
 unfold Kv;rw[jJ5 h1,jJ5 h2]
theorem UL(a b:BA):((a.toList==b.toList)=true/\a=b)\/((a.toList==b.toList)=false/\a≠b):=by
 by_cases e:a=b
 ·exact .inl ⟨by rw[e];exact beq_self_eq_true _,e⟩
 ·refine .inr ⟨?_,e⟩;rw[beq_eq_false_iff_ne];intro h;exact e (by rw[ByteArray.toList_eq,ByteArray.toList_eq]at h;cases a;cases b;congr 1;exact Array.toList_inj.1 h)
theorem Xh(w:World)(t:Tre)(s:Sl)(ns:List MNd)(ps:List MSt)(TF:TrF w t s ns ps)(sz:TSz t)(g:Nat)(b:BdS)(hb:Bx w g t s b)(hP:PmB w t b)(x:MNd)(NL:x.n.name.size<=1000000)(u:Use)(hu:UseOk t u):
  Calls prog 176 #[.pointer (some ⟨g,0,none⟩),.agg (ndC x).toArray,.agg (Jt u).toArray] w fun e w' =>e=.returned (.bool (Kv t x.n u))/\Old w w' :=by
 have Pm:=G (fun W (ho:Old w W)=>qP W g t s b (Blk.old hb ho) t.nA 1000000 (hP.m1.old ho) x.n.name (by omega));have Mx:=G (fun W (ho:Old w W)=>qO W g t s b (Blk.old hb ho) t.nG 1000000 (hP.m2.old ho) x.n.name (by omega));have Tq:=G (fun W (ho:Old w W)=>jCj W g t s b (Blk.old hb ho) t.nM 1000000 (hP.m3.old ho) x.n.name (by omega));have HT:=G (fun W (ho:Old w W)=>TF.old ho);have Mi:=G TF;have HB:=G (fun W (ho:Old w W)=>(Blk.old hb ho:Blk W g _ _));have Gq:g<w.heap.size:=Blk.lt hb;have FA:=G sz;have Hu:=G hu;obtain⟨R,hR⟩:∃R,R=Kv t x.n u:=⟨_,rfl⟩;rw[<-hR];obtain⟨⟨op,name,vk,vn,vt,vs,kids⟩,A,c,vA,vc⟩:=x;obtain⟨fr,root,ahead,step,lays⟩:=u;simp only at Pm Mx Tq hR;clear TF sz hb hP NL hu;unfold ndC Jt iv;unfold iv at Pm Mx Tq;have Gd:=G (show Old w ((w.alloc (.cells #[.int .i64 op,.string name,.int .i64 vk,.int .i64 vn,.string vt,.slice vA vs.length vc,.slice A kids.length c] 146)).alloc (.cells #[.int .i64 fr,.int .i64 root,.int .i64 ahead,.int .i64 step,.int .i64 lays] 256))from((jQ0 _ _).alloc _).alloc _);by_cases h25:op=25
 ·subst h25;replace hR:R=(decide (ahead<0)&&decide (0<=jC t.nG name)):=by rw[hR];rfl
  by_cases ha:ahead<0
  ·have Fy:=G (show R=decide (0<=jC t.nG name)by rw[hR,jK5 ha,Bool.true_and]);clear hR;generalize jC t.nG name=pl at*;go_enter func176,ntmps176;go_wp2_with (first|(go_at_call 173;refine(Mx.out _ Gd.out).mono ?_;rintro e w2 ⟨rfl,rfl⟩)|fail);go_ret;exact⟨by rw[Fy.out];rfl,Gd.out⟩
  ·have Fy:=G (show R=false by rw[hR,jK3 ha,Bool.false_and]);clear hR;go_enter func176,ntmps176;go_wp2;go_ret;exact⟨by rw[Fy.out];rfl,Gd.out⟩
 by_cases h26:op=26
 ·subst h26;replace hR:R=(decide (ahead<0)&&decide (0<=jC t.nM name)):=by rw[hR];rfl
  by_cases ha:ahead<0
  ·have Fy:=G (show R=decide (0<=jC t.nM name)by rw[hR,jK5 ha,Bool.true_and]);clear hR;generalize jC t.nM name=pl at*;go_enter func176,ntmps176;go_wp2_with (first|(go_at_call 173;refine(Tq.out _ Gd.out).mono ?_;rintro e w2 ⟨rfl,rfl⟩)|fail);go_ret;exact⟨by rw[Fy.out];rfl,Gd.out⟩
  ·have Fy:=G (show R=false by rw[hR,jK3 ha,Bool.false_and]);clear hR;go_enter func176,ntmps176;go_wp2;go_ret;exact⟨by rw[Fy.out];rfl,Gd.out⟩
 have b25:(op==25)=false:=jM3 h25;have b26:(op==26)=false:=jM3 h26;rw[jAu h25 h26]at hR;simp only at hR;clear h25 h26 Mx Tq;by_cases ha:0<=ahead
 ·rw[jJ6 ha]at hR;generalize jC t.nA name=pl at*;by_cases hp:0<=pl
  ·have Fy:=G (show R=decide (pl<ahead)by rw[hR,jK5 hp,Bool.true_and]);clear hR;go_enter func176,ntmps176;go_wp2_with (first|(go_at_call 173;refine(Pm.out _ Gd.out).mono ?_;rintro e w2 ⟨rfl,rfl⟩)|fail);go_ret;exact⟨by rw[Fy.out];rfl,Gd.out⟩
  ·have Fy:=G (show R=false by rw[hR,jK3 hp,Bool.false_and]);clear hR;go_enter func176,ntmps176;go_wp2_with (first|(go_at_call 173;refine(Pm.out _ Gd.out).mono ?_;rintro e w2 ⟨rfl,rfl⟩)|fail);go_ret;exact⟨by rw[Fy.out];rfl,Gd.out⟩
 ·rw[jJ5 ha]at hR;generalize jC t.nA name=pl at*;by_cases hp:0<=pl
  ·have Fy:=G (show R=true by rw[hR,jJ5 (fun h=>absurd h.1 (by omega)),jK5 hp]);clear hR;go_enter func176,ntmps176;go_wp2_with (first|(go_at_call 173;refine(Pm.out _ Gd.out).mono ?_;rintro e w2 ⟨rfl,rfl⟩)|fail);go_ret;exact⟨by rw[Fy.out];rfl,Gd.out⟩
  ·have FW:pl<0:=(by omega);by_cases hs:0<=step
   ·rw[jJ6 ⟨FW,hs⟩]at hR;have Nq:step.toNat<t.steps.length:=by have:=Hu.out.step;simp only at this;omega
    have Gt:ps.length=t.steps.length:=(by rw[<-Mi.out.pe,jK7]);obtain⟨bb,o,hA,hc⟩:=jK (C:=stC) (fun x=>rfl) Mi.out.rP (jJ9 (show step.toNat<ps.length by omega)) Nq;have R9:=Mi.out.po _ (jL6 (show step.toNat<ps.length by omega));have GZ:ps[step.toNat].s=t.steps[step.toNat]:=(by simp only[<-Mi.out.pe,List.getElem_map]);have NP:=(FA.out.pr _ (jL6 Nq)).1;have Fy:=G (show R=(t.steps[step.toNat].params.drop 0).any (fun p=>decide (p.name=name))by rw[hR,jJ9 Nq];rfl);rw[<-GZ]at Fy NP;generalize ps[step.toNat]=x at*;have h3:w.cell? ⟨bb,o+step.toNat*8+3,none⟩=some (.slice x.pA x.s.params.length x.pc):=hc 3 _ rfl;have c5:=Blk.at_ (HB.out _ (jQ0 _ _)) 5 (v:=.slice s.pA t.steps.length s.pc) rfl;have Cw:=G (fun W (ho:Old w W)=>R9.1.old ho);have V9:=G NP;have i3:step<(t.steps.length:Int):=by have:=Hu.out.step;simp only at this;omega
    have bbl:bb<w.heap.size:=jU h3;have n0:¬0<=pl:=hp;rw[hA]at c5;have Gj:=G (show Blk ((w.alloc (.cells #[.int .i64 op,.string name,.int .i64 vk,.int .i64 vn,.string vt,.slice vA vs.length vc,.slice A kids.length c] 146)).alloc (.cells #[.int .i64 fr,.int .i64 root,.int .i64 ahead,.int .i64 step,.int .i64 lays] 256)) w.heap.size 146 #[.int .i64 op,.string name,.int .i64 vk,.int .i64 vn,.string vt,.slice vA vs.length vc,.slice A kids.length c]from(jQ2 w _ _).alloc _);clear hR hc hA R9 GZ NP Gt Nq;go_enter func176,ntmps176;go_wp2_with (first|(go_at_call 173;refine(Pm.out _ Gd.out).mono ?_;rintro e w2 ⟨rfl,rfl⟩)|fail);go_quiet (fail);go_wp2;generalize (w.alloc (.cells #[.int .i64 op,.string name,.int .i64 vk,.int .i64 vn,.string vt,.slice vA vs.length vc,.slice A kids.length c] 146)).alloc (.cells #[.int .i64 fr,.int .i64 root,.int .i64 ahead,.int .i64 step,.int .i64 lays] 256)=w2 at*;have H2:=G (show Old w2 (w2.drewN nq)from(jQ0 _ _).drewN _);go_loopw [69] (fun i wr=>∃k:Nat,k<=x.s.params.length/\i=.int .i64 (k:Int)/\Old w2 wr/\R=(x.s.params.drop k).any (fun p=>decide (p.name=name))) (fun i _=>x.s.params.length-(intOf i).toNat)
    case atStart=>exact⟨0,Nat.zero_le _,rfl,H2.out,Fy.out⟩
    case round=>
     obtain⟨k,hk,rfl,hO,GU⟩:=hrel;have n1:=(Gj.out.old hO).at_ 1 (v:=.string name) rfl;have n2:w.heap.size<wr.heap.size:=(Gj.out.old hO).lt;clear c5 h3 Fy H2;by_cases hlt:k<x.s.params.length
     ·obtain⟨bb,o,hA,hc⟩:=jK (C:=prC) (fun x=>rfl) (Cw.out _ (jM Gd.out hO)) (jJ9 hlt) hlt;rw[jM9 hlt,List.any_cons]at GU;generalize x.s.params[k]=y at*;have h0:wr.cell? ⟨bb,o+k*3,none⟩=some (.string y.name):=hc 0 _ rfl;have h1:wr.cell? ⟨bb,o+k*3+1,none⟩=some (.int .i64 y.at_):=hc 1 _ rfl;have h2:wr.cell? ⟨bb,o+k*3+2,none⟩=some (.int .i64 y.kind):=hc 2 _ rfl;have i1:(0:Int)<=(k:Int):=(by omega);have i2:(k:Int).toNat=k:=(by omega);have i3:(k:Int)<(x.s.params.length:Int):=(by omega);have i4:IntKind.i64.wrap ((k:Int)+1)=(k:Int)+1:=jQ3 _ (by have:=V9.out;omega);have F8:=G hlt;have We:=G (show Old w2 (wr.alloc (.cells #[.string y.name,.int .i64 y.at_,.int .i64 y.kind] 68))from hO.alloc _);rw[hA];rcases UL y.name name with⟨e1,e2⟩|⟨e1,e2⟩
      ·have Nx:=G (show R=true by rw[GU,jK5 e2,Bool.true_or]);clear GU hc hA hlt hk hO e2;go_wp2;go_ret;exact⟨by rw[Nx.out];rfl,jM Gd.out We.out⟩
      ·have Nx:=G (show R=(x.s.params.drop (k+1)).any (fun p=>decide (p.name=name))by rw[GU,jK3 e2,Bool.false_or]);clear GU hc hA hlt hk hO e2;go_wp2;exact⟨⟨k+1,by have:=F8.out;omega,by rw[show((k+1:Nat):Int)=(k:Int)+1 by omega],We.out,Nx.out⟩,by have:=F8.out;simp only[intOf];omega⟩
     ·obtain rfl:k=x.s.params.length:=(by omega);have Nx:=G (show R=decide (0<=pl)by rw[GU,List.drop_length,jK3 (show¬0<=pl by omega)];rfl);have Ts:=G (jM Gd.out hO);clear GU hO hlt hk;go_wp2;go_ret;exact⟨by rw[Nx.out];rfl,Ts.out⟩
   ·have Fy:=G (show R=decide (0<=pl)by rw[hR,jJ5 (fun h=>hs h.2)]);clear hR;go_enter func176,ntmps176;go_wp2_with (first|(go_at_call 173;refine(Pm.out _ Gd.out).mono ?_;rintro e w2 ⟨rfl,rfl⟩)|fail);go_ret;exact⟨by rw[Fy.out];rfl,Gd.out⟩
open Go.Maps (has IsMap)
structure MapN{κ:Type}(key:κ->Lit)(D:DM)(f:κ->Int):Prop where
 is:IsMap D
 at_:∀s,D.atKey (key s) (.lit (.int .i64 0))=.lit (.int .i64 (f s))
theorem MapN.empty{κ:Type}(key:κ->Lit):MapN key (.map []) (fun _=>0):=⟨Maps.isMap_empty,fun _=>rfl⟩
theorem MapN.put{κ:Type}[DecidableEq κ]{key:κ->Lit}(inj:∀a b,key a=key b->a=b)(hl:∀a,WideAt.IsKeyLit (key a)){D:DM}{f:κ->Int}(h:MapN key D f)(x:κ)(v:Int):MapN key (D.put (key x) (.lit (.int .i64 v))) (fun s=>if s=x then v else f s):=by
 refine⟨h.is.put _ _,fun s=> ?_⟩;by_cases e:s=x
 ·subst e;rw[jJ6 rfl,Maps.atKey_put_same h.is (hl s)]
 ·rw[jJ5 e,Maps.atKey_put_other (fun he=>e (inj _ _ he)),h.at_]
theorem MapN.congr{κ:Type}{key:κ->Lit}{D:DM}{f g:κ->Int}(h:MapN key D f)(e:∀s,f s=g s):MapN key D g:=⟨h.is,fun s=>by rw[<-e];exact h.at_ s⟩
def MapC{κ:Type}(P:Program)(k e:TypeId)(key:κ->Lit)(w:World)(b n:Nat)(f:κ->Int):Prop:=∃D:DM,w.ownsMap P k (plainElem P e) b n D/\MapN key D f
section
variable{κ:Type}{P:Program}{k e:TypeId}{key:κ->Lit}{w:World}{b n:Nat}{f:κ->Int}
theorem MapC.lt(h:MapC P k e key w b n f):b<w.heap.size:=by
 obtain⟨D,h,_⟩:=h;exact h.lt
theorem MapC.same{w' :World}(h:MapC P k e key w b n f)(hb:w'.heap[b]? =w.heap[b]?):MapC P k e key w' b n f:=by
 obtain⟨D,⟨es,clock,h1,h2⟩,hr⟩:=h;exact⟨D,⟨es,clock,hb.trans h1,h2⟩,hr⟩
theorem MapC.congr(h:MapC P k e key w b n f){g:κ->Int}(hg:∀s,f s=g s):MapC P k e key w b n g:=by
 obtain⟨D,h,hr⟩:=h;exact⟨D,h,hr.congr hg⟩
end
def VE{κ:Type}[DecidableEq κ](l:List κ)(s:κ):Int:=(l.countP (fun y=>decide (y=s)):Nat)
theorem jFT{κ:Type}[DecidableEq κ](s:κ):VE ([]:List κ) s=0:=rfl
theorem VD{κ:Type}[DecidableEq κ](l:List κ)(x s:κ):VE (l++[x]) s=if s=x then VE l x+1 else VE l s:=by
 unfold VE;rw[List.countP_append,List.countP_singleton];by_cases e:s=x
 ·subst e;rw[jJ6 rfl,jJ6 (jK5 rfl)];omega
 ·rw[jJ5 e,jJ5 (by simpa using fun h=>e h.symm)];omega
theorem xl{κ:Type}[DecidableEq κ](l:List κ)(s:κ):l.any (fun y=>decide (y=s))=decide (0<VE l s):=by
 unfold VE;rw[Bool.eq_iff_iff,decide_eq_true_iff,List.any_eq_true,Int.natCast_pos,List.countP_pos_iff]
theorem UX{κ:Type}[DecidableEq κ](l:List κ)(s:κ):0<=VE l s/\VE l s<=(l.length:Int):=by
 unfold VE;have:=List.countP_le_length (p:=fun y=>decide (y=s)) (l:=l);omega
theorem jBV(l:List (BA×Bool))(x:BA)(b:Bool):(l.any fun y=>decide (y.1=x)&&decide (y.2=b))=decide (0<VE l (x,b)):=by
 rw[<-xl]
 congr 1
 funext y
 obtain⟨y1,y2⟩:=y;by_cases h1:y1=x<;>by_cases h2:y2=b<;>simp[h1,h2]
def kE(e:BA×Bool):Lit:=.string (keyBytes [.string e.1.data.toList,.bool e.2])
theorem zm:∀(w n:Nat),(bytesLE w n).length=w
 |0,_=>rfl
 |w+1,n=>by rw[bytesLE,jK6,zm w]
theorem jEt(a b:BA×Bool)(h:kE a=kE b):a=b:=by
 unfold kE keyBytes at h;injection h with h;simp only[jL9,List.flatMap_nil,jN7,Lit.keyBytes,jK1]at h;have hl:=congrArg List.length h;simp only[jJ4,bytesBE,List.length_reverse,zm,jK6,jN2]at hl;have h2:=List.append_inj h (by simp[bytesBE,zm]);have h3:=List.append_inj h2.2 (by omega);obtain⟨a1,a2⟩:=a;obtain⟨b1,b2⟩:=b;have e1:a1=b1:=by
  have:=h3.1;simp only at this;cases a1;cases b1
  congr 1
  exact Array.toList_inj.1 this
 have e2:a2=b2:=by
  have:=h3.2;cases a2<;>cases b2<;>first|rfl|(exact absurd this (by simp))
 rw[e1,e2]
open Go.Maps (Keyed)
section
variable{P:Program}{w:World}{t k e:TypeId}{b n:Nat}{D:DM}{key:Value}{kl:Lit}
theorem Qz(K:WideMaps.KeyLaw P k)(ht:P.underlying t=some (.map k e))(he:P.underlying e=some (.int .i64))(hz:∀u:World,(zeroValue e).run P u=.ok (.int .i64 0) u)
  (h:w.ownsMap P k (plainElem P e) b n D) (hm:Maps.IsMap D) (hl:WideAt.IsKeyLit kl) (hn:n<maxLen) (Fa:keyOf P k key=some kl) {c:Int} (hc:D.atKey kl (.lit (.int .i64 0))=.lit (.int .i64 c)):
  ∃(v0:Value) (st:Nat) (w1:World),(Instr.mapEntry t (.map (some b)) key).run P w=.ok (.tuple #[v0,goInt st]) w1/\w.grownBy w1 (some b)/\
   (∀w2:World,w2.heap[b]? =w1.heap[b]? ->(Instr.lookup t (.map (some b)) key false).run P w2=.ok (.int .i64 c) w2)/\
   ∀(w2:World) (x:Int),(Lit.int .i64 x).wf=true->w2.heap[b]? =w1.heap[b]? ->∃w3,(Instr.entryStore t (.map (some b)) (goInt st) (.int .i64 x)).run P w2=.ok () w3/\w3.ownsMap P k (plainElem P e) b (n+1) (D.put kl (.lit (.int .i64 x)))/\w2.grownBy w3 (some b):=by
 have K' :=Keyed.of_law K;have D7:=fun x (hx:(Lit.int .i64 x).wf=true)=>h.update K' ht hn Fa (plainElem_int (H:=Unit) he hx);have NS:=fun(w2:World) (D2:DM) (n2:Nat) (h2:w2.ownsMap P k (plainElem P e) b n2 D2)=>h2.lookup_int K' ht he (hz w2) Fa;have h0:=h;obtain⟨es,clock,hb,F,hs,hD⟩:=h;obtain⟨v0,st,es1,clock1,Ge,_,F3⟩:=WideElems.entry_then_store K ht hz hb F Fa;have W7:(ChangeMaps.setBlock w b (.map es1 clock1)).heap[b]? =some (.map es1 clock1):=ChangeMaps.heap_setBlock_same hb _;refine⟨v0,st,_,Ge,⟨rfl,rfl,rfl,by simp[ChangeMaps.setBlock],fun i _ hi=>ChangeMaps.heap_setBlock_other hb _ (fun e=>hi (by rw[e]))⟩,fun w2 L6=> ?_,fun w2 x hx L6=> ?_⟩
 ·rw[W7]at L6;rcases K.find w Fa es.toList F.keys with⟨h1,h2⟩|⟨j,e0,h1,h2,h3⟩
  ·obtain⟨w',MA,X0,_⟩:=D7 0 (by decide);have e1:(Instr.mapUpdate t (.map (some b)) key (.int .i64 0)).run P w=.ok () (ChangeMaps.setBlock w b (.map (es.push ⟨key,.int .i64 0,clock⟩) (clock+1))):=by
    simp[Instr.mapUpdate,run_underlying ht,MapKept.run_getObj_map hb,K.check w false Fa,h1,MapKept.run_setObj_map _ hb,Result.andThen,ChangeMaps.setBlock]
   have e2:(Instr.mapEntry t (.map (some b)) key).run P w=.ok (.tuple #[.int .i64 0,goInt clock]) (ChangeMaps.setBlock w b (.map (es.push ⟨key,.int .i64 0,clock⟩) (clock+1))):=by
    simp[Instr.mapEntry,run_underlying ht,MapKept.run_getObj_map hb,K.check w false Fa,h1,hz,MapKept.run_setObj_map _ hb,Result.andThen,ChangeMaps.setBlock]
   rw[e1]at MA;rw[e2]at Ge;have MA:=(Result.ok.inj MA).2;have Ge:=(Result.ok.inj Ge).2;have LO:(ChangeMaps.setBlock w b (.map (es.push ⟨key,.int .i64 0,clock⟩) (clock+1))).heap[b]? =some (.map es1 clock1):=by rw[Ge];exact W7
   subst MA;have Pw:w2.ownsMap P k (plainElem P e) b (n+1) (D.put kl (.lit (.int .i64 0))):=by
    obtain⟨es',clock',Gm,rest⟩:=X0;exact⟨es',clock',L6.trans (LO.symm.trans Gm),rest⟩
   obtain⟨c',WO,Ng,_⟩:=NS w2 _ _ Pw;rw[Maps.atKey_put_same hm hl]at Ng;have Ng:=(Lit.int.inj (DataW.lit.inj Ng)).2;rcases Maps.fit_look false K' ht (hz w) hb F Fa with⟨_,_,F1⟩|⟨e0,y,Ax,Wj,_⟩
   ·rw[<-hD]at F1;rw[F1]at hc;have hc:=(Lit.int.inj (DataW.lit.inj hc)).2;rw[WO,<-Ng,<-hc]
   ·exact absurd Wj (h2 e0 Ax)
  ·have hj:es[j]? =some e0:=(by simpa using h2);have Q6:es.modify j (fun e=>{e with key:=key})=es:=by
    apply Array.ext';rw[Array.toList_modify,ChangeMaps.modify_eq_set _ _ _ _ h2];have:({e0 with key:=key}:MapEntry)=e0:=(by rw[<-h3]);rw[this];exact WideElems.set_self _ _ _ h2
   have e2:(Instr.mapEntry t (.map (some b)) key).run P w=.ok (.tuple #[e0.val,goInt e0.born]) (ChangeMaps.setBlock w b (.map es clock)):=by
    simp[Instr.mapEntry,run_underlying ht,MapKept.run_getObj_map hb,K.check w false Fa,h1,hj,h3,K.stays w Fa,Q6,MapKept.run_setObj_map _ hb,Result.andThen,ChangeMaps.setBlock]
   rw[e2]at Ge;have Ge:=(Result.ok.inj Ge).2;have LO:(ChangeMaps.setBlock w b (.map es clock)).heap[b]? =some (.map es1 clock1):=by rw[Ge];exact W7
   rw[ChangeMaps.heap_setBlock_same hb]at LO;have Pw:w2.ownsMap P k (plainElem P e) b n D:=⟨es,clock,L6.trans LO.symm,F,hs,hD⟩;obtain⟨c',WO,Ng,_⟩:=NS w2 _ _ Pw;rw[hc]at Ng;have Ng:=(Lit.int.inj (DataW.lit.inj Ng)).2;rw[WO,Ng]
 ·rw[W7]at L6;obtain⟨es',clock',FC,hu⟩:=F3 w2 (.int .i64 x) L6;obtain⟨w',MA,X0,IC⟩:=D7 x hx;rw[hu]at MA;have MA:=(Result.ok.inj MA).2;subst MA;obtain⟨es'',clock'',RS,rest⟩:=X0;rw[ChangeMaps.heap_setBlock_same hb]at RS;refine⟨_,FC,⟨es'',clock'',?_,rest⟩,⟨rfl,rfl,rfl,by simp[ChangeMaps.setBlock],fun i _ hi=>ChangeMaps.heap_setBlock_other L6 _ (fun e=>hi (by rw[e]))⟩⟩;rw[ChangeMaps.heap_setBlock_same L6];exact RS
end
section
variable{P:Program}{w:World}{o:Oper}{a:Act}{K:Act->World->Prop}{Q:Exit->Act->World->Prop}{ops:Array Oper}{E:Prop}
theorem yu(N7:o.guard=none)(m x:Operand)(t:TypeId)(hg:o.op=Op.lookup t m x false)(mv xv:Value)(hm:a.eval m=mv)(hx:a.eval x=xv){v:Value}(h:(Instr.lookup t mv xv false).run P w=.ok v w)(hK:K (a.put o.dst v) w):if Region.wanted o (yielded ops a.tmps)=true then Oper.wp P o a w K Q else E:=by
 rw[jJ6 (show Region.wanted o (yielded ops a.tmps)=true by simp[Region.wanted,N7])];unfold Oper.wp;simp[execOp,hg,hm,hx,h,Result.andThen];exact hK
theorem ze(N7:o.guard=none)(m x:Operand)(t:TypeId)(hg:o.op=Op.mapEntry t m x)(mv xv:Value)(hm:a.eval m=mv)(hx:a.eval x=xv){v:Value}{w' :World}(h:(Instr.mapEntry t mv xv).run P w=.ok v w')(hK:K (a.put o.dst v) w'):if Region.wanted o (yielded ops a.tmps)=true then Oper.wp P o a w K Q else E:=by
 rw[jJ6 (show Region.wanted o (yielded ops a.tmps)=true by simp[Region.wanted,N7])];unfold Oper.wp;simp[execOp,hg,hm,hx,h,Result.andThen];exact hK
theorem vi(N7:o.guard=none)(m x y:Operand)(t:TypeId)(hg:o.op=Op.entryStore t m x y)(mv xv yv:Value)(hm:a.eval m=mv)(hx:a.eval x=xv)(hy:a.eval y=yv){w' :World}(h:(Instr.entryStore t mv xv yv).run P w=.ok () w')(hK:K (a.put o.dst undef) w'):if Region.wanted o (yielded ops a.tmps)=true then Oper.wp P o a w K Q else E:=by
 rw[jJ6 (show Region.wanted o (yielded ops a.tmps)=true by simp[Region.wanted,N7])];unfold Oper.wp;simp[execOp,hg,hm,hx,hy,h,Result.andThen];exact hK
end
end Go.Proofs.YtifbhcfdealfaaaGreatDoor

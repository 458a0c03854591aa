import Derived.Test.YtnaolhjbapgjgaaGreatMg30
set_option maxRecDepth 100000
set_option maxHeartbeats 6400000
namespace Go.Proofs.YtnaolhjbapgjgaaGreat
open Go.Proofs.Tryz
open Go.RowKit
theorem xd(w:World)(m:MNote)(Hu:m.Ok w NoX):Calls prog 68 #[.agg m.cells.toArray] w (MaybeB w (yU m.head m.signs)):=by
 have HB:=G (jQ2 w 48 m.cells.toArray);have Ho:=G ((jQ0 NoX w).alloc (.cells m.cells.toArray 48));have FJ:(prog.info? 48).map (·.size)=some m.cells.length:=by rw[MNote.cells,jJ4,Hu.head.len];kernel_rfl
 have HN:=G (jDW (w.alloc (.cells m.cells.toArray 48)) m (Hu.old Ho.out));generalize yU m.head m.signs=R at*;clear Hu;generalize m.cells=cl at*;go_enter func68,ntmps68;go_wp2_with (first|((with_reducible refine jT 48 (.tmp 1) ?_);refine jK rfl 48 (.tmp 1) rfl w.heap.size 0 rfl cl _ HB.out.range underlying48 rfl FJ ?_)|fail);generalize w.alloc _=W at*;refine HN.out.mono ?_;rintro e w1 (⟨out,A,c,hr,Ff,rfl,Fg,ho⟩|⟨er,hr,Ff,rfl,ho⟩)
 ·have Hr:=G hr;have V0:=G Ff;have M4:=G (Fg.lower Ho.out.size);have FE:=G (Ho.out.old ho);clear hr Ff Fg ho;go_wp2_with fail;go_ret;exact .inl ⟨out,A,c,Hr.out,V0.out,rfl,M4.out,FE.out⟩
 ·have Hr:=G hr;have hb:(er !=0)=true:=bne_iff_ne.2 Ff;have FE:=G (Ho.out.old ho);clear hr Ff ho;go_wp2_with fail;go_ret;exact .inr ⟨Hr.out,rfl,FE.out⟩
theorem zY(w:World)(v:Value):Calls prog 67 #[v,.slice none 0 0] w fun e w' =>e=.returned (.slice none 0 0)/\w=w' :=by
 have NU:=fun(W:World) (a:OA) (n c:Nat)=>Lib.run_eql_slice_nil (P:=prog) W 22 5 a n c 0 0 underlying22;go_enter func67,ntmps67;go_wp2;go_ret;exact⟨rfl,rfl⟩
theorem zX(w:World)(base:Nat)(l:LB)(A:OA)(c:Nat)(h:BRow w base l A c)(ad:Addr)(d:Nat)(m:LB)(hr:Rd w 1 (some ad) m.length (m.map bv))(hl:l.length+m.length<=10000000000):
  Calls prog 67 #[.slice A l.length c,.slice (some ad) m.length d] w (jG8 w base A (l++m)):=by
 have NU:=fun(W:World) (a:OA) (n c:Nat)=>Lib.run_eql_slice_nil (P:=prog) W 22 5 a n c 0 0 underlying22;have H:=G h;have Hr:=G hr;have Hl:=G hl;clear h hr hl;go_enter func67,ntmps67;go_wp2_with (first|(at_builtin;refine ja (.tmp 7) (.tmp 8) H.out Hr.out (by have:=Hl.out;omega) rfl rfl rfl rfl ?_;intro l2 A2 c2 w2 e2 h2;have HE:=G e2.out;have H2:=G h2;clear e2 h2)|fail);go_ret;exact⟨l2,A2,c2,G HE.out,rfl,H2.out⟩
theorem xl(w:World)(n:Int):Calls prog 33 #[.int .i64 n] w fun e w' =>e=.returned (.bool (decide (n=240\/n=241\/n=242)))/\w=w' :=by
 by_cases h1:n=240
 ·subst h1;go_enter func33,ntmps33;go_wp2;go_ret;exact⟨rfl,rfl⟩
 ·by_cases h2:n=241
  ·subst h2;go_enter func33,ntmps33;go_wp2;go_ret;exact⟨rfl,rfl⟩
  ·have b1:(n==240)=false:=beq_eq_false_iff_ne.2 h1;have b2:(n==241)=false:=beq_eq_false_iff_ne.2 h2;have Hv:=G (show decide (n=240\/n=241\/n=242)=(n==242)by
    rw[Bool.eq_iff_iff];simp[h1,h2])
   rw[Hv.out];clear h1 h2;go_enter func33,ntmps33;go_wp2;go_ret;exact⟨rfl,rfl⟩
def Ky(ts:List BA):LB:=[UInt8.ofNat ts.length]++ts.flatMap fun t=>lp 4 (sb t)
theorem Xr:∀(ts:List BA) (k:Nat),(∀t∈ts,t.size<=2147483647)->((ts.take k).flatMap fun t=>lp 4 (sb t)).length<=k*2147483651
 |[],k,_=>by simp
 |t::ts,0,_=>by simp
 |t::ts,k+1,h=>by
  have h1:=h t List.mem_cons_self;have ih:=Xr ts k (fun x hx=>h x (List.mem_cons_of_mem _ hx));rw[List.take_succ_cons,jL9,jJ4,jV,jH];omega
theorem jBP(w:World)(v:Value):Calls prog 117 #[.slice none 0 0,v] w fun e w' =>e=.returned (.slice none 0 0)/\w=w' :=by
 have NU:=fun(W:World) (a:OA) (n c:Nat)=>Lib.run_eql_slice_nil (P:=prog) W 22 5 a n c 0 0 underlying22;go_enter func117,ntmps117;go_wp2;go_ret;exact⟨rfl,rfl⟩
theorem jBQ(w:World)(ad:Addr)(n c:Nat)(B:OA)(k d:Nat)(hk:255<k):Calls prog 117 #[.slice (some ad) n c,.slice B k d] w fun e w' =>e=.returned (.slice none 0 0)/\w=w' :=by
 have NU:=fun(W:World) (a:OA) (n c:Nat)=>Lib.run_eql_slice_nil (P:=prog) W 22 5 a n c 0 0 underlying22;have Na:(255:Int)<(k:Int):=(by omega);clear hk;go_enter func117,ntmps117;go_wp2;go_ret;exact⟨rfl,rfl⟩
theorem jBO(w:World)(base:Nat)(l:LB)(A:OA)(c:Nat)(h:BRow w base l A c)(Ff:l≠ [])(hl:l.length<=3000000000000)(B:OA)(d n:Nat)(ts:List BA)(hn:ts.length=n)(hk:n<=255)(Fa:Rd w 1 B n (ts.map sv))(FA:Av (From base) n B)(FJ:∀t∈ts,t.size<=2147483647):
  Calls prog 117 #[.slice A l.length c,.slice B n d] w (jG8 w base A (l++Ky ts)):=by
 have NU:=fun(W:World) (a:OA) (n c:Nat)=>Lib.run_eql_slice_nil (P:=prog) W 22 5 a n c 0 0 underlying22;obtain⟨g,hA,_⟩:=h.some_ Ff;subst hA;have H:=G h;have Hl:=G hl;have Hn:=G hn;have Fy:=G Fa;have FW:=G FA;have Fh:=G FJ;have SS:(0:Int)<=(n:Int):=(by omega);have Fc:(n:Int)<=255:=(by omega);have hZ:¬(255:Int)<(n:Int):=(by omega);have e8:IntKind.u8.wrap (n:Int)=(n:Int):=IntWalk.u8_in _ (by omega);have Pe:=G (fun k=>Xr ts k FJ);have Hv:=G (show Rd (w.alloc (.cells #[.int .u8 (n:Int)] 5)) 1 (some ⟨w.heap.size,0,none⟩) ([UInt8.ofNat n]:LB).length (([UInt8.ofNat n]:LB).map bv)by
  have h:=Rd.one_new w 5 (.int .u8 (n:Int));have e:Value.int .u8 (n:Int)=bv (UInt8.ofNat n):=(by rw[zO,Nat.mod_eq_of_lt (by omega)]);rw[e]at h⊢;exact h)
 clear h Ff hl hn Fa FA FJ hk;go_enter func117,ntmps117;go_wp2_with (first|(at_builtin;refine ja (.tmp 13) (.tmp 17) (H.out.alloc _) (d:=1) Hv.out (by have:=Hl.out;simp;omega) rfl rfl rfl rfl ?_;intro l2 A2 c2 w2 e2 h2;have E2:=G e2.out;have G2:=G (Grew.old ((jQ0 NoX w).alloc _) h2);have L2:=G (show l2.length=l.length+1 by rw[e2.out];simp);clear e2 h2)|fail);go_loopw [0,5] (fun b i wr=>∃(k:Nat) (out:LB) (A' :OA) (c' :Nat),k<=n/\i=.int .i64 k/\b=.slice A' out.length c' /\out=l2++((ts.take k).flatMap fun t=>lp 4 (sb t))/\Grew w base (some ⟨g,0,none⟩) wr out A' c') (fun _ i _=>n-(intOf i).toNat)
 case atStart=>exact⟨0,l2,A2,c2,by omega,rfl,rfl,by simp,G2.out⟩
 case round=>
  obtain⟨k,out,A',c',hk,rfl,rfl,G0,hg⟩:=hrel;have Hg:=G hg;have GF:=G G0;have P9:=G (show out.length<=3900000000000 by rw[G0,jJ4,L2.out];have:=Pe.out k;have:=Hl.out;omega);clear hg G0;by_cases hM:k<n
  ·have GY:k<ts.length:=by have:=Hn.out;omega
   obtain⟨b,o,u,rfl,hu,hc⟩:=(Fy.out.kp (Hg.out.from_ H.out) FW.out).at_ hM;rw[jM1,jJ9 GY]at hu;simp only[Option.map_some,Option.some.injEq,sv]at hu;subst hu;have HS:=G (Fh.out ts[k] (jL6 GY));have Fl:=G (show∀out2,out2=out++lp 4 (sb ts[k])->out2=l2++((ts.take (k+1)).flatMap fun t=>lp 4 (sb t))from fun out2 e=>by
    rw[e,GF.out,jK2 GY,List.flatMap_append,List.flatMap_singleton,jK1])
   generalize ts[k]=x at*;have HT:=G (Kh wr base out A' c' x Hg.out.row (by have:=P9.out;omega) HS.out);have b1:(0:Int)<=(k:Int):=(by omega);have b2:(k:Int)<(n:Int):=(by omega);have b3:(k:Int).toNat=k:=(by omega);clear GY;go_wp2_with fail;refine HT.out.mono ?_;rintro e w3 ⟨l3,A3,c3,e3,rfl,h3⟩;have HE:=G (Fl.out l3 e3.out);have H3:=G (Hg.out.trans h3);clear e3 h3;go_wp2;go_roundw
   case rel=>exact⟨k+1,l3,A3,c3,by omega,by go_num,rfl,HE.out,H3.out⟩
   case measure=>simp[intOf];omega
  ·obtain rfl:k=n:=(by omega);have Hf:=G (show out=l++Ky ts by rw[GF.out,E2.out,jK4 (by rw[Hn.out];omega),Ky,Hn.out,jK1]);go_wp2;go_ret;exact⟨out,A',c',Hf,rfl,Hg.out⟩
theorem Xs(w:World)(x k:Nat)(hx:x<=18446744073709551615)(hk:k<=8):
  Calls prog 181 #[.int .u64 (x:Int),.int .i64 (k:Int)] w fun e w' =>∃A,e=.returned (.slice A k k)/\BRow w' w.heap.size (be k x) A k/\Old w w' :=by
 have Cv:=Yw k (by omega);have Hx:=G hx;clear hx;have Hl:=G (jC k x);go_enter func181,ntmps181;go_wp2;go_loopw [6] (fun i wr=>∃j:Nat,j<=k/\i=.int .i64 j/\Blk wr w.heap.size 5 (xF (be k x) j (.int .u8 0)).toArray/\Old w wr) (fun i _=>k-(intOf i).toNat)
 case atStart=>exact⟨0,by omega,rfl,by rw[jCA,Hl.out];exact jQ2 _ _ _,(jQ0 _ _).alloc _⟩
 case round=>
  obtain⟨j,hj,rfl,hb,ho⟩:=hrel;have Ho:=G ho;have Hb:=G hb;clear ho hb;by_cases hM:j<k
  ·have hc:=Hb.out.at_ (k-1-j) (v:=.int .u8 0) (by
    rw[jJ7];have:=jEa (be k x) j (.int .u8 0) (by rw[Hl.out];exact hM)
    rwa [Hl.out]at this)
   have hz:=Hb.out.frozen (k-1-j);have e2:IntKind.i64.wrap (8*(j:Int))=8*(j:Int):=jQ3 _ (by omega);have e3:IntKind.i64.wrap ((k:Int)-1)=(k:Int)-1:=jQ3 _ (by omega);have e6:IntKind.i64.wrap ((k:Int)-1-(j:Int))=(k:Int)-1-(j:Int):=jQ3 _ (by omega);have e4:IntKind.u64.wrap (8*(j:Int))=8*(j:Int):=IntWalk.u64_in _ (by omega);have e5:(8*(j:Int)).toNat=8*j:=(by omega);have b1:(0:Int)<=(k:Int)-1-(j:Int):=(by omega);have b2:(k:Int)-1-(j:Int)<(k:Int):=(by omega);have b3:((k:Int)-1-(j:Int)).toNat=k-1-j:=(by omega);have b4:(0:Int)<=8*(j:Int):=(by omega);go_wp2;go_roundw
   case rel=>
    refine⟨j+1,by omega,by go_num,?_,?_⟩
    ·rw[QL];have:=Hb.out.set_ (k-1-j) (bv (UInt8.ofNat (x/256^j)));rw[jJ1]at this;have h2:=jEZ (be k x) j (.int .u8 0) (by rw[Hl.out];exact hM);rw[uN]at h2;simp only[Hl.out]at h2;rw[show k-1-(k-1-j)=j by omega]at h2;rw[<-h2];exact this
    ·exact Ho.out.setCell (p:=⟨w.heap.size,k-1-j,none⟩) (fun h=>absurd h (Nat.lt_irrefl _)) _
   case measure=>simp[intOf];omega
  ·obtain rfl:j=k:=(by omega);go_wp2;go_ret;have hb:=Hb.out;have h2:=jCB (be j x) (.int .u8 0);rw[Hl.out]at h2;rw[h2]at hb;have h3:=xq (base:=w.heap.size) hb (jL3 _) (by rw[jK7,Hl.out];unfold maxLen;omega);rw[jK7,Hl.out]at h3;exact⟨_,rfl,⟨by rw[Hl.out];exact h3,Ho.out.size⟩,Ho.out⟩
theorem QH(n:Int):∃x:Nat,IntKind.u64.wrap n=(x:Int)/\x<=18446744073709551615/\x=(n% 18446744073709551616).toNat:=by
 refine⟨(n% 18446744073709551616).toNat,?_,by omega,rfl⟩;rw[IntKind.wrap_u64];omega
theorem Za(w:World)(n:Int)(k:Nat)(hk:k<=8):
  Calls prog 159 #[.int .i64 n,.int .i64 (k:Int)] w fun e w' =>∃A,e=.returned (.slice A k k)/\BRow w' w.heap.size (be k (n% 18446744073709551616).toNat) A k/\Old w w' :=by
 obtain⟨x,e1,hx,e2⟩:=QH n;rw[<-e2];clear e2;go_enter func159,ntmps159;go_wp2_with fail;refine(Xs w x k hx hk).mono ?_;rintro e w1 ⟨A,rfl,hb,ho⟩;go_wp2;go_ret;exact⟨A,rfl,hb,ho⟩
theorem QS(w:World)(s:BA)(hs:s.size<=2147483647):
  Calls prog 160 #[.string s] w fun e w' =>∃A c l,l=lp 2 (sb s)/\e=.returned (.slice A l.length c)/\BRow w' w.heap.size l A c/\Old w w' :=by
 have hl:(be 2 s.size).length=2:=jC _ _;have Hq:=G (show be 2 s.size++sb s=lp 2 (sb s)by rw[lp,jH]);go_enter func160,ntmps160;go_wp2_with fail;refine(Za w _ 2 (by decide)).mono ?_;rintro e w1 ⟨A,rfl,hb,ho⟩;rw[YI s.size (by omega)]at hb;have Hl:=G hl;clear hl;go_wp2_with (at_builtin;refine jIY (.tmp 5) (.tmp 6) hb (by rw[Hl.out];omega) rfl rfl (by rw[Hl.out];rfl) rfl ?_;intro l3 A3 c3 w3 e3 h3 Gd);go_ret;exact⟨A3,c3,l3,by rw[e3.out,Hq.out],rfl,h3,From.old ho Gd (jL3 _)⟩
def Vj(v:Val)(w:World)(e:Ending)(w' :World):Prop:=
 (jS v=0/\∃l A c,l=yX v/\e=.returned (.tuple #[.slice A l.length c,.int .i64 0])/\BRow w' w.heap.size l A c/\Old w w')\/
 (jS v≠0/\e=.returned (.tuple #[.slice none 0 0,.int .i64 (jS v)])/\Old w w')
theorem jBU{v:Val}(h:jS v=0):0<=v.kind/\v.kind<=5:=by
 obtain⟨k,n,t,s⟩:=v;by_cases hk:k<0\/5<k
 ·exfalso;have hf:jQ ⟨k,n,t,s⟩=false:=by
   simp only[jQ];rw[jJ5 (by omega),jJ5 (by omega),jJ5 (by omega),jJ5 (by omega)];simp
  rw[kO hf]at h;cases h
 ·simp only;omega
theorem QV{v:Val}(h:jS v=0):jQ v=true:=by
 cases hf:jQ v
 ·rw[kO hf]at h;cases h
 ·rfl
theorem jBG(v:Val)(A:OA)(c:Nat)(w:World)(hr:Rd w 1 A v.s.length (v.s.map sv))(hs:v.s.length<=1000000000000)(Ff:jS v≠0):
  Calls prog 116 #[vV v A c] w (Vj v w):=by
 have Hr:=G (fun W (h:Old w W)=>yI v A c W (hr.old h) hs);have Hv:∀W,Old w W->Vj v w (.returned (.tuple #[.slice none 0 0,.int .i64 (jS v)])) W:=fun W h=>.inr ⟨Ff,rfl,h⟩;have HV:=G Hv;have hb:(jS v !=0)=true:=bne_iff_ne.2 Ff;clear hr Hv Ff hs;unfold RPost at Hr;obtain⟨k,n,t,s⟩:=v;unfold vV at*;go_enter func116,ntmps116;go_wp2_with fail;refine(Hr.out _ ((jQ0 _ _).alloc _)).mono ?_;rintro e w1 ⟨rfl,F0⟩;go_wp2
 go_ret2
 exact HV.out _ (((jQ0 NoX w).alloc _).old F0)
theorem jCy(k n:Int)(hk:k=1\/k=4)(t:BA)(s:List BA):yX ⟨k,n,t,s⟩=be 1 k.toNat++be 8 (n% 18446744073709551616).toNat:=by
 rw[yX];simp only;rw[jJ6 hk]
theorem Rd.one_at(w:World)(t:TypeId)(u:Value)(g:Nat)(hg:g=w.heap.size):Rd (w.alloc (.cells #[u] t)) 1 (some ⟨g,0,none⟩) 1 [u]:=by
 subst hg;exact Rd.one_new w t u
theorem BRow.low{w:World}{base b:Nat}{l:LB}{A:OA}{c:Nat}(h:BRow w base l A c)(hb:b<=base):BRow w b l A c:=by
 refine⟨⟨h.own.1,?_⟩,jL4 hb h.le⟩;rcases h.own.2 with hn|⟨g,cap,cur,e,hg,rest⟩
 ·exact .inl hn
 ·exact .inr ⟨g,cap,cur,e,jL4 hb hg,rest⟩
theorem jBT{v:Val}(h:jS v=0):v.t.size<=1024:=(yT (jz h).2.1).1
theorem jBV{n:Int}{t:BA}{s:List BA}(h:jS ⟨2,n,t,s⟩=0):n=0\/n=1:=by
 have hf:=QV h;simp[jQ]at hf;exact hf.2
theorem jFj(n:Int)(t:BA)(s:List BA)(A:OA)(c:Nat)(w:World)(hr:Rd w 1 A s.length (s.map sv))(hs:s.length<=1000000000000)(hz:jS ⟨1,n,t,s⟩=0):
  Calls prog 116 #[vV ⟨1,n,t,s⟩ A c] w (Vj ⟨1,n,t,s⟩ w):=by
 have Hr:=G (fun W (h:Old w W)=>yI ⟨1,n,t,s⟩ A c W (hr.old h) hs);have Hv:∀l A c W,l=yX ⟨1,n,t,s⟩->BRow W w.heap.size l A c->Old w W->Vj ⟨1,n,t,s⟩ w (.returned (.tuple #[.slice A l.length c,.int .i64 0])) W:=fun l A c W e hb ho=>.inl ⟨hz,l,A,c,e,rfl,hb,ho⟩;have HV:=G Hv;unfold RPost at Hr;rw[hz]at Hr;have Hz:=G hz;clear hr Hv hz hs;unfold vV at*;go_enter func116,ntmps116;go_wp2_with fail;refine(Hr.out _ ((jQ0 _ _).alloc _)).mono ?_;rintro e w1 ⟨rfl,F0⟩;have hb:=(jQ2 w 29 #[.int .i64 1,.int .i64 n,.string t,.slice A s.length c]).old F0;have GA:=hb.at_ 0 rfl;have FS:=hb.at_ 1 rfl;have Gz:=hb.at_ 2 rfl;have hM:=hb.lt;have Ho:=G (((jQ0 NoX w).alloc (.cells #[.int .i64 1,.int .i64 n,.string t,.slice A s.length c] 29)).old F0);clear hb F0;have HB:=G (BRow.new w1 [1] (by decide));go_wp2_with fail;refine(Za _ n 8 (by decide)).mono ?_;rintro e w2 ⟨B,rfl,hB,FL⟩;have Nq:=G (HB.out.old FL);have RQ:=G hB.rd;have FH:=G FL;clear FL hB;have PU:=G (jC 8 (n% 18446744073709551616).toNat);go_wp2_with (at_builtin;refine zj (.tmp 24) (.tmp 27) Nq.out RQ.out (by rw[PU.out];decide) rfl rfl rfl (by rw[PU.out];rfl) ?_;intro l2 A2 c2 w3 e2 h2 hZ)
 go_ret2
 refine HV.out l2 A2 c2 w3 ?_ (h2.low Ho.out.size) (From.old ((Ho.out.alloc _).old FH.out) hZ Ho.out.size);rw[e2.out,jCy _ _ (by decide)];rfl
theorem jFg(n:Int)(t:BA)(s:List BA)(A:OA)(c:Nat)(w:World)(hr:Rd w 1 A s.length (s.map sv))(hs:s.length<=1000000000000)(hz:jS ⟨4,n,t,s⟩=0):
  Calls prog 116 #[vV ⟨4,n,t,s⟩ A c] w (Vj ⟨4,n,t,s⟩ w):=by
 have Hr:=G (fun W (h:Old w W)=>yI ⟨4,n,t,s⟩ A c W (hr.old h) hs);have Hv:∀l A c W,l=yX ⟨4,n,t,s⟩->BRow W w.heap.size l A c->Old w W->Vj ⟨4,n,t,s⟩ w (.returned (.tuple #[.slice A l.length c,.int .i64 0])) W:=fun l A c W e hb ho=>.inl ⟨hz,l,A,c,e,rfl,hb,ho⟩;have HV:=G Hv;unfold RPost at Hr;rw[hz]at Hr;have Hz:=G hz;clear hr Hv hz hs;unfold vV at*;go_enter func116,ntmps116;go_wp2_with fail;refine(Hr.out _ ((jQ0 _ _).alloc _)).mono ?_;rintro e w1 ⟨rfl,F0⟩;have hb:=(jQ2 w 29 #[.int .i64 4,.int .i64 n,.string t,.slice A s.length c]).old F0;have GA:=hb.at_ 0 rfl;have FS:=hb.at_ 1 rfl;have Gz:=hb.at_ 2 rfl;have hM:=hb.lt;have Ho:=G (((jQ0 NoX w).alloc (.cells #[.int .i64 4,.int .i64 n,.string t,.slice A s.length c] 29)).old F0);clear hb F0;have HB:=G (BRow.new w1 [4] (by decide));go_wp2_with fail;refine(Za _ n 8 (by decide)).mono ?_;rintro e w2 ⟨B,rfl,hB,FL⟩;have Nq:=G (HB.out.old FL);have RQ:=G hB.rd;have FH:=G FL;clear FL hB;have PU:=G (jC 8 (n% 18446744073709551616).toNat);go_wp2_with (at_builtin;refine zj (.tmp 24) (.tmp 27) Nq.out RQ.out (by rw[PU.out];decide) rfl rfl rfl (by rw[PU.out];rfl) ?_;intro l2 A2 c2 w3 e2 h2 hZ)
 go_ret2
 refine HV.out l2 A2 c2 w3 ?_ (h2.low Ho.out.size) (From.old ((Ho.out.alloc _).old FH.out) hZ Ho.out.size);rw[e2.out,jCy _ _ (by decide)];rfl
theorem jFk(n:Int)(t:BA)(s:List BA)(A:OA)(c:Nat)(w:World)(hr:Rd w 1 A s.length (s.map sv))(hs:s.length<=1000000000000)(hz:jS ⟨0,n,t,s⟩=0):
  Calls prog 116 #[vV ⟨0,n,t,s⟩ A c] w (Vj ⟨0,n,t,s⟩ w):=by
 have Hr:=G (fun W (h:Old w W)=>yI ⟨0,n,t,s⟩ A c W (hr.old h) hs);have Hv:∀l A c W,l=yX ⟨0,n,t,s⟩->BRow W w.heap.size l A c->Old w W->Vj ⟨0,n,t,s⟩ w (.returned (.tuple #[.slice A l.length c,.int .i64 0])) W:=fun l A c W e hb ho=>.inl ⟨hz,l,A,c,e,rfl,hb,ho⟩;have HV:=G Hv;unfold RPost at Hr;rw[hz]at Hr;have Hz:=G hz;clear hr Hv hz hs;unfold vV at*;go_enter func116,ntmps116;go_wp2_with fail;refine(Hr.out _ ((jQ0 _ _).alloc _)).mono ?_;rintro e w1 ⟨rfl,F0⟩;have hb:=(jQ2 w 29 #[.int .i64 0,.int .i64 n,.string t,.slice A s.length c]).old F0;have GA:=hb.at_ 0 rfl;have FS:=hb.at_ 1 rfl;have Gz:=hb.at_ 2 rfl;have hM:=hb.lt;have Ho:=G (((jQ0 NoX w).alloc (.cells #[.int .i64 0,.int .i64 n,.string t,.slice A s.length c] 29)).old F0);clear hb F0;have HB:=G (BRow.new w1 [0] (by decide));go_wp2
 go_ret2
 exact HV.out [0] _ _ _ (by simp[yX];rfl) (HB.out.low Ho.out.size) (Ho.out.alloc _)
theorem jFh(n:Int)(t:BA)(s:List BA)(A:OA)(c:Nat)(w:World)(hr:Rd w 1 A s.length (s.map sv))(hs:s.length<=1000000000000)(hz:jS ⟨3,n,t,s⟩=0):
  Calls prog 116 #[vV ⟨3,n,t,s⟩ A c] w (Vj ⟨3,n,t,s⟩ w):=by
 have Hr:=G (fun W (h:Old w W)=>yI ⟨3,n,t,s⟩ A c W (hr.old h) hs);have Hv:∀l A c W,l=yX ⟨3,n,t,s⟩->BRow W w.heap.size l A c->Old w W->Vj ⟨3,n,t,s⟩ w (.returned (.tuple #[.slice A l.length c,.int .i64 0])) W:=fun l A c W e hb ho=>.inl ⟨hz,l,A,c,e,rfl,hb,ho⟩;have HV:=G Hv;unfold RPost at Hr;rw[hz]at Hr;have Hz:=G hz;clear hr Hv hz hs;unfold vV at*;go_enter func116,ntmps116;go_wp2_with fail;refine(Hr.out _ ((jQ0 _ _).alloc _)).mono ?_;rintro e w1 ⟨rfl,F0⟩;have hb:=(jQ2 w 29 #[.int .i64 3,.int .i64 n,.string t,.slice A s.length c]).old F0;have GA:=hb.at_ 0 rfl;have FS:=hb.at_ 1 rfl;have Gz:=hb.at_ 2 rfl;have hM:=hb.lt;have Ho:=G (((jQ0 NoX w).alloc (.cells #[.int .i64 3,.int .i64 n,.string t,.slice A s.length c] 29)).old F0);clear hb F0;have HB:=G (BRow.new w1 [3] (by decide));have FJ:=G (jBT Hz.out);go_wp2_with fail;refine(QS _ t (jL4 FJ.out (by decide))).mono ?_;rintro e w2 ⟨B,d,m,hm,rfl,hB,FL⟩;have Nq:=G (HB.out.old FL);have RQ:=G hB.rd;have FH:=G FL;have Hm:=G hm;have WV:=G (show m.length<=1026 by have:=FJ.out;rw[hm,jV,jH];omega);clear FL hB hm;go_wp2_with (at_builtin;refine zj (.tmp 41) (.tmp 44) Nq.out RQ.out (by have:=WV.out;simp only[List.length_singleton];omega) rfl rfl rfl rfl ?_;intro l2 A2 c2 w3 e2 h2 hZ)
 go_ret2
 refine HV.out l2 A2 c2 w3 ?_ (h2.low Ho.out.size) (From.old ((Ho.out.alloc _).old FH.out) hZ Ho.out.size);rw[e2.out,Hm.out];simp[yX];rfl
theorem jFi(n:Int)(t:BA)(s:List BA)(A:OA)(c:Nat)(w:World)(hr:Rd w 1 A s.length (s.map sv))(hs:s.length<=1000000000000)(hz:jS ⟨2,n,t,s⟩=0):
  Calls prog 116 #[vV ⟨2,n,t,s⟩ A c] w (Vj ⟨2,n,t,s⟩ w):=by
 have Hr:=G (fun W (h:Old w W)=>yI ⟨2,n,t,s⟩ A c W (hr.old h) hs);have Hv:∀l A c W,l=yX ⟨2,n,t,s⟩->BRow W w.heap.size l A c->Old w W->Vj ⟨2,n,t,s⟩ w (.returned (.tuple #[.slice A l.length c,.int .i64 0])) W:=fun l A c W e hb ho=>.inl ⟨hz,l,A,c,e,rfl,hb,ho⟩;have HV:=G Hv;unfold RPost at Hr;rw[hz]at Hr;have Hz:=G hz;clear hr Hv hz hs;unfold vV at*;have hn:=jBV Hz.out;go_enter func116,ntmps116;go_wp2_with fail;refine(Hr.out _ ((jQ0 _ _).alloc _)).mono ?_;rintro e w1 ⟨rfl,F0⟩;have hb:=(jQ2 w 29 #[.int .i64 2,.int .i64 n,.string t,.slice A s.length c]).old F0;have GA:=hb.at_ 0 rfl;have FS:=hb.at_ 1 rfl;have Gz:=hb.at_ 2 rfl;have hM:=hb.lt;have Ho:=G (((jQ0 NoX w).alloc (.cells #[.int .i64 2,.int .i64 n,.string t,.slice A s.length c] 29)).old F0);clear hb F0;have HB:=G (BRow.new w1 [2] (by decide));rcases hn with rfl|rfl
 ·go_wp2_with (at_builtin;refine zj (.tmp 32) (.tmp 36) (HB.out.alloc _) (m:=[0]) (d:=1) (Rd.one_at (w1.alloc _) 5 (.int .u8 0) (w1.heap.size+1) (by simp)) (by decide) rfl rfl rfl rfl ?_;intro l2 A2 c2 w3 e2 h2 hZ)
  go_ret2
  refine HV.out l2 A2 c2 w3 ?_ (h2.low Ho.out.size) (From.old ((Ho.out.alloc _).alloc _) hZ Ho.out.size);rw[e2.out];simp[yX];rfl
 ·go_wp2_with (at_builtin;refine zj (.tmp 32) (.tmp 36) (HB.out.alloc _) (m:=[1]) (d:=1) (Rd.one_at (w1.alloc _) 5 (.int .u8 1) (w1.heap.size+1) (by simp)) (by decide) rfl rfl rfl rfl ?_;intro l2 A2 c2 w3 e2 h2 hZ)
  go_ret2
  refine HV.out l2 A2 c2 w3 ?_ (h2.low Ho.out.size) (From.old ((Ho.out.alloc _).alloc _) hZ Ho.out.size);rw[e2.out];simp[yX];rfl
theorem jFf(n:Int)(t:BA)(s:List BA)(A:OA)(c:Nat)(w:World)(hr:Rd w 1 A s.length (s.map sv))(hs:s.length<=1000000000000)(hz:jS ⟨5,n,t,s⟩=0):
  Calls prog 116 #[vV ⟨5,n,t,s⟩ A c] w (Vj ⟨5,n,t,s⟩ w):=by
 have Hr:=G (fun W (h:Old w W)=>yI ⟨5,n,t,s⟩ A c W (hr.old h) hs);have Hv:∀l A c W,l=yX ⟨5,n,t,s⟩->BRow W w.heap.size l A c->Old w W->Vj ⟨5,n,t,s⟩ w (.returned (.tuple #[.slice A l.length c,.int .i64 0])) W:=fun l A c W e hb ho=>.inl ⟨hz,l,A,c,e,rfl,hb,ho⟩;have HV:=G Hv;unfold RPost at Hr;rw[hz]at Hr;have Hz:=G hz;have Fa:=hr;clear hr Hv hz hs;unfold vV at*;go_enter func116,ntmps116;go_wp2_with fail;refine(Hr.out _ ((jQ0 _ _).alloc _)).mono ?_;rintro e w1 ⟨rfl,F0⟩;have hb:=(jQ2 w 29 #[.int .i64 5,.int .i64 n,.string t,.slice A s.length c]).old F0;have GA:=hb.at_ 0 rfl;have WN:=hb.at_ 3 rfl;have hM:=hb.lt;have Ho:=G (((jQ0 NoX w).alloc (.cells #[.int .i64 5,.int .i64 n,.string t,.slice A s.length c] 29)).old F0);have Hb:=G hb;have Gt:=G hM;clear hb F0;have HB:=G (BRow.new w1 [5] (by decide));obtain⟨_,FX,Gf⟩:=jz Hz.out;have Tc:=G (yT FX).2;have Rj:=G Gf;clear FX Gf;have Fy:=G Fa;clear Fa;go_wp2_with fail;refine(Za _ _ 2 (by decide)).mono ?_;rintro e w2 ⟨B,rfl,hB,FL⟩;rw[YI s.length (by have:=Rj.out;omega)]at hB;have Nq:=G (HB.out.old FL);have RQ:=G hB.rd;have FH:=G FL;have PC:=G ((Hb.out.alloc (.cells (([5]:LB).map bv).toArray 5)).old FL);clear FL hB;have PU:=G (jC 2 s.length);go_wp2_with (at_builtin;refine zj (.tmp 49) (.tmp 53) Nq.out RQ.out (by rw[PU.out];decide) rfl rfl rfl (by rw[PU.out];rfl) ?_;intro l2 A2 c2 w3 e2 h2 hZ);have HI:Hid (Blk w3 w.heap.size 29 #[.int .i64 5,.int .i64 n,.string t,.slice A s.length c]/\BRow w3 w1.heap.size l2 A2 c2/\Old w w3):=
  G ⟨PC.out.kp hZ (fun h=>by have:w1.heap.size<=w.heap.size:=h;omega),h2,From.old ((Ho.out.alloc _).old FH.out) hZ Ho.out.size⟩
 have Hl2:=G (show l2=be 1 5++(be 2 s.length++lps (s.take 0))by rw[e2.out];simp[lps];rfl);clear h2 hZ e2 PC FH Nq RQ HB GA WN hM Hb;go_loopw [5,6] (fun b i wr=>∃(k:Nat) (l:LB) (A3:OA) (c3:Nat),k<=s.length/\i=.int .i64 k/\b=.slice A3 l.length c3/\l=be 1 5++(be 2 s.length++lps (s.take k))/\Blk wr w.heap.size 29 #[.int .i64 5,.int .i64 n,.string t,.slice A s.length c]/\BRow wr w1.heap.size l A3 c3/\Old w wr) (fun _ i _=>s.length-(intOf i).toNat)
 case atStart=>exact⟨0,l2,A2,c2,Nat.zero_le _,rfl,rfl,Hl2.out,HI.out⟩
 case round=>
  obtain⟨k,l,A3,c3,hk,rfl,rfl,hl,hb,h3,ho⟩:=hrel;have WN:=hb.at_ 3 rfl;have Hl:=G hl;have Hb:=G hb;have H3:=G h3;have Gq:=G ho;clear hl hb h3 ho;by_cases hM:k<s.length
  ·obtain⟨b,o,rfl,hx⟩:=(Fy.out.old Gq.out).text (k:=k) hM;have Tt:=Tc.out k hM;generalize hxx:s.getD k ByteArray.empty=x at hx Tt;have Hx:=G hxx;have U4:=G Tt;clear hxx Tt;have b5:(k:Int)<=64:=by have:=Rj.out;omega
   go_wp2_with fail;refine(QS _ x (jL4 U4.out (by decide))).mono ?_;rintro e w4 ⟨B4,d4,m,hm,rfl,OX,Gv⟩;have H4:=G (H3.out.old Gv);have Pv:=G OX.rd;have Ne:=G (Hb.out.old Gv);have Wl:=G (Gq.out.old Gv);have Hm:=G hm;have WV:=G (show l.length+m.length<=10000000000000 by
    have h1:=U4.out;have h2:=Rj.out;have h3:(lps (s.take k)).length<=k*65537:=YJ s (fun j hj=>jL4 (Tc.out j hj) (by decide)) k (by omega);rw[Hl.out,hm,jV,jH,jJ4,jJ4,jC,jC];omega)
   clear Gv OX hm;go_wp2_with (at_builtin;refine zj (.tmp 62) (.tmp 68) H4.out Pv.out WV.out rfl rfl rfl rfl ?_;intro l5 A5 c5 w5 e5 h5 Nu);go_roundw
   case rel=>
    refine⟨k+1,l5,A5,c5,by omega,by go_num,rfl,?_,Ne.out.kp Nu (fun h=>by have h' :w1.heap.size<=w.heap.size:=h;have:=Gt.out;omega),h5,From.old Wl.out Nu Ho.out.size⟩;rw[e5.out,Hl.out,Hm.out,zK s k hM,Hx.out];simp
   case measure=>simp[intOf];omega
  ·obtain rfl:k=s.length:=(by omega);go_wp2
   go_ret2
   refine HV.out l A3 c3 _ ?_ (H3.out.low Ho.out.size) Gq.out;rw[Hl.out,List.take_length];simp[yX,yM]
theorem xX(v:Val)(A:OA)(c:Nat)(w:World)(hr:Rd w 1 A v.s.length (v.s.map sv))(hs:v.s.length<=1000000000000):
  Calls prog 116 #[vV v A c] w (Vj v w):=by
 by_cases hz:jS v=0
 ·have hk:=jBU hz;obtain⟨k,n,t,s⟩:=v;simp only at hk hr hs;have hk:k=0\/k=1\/k=2\/k=3\/k=4\/k=5:=(by omega);rcases hk with rfl|rfl|rfl|rfl|rfl|rfl
  ·exact jFk n t s A c w hr hs hz
  ·exact jFj n t s A c w hr hs hz
  ·exact jFi n t s A c w hr hs hz
  ·exact jFh n t s A c w hr hs hz
  ·exact jFg n t s A c w hr hs hz
  ·exact jFf n t s A c w hr hs hz
 ·exact jBG v A c w hr hs hz
def ZL(c:Cas):Option LB:=
 if c.values.length<=255/\(c.values.all fun b=>decide (jS b.2=0))=true then
  if c.open_.length<=255/\c.closed.length<=255/\c.reached.length<=255 then some (vz c++(Ky c.open_ ++(Ky c.closed++Ky c.reached)))else none
 else none
def VA(w:World)(base:Nat)(A:OA)(l:LB)(o:Option LB)(e:Ending)(w' :World):Prop:=
 (∃r out A' c',o=some r/\Hid (out=l++r)/\e=.returned (.slice A' out.length c')/\Grew w base A w' out A' c')\/(o=none/\e=.returned (.slice none 0 0)/\Kp (From base) w w')
def NR(w:World)(base:Nat)(A:OA)(o:Option LB)(v:Value)(w' :World):Prop:=
 (∃r A' c',o=some r/\r≠ []/\v=.slice A' r.length c' /\Grew w base A w' r A' c')\/(o=none/\v=.slice none 0 0/\Kp (jHQ A) w w')
theorem NR.kp{w w' :World}{base:Nat}{A:OA}{o:Option LB}{v:Value}(h:NR w base A o v w'):Kp (jHQ A) w w' :=by
 rcases h with⟨_,_,_,_,_,_,h⟩|⟨_,_,h⟩
 ·exact h.kp
 ·exact h
theorem Qi{w:World}{base:Nat}{l:LB}{A:OA}{c:Nat}(h:BRow w base l A c):∀k,k<w.heap.size->jHQ A k->From base k:=fun k _ hx=>(h.own.lt k (by rw[jE];exact hx)).1
theorem NR.from_{w w' :World}{base:Nat}{A:OA}{o:Option LB}{v:Value}{l:LB}{c:Nat}(h:NR w base A o v w')(hb:BRow w base l A c):Kp (From base) w w' :=h.kp.mono (Qi hb)
theorem NR.blk{w w' :World}{base:Nat}{A:OA}{o:Option LB}{v:Value}{l:LB}{c g:Nat}{T:TypeId}{cs:Array Value}(h:NR w base A o v w')(hr:BRow w base l A c)(hb:Blk w g T cs)(Ff:5≠T):Blk w' g T cs:=
 hb.kp h.kp (fun hj=>kx hr.own hb Ff (by rw[jE];exact hj))
def jCq(ts:List BA)(o:Option LB):Option LB:=o.bind fun r=>if ts.length<=255 then some (r++Ky ts)else none
theorem VQ(w w1:World)(base:Nat)(l:LB)(A:OA)(c:Nat)(h:BRow w base l A c)(o:Option LB)(v:Value)(hv:NR w base A o v w1)(hl:∀r,o=some r->r.length<=3000000000000)(B:OA)(d n:Nat)(ts:List BA)(hn:ts.length=n)(Fa:Rd w 1 B n (ts.map sv))(FA:Av (From base) n B)(FJ:∀t∈ts,t.size<=2147483647):
  Calls prog 117 #[v,.slice B n d] w1 fun e w' =>∃v',e=.returned v' /\NR w base A (jCq ts o) v' w' :=by
 have PR:=Fa.kp (hv.from_ h) FA;rcases hv with⟨r,A',c',rfl,Ff,rfl,hg⟩|⟨rfl,rfl,hk⟩
 ·by_cases hs:n<=255
  ·refine(jBO w1 base r A' c' hg.row Ff (hl r rfl) B d n ts hn hs PR FA FJ).mono ?_;rintro e w2 ⟨l2,A2,c2,e2,rfl,h2⟩;have e2:=e2.out;refine⟨_,rfl,.inl ⟨l2,A2,c2,?_,?_,rfl,hg.trans h2⟩⟩
   ·rw[e2];exact jJ6 (by rw[hn];exact hs)
   ·rw[e2,Ky];simp
  ·obtain⟨g,rfl,_⟩:=hg.row.some_ Ff;refine(jBQ w1 _ r.length c' B n d (by omega)).mono ?_;rintro e w2 ⟨rfl,rfl⟩;exact⟨_,rfl,.inr ⟨jJ5 (by rw[hn];exact hs),rfl,hg.kp⟩⟩
 ·refine(jBP w1 _).mono ?_;rintro e w2 ⟨rfl,rfl⟩;exact⟨_,rfl,.inr ⟨rfl,rfl,hk⟩⟩
theorem jAx{ts:List BA}{o:Option LB}{n:Nat}(h:∀r,o=some r->r.length<=n)(hs:∀t∈ts,t.size<=2147483647):∀r,jCq ts o=some r->r.length<=n+547608331006:=by
 intro r e;unfold jCq at e;cases o with
 |none=>simp at e
 |some x=>
  by_cases hl:ts.length<=255
  ·rw[jL2,jJ6 hl]at e;have h1:=h x rfl;have h2:=Xr ts ts.length hs;rw[List.take_length]at h2;obtain rfl:=jL5 e;rw[jJ4,Ky,jJ4];have:ts.length*2147483651<=255*2147483651:=Nat.mul_le_mul_right _ hl;simp only[List.length_singleton];omega
  ·rw[jL2,jJ5 hl]at e;cases e
theorem QA(l:LB)(ts:List BA)(o:Option LB):jCq ts (o.map (l++ ·))=(jCq ts o).map (l++ ·):=by
 cases o with
 |none=>rfl
 |some x=>simp only[jCq,Option.map_some,jL2];split<;>simp
theorem NR.end_{w w1 w2 w' :World}{base:Nat}{A A1:OA}{l out:LB}{c c1:Nat}{R:Option LB}{v:Value}(ho:Old w w1)(hb:BRow w1 base l A c)(hG:Grew w1 base A w2 out A1 c1)(h:NR w2 base A1 (R.map (l++ ·)) v w'):VA w base A l R (.returned v) w' :=by
 rcases h with⟨r,A',c',e,_,rfl,hg⟩|⟨e,rfl,hk⟩
 ·cases R with
  |none=>cases e
  |some x=>
   obtain rfl:=jL5 e;exact .inl ⟨x,_,A',c',rfl,G rfl,rfl,Grew.old ho (hG.trans hg)⟩
 ·cases R with
  |none=>exact .inr ⟨rfl,rfl,((ho.mono (Y:=From base) (fun _ _ f=>f.elim)).trans (hG.from_ hb) (fun _ _ h=>h)).trans (hk.mono (Qi hG.row)) (fun _ _ h=>h)⟩
  |some x=>cases e
structure CaC(W:World)(B:Nat)(m:MCase):Prop where
 c1:W.cell? ⟨B,1,none⟩=some (.string m.type_)
 c2:W.cell? ⟨B,2,none⟩=some (.int .i64 m.count)
 c35:W.cell? ⟨B,35,none⟩=some (.slice m.vA m.values.length m.vC)
 c36:W.cell? ⟨B,36,none⟩=some (.slice m.open_.A m.open_.l.length m.open_.c)
 c37:W.cell? ⟨B,37,none⟩=some (.slice m.closed.A m.closed.l.length m.closed.c)
 c38:W.cell? ⟨B,38,none⟩=some (.slice m.reached.A m.reached.l.length m.reached.c)
 ch:W.rangeAt B 3 (jA m.chain)
theorem CaC.of{W:World}{B:Nat}{m:MCase}(hc:m.chain.length=32)(h:Blk W B 43 m.cells.toArray):CaC W B m:=by
 have Fo:∀(i:Nat) (v:Value),m.cells[i]? =some v->W.cell? ⟨B,i,none⟩=some v:=fun i v e=>h.at_ i (by rw[jJ7];exact e);have e35:m.cells[35]? =some (.slice m.vA m.values.length m.vC):=jh [.string m.name,.string m.type_,.int .i64 m.count] _ m.chain hc 35 0 rfl;have e36:m.cells[36]? =some (.slice m.open_.A m.open_.l.length m.open_.c):=jh [.string m.name,.string m.type_,.int .i64 m.count] _ m.chain hc 35 1 rfl;have e37:m.cells[37]? =some (.slice m.closed.A m.closed.l.length m.closed.c):=jh [.string m.name,.string m.type_,.int .i64 m.count] _ m.chain hc 35 2 rfl;have e38:m.cells[38]? =some (.slice m.reached.A m.reached.l.length m.reached.c):=jh [.string m.name,.string m.type_,.int .i64 m.count] _ m.chain hc 35 3 rfl;exact⟨Fo 1 _ rfl,Fo 2 _ rfl,Fo 35 _ e35,Fo 36 _ e36,Fo 37 _ e37,Fo 38 _ e38,(Sub.mid_ [.string m.name,.string m.type_,.int .i64 m.count] (jA m.chain) _ 3 rfl).range h⟩
theorem KP{w:World}{X:Nat->Prop}{m:MTexts}(h:m.Ok w X):∀t∈m.l,t.size<=2147483647:=fun t ht=>by
 obtain⟨k,hk,rfl⟩:=List.getElem_of_mem ht;have:=h.small k hk;simpa [List.getD,hk]using this
theorem jDr(w:World)(base:Nat)(l:LB)(A:OA)(c:Nat)(h:BRow w base l A c)(Ff:l≠ [])(hl:l.length<=10)(m:MCase)(Hu:m.Ok w (From base)):
  Calls prog 66 #[.slice A l.length c,.agg m.cells.toArray] w (VA w base A l (ZL m.data)):=by
 have HB:=G (jQ2 w 43 m.cells.toArray);have H0:=G (h.alloc (.cells m.cells.toArray 43));have Ho:=G ((jQ0 NoX w).alloc (.cells m.cells.toArray 43));have Fe:=G Hu;have HX:=G (fun W' (hb:Blk W' w.heap.size 43 m.cells.toArray)=>CaC.of Hu.chain hb);have HD:=G (show ZL m.data=if m.values.length<=255/\(m.values.all fun b=>decide (jS b.v.v=0))=true then
   (if m.open_.l.length<=255/\m.closed.l.length<=255/\m.reached.l.length<=255 then some ((lp 4 (sb m.type_)++(be8 m.count++(m.chain++(be 1 m.values.length++m.values.flatMap fun b=>vu (MBind.data b)))))++(Ky m.open_.l++(Ky m.closed.l++Ky m.reached.l)))else none)else none by
  have e:(m.data.values.all fun b=>decide (jS b.2=0))=(m.values.all fun b=>decide (jS b.v.v=0)):=by
   simp only[MCase.data,List.all_map];rfl
  rw[ZL,vz,e];simp only[MCase.data,jK7,List.flatMap_map])
 have Hl:=G hl;have V0:=G Ff;clear h Hu hl Ff;generalize ZL m.data=R at*;generalize m.cells=cl at*;go_enter func66,ntmps66;go_upto_region 1 with(fail);generalize w.alloc _=W at*;have c35:=(HX.out W HB.out).c35;by_cases hv:m.values.length<=255
 case neg=>
  have hY:=G (show R=none by rw[HD.out,jJ5 (fun h=>hv h.1)]);have AY:(255:Int)<(m.values.length:Int):=(by omega);clear hv;go_wp2;go_ret;exact .inr ⟨hY.out,rfl,Ho.out.mono (fun _ _ f=>f.elim)⟩
 have AY:¬(255:Int)<(m.values.length:Int):=(by omega);have Hv:=G hv;clear hv;go_upto_region 3 with(fail);have hG:=Grew.refl_ H0.out.drew;have NH:=HB.out.drew;have hx:=HX.out _ NH;have c1:=hx.c1;have c2:=hx.c2;clear hx c35
 go_region_held3 (fun w' =>w'.cell? ⟨w.heap.size,1,none⟩=some (.string m.type_)/\w'.cell? ⟨w.heap.size,2,none⟩=some (.int .i64 m.count)) (first|exact⟨c1,c2⟩|fail)
  (first
   |(go_at_call 65;refine(Kh _ base l A c m.type_ H0.out.drew (by have:=Hl.out;omega) Fe.out.big.2.1).mono ?_;rintro e w3 ⟨l3,A3,c3,e3,rfl,h3⟩;have NH:=NH.grew H0.out.drew h3 (by decide);have hx:=HX.out _ NH;have c1:=hx.c1;have c2:=hx.c2;clear hx)
   |(go_at_call 32;refine(uk _ m.count).mono ?_;rintro e w4 ⟨B4,d4,rfl,r4,a4,o4⟩;have NH:=NH.old o4;have hx:=HX.out _ NH;have c1:=hx.c1;have c2:=hx.c2;clear hx)
   |(refine kv (.tmp 15) (.tmp 18) (h3.row.old o4) r4 ?_ rfl rfl rfl rfl ?_;(rw[e3.out,jC,jJ4,jV,jH];have:=Hl.out;have:=Fe.out.big.2.1;omega);intro l5 A5 c5 w5 e5 h5;have NH:=NH.grew (h3.row.old o4) h5 (by decide);have hx:=HX.out _ NH;have c1:=hx.c1;have c2:=hx.c2;clear hx)
   |fail)
 all_goals
  have hx:=HX.out _ NH;have X5:=G NH;have G5:=G (h3.trans (h5.old o4));have E5:=G (show l5=l++(lp 4 (sb m.type_)++be8 m.count)by rw[e5.out,e3.out,jK1];rfl);have RM:=G (show Rd w5 1 (some ⟨w.heap.size,3,none⟩) m.chain.length (m.chain.map bv)from⟨by simp,fun _=>⟨_,_,rfl,hx.ch⟩⟩);have GL:=G Fe.out.chain;have HO:=G H0.out.drew;have XO:=G HB.out.drew;have N5:=G (Kp.drew Ho.out);have CC:=G (Kp.drew (Ho.out.mono (Y:=From base) (fun _ _ f=>f.elim)));have L5:=G (show l5.length<=2147483700 by rw[E5.out,jJ4,jJ4,jV,jH,jG];have:=Hl.out;have:=Fe.out.big.2.1;omega);clear h3 h5 o4 r4 e3 e5 hx NH c1 c2 H0 HB Ho hG;have e8:IntKind.u8.wrap (m.values.length:Int)=(m.values.length:Int):=IntWalk.u8_in _ (by have:=Hv.out;omega);have FD:=G (show∀W:World,Rd (W.alloc (.cells #[.int .u8 (m.values.length:Int)] 5)) 1 (some ⟨W.heap.size,0,none⟩) (be 1 m.values.length).length ((be 1 m.values.length).map bv)from fun W=>by
   have h:=Rd.one_new W 5 (.int .u8 (m.values.length:Int));have e:Value.int .u8 (m.values.length:Int)=bv (UInt8.ofNat m.values.length):=by
    rw[zO,Nat.mod_eq_of_lt (by have:=Hv.out;omega)]
   rw[show be 1 m.values.length=[UInt8.ofNat m.values.length]by simp[be],e];rw[e]at h;exact h)
  go_wp2_with (first
   |(at_builtin;refine ja (.tmp 20) (.tmp 22) G5.out.row (d:=32) RM.out (by rw[GL.out];have:=L5.out;omega) rfl rfl rfl (by rw[GL.out];rfl) ?_;intro l6 A6 c6 w6 e6 h6;have X6:=G (X5.out.grew G5.out.row h6 (by decide));have G6:=G (G5.out.trans h6);have E6:=G e6.out;have L6:=G (show l6.length=l5.length+32 by rw[e6.out,jJ4,GL.out]);have c35:=(HX.out _ X6.out).c35;clear e6 h6)
   |(at_builtin;refine ja (.tmp 24) (.tmp 29) (G6.out.row.alloc _) (d:=1) (FD.out _) (by have:=L6.out;have:=L5.out;rw[jC];omega) rfl rfl rfl rfl ?_;intro l7 A7 c7 w7 e7 h7;have G7:=G (G6.out.trans (h7.old ((jQ0 NoX _).alloc _)));have E7:=G e7.out;have L7:=G (show l7.length<=2147483733 by rw[e7.out,jJ4,jC];have:=L6.out;have:=L5.out;omega);clear e7 h7)
   |fail)
  have BT:=G (show∀W' :World,Kp (From base) W.drew W' ->∀k,(hM:k<m.values.length)->∃b o,m.vA=some ⟨b,o,none⟩/\W'.rangeAt b (o+k*5) m.values[k].cells/\Rd W' 1 m.values[k].v.A m.values[k].v.v.s.length (m.values[k].v.v.s.map sv)from fun W' hk k hM=>by
   have hZ:=CC.out.trans hk (fun _ _ h=>h);obtain⟨b,o,N7,FK⟩:=(Fe.out.rdV.kp hZ Fe.out.avV).elem (f:=MBind.cells) (fun _ _=>rfl) rfl hM;have GU:=(Fe.out.values _ (jL6 hM)).v;exact⟨b,o,N7,FK,GU.rd.kp hZ GU.av⟩)
  have EC:=G (show∀k,(hM:k<m.values.length)->m.values[k].v.v.s.length<=1000000000000/\m.values[k].name.size<=2147483647 from fun k hM=>by
   have GU:=Fe.out.values _ (jL6 hM);exact⟨GU.v.big,GU.small⟩)
  go_loopw [0,5] (fun b i wr=>∃(k:Nat) (out:LB) (A' :OA) (c' :Nat),k<=m.values.length/\i=.int .i64 k/\b=.slice A' out.length c' /\((m.values.take k).all fun b=>decide (jS b.v.v=0))=true/\out=l7++((m.values.take k).flatMap fun b=>vu (MBind.data b))/\out.length<=2147483733+k*2147583651/\Grew W.drew base A wr out A' c') (fun _ i _=>m.values.length-(intOf i).toNat)
  case atStart=>exact⟨0,l7,A7,c7,by omega,rfl,rfl,rfl,by simp,by have:=L7.out;omega,G7.out⟩
  case round=>
   clear c35;obtain⟨k,out,A',c',hk,rfl,rfl,Fp,G0,hlen,hG⟩:=hrel;have HG:=G hG;have GF:=G G0;have Fi:=G hlen;have Fv:=G Fp;have XR:=G (XO.out.grew HO.out hG (by decide));have c35:=(HX.out _ XR.out).c35;clear hG G0 hlen Fp;by_cases hM:k<m.values.length
   ·obtain⟨b,o,N7,FK,Fa⟩:=BT.out wr (HG.out.from_ HO.out) k hM;have M1:=EC.out k hM;have Fm:=G (show l7++((m.values.take (k+1)).flatMap fun b=>vu (MBind.data b))=(out++lp 4 (sb m.values[k].name))++yX m.values[k].v.v by
     rw[GF.out,jK2 hM,List.flatMap_append,List.flatMap_singleton,vu,MBind.data];simp only[jK1])
    have C9:=G (show((m.values.take (k+1)).all fun b=>decide (jS b.v.v=0))=decide (jS m.values[k].v.v=0)by
     rw[jK2 hM,List.all_append,Fv.out];simp)
    have LH:=G (show¬jS m.values[k].v.v=0->R=none from fun GH=>by
     rw[HD.out,jJ5];rintro ⟨_,h⟩;rw[List.all_eq_true]at h;exact GH (of_decide_eq_true (h _ (jL6 hM))))
    generalize m.values[k]=y at*;obtain⟨name,⟨⟨vk,vn,vt,vs⟩,mA,mc⟩⟩:=y;have q0:=FK 0 _ rfl;have q1:=FK 1 _ rfl;have q2:=FK 2 _ rfl;have q3:=FK 3 _ rfl;have q4:=FK 4 _ rfl;simp only[Nat.add_zero]at q0 q1 q2 q3 q4 Fm C9 LH M1 Fa;have Fy:=G Fa;have Ru:=G M1;have b1:(0:Int)<=(k:Int):=(by omega);have b2:(k:Int)<(m.values.length:Int):=(by omega);have b3:(k:Int).toNat=k:=(by omega);have Tf:=G (show k<=254 by have:=Hv.out;omega);rw[N7]at c35;have hA:=G N7;have Hq0:=G (fun W' (h:Old wr W')=>zJ h q0);clear FK Fa M1 N7;have Oe:=Hq0.out;by_cases hR:jS ⟨vk,vn,vt,vs⟩=0
    ·have HR:=G hR;clear hR;go_wp2_with fail;refine(xX ⟨vk,vn,vt,vs⟩ mA mc _ Fy.out Ru.out.1).mono ?_;rintro e w4 (⟨_,lv,Av,cv,Bk,rfl,hv,Gv⟩|⟨hz,_⟩)
     case inr=>exact absurd HR.out hz
     have Hlv:=G Bk;have T6:=G (show lv.length<=100000 by rw[Bk];exact Zz _ HR.out);have Wl:=G Gv;have BZ:=G hv;have HT:=G (Kh w4 base out A' c' name (HG.out.row.old Gv) (by have:=Fi.out;have:=Tf.out;omega) Ru.out.2);have c35:=(HX.out _ (XR.out.old Gv)).c35;rw[hA.out]at c35;have q0:=Oe w4 Gv;have hR0:(jS ⟨vk,vn,vt,vs⟩ !=0)=false:=by rw[HR.out];rfl
     clear Bk Gv hv Oe q1 q2 q3 q4;go_wp2_with fail;refine HT.out.mono ?_;rintro e w5 ⟨l5,A5,c5,e5,rfl,h5⟩;have WP:=G (BZ.out.kp h5.kp (fun k Fc _ hx=>by
      have:=(HG.out.row.own.lt k (by rw[jE];exact hx)).2;omega)).rd
     have G5:=G (HG.out.trans (h5.old Wl.out));have E5:=G e5.out;clear e5 h5;go_wp2_with (first|(at_builtin;refine ja (.tmp 57) (.tmp 58) G5.out.row WP.out (by have:=Fi.out;have:=Tf.out;have:=T6.out;have:=Ru.out.2;rw[E5.out,jJ4,jV,jH];omega) rfl rfl rfl rfl ?_;intro l6 A6 c6 w6 e6 h6)|fail);have G6:=G (G5.out.trans h6);have E6:=G e6.out;clear h6 e6;go_roundw
     case rel=>
      refine⟨k+1,l6,A6,c6,by omega,by go_num,rfl,by rw[C9.out,jK5 HR.out],by rw[E6.out,E5.out,Hlv.out,Fm.out],?_,G6.out⟩;have:=Fi.out;have:=T6.out;have:=Ru.out.2;rw[E6.out,E5.out,jJ4,jJ4,jV,jH];omega
     case measure=>simp[intOf];omega
    ·have DB:(jS ⟨vk,vn,vt,vs⟩ !=0)=true:=bne_iff_ne.2 hR;have hY:=G (LH.out hR);have HR:=G hR;clear hR;go_wp2_with fail;refine(xX ⟨vk,vn,vt,vs⟩ mA mc _ Fy.out Ru.out.1).mono ?_;rintro e w4 (⟨hz,_⟩|⟨_,rfl,Gv⟩)
     ·exact absurd hz HR.out
     have Wl:=G ((CC.out.trans (HG.out.from_ HO.out) (fun _ _ h=>h)).old Gv);clear Gv;generalize jS ⟨vk,vn,vt,vs⟩=Rr at*;go_wp2;go_ret;exact .inr ⟨hY.out,rfl,Wl.out⟩
   ·obtain rfl:k=m.values.length:=(by omega);have Wf:=G (show(m.values.all fun b=>decide (jS b.v.v=0))=true by have:=Fv.out;rwa [List.take_length]at this);have Rh:=G (show l++(lp 4 (sb m.type_)++(be8 m.count++(m.chain++(be 1 m.values.length++m.values.flatMap fun b=>vu (MBind.data b)))))=out by
     rw[GF.out,E7.out,E6.out,E5.out,List.take_length];simp only[jK1])
    have Io:=G (show out≠ []from fun e=>V0.out (by rw[e]at Rh;exact(List.append_eq_nil_iff.1 Rh.out).1));have V1:=G (show out.length<=560000000000 by have:=Fi.out;have:=Hv.out;omega);have AL:=G (show R=(jCq m.reached.l (jCq m.closed.l (jCq m.open_.l (some (lp 4 (sb m.type_)++(be8 m.count++(m.chain++(be 1 m.values.length++m.values.flatMap fun b=>vu (MBind.data b)))))))))by
     rw[HD.out,jJ6 ⟨Hv.out,Wf.out⟩];unfold jCq;by_cases h1:m.open_.l.length<=255<;>by_cases h2:m.closed.l.length<=255<;>by_cases h3:m.reached.l.length<=255<;>simp[h1,h2,h3])
    go_upto_region 13 with(fail);have hx:=HX.out _ XR.out.drew;have c36:=hx.c36;have c37:=hx.c37;have c38:=hx.c38;clear hx c35;have C8:=G (CC.out.trans (HG.out.from_ HO.out).drew (fun _ _ h=>h));have HN0:=G (show NR wr.drew base A' (some out) (.slice A' out.length c') wr.drew from .inl ⟨out,A',c',rfl,Io.out,rfl,Grew.refl_ HG.out.row.drew⟩);have B0:=G (show∀r,some out=some r->r.length<=560000000000 from fun r e=>by obtain rfl:=jL5 e;exact V1.out);have B1:=G (jAx B0.out (KP Fe.out.open_));have B2:=G (jAx B1.out (KP Fe.out.closed));have Ge:=G (VQ wr.drew wr.drew base out A' c' HG.out.row.drew _ _ HN0.out (fun r e=>by have:=B0.out r e;omega) _ m.open_.c _ m.open_.l rfl (Fe.out.open_.rd.kp C8.out Fe.out.open_.av) Fe.out.open_.av (KP Fe.out.open_));have EP:=G (fun w1 v n1=>VQ wr.drew w1 base out A' c' HG.out.row.drew _ v n1 (fun r e=>by have:=B1.out r e;omega) _ m.closed.c _ m.closed.l rfl (Fe.out.closed.rd.kp C8.out Fe.out.closed.av) Fe.out.closed.av (KP Fe.out.closed));have EO:=G (fun w1 v n1=>VQ wr.drew w1 base out A' c' HG.out.row.drew _ v n1 (fun r e=>by have:=B2.out r e;omega) _ m.reached.c _ m.reached.l rfl (Fe.out.reached.rd.kp C8.out Fe.out.reached.av) Fe.out.reached.av (KP Fe.out.reached));have HE:=G (show jCq m.reached.l (jCq m.closed.l (jCq m.open_.l (some out)))=R.map (l++ ·)by
     rw[<-Rh.out,AL.out,<-QA,<-QA,<-QA];rfl)
    go_region_held3 (fun w' =>w'.cell? ⟨w.heap.size,36,none⟩=some (.slice m.open_.A m.open_.l.length m.open_.c)/\w'.cell? ⟨w.heap.size,37,none⟩=some (.slice m.closed.A m.closed.l.length m.closed.c)/\w'.cell? ⟨w.heap.size,38,none⟩=some (.slice m.reached.A m.reached.l.length m.reached.c)) (first|exact⟨c36,c37,c38⟩|fail)
     (first
      |(go_at_call 117;(with_reducible refine(Ge.out).mono ?_);rintro e w1 ⟨v1,rfl,n1⟩;have hx:=HX.out _ (n1.blk HG.out.row.drew XR.out.drew (by decide));have c36:=hx.c36;have c37:=hx.c37;have c38:=hx.c38;clear hx)
      |(go_at_call 117;(with_reducible refine(EP.out _ _ n1).mono ?_);rintro e w2 ⟨v2,rfl,n2⟩;have hx:=HX.out _ (n2.blk HG.out.row.drew XR.out.drew (by decide));have c36:=hx.c36;have c37:=hx.c37;have c38:=hx.c38;clear hx)
      |(go_at_call 117;(with_reducible refine(EO.out _ _ n2).mono ?_);rintro e w3 ⟨v3,rfl,n3⟩;have hx:=HX.out _ (n3.blk HG.out.row.drew XR.out.drew (by decide));have c36:=hx.c36;have c37:=hx.c37;have c38:=hx.c38;clear hx)
      |fail)
    all_goals
     rw[HE.out]at n3;have N3:=G (NR.end_ N5.out HO.out (HG.out.trans (Grew.old (jQ0 NoX wr).drew (Grew.refl_ HG.out.row.drew))) n3);clear n1 n2 n3;go_wp2;go_ret;exact N3.out
theorem jBW(w:World)(base:Nat)(l:LB)(A:OA)(c:Nat)(h:BRow w base l A c)(cl:List Value):
  Calls prog 34 #[.slice A l.length c,.int .i64 12,.agg cl.toArray] w (VA w base A l (some [])):=by
 have H:=G h;clear h;go_enter func34,ntmps34;go_wp2;go_ret;exact .inl ⟨[],l,A,c,rfl,G (by simp),rfl,Grew.old ((jQ0 NoX w).alloc _) (Grew.refl_ (H.out.alloc _))⟩
section
variable{w w' :World}{X:Nat->Prop}
theorem MVal.Ok.old2{m:MVal}(h:m.Ok w X)(ho:Old w w'):m.Ok w' X:=⟨h.rd.old ho,h.av,h.cap,h.big⟩
theorem MTexts.Ok.old2{m:MTexts}(h:m.Ok w X)(ho:Old w w'):m.Ok w' X:=⟨h.rd.old ho,h.av,h.cap,h.small,h.big⟩
theorem MCase.Ok.old2{m:MCase}(h:m.Ok w X)(ho:Old w w'):m.Ok w' X:=⟨h.chain,fun v hv=>⟨(h.values v hv).v.old2 ho,(h.values v hv).small⟩,h.rdV.old ho,h.avV,h.open_.old2 ho,h.closed.old2 ho,h.reached.old2 ho,h.big⟩
end
theorem jDg(w:World)(base:Nat)(l:LB)(A:OA)(c:Nat)(h:BRow w base l A c)(Ff:l≠ [])(hl:l.length<=10)(cl:List Value)(m:MCase)(hs:Sub cl 6 m.cells)(Hu:m.Ok w (From base)):
  Calls prog 34 #[.slice A l.length c,.int .i64 3,.agg cl.toArray] w (VA w base A l (ZL m.data)):=by
 have H:=G h;have HB:=G (hs.range (jQ2 w 63 cl.toArray));have GQ:=G (show(prog.info? 43).map (·.size)=some m.cells.length by rw[MCase.len Hu.chain];kernel_rfl);have Fe:=G Hu;have V0:=G Ff;have Hl:=G hl;clear h hs Hu Ff hl;go_enter func34,ntmps34;go_wp2_with (first|((with_reducible refine jT 43 (.tmp 60) ?_);refine jK rfl 43 (.tmp 60) rfl w.heap.size 6 rfl m.cells _ HB.out underlying43 rfl GQ.out ?_)|((with_reducible refine ji 43 (.tmp 60) ?_);refine jK rfl 43 (.tmp 60) rfl w.heap.size 6 rfl m.cells _ HB.out underlying43 rfl GQ.out ?_)|fail);have Ho:=G ((jQ0 NoX w).alloc (.cells cl.toArray 63));have HC:=G (jDr _ base l A c (H.out.old Ho.out) V0.out Hl.out m (Fe.out.old2 Ho.out));refine HC.out.mono ?_;rintro e w2 (⟨r,out,A',c',e1,e2,rfl,hg⟩|⟨e1,rfl,hk⟩)
 ·have E1:=G e1;have E2:=G e2.out;have G2:=G (Grew.old Ho.out hg);clear e1 e2 hg;go_wp2;go_ret;exact .inl ⟨r,out,A',c',E1.out,G E2.out,rfl,G2.out⟩
 ·have E1:=G e1;have K2:=G ((Ho.out.mono (Y:=From base) (fun _ _ f=>f.elim)).trans hk (fun _ _ h=>h));clear e1 hk;go_wp2;go_ret;exact .inr ⟨E1.out,rfl,K2.out⟩
end Go.Proofs.YtnaolhjbapgjgaaGreat

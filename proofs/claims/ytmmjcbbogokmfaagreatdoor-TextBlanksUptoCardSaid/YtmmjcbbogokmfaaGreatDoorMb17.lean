import Derived.Test.YtmmjcbbogokmfaaGreatDoorMb16
set_option maxRecDepth 100000
set_option maxHeartbeats 25600000
namespace Go.Proofs.YtmmjcbbogokmfaaGreatDoor
open Go.Proofs.Tryz
open Go.RowKit
inductive Takes (t:Nat):Nat->List Nat->List Nat->Prop
 |hit (l:List Nat):Takes t 1 (t::l) l
 |more (n x:Nat) (l k:List Nat):x≠t->Takes t n (jK x t++l) k->Takes t (n+1) (x::l) k
theorem Takes.uniq{t:Nat}{n:Nat}{l k:List Nat}(h:Takes t n l k):∀{n' :Nat} {k' :List Nat},Takes t n' l k' ->n=n' /\k=k' :=by
 induction h with
 |hit l=>
  intro n' k' h';cases h' with
  |hit _=>exact⟨rfl,rfl⟩
  |more _ _ _ _ Fa _=>exact absurd rfl Fa
 |more n x l k Fa _ ih=>
  intro n' k' h';cases h' with
  |hit _=>exact absurd rfl Fa
  |more _ _ _ _ _ h2=>
   obtain⟨rfl,rfl⟩:=ih h2;exact⟨rfl,rfl⟩
theorem Jg{t:Nat}:∀{f:Nat} {l k:List Nat},kO t f l=some k->∃n,n<=f/\Takes t n l k
 |0,l,k,h=>by cases h
 |f+1,[],k,h=>by cases h
 |f+1,x::l,k,h=>by
  rw[kO]at h;split at h
  ·rename_i hx;subst hx;obtain rfl:=jL5 h;exact⟨1,by omega,.hit l⟩
  ·rename_i hx;obtain⟨n,hn,h2⟩:=Jg h;exact⟨n+1,by omega,.more n x l k hx h2⟩
noncomputable def tkMeas (t g:Nat) (w:World):Nat:=Classical.epsilon fun n=>∃r src m A c k,Mac w g r src m A c/\Takes t n m.stack k
theorem xY{t g:Nat}{w:World}{r:Option Nat}{src:BA}{m:Mc}{A:OA}{c n:Nat}{k:List Nat}(h:Mac w g r src m A c)(ht:Takes t n m.stack k):tkMeas t g w=n:=by
 obtain⟨r',src',m',A',c',k',h',Dq⟩:=Classical.epsilon_spec (p:=fun n=>∃r src m A c k,Mac w g r src m A c/\Takes t n m.stack k) ⟨n,r,src,m,A,c,k,h,ht⟩;rw[h.uniq h']at ht;exact(Dq.uniq ht).1
def Fit(l:List Nat):Prop:=l.length<=11/\∀x∈l,x<85
theorem Fit.ite{c:Prop}[Decidable c]{a b:List Nat}(ha:Fit a)(hb:Fit b):Fit (if c then a else b):=by
 split
 ·exact ha
 ·exact hb
theorem Fit.of(l:List Nat)(h:(decide (l.length<=11)&&l.all (fun x=>decide (x<85)))=true):Fit l:=by
 rw[Bool.and_eq_true,List.all_eq_true]at h;exact⟨jM8 h.1,fun x hx=>jM8 (h.2 x hx)⟩
theorem Fit.cons{t:Nat}{l:List Nat}(ht:t<85)(h:l.length<=10)(h2:Fit l):Fit (t::l):=⟨by rw[jK6];omega,fun x hx=>by
 rcases jN4 hx with rfl|hx
 ·exact ht
 ·exact h2.2 x hx⟩
theorem xk(n t:Nat)(ht:t<85):Fit (jK n t):=by
 unfold jK yE zU kZ
 repeat' first|apply Fit.ite|exact Fit.of _ (by decide)|exact Fit.cons ht (by decide) (Fit.of _ (by decide))
theorem jBJ(n t:Nat)(ht:t<85):∀x∈jK n t,x<85:=(xk n t ht).2
theorem Av.mx{w:World}{g n size:Nat}{r r' :Option Nat}{A:OA}{xs:List Value}(ha:Av (MX g r) n A)(hf:MFr w r r')(hr:Rd w size A n xs)(hs:0<size):Av (MX g r') n A:=by
 intro hn ad e hx;rcases hx with hx|hx
 ·exact ha hn ad e (.inl hx)
 ·rcases hf with rfl|⟨k,rfl,Fc⟩
  ·exact ha hn ad e (.inr hx)
  ·injection hx with hx;have:=hr.lt hs hn e;omega
theorem jA5:∀w,(sizeOf (prog.elem 159)).run prog w=.ok 1 w:=fun _=>by kernel_rfl
structure Lay(w:World)(g:Nat)(r:Option Nat)(src:BA)(m:Mc)(R:List Nat)(B:OA)(rest:List Nat)(p:Nat)(wr:World)(r2:Option Nat)(A2:OA)(c2:Nat):Prop where
 mac:Mac wr g r2 src {m with stack:=R.drop p++rest} A2 c2
 kp:Kp (MX g r) w wr
 fr:MFr w r r2
 rd:Rd wr 1 B R.length (R.map yv)
 av:Av (MX g r2) R.length B
theorem Lay.next{w wr wx w1:World}{g:Nat}{r r2:Option Nat}{src:BA}{m:Mc}{R rest:List Nat}{B A2 A' :OA}{c2 c' q k:Nat}(h:Lay w g r src m R B rest (q+1) wr r2 A2 c2)(hq:q<R.length)(hk:(R.drop (q+1)++rest).length=k)(hx:Old wr wx)
  (h5:R.getD q 0<85)
  (Hh:w1.ownsRow 8 163 1 (.slice A' (k+1) c') (k+1) ((R.drop (q+1)++rest).reverse.map yv++[yv (R.getD q 0)])) (hg:wx.grownBy w1 (Value.slice A2 k c2).ownBlock)
  (Ff:A'.map (·.block)=(Value.slice A2 k c2).ownBlock\/A'.map (·.block)=some wx.heap.size):
  ∃r3 A3 c3,Lay w g r src m R B rest q (w1.setCell ⟨g,2,none⟩ (.slice A' (k+1) c')) r3 A3 c3:=by
 obtain⟨r3,A3,c3,hM,G7,Gf⟩:=h.mac.put hk hx h5 Hh hg Ff;refine⟨r3,A3,c3,?_,h.kp.trans G7 (MX.trans h.fr),h.fr.trans h.kp.size Gf,h.rd.kp G7 h.av,h.av.mx Gf h.rd (by decide)⟩;have e:R.drop q=R.getD q 0::R.drop (q+1):=by
  rw[jM9 hq];simp[List.getD,List.getElem?_eq_getElem hq]
 rw[e];exact hM
theorem yp(w:World)(g:Nat)(r:Option Nat)(src:BA)(m:Mc)(A:OA)(c:Nat)(h:Mac w g r src m A c)(t n0:Nat)(k:List Nat)(ht:t<58)(hT:Takes t n0 m.stack k)(hb:m.stack.length+11*n0<=100000000):
  Calls prog 179 #[.pointer (some ⟨g,0,none⟩),yv t] w fun e w' =>e=.returned (.tuple #[])/\MStep w g r w' src {m with stack:=k}:=by
 obtain⟨i0,hi,FF,Gy,GI⟩:=info_parts jCM;have CH:=G (show∃n st,Takes t n st k/\MStep w g r w src {m with stack:=st}/\st.length+11*n<=100000000 from⟨n0,m.stack,hT,h.step,hb⟩);clear h hT hb;unfold yv;go_enter func179,ntmps179;go_wp2;go_loopw [] (fun wr=>∃n st,Takes t n st k/\MStep w g r wr src {m with stack:=st}/\st.length+11*n<=100000000) (fun wr=>tkMeas t g wr)
 case atStart=>exact CH.out
 case round=>
  clear CH;obtain⟨n,st,hT,⟨r1,A,c,hM,G7,Gf⟩,hb⟩:=hrel;have Wf:=G (xY hM hT);cases hT with
  |hit _=>
   have Fq:=hM.c2;have MU:=hM.z 2;obtain⟨b,o,rfl,FH⟩:=hM.own.at_ 0 (by simp);simp only[jK6,List.getD_cons_zero]at Fq FH hb;rw[show k.length+1-1-0=k.length by omega]at FH;have FY:=G (hM.setPop (n:=t) (st:=k) rfl);have L8:=Stk.cap (n:=t) (st:=k) hM.own;have hcut:=fun w' =>jIw (P:=prog) (t:=159) underlying159 jA5 (some ⟨b,o,none⟩) (k.length+1) c k.length .i64 (k.length:Int) rfl L8 w';have Fw:=G G7;have Gx:=G Gf;clear hM G7 Gf Wf;generalize k.length=L at*;have ew:IntKind.i64.wrap (L:Int)=(L:Int):=jQ3 _ (by omega);have b1:(0:Int)<=(L:Int):=(by omega);have b2:(L:Int).toNat=L:=(by omega);unfold yv at*;have b3:((t:Int)==(t:Int))=true:=(by simp);go_wp2;refine bodyPost_ret (results_none rfl _ _ _) rfl ?_;exact⟨rfl,MStep.trans Fw.out Gx.out ⟨_,_,_,FY.out.1,FY.out.2,.inl rfl⟩⟩
  |more n x l _ Fa hT=>
   have Fq:=hM.c2;have MU:=hM.z 2;have Ca:x<85:=hM.sym x List.mem_cons_self;obtain⟨b,o,rfl,FH⟩:=hM.own.at_ 0 (by simp);simp only[jK6,List.getD_cons_zero]at Fq FH hb;rw[show l.length+1-1-0=l.length by omega]at FH;have L8:=Stk.cap (n:=x) (st:=l) hM.own;have hcut:=fun w' =>jIw (P:=prog) (t:=159) underlying159 jA5 (some ⟨b,o,none⟩) (l.length+1) c l.length .i64 (l.length:Int) rfl L8 w';have FY:=G (hM.setPop (n:=x) (st:=l) rfl);have Mz:=G (show g<wr.heap.size/\∀k,r1=some k->k<wr.heap.size from⟨hM.blk.lt,fun k hk=>(hM.lt k hk).2⟩);have Gh:=G hT;have Fw:=G G7;have Gx:=G Gf;have Pt:=G (xk x t (by omega));have Hb:=G hb;have LE:=G (fun W=>jDi W x t);clear hM G7 Gf hT;generalize hL:l.length=L at*;have HL:=G hL;clear hL;have ew:IntKind.i64.wrap (L:Int)=(L:Int):=jQ3 _ (by omega);have b1:(0:Int)<=(L:Int):=(by omega);have b2:(L:Int).toNat=L:=(by omega);have b3:((x:Int)==(t:Int))=false:=jM3 (by omega);clear hb Fa;unfold yv at*;go_wp2_with ((go_at_call 208);refine(LE.out _).mono ?_;rintro e w1 ⟨B,cB,rfl,Fx,Lz,Ht⟩);have Pq:=G (show Lay w g r src m (jK x t) B l (jK x t).length w1 r1 (some ⟨b,o,none⟩) c from by
    obtain⟨hM,hk⟩:=FY.out;refine⟨?_,(Fw.out.trans hk (MX.trans Gx.out)).old Ht,Gx.out,Fx,fun hn ad e hx=>Lz hn ad e ?_⟩
    ·rw[List.drop_length,jN8];exact hM.old Ht
    ·rw[show(wr.setCell ⟨g,2,none⟩ (.slice (some ⟨b,o,none⟩) L c)).heap.size=wr.heap.size by simp[World.setCell]];rcases hx with hx|hx
     ·rw[hx];exact Mz.out.1
     ·exact Mz.out.2 _ hx.symm)
   clear Fx Lz Ht FY Fw Gx Mz LE hcut Fq MU FH L8;generalize hR:jK x t=R at*;clear hR;generalize hN:R.length=N at*;have HN:=G hN;clear hN;have E5:N<=11:=by have:=Pt.out.1;have:=HN.out;omega
   have ew2:IntKind.i64.wrap ((N:Int)-1)=(N:Int)-1:=jQ3 _ (by omega);clear ew b1 b2 b3;go_wp2;go_loopw [7] (fun i wr2=>∃p:Nat,p<=N/\i=.int .i64 ((p:Int)-1)/\∃r2 A2 c2,Lay w g r src m R B l p wr2 r2 A2 c2) (fun i _=>(intOf i+1).toNat)
   case atStart=>exact⟨N,jL3 _,by rw[<-IntWalk.i64_left,ew2],_,_,_,Pq.out⟩
   case round=>
    clear Pq;obtain⟨p,hp,rfl,r2,A2,c2,GD⟩:=hrel;by_cases h0:0<p
    ·obtain⟨q,rfl⟩:∃q,p=q+1:=⟨p-1,by omega⟩;have hlt:q<N:=(by omega);have Fq:=GD.mac.c2;have FM:=GD.mac.z 2;have NV:=GD.mac.blk.lt;have h8:7<=wr.heap.size:=by have:=GD.mac.low;omega
     have Fa:some g≠(Value.slice A2 (R.drop (q+1)++l).length c2).ownBlock:=by
      rw[jC,GD.mac.row];exact fun e=>GD.mac.ne e.symm
     obtain⟨b,o,u,hB,hu,FH⟩:=GD.rd.at_ (k:=q) (by rw[HN.out];exact hlt);have RK:=GD.rd;subst hB;rw[jM1,jJ9 (by rw[HN.out];exact hlt)]at hu;simp only[Option.map_some,Option.some.injEq]at hu;subst hu;have Wp:R[q]'(by rw[HN.out];exact hlt)=R.getD q 0:=(by simp[List.getD,List.getElem?_eq_getElem (show q<R.length by rw[HN.out];exact hlt)]);rw[Wp]at FH;have h5:R.getD q 0<85:=Pt.out.2 _ (by rw[<-Wp];exact jL6 _);have Hh:=GD.mac.own;unfold Stk at Hh;have hlen:(R.drop (q+1)++l).length<=100000011:=by
      have:=HL.out;have:=Hb.out;have:=Pt.out.1;rw[jJ4,jK8];omega
     have Y8:=G (fun(wx w3:World) (A' :OA) (c' :Nat)=>Lay.next (wx:=wx) (w1:=w3) (A' :=A') (c' :=c') GD (by rw[HN.out];exact hlt) rfl);simp only at Fq Hh;clear GD RK Wp;generalize hS:(R.drop (q+1)++l)=S at*;clear hS;generalize hK:S.length=K at*;generalize R.getD q 0=y at*;have GB:=G (show K+1<=maxLen by unfold maxLen;omega);have GH:=G (show(K+1)*1<=140737488355328 by omega);rw[show((q+1:Nat):Int)-1=(q:Int)by omega];have b1:(0:Int)<=(q:Int):=(by omega);have b2:(q:Int).toNat=q:=(by omega);have b3:(q:Int)<(N:Int):=(by omega);have b4:IntKind.i64.wrap ((q:Int)-1)=(q:Int)-1:=jQ3 _ (by omega);unfold yv at*;go_wp2;go_region_law ((refine kR _ rfl (.tmp 47) (.tmp 52) 159 rfl 8 163 i0 (.int .u8 0) 1 1 underlying159 hi FF Gy GI rfl (by decide) (.slice A2 K c2) K (S.reverse.map yv) rfl (Hh.alloc _) (some ⟨wr.heap.size,0,none⟩) 1 1 _ rfl (Rd.one_new _ _ _) (kK _ rfl) GB.out GH.out (by simp;omega) ?_;intro A' c' w3 Fz hgrow Ff;have FE:=hgrow.cell (a:=⟨g,2,none⟩) (v:=.slice A2 K c2) (by simp[Fq,World.cell?_alloc_lt,NV]) Fa;have Ft:w3.frozen? ⟨g,2,none⟩=false:=(World.frozen?_of_block (hgrow.block g (by simp;omega) Fa)).trans (by simp[FM,World.frozen?_alloc_past,NV])))
     all_goals
      have Gh:=G (Y8.out _ _ _ _ ((jQ0 _ _).alloc _).drew h5 Fz hgrow Ff);clear Fz hgrow Ff FE Ft Hh Fq FM FH Fa;go_wp2;go_roundw
      case rel=>exact⟨q,by omega,by go_num,Gh.out⟩
      case measure=>simp[intOf]
    ·obtain rfl:p=0:=(by omega);have X6:=G Gh.out;have hM:=GD.mac;have SI:=hM;simp only[List.drop_zero]at SI;have Lg:=G (xY SI Gh.out);have Y5:=G (show∃n st,Takes t n st k/\MStep w g r wr src {m with stack:=st}/\st.length+11*n<=100000000 from⟨n,R++l,Gh.out,⟨r2,A2,c2,SI,GD.kp,GD.fr⟩,by
      have:=HL.out;have:=Hb.out;have:=HN.out;rw[jJ4];omega⟩)
     clear hM SI GD X6;go_wp2;go_roundw
     case rel=>exact Y5.out
     case measure=>show tkMeas t g _ <tkMeas t g _;rw[Lg.out,Wf.out];omega
theorem JM(s:BA)(k:Nat)(h:k<s.size):(sb s).take (k+1)=(sb s).take k++[s[k]]:=by
 have h' :k<(sb s).length:=by rw[jB];exact h
 rw[jK2 h'];rfl
theorem qR(s:BA)(h:0<s.size):(sb s).headD 0=s[0]:=by
 have h' :0<(sb s).length:=by rw[jB];exact h
 have:(sb s)[0]'h' =s[0]:=rfl;refine Eq.trans ?_ this;rw[List.headD_eq_head?_getD,List.head?_eq_getElem?,jJ9 h'];rfl
theorem jFD(s:BA)(k:Nat)(h:k<s.size):s[k]∈sb s:=by
 have:s[k]=(sb s)[k]'(by rw[jB];exact h):=rfl;rw[this];exact jL6 _
theorem zO(w:World)(s:BA):Calls prog 69 #[.string s] w fun e w' =>e=.returned (.bool (jk (sb s)))/\w=w' :=by
 have HL:=G (show jk (sb s)=(decide (0<s.size/\s.size<=64)&&Qe ((sb s).headD 0)&&(sb s).all jS)by unfold jk;rw[jB]);generalize jk (sb s)=R at*;by_cases h0:s.size=0
 ·have Lf:=G (show R=false by rw[HL.out,jK3 (by omega)];rfl);have b0:((s.size:Int)==0)=true:=by rw[h0];rfl
  have Hz:=G h0;clear h0;go_enter func69,ntmps69;go_wp2;go_ret;exact⟨by rw[Lf.out];rfl,rfl⟩
 ·have b0:((s.size:Int)==0)=false:=jM3 (by omega);by_cases h1:s.size<=64
  ·have b1:¬(64:Int)<(s.size:Int):=(by omega);have hp:0<s.size:=(by omega);have Af:(0:Int)<(s.size:Int):=(by omega);have Hc:=G (show R=(Qe s[0]&&(sb s).all jS)by rw[HL.out,jK5 (by omega),qR s hp];rfl);have H0:=G (Zw w s[0]);unfold bv at H0;clear HL;generalize hl:Qe s[0]=L at*;clear hl;cases L
   ·have Lf:=G (show R=false by rw[Hc.out];rfl);go_enter func69,ntmps69;go_wp2_with (go_at_call 128;refine H0.out.mono ?_;rintro e w1 ⟨rfl,rfl⟩);go_ret;exact⟨by rw[Lf.out];rfl,rfl⟩
   ·have Hc:=G (show R=(sb s).all jS by rw[Hc.out];rfl);have Aq:(s.size:Int)<=64:=(by omega);go_enter func69,ntmps69;go_wp2_with (go_at_call 128;refine H0.out.mono ?_;rintro e w1 ⟨rfl,rfl⟩);clear H0;go_loop [20] (fun i=>∃k:Nat,k<=s.size/\i=.int .i64 k/\((sb s).take k).all jS=true) (fun i=>s.size-(intOf i).toNat)
    case atStart=>exact⟨0,Nat.zero_le _,rfl,rfl⟩
    case round=>
     obtain⟨k,hk,rfl,GK⟩:=hrel;by_cases hlt:k<s.size
     ·have MB:=G (show((sb s).take (k+1)).all jS=jS s[k]by rw[JM s k hlt,List.all_append,GK];simp);have Lf:=G (show jS s[k]=false->R=false from fun h=>by
       rw[Hc.out,<-Bool.not_eq_true,List.all_eq_true];intro h';have:=h' s[k] (jFD s k hlt);rw[h]at this;cases this)
      have b2:(0:Int)<=(k:Int):=(by omega);have b3:(k:Int)<(s.size:Int):=(by omega);have b4:(k:Int).toNat=k:=(by omega);have Hw:=G (vr w s[k]);unfold bv at Hw;clear GK;generalize hw:jS s[k]=W at*;clear hw;cases W
      ·have Hn:=G (Lf.out rfl);go_wp2_with (go_at_call 129;refine Hw.out.mono ?_;rintro e w1 ⟨rfl,rfl⟩);go_ret;exact⟨by rw[Hn.out];rfl,rfl⟩
      ·go_wp2_with (go_at_call 129;refine Hw.out.mono ?_;rintro e w1 ⟨rfl,rfl⟩);exact⟨⟨k+1,by omega,by go_num,MB.out⟩,by simp[intOf];omega⟩
     ·obtain rfl:k=s.size:=(by omega);have Hy:=G (show R=true by rw[Hc.out,<-GK,<-jB,List.take_length]);clear GK;go_wp2;go_ret;exact⟨by rw[Hy.out];rfl,rfl⟩
  ·have b1:(64:Int)<(s.size:Int):=(by omega);have Lf:=G (show R=false by rw[HL.out,jK3 (by omega)];rfl);clear HL h0 h1;go_enter func69,ntmps69;go_wp2;go_ret;exact⟨by rw[Lf.out];rfl,rfl⟩
theorem Zd(w:World)(hg:Sg w)(s:BA):Calls prog 70 #[.string s] w fun e w' =>e=.returned (.bool (decide (yG (sb s)≠0)))/\w=w' :=by
 have H:=G (YU w hg s);generalize yG (sb s)=n at*;clear hg;go_enter func70,ntmps70;go_wp2_with (go_at_call 130;refine H.out.mono ?_;rintro e w1 ⟨rfl,rfl⟩)
 all_goals (go_ret;refine⟨?_,rfl⟩;refine jBT ?_;clear H;simp at*;try omega)
theorem jf(w:World)(hg:Sg w)(s:BA):Calls prog 20 #[.string s] w fun e w' =>e=.returned (.bool (jQ (sb s)))/\w=w' :=by
 have Hy:=G (show jQ (sb s)=(jk (sb s)&&decide (yG (sb s)=0))from rfl);have H:=G (zO w s);have H2:=G (Zd w hg s);generalize yG (sb s)=n at*;generalize jk (sb s)=a at*;generalize jQ (sb s)=R at*;clear hg;cases a
 ·have Hn:=G (show R=false by rw[Hy.out];rfl);go_enter func20,ntmps20;go_wp2_with (go_at_call 69;refine H.out.mono ?_;rintro e w1 ⟨rfl,rfl⟩);go_ret;exact⟨by rw[Hn.out];rfl,rfl⟩
 ·have Hn:=G (show R= !(decide (n≠0))by rw[Hy.out];simp);generalize decide (n≠0)=b at*;go_enter func20,ntmps20;go_wp2_with (first|(go_at_call 69;refine H.out.mono ?_;rintro e w1 ⟨rfl,rfl⟩)|(go_at_call 70;refine H2.out.mono ?_;rintro e w1 ⟨rfl,rfl⟩))
  all_goals (go_ret;exact⟨by rw[Hn.out];rfl,rfl⟩)
theorem jFr(s:BA)(k:Nat)(h:k<s.size):(sb s)[k]? =some s[k]:=by
 have h' :k<(sb s).length:=by rw[jB];exact h
 rw[jJ9 h'];rfl
theorem js(x:BA)(a b:Nat):sb (x.extract a b)=((sb x).drop a).take (b-a):=by
 have h:=ByteArray.extract_mk (sb x) a b;rw[jBu]at h;rw[h];rfl
theorem jFT:∀(a b:LB),(Op.bytesLess a b||a==b)=leB a b
 |[],[]=>rfl
 |[],y::b=>rfl
 |x::a,[]=>rfl
 |x::a,y::b=>by
  have ih:=jFT a b;rw[leB,<-ih];have hn:(x<y)↔x.toNat<y.toNat:=Iff.rfl;have he:(x=y)↔x.toNat=y.toNat:=⟨fun h=>by rw[h],fun h=>UInt8.toNat_inj.1 h⟩;rw[show Op.bytesLess (x::a) (y::b)=(decide (x<y)||(x==y&&Op.bytesLess a b))from rfl];by_cases h1:x.toNat<y.toNat
  ·simp[hn,h1]
  ·by_cases h2:y.toNat<x.toNat
   ·have h3:¬x=y:=fun e=>by rw[he]at e;omega
    simp[hn,h1,h2,h3]
   ·have h3:x=y:=he.2 (by omega);subst h3;simp
theorem jEj(x:BA)(h:1<x.size)(h0:x[0].toNat=48):yl (sb x)=yl (sb (x.extract 1 x.size)):=by
 rw[js,jK4 (by rw[jK8,jB];omega)];have h1:=jFr x 0 (by omega);have h2:=jB x;cases e:sb x with
 |nil=>rw[e]at h2;simp at h2;omega
 |cons a l=>
  cases l with
  |nil=>rw[e]at h2;simp at h2;omega
  |cons b l=>
   rw[e]at h1;simp only[List.getElem?_cons_zero,Option.some.injEq]at h1;have:a=48:=UInt8.toNat_inj.1 (by rw[h1,h0];rfl);rw[yl,jJ6 this,List.drop_succ_cons,List.drop_zero]
theorem jCh(x:BA)(h:∀h:1<x.size,x[0].toNat≠48):yl (sb x)=sb x:=by
 have h2:=jB x;cases e:sb x with
 |nil=>rfl
 |cons a l=>
  cases l with
  |nil=>rfl
  |cons b l=>
   rw[e]at h2;simp only[jK6]at h2;have h1:=jFr x 0 (by omega);rw[e]at h1;simp only[List.getElem?_cons_zero,Option.some.injEq]at h1;rw[yl,jJ5 (fun ha=>h (by omega) (by rw[<-h1,ha];rfl))]
theorem KS(w:World)(s:BA)(hs:s.size<=1000000):Calls prog 226 #[.string s] w fun e w' =>e=.returned (.bool (jo (sb s)))/\w=w' :=by
 have HL:=G (show jo (sb s)=((sb s).all yd&&(decide ((yl (sb s)).length<19)||(decide ((yl (sb s)).length=19)&&leB (yl (sb s)) greatest)))from rfl);generalize jo (sb s)=R at*;go_enter func226,ntmps226;go_wp2;go_loop [6] (fun i=>∃k:Nat,k<=s.size/\i=.int .i64 k/\((sb s).take k).all yd=true) (fun i=>s.size-(intOf i).toNat)
 case atStart=>exact⟨0,Nat.zero_le _,rfl,rfl⟩
 case round=>
  obtain⟨k,hk,rfl,GK⟩:=hrel;by_cases hlt:k<s.size
  ·have MB:=G (show((sb s).take (k+1)).all yd=yd s[k]by rw[JM s k hlt,List.all_append,GK];simp);have Lf:=G (show yd s[k]=false->R=false from fun h=>by
    rw[HL.out];have:(sb s).all yd=false:=by
     rw[<-Bool.not_eq_true,List.all_eq_true];intro h';have:=h' s[k] (jFD s k hlt);rw[h]at this;cases this
    rw[this];rfl)
   have b2:(0:Int)<=(k:Int):=(by omega);have b3:(k:Int)<(s.size:Int):=(by omega);have b4:(k:Int).toNat=k:=(by omega);have b5:IntKind.i64.wrap ((k:Int)+1)=(k:Int)+1:=jQ3 _ (by omega);have Hw:=G (zh w s[k]);unfold bv at Hw;clear GK;generalize hw:yd s[k]=W at*;clear hw;cases W
   ·have Hn:=G (Lf.out rfl);go_wp2_with (go_at_call 158;refine Hw.out.mono ?_;rintro e w1 ⟨rfl,rfl⟩);go_ret;exact⟨by rw[Hn.out];rfl,rfl⟩
   ·go_wp2_with (go_at_call 158;refine Hw.out.mono ?_;rintro e w1 ⟨rfl,rfl⟩);exact⟨⟨k+1,by omega,by go_num,MB.out⟩,by simp[intOf];omega⟩
  ·obtain rfl:k=s.size:=(by omega);have Hy:=G (show R=(decide ((yl (sb s)).length<19)||(decide ((yl (sb s)).length=19)&&leB (yl (sb s)) greatest))by
    rw[HL.out,show(sb s).all yd=true by rw[<-GK,<-jB,List.take_length]];rfl)
   clear GK HL hk hlt hs;go_wp2;go_loop [0] (fun v=>∃x:BA,v=.string x/\yl (sb s)=yl (sb x)) (fun v=>match v with| .string x=>x.size|_=>0)
   case atStart=>exact⟨s,rfl,rfl⟩
   case round=>
    obtain⟨x,rfl,hx⟩:=hrel;by_cases hc:∃h:1<x.size,x[0].toNat=48
    ·obtain⟨h1,SL⟩:=hc;have b1:(1:Int)<(x.size:Int):=(by omega);have b0:(0:Int)<(x.size:Int):=(by omega);have c1:(1:Int)<=(x.size:Int):=(by omega);have h0:0<x.size:=(by omega);have Hx:=G (hx.trans (jEj x h1 SL));have hb:(((x[0]'h0).toNat:Int)==48)=true:=by rw[SL];rfl
     have GA:=G (show(x.extract 1 x.size).size<x.size by rw[<-jB,js,jK9,jK8,jB];omega);clear hx SL;go_wp2;exact⟨⟨_,rfl,Hx.out⟩,GA.out⟩
    ·have hz:=jCh x (fun h1 h2=>hc ⟨h1,h2⟩);have FY:=G (show R=(decide (x.size<19)||(decide (x.size=19)&&(Op.bytesLess x.toList greatest||x.toList==greatest)))by
      rw[Hy.out,hx,hz,jB,jFT,ByteArray.toList_eq];rfl)
     unfold greatest at FY;have Hc:=G hc;clear hx hz Hy hc;by_cases h1:1<x.size
     ·have b1:(1:Int)<(x.size:Int):=(by omega);have h0:0<x.size:=(by omega);have b0:(0:Int)<(x.size:Int):=(by omega);have hb:(((x[0]'h0).toNat:Int)==48)=false:=jM3 (fun e=>Hc.out ⟨h1,by omega⟩);by_cases h2:x.size<19
      ·have b2:(x.size:Int)<19:=(by omega);have Hf:=G (show R=true by rw[FY.out,jK5 h2];rfl);clear FY;go_wp2;go_ret;exact⟨by rw[Hf.out];rfl,rfl⟩
      ·have b2:¬(x.size:Int)<19:=(by omega);by_cases h3:x.size=19
       ·have b3:((x.size:Int)==19)=true:=by rw[h3];rfl
        have Hf:=G (show R=(Op.bytesLess x.toList [57,50,50,51,51,55,50,48,51,54,56,53,52,55,55,53,56,48,55]||x.toList==[57,50,50,51,51,55,50,48,51,54,56,53,52,55,55,53,56,48,55])by rw[FY.out,jK3 h2,jK5 h3];rfl);clear FY h3;go_wp2;go_ret;exact⟨by rw[Hf.out];rfl,rfl⟩
       ·have b3:((x.size:Int)==19)=false:=jM3 (by omega);have Hf:=G (show R=false by rw[FY.out,jK3 h2,jK3 h3];rfl);clear FY;go_wp2;go_ret;exact⟨by rw[Hf.out];rfl,rfl⟩
     ·have b1:¬(1:Int)<(x.size:Int):=(by omega);have b2:(x.size:Int)<19:=(by omega);have Hf:=G (show R=true by rw[FY.out,jK5 (by omega)];rfl);clear FY;go_wp2;go_ret;exact⟨by rw[Hf.out];rfl,rfl⟩
theorem VW(w:World)(hg:Sg w)(s:BA)(h0:0<s.size):Calls prog 164 #[.string s] w fun e w' =>e=.returned (.int .u8 (jj (sb s):Nat))/\w=w' :=by
 have Hy:=G (show jj (sb s)=if yd s[0]=true then 2 else if yG (sb s)=0 then 1 else yG (sb s)by unfold jj;rw[qR s h0]);have H:=G (zh w s[0]);have H2:=G (YU w hg s);have b0:(0:Int)<(s.size:Int):=(by omega);unfold bv at H;clear hg;generalize jj (sb s)=R at*;generalize yG (sb s)=n at*;generalize hd:yd s[0]=d at*;clear hd;cases d
 ·by_cases hn:n=0
  ·have b1:((n:Int) !=0)=false:=by rw[hn];rfl
   have Hf:=G (show R=1 by rw[Hy.out,jJ5 (by decide),jJ6 hn]);clear hn;go_enter func164,ntmps164;go_wp2_with (first|(go_at_call 158;refine H.out.mono ?_;rintro e w1 ⟨rfl,rfl⟩)|(go_at_call 130;refine H2.out.mono ?_;rintro e w1 ⟨rfl,rfl⟩));go_ret;exact⟨by rw[Hf.out];rfl,rfl⟩
  ·have b1:((n:Int) !=0)=true:=bne_iff_ne.2 (by omega);have Hf:=G (show R=n by rw[Hy.out,jJ5 (by decide),jJ5 hn]);clear hn;go_enter func164,ntmps164;go_wp2_with (first|(go_at_call 158;refine H.out.mono ?_;rintro e w1 ⟨rfl,rfl⟩)|(go_at_call 130;refine H2.out.mono ?_;rintro e w1 ⟨rfl,rfl⟩));go_ret;exact⟨by rw[Hf.out];rfl,rfl⟩
 ·have Hf:=G (show R=2 by rw[Hy.out,jJ6 rfl]);go_enter func164,ntmps164;go_wp2_with (first|(go_at_call 158;refine H.out.mono ?_;rintro e w1 ⟨rfl,rfl⟩)|fail);go_ret;exact⟨by rw[Hf.out];rfl,rfl⟩
theorem Uk(w:World)(hg:Sg w)(s:BA)(h0:0<s.size)(hs:s.size<=1000000):Calls prog 198 #[.string s] w fun e w' =>e=.returned (.bool (vH (sb s)))/\w=w' :=by
 have Hy:=G (show vH (sb s)=((yd s[0]&&jo (sb s))||decide (yG (sb s)≠0)||jQ (sb s))by unfold vH;rw[qR s h0]);have H:=G (zh w s[0]);have H2:=G (YU w hg s);have H3:=G (KS w s hs);have H4:=G (jf w hg s);have b0:(0:Int)<(s.size:Int):=(by omega);unfold bv at H;clear hg;generalize vH (sb s)=R at*;generalize yG (sb s)=n at*;generalize jQ (sb s)=l at*;generalize jo (sb s)=i at*;generalize hd:yd s[0]=d at*;clear hd;by_cases hn:n=0
 ·have b1:((n:Int) !=0)=false:=by rw[hn];rfl
  have Hf:=G (show R=((d&&i)||l)by rw[Hy.out,hn];simp);clear hn Hy;cases d<;>cases i<;>
  ·go_enter func198,ntmps198;go_wp2_with (first|(go_at_call 158;refine H.out.mono ?_;rintro e w1 ⟨rfl,rfl⟩)|(go_at_call 130;refine H2.out.mono ?_;rintro e w1 ⟨rfl,rfl⟩)|(go_at_call 226;refine H3.out.mono ?_;rintro e w1 ⟨rfl,rfl⟩)|(go_at_call 20;refine H4.out.mono ?_;rintro e w1 ⟨rfl,rfl⟩));go_ret;exact⟨by rw[Hf.out];rfl,rfl⟩
 ·have b1:((n:Int) !=0)=true:=bne_iff_ne.2 (by omega);have Hf:=G (show R=true by rw[Hy.out,jK5 hn];simp);clear hn Hy;cases d<;>cases i<;>
  ·go_enter func198,ntmps198;go_wp2_with (first|(go_at_call 158;refine H.out.mono ?_;rintro e w1 ⟨rfl,rfl⟩)|(go_at_call 130;refine H2.out.mono ?_;rintro e w1 ⟨rfl,rfl⟩)|(go_at_call 226;refine H3.out.mono ?_;rintro e w1 ⟨rfl,rfl⟩)|(go_at_call 20;refine H4.out.mono ?_;rintro e w1 ⟨rfl,rfl⟩));go_ret;exact⟨by rw[Hf.out];rfl,rfl⟩
def atOf(g:Nat)(w:World):Nat:=(intOf ((w.cell? ⟨g,1,none⟩).getD undef)).toNat
section
variable{w w1 w2:World}{g:Nat}{r:Option Nat}{src:BA}{m:Mc}{A:OA}{c:Nat}
theorem Mac.atOf(h:Mac w g r src m A c):atOf g w=m.at_:=by
 unfold Go.Proofs.YtmmjcbbogokmfaaGreatDoor.atOf;rw[h.c1];simp[intOf]
theorem Mac.drewN(h:Mac w g r src m A c)(n:Nat):Mac (w.drewN n) g r src m A c:=h.old ((jQ0 _ _).drewN n)
end
theorem jDN(p:UInt8->Bool):∀(l:LB) (k:Nat),k<(l.takeWhile p).length->∃c,l[k]? =some c/\p c=true
 |[],k,h=>by simp at h
 |a::l,k,h=>by
  rw[List.takeWhile_cons]at h;split at h
  ·rename_i hp;cases k with
   |zero=>exact⟨a,rfl,hp⟩
   |succ k=>
    rw[jK6]at h;exact jDN p l k (by omega)
  ·simp at h
theorem XG(p:UInt8->Bool):∀(l:LB),(l.takeWhile p).length<l.length->∃c,l[(l.takeWhile p).length]? =some c/\p c=false
 |[],h=>by simp at h
 |a::l,h=>by
  rw[List.takeWhile_cons]at h⊢;split at h
  ·rename_i hp;rw[jJ6 hp];rw[jK6,jK6]at h;obtain⟨c,h1,h2⟩:=XG p l (by omega);exact⟨c,by rw[jK6,List.getElem?_cons_succ];exact h1,h2⟩
  ·rename_i hp;rw[jJ5 hp];exact⟨a,rfl,by simpa using hp⟩
theorem Vk(s:BA)(a k:Nat)(c:UInt8)(h:((sb s).drop a)[k]? =some c):∃hlt:a+k<s.size,s[a+k]=c:=by
 rw[List.getElem?_drop]at h;obtain⟨h1,h2⟩:=jM5 h;rw[jB]at h1;exact⟨h1,h2⟩
theorem Qo(w:World)(g:Nat)(r:Option Nat)(src:BA)(m:Mc)(A:OA)(c:Nat)(h:Mac w g r src m A c)(hs:src.size<=1000000)(ha:m.at_ <=src.size):
  Calls prog 160 #[.pointer (some ⟨g,0,none⟩)] w fun e w' =>e=.returned (.tuple #[])/\∃m',vT m ((sb src).drop m.at_)=.ok m' /\MStep w g r w' src m' :=by
 have hl:((sb src).drop m.at_).length=src.size-m.at_:=(by rw[jK8,jB]);have hT:=jDN (fun c=> !lfC c) ((sb src).drop m.at_);have hE:=XG (fun c=> !lfC c) ((sb src).drop m.at_);have Cx:(((sb src).drop m.at_).takeWhile (fun c=> !lfC c)).length<=src.size-m.at_:=by rw[<-hl];exact vo _ _
 have Hv:=G (show vT m ((sb src).drop m.at_)=.ok (if(((sb src).drop m.at_).takeWhile (fun c=> !lfC c)).length=src.size-m.at_ then{m with at_:=src.size,fin:=1}else{m with at_:=m.at_ +(((sb src).drop m.at_).takeWhile (fun c=> !lfC c)).length})by
  unfold vT;rw[hl,show m.at_ +(src.size-m.at_)=src.size by omega])
 generalize hTT:(((sb src).drop m.at_).takeWhile (fun c=> !lfC c)).length=T at*;clear hTT;generalize vT m ((sb src).drop m.at_)=R at*;have HT:=G (fun k (hk:k<T)=>Vk src m.at_ k _ (hT k hk).choose_spec.1);have Z1:=G (fun k (hk:k<T)=>(hT k hk).choose_spec.2);have HE:=G hE;have Hl:=G hl;have H0:=G h;clear hE hl h;go_enter func160,ntmps160;go_wp2;go_loopw [] (fun wr=>∃k A c r',k<=T/\Mac wr g r' src {m with at_:=m.at_ +k} A c/\Kp (MX g r) w wr/\MFr w r r') (fun wr=>src.size-atOf g wr)
 case atStart=>exact⟨0,A,c,r,Nat.zero_le _,H0.out,jQ0 _ _,.inl rfl⟩
 case round=>
  obtain⟨k,A,c,r',hk,hM,G7,Gf⟩:=hrel;have Wf:=G hM.atOf;have GY:=hM.c0;have FE:=hM.c1;have Fh:=hM.c3;have Ft:=hM.z 1;have WW:=hM.z 3;simp only at GY FE Fh;by_cases hlt:k<T
  ·obtain⟨FB,RA⟩:=HT.out k hlt;have PL:=Z1.out k hlt;rw[<-RA]at PL;clear RA;have b5:((src[m.at_ +k].toNat:Int) !=10)=true:=bne_iff_ne.2 (fun e=>by
    have:lfC src[m.at_ +k]=true:=jK5 (by omega);rw[this]at PL;cases PL)
   clear PL hT HT Z1 HE;have FR:=G (fun n=>(hM.drewN n).setAt (m.at_ +(k+1)));have Fw:=G G7;have Gx:=G Gf;clear hM G7 Gf;generalize hp:m.at_ +k=p at*;have b1:(p:Int)<(src.size:Int):=(by omega);have b2:(0:Int)<=(p:Int):=(by omega);have b3:(p:Int).toNat=p:=(by omega);have b4:IntKind.i64.wrap ((p:Int)+1)=(p:Int)+1:=jQ3 _ (by omega);go_wp2;go_quiet (fail);go_wp2;obtain⟨hM,Fg⟩:=FR.out nq;rw[show((m.at_ +(k+1):Nat):Int)=(p:Int)+1 by omega]at hM Fg;exact⟨⟨k+1,A,c,r',by omega,hM,(Fw.out.drewN nq).trans Fg (MX.trans Gx.out),Gx.out⟩,by rw[hM.atOf,Wf.out];simp only;omega⟩
  ·obtain rfl:k=T:=(by omega);have PQ:=Hv.out;clear hT HT Z1;by_cases FG:k=src.size-m.at_
   ·rw[jJ6 FG]at PQ;have HR:=G PQ;have FR:=G (fun n=>(hM.drewN n).setFin 1);have Fw:=G G7;have Gx:=G Gf;clear hM G7 Gf Hv PQ HE;have hp:m.at_ +k=src.size:=(by omega);rw[hp]at FE;have b1:¬(src.size:Int)<(src.size:Int):=(by omega);have b2:((src.size:Int)==(src.size:Int))=true:=(by simp);have Hp:=G hp;clear hp FG;go_wp2;go_quiet (fail);go_wp2;go_quiet (fail);go_wp2;go_end0;obtain⟨hM,Fg⟩:=FR.out _;refine⟨rfl,_,HR.out,r',A,c,?_,(Fw.out.drewN _).trans Fg (MX.trans Gx.out),Gx.out⟩;have:=Hp.out;simp only[this]at hM;exact hM
   ·rw[jJ5 FG]at PQ;have HR:=G PQ;obtain⟨ch,h1,h2⟩:=HE.out (by rw[Hl.out];omega);obtain⟨FB,RA⟩:=Vk src m.at_ k ch h1;rw[<-RA]at h2;have b5:((src[m.at_ +k].toNat:Int) !=10)=false:=by
     have:lfC src[m.at_ +k]=true:=(by simpa using h2);have:=jM8 this;rw[this];rfl
    have FX:=G (fun n n2=>(hM.drewN n).drewN n2);have Fw:=G G7;have Gx:=G Gf;clear hM G7 Gf Hv PQ HE h1 h2 RA;generalize hp:m.at_ +k=p at*;have b1:(p:Int)<(src.size:Int):=(by omega);have b2:(0:Int)<=(p:Int):=(by omega);have b3:(p:Int).toNat=p:=(by omega);have b6:((p:Int)==(src.size:Int))=false:=jM3 (by omega);go_wp2;go_quiet (fail);go_wp2;go_quiet (fail);go_wp2;go_end0;exact⟨rfl,_,HR.out,r',A,c,FX.out _ _,(Fw.out.drewN _).drewN _,Gx.out⟩
def YS(k:Nat):List PanicEntry:=[{v:=.iface 215 (.int .i64 (k:Int)),recovered:=false}]
def MOut(w:World)(g:Nat)(r:Option Nat)(src:BA)(o:Out)(e:Ending)(w' :World):Prop:=
 match o with
 | .ok m' =>e=.returned (.tuple #[])/\MStep w g r w' src m'
 | .error k=>e=.panicked (YS k)/\Kp (MX g r) w w'
def KL(y:Nat):Option Nat:=if y=120 then some 6 else if y=34\/y=92\/y=110\/y=116 then some 4 else none
def jI9(k:Nat)(o:Option Nat)(e:Ending):Prop:=match o with
 |some x=>e=.returned (.int .u8 (x:Int))
 |none=>e=.panicked (YS k)
theorem qJ(w:World)(y k:Nat):Calls prog 197 #[.int .u8 (y:Int),.int .i64 (k:Int)] w fun e w' =>w=w' /\jI9 k (KL y) e:=by
 have Hy:=G (show KL y=if y=120 then some 6 else if y=34\/y=92\/y=110\/y=116 then some 4 else none from rfl);generalize KL y=R at*;by_cases h120:y=120
 ·have Hr:=G (show R=some 6 by rw[Hy.out,h120];rfl);subst h120;clear Hy;go_enter func197,ntmps197;go_wp2;go_ret;rw[Hr.out];exact⟨rfl,rfl⟩
 by_cases Gw:y=34
 ·have Hr:=G (show R=some 4 by rw[Hy.out,Gw];rfl);subst Gw;clear Hy;go_enter func197,ntmps197;go_wp2;go_ret;rw[Hr.out];exact⟨rfl,rfl⟩
 by_cases FQ:y=92
 ·have Hr:=G (show R=some 4 by rw[Hy.out,FQ];rfl);subst FQ;clear Hy;go_enter func197,ntmps197;go_wp2;go_ret;rw[Hr.out];exact⟨rfl,rfl⟩
 by_cases h110:y=110
 ·have Hr:=G (show R=some 4 by rw[Hy.out,h110];rfl);subst h110;clear Hy;go_enter func197,ntmps197;go_wp2;go_ret;rw[Hr.out];exact⟨rfl,rfl⟩
 by_cases h116:y=116
 ·have Hr:=G (show R=some 4 by rw[Hy.out,h116];rfl);subst h116;clear Hy;go_enter func197,ntmps197;go_wp2;go_ret;rw[Hr.out];exact⟨rfl,rfl⟩
 have Hr:=G (show R=none by rw[Hy.out,jJ5 h120,jJ5 (by omega)]);have b120:((y:Int)==120)=false:=jM3 (by omega);have b34:((y:Int)==34)=false:=jM3 (by omega);have b92:((y:Int)==92)=false:=jM3 (by omega);have b110:((y:Int)==110)=false:=jM3 (by omega);have b116:((y:Int)==116)=false:=jM3 (by omega);clear Hy h120 Gw FQ h110 h116;go_enter func197,ntmps197;go_wp2;refine⟨rfl,rfl,?_⟩;rw[Hr.out];exact rfl
end Go.Proofs.YtmmjcbbogokmfaaGreatDoor

import Derived.Test.YtnaolhjbapgjgaaGreatMg06
import Derived.Laws.ResultCell
import Derived.Laws.CopyOwn
set_option maxRecDepth 100000
set_option maxHeartbeats 6400000
namespace Go.Proofs.YtnaolhjbapgjgaaGreat
open Go.Proofs.Tryz
open Go.RowKit
theorem vQ(w:World)(g:Nat)(r:Option Nat)(bs:LB)(n:Int)(A:OA)(k c:Nat)(ds:List LB)(hk:ds.length=k)(hd:Dgs ds)(hW:Wr w g r bs)(hl:bs.length<=800000000000)(Fu:k<=2147483647)
  (Fa:Rd w 32 A k (ds.flatMap jA)) (FA:Av (WX g r) k A):
  Calls prog 109 #[.pointer (some ⟨g,0,none⟩),.int .i64 n,.slice A k c] w fun e w' =>e=.returned (.tuple #[])/\WStep w g r w' (bs++(be8 n++ds.flatten)):=by
 have Hl:=G hl;have Fy:=G Fa;have FW:=G FA;have Hk:=G hk;have Hd:=G hd;have FK:=yG n;clear hl Fa FA hk hd;go_enter func109,ntmps109;go_wp2_with fail;refine(JJ _ g r bs _ FK.1 FK.2 hW (by have:=Hl.out;omega)).mono ?_;rintro e w1 ⟨rfl,HU⟩;obtain⟨r1,FF,f1⟩:=HU.kf;rw[IntKind.wrap_u64]at FF;have HD:=G (yg w1 g r1 _ A k c ds Hk.out Hd.out FF (by have:=Hl.out;rw[jJ4,jC];omega) (by omega) (f1.rd Fy.out FW.out) (f1.av Fy.out (by decide) FW.out));have F1:=G f1;clear HU FF f1 FK;go_wp2_with fail;refine HD.out.mono ?_;rintro e w2 ⟨rfl,HU⟩;obtain⟨r2,GE,f2⟩:=HU.kf;have Fq:=G (show WStep w g r w2 (bs++(be8 n++ds.flatten))from by
  rw[<-jK1];exact(F1.out.trans f2).step GE)
 clear HU GE f2;go_wp2;go_end0;exact⟨rfl,Fq.out⟩
theorem Qa(w:World)(g:Nat)(r:Option Nat)(bs:LB)(s:BA)(hW:Wr w g r bs)(hl:bs.length<=800000000000)(hs:s.size<=255):
  Calls prog 112 #[.pointer (some ⟨g,0,none⟩),.string s] w fun e w' =>e=.returned (.tuple #[])/\WStep w g r w' (bs++lp 1 (sb s)):=by
 have Hl:=G hl;have e8:IntKind.u8.wrap (s.size:Int)=s.size:=IntWalk.u8_in _ (by omega);clear hl;go_enter func112,ntmps112;go_wp2_with fail;refine(kY _ g r bs (s.size:Int) (by omega) (by omega) hW (by have:=Hl.out;omega)).mono ?_;rintro e w1 ⟨rfl,HU⟩;obtain⟨r1,FF,f1⟩:=HU.kf;rw[jL1]at FF;have F1:=G f1;have NC:=G FF;have Eo:=G FF.lt;clear HU FF f1;go_wp2_with (first|(refine VC _ underlying9 underlying22 underlying5 s rfl ?_;intro A c w2 Fb FL Sk)|fail);have ho:=(jQ0 NoX w2).alloc (.cells #[.slice A s.size c] 22);have Nt:Rd (w2.alloc (.cells #[.slice A s.size c] 22)) 1 (some ⟨w2.heap.size,0,none⟩) 1 ([(⟨A,sb s,c⟩:Part)].map Part.sl):=by
  have:=Rd.arr_new w2 22 [.slice A s.size c];simpa [Part.sl,jH]using this
 refine(Ut _ g r1 _ _ 1 1 [⟨A,sb s,c⟩] rfl ((NC.out.old FL).old ho) (by have:=Hl.out;simp[zI,jC,jH];omega) Nt (Av.new (NC.out.old FL)) (by omega) (fun p hp=>by
  rw[List.mem_singleton.1 hp];refine⟨by rw[jH];exact Fb.old ho,fun hn ad e hx=>Sk (by rw[jH]at hn;exact hn) ad e ?_⟩;rcases hx with hx|hx
  ·have:=Eo.out.1;omega
  ·exact Eo.out.2 _ hx.symm)).mono ?_
 rintro e w3 ⟨rfl,HU⟩;obtain⟨r3,G8,f3⟩:=HU.kf;have Fq:=G (show WStep w g r w3 (bs++lp 1 (sb s))from by
  have h1:=(F1.out.trans ((KF.of (FL.old ho)).trans f3)).step G8;simpa [zI,lp,jH,jK1]using h1)
 clear HU G8 f3 Nt ho Fb FL Sk;go_wp2;go_end0;exact⟨rfl,Fq.out⟩
def Jo(from_:Nat):Nat->Nat->Nat->Nat->Nat×Nat
 |0,_,low,n=>(n,low)
 |f+1,to_,low,n=>if from_=to_ then(n,low)else if from_ <=low+2^(Lib.bitLen (to_ -low-1)-1)then Jo from_ f (low+2^(Lib.bitLen (to_ -low-1)-1)) low (n+1)else Jo from_ f to_ (low+2^(Lib.bitLen (to_ -low-1)-1)) (n+1)
def Ya(p:Nat×Nat):Nat:=if 0<p.2 then p.1+1 else p.1
def JR(from_ to_:Int):Option Nat:=
 if 0<=from_ /\from_ <=to_ /\to_ <=1099511627776 then if from_=0\/from_=to_ then some 0 else some (Ya (Jo from_.toNat to_.toNat to_.toNat 0 0))else none
theorem XI(F f T L n:Nat)(h:F=T):Jo F f T L n=(n,L):=by
 cases f with
 |zero=>rfl
 |succ f=>rw[Jo,jJ6 h]
theorem Jn:∀(n X:Nat),X<=n->0<X->X<18446744073709551616->1<=Lib.bitLen X/\2^(Lib.bitLen X-1)<=X/\X<2^(Lib.bitLen X):=by
 intro n
 induction n with
 |zero=>intro X h1 h2;omega
 |succ n ih=>
  intro X h1 h2 h3;have e:=Lib.bitLen_half X (by omega) (by omega);by_cases h:X=1
  ·subst h;decide
  ·obtain⟨a,b,c⟩:=ih (X/2) (by omega) (by omega) (by omega);rw[e];obtain⟨k,hk⟩:∃k,Lib.bitLen (X/2)=k+1:=⟨Lib.bitLen (X/2)-1,by omega⟩;rw[hk]at b c⊢;simp only[Nat.add_sub_cancel]at b;rw[show 1+(k+1)-1=k+1 by omega,show 1+(k+1)=k+1+1 by omega];have p1:(2:Nat)^(k+1)=2^k*2:=Nat.pow_succ _ _;have p2:(2:Nat)^(k+1+1)=2^(k+1)*2:=Nat.pow_succ _ _;omega
theorem jF6(b:Nat)(h:2^b<=1099511627776):b<=40:=by
 rcases Nat.lt_or_ge b 41 with h' |h'
 ·omega
 ·exfalso;have h2:(2:Nat)^41<=2^b:=Nat.pow_le_pow_right (by decide) h';have h3:(2199023255552:Nat)<=2^b:=(by simpa using h2);omega
theorem Uj(w:World)(x:Int)(h0:0<=x)(h1:x<=18446744073709551615):Calls prog 152 #[.int .u64 x] w fun e w' =>e=.returned (.int .i64 (Lib.bitLen x.toNat))/\w' =w:=
 Any.bits_Len jIQ x w h0 h1
theorem qw(w:World)(from_ to_:Int):Calls prog 110 #[.int .i64 from_,.int .i64 to_] w (jFC w (JR from_ to_)):=by
 by_cases Hu:0<=from_ /\from_ <=to_ /\to_ <=1099511627776
 ·obtain⟨h1,h2,h3⟩:=Hu;have g1:¬from_ <0:=(by omega);have g2:¬to_ <from_:=(by omega);have g3:¬(1099511627776:Int)<to_:=(by omega);by_cases hz:from_=0\/from_=to_
  ·have Hb:=G (show JR from_ to_=some 0 by rw[JR,jJ6 ⟨h1,h2,h3⟩,jJ6 hz]);rw[Hb.out];by_cases Fz:from_=0
   ·have z0:(from_==0)=true:=(by simpa using Fz);have Hz:=G Fz;clear Fz hz;go_enter func110,ntmps110;go_wp2
    go_ret2
    exact⟨rfl,rfl⟩
   ·have z0:(from_==0)=false:=(by simpa using Fz);have z1:(from_==to_)=true:=by simp;omega
    clear Fz hz;go_enter func110,ntmps110;go_wp2
    go_ret2
    exact⟨rfl,rfl⟩
  ·have Hb:=G (show JR from_ to_=some (Ya (Jo from_.toNat to_.toNat to_.toNat 0 0))by rw[JR,jJ6 ⟨h1,h2,h3⟩,jJ5 hz]);generalize JR from_ to_=B at*;have z0:(from_==0)=false:=by simp;omega
   have z1:(from_==to_)=false:=by simp;omega
   obtain⟨F,rfl⟩:=Int.eq_ofNat_of_zero_le h1;obtain⟨T,rfl⟩:=Int.eq_ofNat_of_zero_le (show 0<=to_ by omega);rw[jL1,jL1]at Hb;have hF:0<F:=(by omega);have hT:F<T:=(by omega);clear hz g1 g2;go_enter func110,ntmps110;go_wp2;go_loop [1,6,7,8] (fun t n l k=>∃(Tk N L f:Nat),L<F/\F<=Tk/\Tk<=1099511627776/\N+(Tk-L)<=1099511627776/\Tk-L<=f/\t=.int .i64 Tk/\n=.int .i64 N/\l=.int .i64 L/\Jo F T T 0 0=Jo F f Tk L N) (fun t _ l _=>(intOf t-intOf l).toNat)
   case atStart=>exact⟨T,0,0,T,by omega,by omega,by omega,by omega,by omega,rfl,rfl,rfl,rfl⟩
   case round=>
    obtain⟨Tk,N,L,f,hL,hFT,hTk,hN,hf,rfl,rfl,rfl,FM⟩:=hrel;have Fs:=G FM;clear FM;by_cases Ff:F=Tk
    ·subst Ff;have e1:((F:Int)-(L:Int) !=(F:Int)-(L:Int))=false:=(by simp);have HZ:=G (show B=some (Ya (N,L))by rw[Hb.out,Fs.out,XI F f F L N rfl]);by_cases hL0:0<L
     ·have p0:(0:Int)<(L:Int):=(by omega);go_wp2
      go_ret2
      rw[HZ.out,Ya,jJ6 hL0];exact⟨by simp,rfl⟩
     ·have p0:¬(0:Int)<(L:Int):=(by omega);go_wp2
      go_ret2
      rw[HZ.out,Ya,jJ5 hL0];exact⟨rfl,rfl⟩
    ·have e1:((F:Int)-(L:Int) !=(Tk:Int)-(L:Int))=true:=by simp;omega
     obtain⟨s1,s2,s3⟩:=Jn (Tk-L-1) (Tk-L-1) (jL3 _) (by omega) (by omega);have HB:=G (Uj w ((Tk:Int)-(L:Int)-1) (by omega) (by omega));rw[show((Tk:Int)-(L:Int)-1).toNat=Tk-L-1 by omega]at HB;obtain⟨b,hb⟩:∃b,Lib.bitLen (Tk-L-1)=b+1:=⟨Lib.bitLen (Tk-L-1)-1,by omega⟩;obtain⟨f',rfl⟩:∃f',f=f' +1:=⟨f-1,by omega⟩;have LR:=G (show Jo F (f' +1) Tk L N=if F<=L+2^b then Jo F f' (L+2^b) L (N+1)else Jo F f' Tk (L+2^b) (N+1)by
      rw[Jo,jJ5 Ff,hb,Nat.add_sub_cancel])
     rw[hb,Nat.add_sub_cancel]at s2;rw[hb,Nat.pow_succ]at s3;have Bz:b<=40:=jF6 b (jL4 s2 (by omega));have ew:=Uu b Bz;rw[hb,show((b+1:Nat):Int)=(b:Int)+1 by omega]at HB;have S2:=G s2;have S3:=G s3;clear s1 s2 s3;have Hp1:=G (Nat.two_pow_pos b);generalize 2^b=P at*;have hP:=Hp1.out;have hP2:(P:Int)+(L:Int)+1<=(Tk:Int):=by have:=S2.out;omega
     have HN:=G hN;have Hf:=G hf;have BI:(N:Int)<=1099511627776:=(by omega);clear hb hN hf;by_cases Fu:F<=L+P
     ·have p1:(F:Int)<=(L:Int)+(P:Int):=(by omega);go_wp2_with fail;refine HB.out.mono ?_;rintro e w' ⟨rfl,rfl⟩;go_wp2;go_round
      case rel=>
       have:=HN.out;have:=Hf.out;have:=S2.out;exact⟨L+P,N+1,L,f',by omega,by omega,by omega,by omega,by omega,by go_num,by go_num,rfl,by rw[Fs.out,LR.out,jJ6 Fu]⟩
      case measure=>simp[intOf];omega
     ·have p1:¬(F:Int)<=(L:Int)+(P:Int):=(by omega);go_wp2_with fail;refine HB.out.mono ?_;rintro e w' ⟨rfl,rfl⟩;go_wp2;go_round
      case rel=>
       have:=HN.out;have:=Hf.out;have:=S2.out;exact⟨Tk,N+1,L+P,f',by omega,by omega,by omega,by omega,by omega,rfl,by go_num,by go_num,by rw[Fs.out,LR.out,jJ5 Fu]⟩
      case measure=>simp[intOf];omega
 ·have Hb:=G (show JR from_ to_=none by rw[JR,jJ5 Hu]);rw[Hb.out];by_cases h1:from_ <0
  ·go_enter func110,ntmps110;go_wp2
   go_ret2
   exact⟨rfl,rfl⟩
  ·by_cases h2:to_ <from_
   ·go_enter func110,ntmps110;go_wp2
    go_ret2
    exact⟨rfl,rfl⟩
   ·have h3:(1099511627776:Int)<to_:=(by omega);go_enter func110,ntmps110;go_wp2
    go_ret2
    exact⟨rfl,rfl⟩
def XN(n k:Nat):Prop:=∃j,k=2^j/\j<=40/\n<=2*2^j/\(2<=n->2^j<n)
theorem jAo(w:World)(n:Nat)(hn:n<=1099511627776):Calls prog 163 #[.int .i64 n] w fun e w' =>(∃k,e=.returned (.int .i64 (k:Nat))/\XN n k)/\w=w' :=by
 have Hn:=G hn;go_enter func163,ntmps163;go_wp2;go_loop [3] (fun k=>∃j:Nat,j<=40/\k=.int .i64 ((2^j:Nat):Int)/\(2<=n->2^j<n)) (fun k=>1099511627777-(intOf k).toNat)
 case atStart=>exact⟨0,by omega,rfl,fun h=>by simp;omega⟩
 case round=>
  obtain⟨j,hj,rfl,hM⟩:=hrel;have Hj:=G (YF j hj);have Hp:=G (Nat.two_pow_pos j);have Hs:=G (Nat.pow_succ 2 j);have J6:=G (fun(h:2*2^j<n)=>show j<40 by
   rcases Nat.lt_or_ge j 40 with h' |h'
   ·exact h'
   ·exfalso;have:j=40:=(by omega);subst this;omega)
  have Eo:=G hM;have HZ:=G (fun(h:¬2*2^j<n)=>show XN n (2^j)from⟨j,rfl,hj,by omega,hM⟩);have Fl:=G (fun(h:2*2^j<n)=>show 2^(j+1)<n by rw[Hs.out];omega);clear hM hn;generalize hP:2^(j+1)=P' at*;generalize 2^j=P at*;have hPb:(P:Int)<=1099511627776:=by have:=Hj.out;omega
  have e1:IntKind.i64.wrap (2*(P:Int))=2*(P:Int):=jQ3 _ (by omega);by_cases h:2*P<n
  ·have h1:2*(P:Int)<(n:Int):=(by omega);have h40:=J6.out h;have hnx:=G (Fl.out h);go_wp2;go_round
   case rel=>exact⟨j+1,by omega,by rw[hP,Hs.out];go_num,fun _=>by rw[hP];exact hnx.out⟩
   case measure=>
    have:=Hp.out;simp[intOf];omega
  ·have h1:¬2*(P:Int)<(n:Int):=(by omega);have HE:=G (HZ.out h);go_wp2;go_ret;exact⟨⟨P,rfl,HE.out⟩,rfl⟩
theorem Xz{i j:Nat}{n:Nat}(h1:2^i<n)(h2:n<=2*2^i)(h3:2^j<n)(h4:n<=2*2^j):i=j:=by
 rcases Nat.lt_trichotomy i j with h|h|h
 ·have:2^(i+1)<=2^j:=Nat.pow_le_pow_right (by decide) h;rw[Nat.pow_succ]at this;omega
 ·exact h
 ·have:2^(j+1)<=2^i:=Nat.pow_le_pow_right (by decide) h;rw[Nat.pow_succ]at this;omega
theorem jIT(P i lev j:Nat)(hP:P=2^j)(hl:lev<j)(hi:i<P):((P+i)/2^lev^^^1)*2^lev=P+(i/2^lev^^^1)*2^lev:=by
 subst hP;obtain⟨d,rfl⟩:∃d,j=lev+(d+1):=⟨j-lev-1,by omega⟩;have e1:(2:Nat)^(lev+(d+1))=2^lev*2^(d+1):=Nat.pow_add _ _ _;have hp:0<(2:Nat)^lev:=Nat.two_pow_pos lev;have e2:(2^(lev+(d+1))+i)/2^lev=2^(d+1)+i/2^lev:=by
  rw[e1,Nat.mul_add_div hp]
 rw[e2];have e3:(2^(d+1)+i/2^lev)^^^1=2^(d+1)+(i/2^lev^^^1):=by
  generalize i/2^lev=x;have h2:(2:Nat)^(d+1)=2*2^d:=by rw[Nat.pow_succ];omega
  have a1:∀y:Nat,(y^^^1)/2=y/2:=fun y=>by rw[Nat.xor_div_two];simp
  have a2:∀y:Nat,(y^^^1)% 2=1-y% 2:=fun y=>by
   have h0:=Nat.xor_mod_two_pow (a:=y) (b:=1) (n:=1);rw[Nat.pow_one]at h0;rw[h0];rcases Nat.mod_two_eq_zero_or_one y with h|h<;>rw[h]<;>rfl
  have b1:=a1 (2^(d+1)+x);have b2:=a2 (2^(d+1)+x);have c1:=a1 x;have c2:=a2 x;omega
 rw[e3,Nat.add_mul,e1]
 congr 1
 rw[Nat.mul_comm]
theorem jIU(i lev j:Nat)(hl:lev<j)(hi:i<2^j):(i/2^lev^^^1)*2^lev<2^j:=by
 obtain⟨d,rfl⟩:∃d,j=lev+(d+1):=⟨j-lev-1,by omega⟩;have e1:(2:Nat)^(lev+(d+1))=2^lev*2^(d+1):=Nat.pow_add _ _ _;have hp:0<(2:Nat)^lev:=Nat.two_pow_pos lev;have h1:i/2^lev<2^(d+1):=by
  rw[Nat.div_lt_iff_lt_mul hp,Nat.mul_comm,<-e1];exact hi
 have h2:i/2^lev^^^1<2^(d+1):=Nat.xor_lt_two_pow h1 (by
  have:(2:Nat)^1<=2^(d+1):=Nat.pow_le_pow_right (by decide) (by omega);omega)
 rw[e1,Nat.mul_comm (2^lev)];exact Nat.mul_lt_mul_of_pos_right h2 hp
theorem Yb(size number:Nat):∀(f lev n:Nat),yw size number f lev n=n+yw size number f lev 0:=by
 intro f
 induction f with
 |zero=>intro lev n;rfl
 |succ f ih=>
  intro lev n;rw[yw,yw];by_cases h:2^lev<size
  ·rw[jJ6 h,jJ6 h];by_cases h2:(number/2^lev^^^1)*2^lev<size
   ·rw[jJ6 h2,jJ6 h2,ih (lev+1) (n+1),ih (lev+1) (0+1),Nat.zero_add,Nat.add_assoc]
   ·rw[jJ5 h2,jJ5 h2,ih (lev+1) n,ih (lev+1) 0,Nat.zero_add]
  ·rw[jJ5 h,jJ5 h,Nat.add_zero]
theorem jCb(S i j:Nat)(h1:2^j<S)(h2:S<=2*2^j)(hi:i<2^j):∀(f lev:Nat),lev<=j->j<lev+f->yw S i f lev 0=1+yw (2^j) i f lev 0:=by
 intro f
 induction f with
 |zero=>intro lev a b;omega
 |succ f ih=>
  intro lev hl hf;have hM:2^lev<S:=Nat.lt_of_le_of_lt (Nat.pow_le_pow_right (by decide) hl) h1;rw[yw,yw,jJ6 hM];by_cases he:lev=j
  ·subst he;rw[jJ5 (Nat.lt_irrefl _),Nat.div_eq_of_lt hi,jJ6 (by simpa using h1),zh S i f (lev+1) (0+1) (by rw[Nat.pow_succ];omega)]
  ·have SO:lev<j:=(by omega);have hp:(2:Nat)^lev<2^j:=Nat.pow_lt_pow_right (by decide) SO;have hb:=jIU i lev j SO hi;rw[jJ6 hp,jJ6 hb,jJ6 (Nat.lt_trans hb h1),Yb S,Yb (2^j),ih (lev+1) (by omega) (by omega)]
theorem Ul(S i j:Nat)(h1:2^j<S)(h2:S<=2*2^j)(hi:i<S-2^j):∀(f lev:Nat),lev<=j->j<lev+f->yw S (2^j+i) f lev 0=1+yw (S-2^j) i f lev 0:=by
 intro f
 induction f with
 |zero=>intro lev a b;omega
 |succ f ih=>
  intro lev hl hf;have hM:2^lev<S:=Nat.lt_of_le_of_lt (Nat.pow_le_pow_right (by decide) hl) h1;rw[yw,jJ6 hM];by_cases he:lev=j
  ·subst he;have hp:0<(2:Nat)^lev:=Nat.two_pow_pos lev;have e1:(2^lev+i)/2^lev=1:=by
    rw[Nat.add_div_left _ hp,Nat.div_eq_of_lt (by omega)]
   rw[e1,jJ6 (by simp;omega),zh S _ f (lev+1) (0+1) (by rw[Nat.pow_succ];omega),zh (S-2^lev) i (f+1) lev 0 (by omega)]
  ·have SO:lev<j:=(by omega);have hs:=jIT (2^j) i lev j rfl SO (by omega);rw[hs,Yb S,ih (lev+1) (by omega) (by omega)];by_cases hm:2^lev<S-2^j
   ·rw[yw,jJ6 hm];by_cases hc:(i/2^lev^^^1)*2^lev<S-2^j
    ·rw[jJ6 hc,jJ6 (by omega),Yb (S-2^j) i f (lev+1) (0+1)]
    ·rw[jJ5 hc,jJ5 (by omega)];omega
   ·have hz:i/2^lev=0:=Nat.div_eq_of_lt (by omega);rw[hz,jJ5 (by simp;omega),zh (S-2^j) i (f+1) lev 0 hm,zh (S-2^j) i f (lev+1) 0 (by rw[Nat.pow_succ];omega)]
def jFE(S i:Nat):Nat:=yw S i 41 0 0
theorem jEt{S i k:Nat}(hS:2<=S)(hk:XN S k):jFE S i=if i<k then 1+jFE k i else if i<S then 1+jFE (S-k) (i-k)else jFE S i:=by
 obtain⟨j,rfl,hj,h2,h1⟩:=hk;have h1:=h1 hS;by_cases hi:i<2^j
 ·rw[jJ6 hi,jFE,jCb S i j h1 h2 hi 41 0 (Nat.zero_le _) (by omega)];rfl
 ·rw[jJ5 hi];by_cases h:i<S
  ·rw[jJ6 h];have:=Ul S (i-2^j) j h1 h2 (by omega) 41 0 (Nat.zero_le _) (by omega);rw[show 2^j+(i-2^j)=i by omega]at this;exact this
  ·rw[jJ5 h]
theorem jG3(i:Nat):jFE 1 i=0:=by rw[jFE,zh 1 i 41 0 0 (by decide)]
def jp:Option Nat->Int
 |some n=>n
 |none=> -1
theorem Jd(w:World)(size number:Int):Calls prog 119 #[.int .i64 size,.int .i64 number] w fun e w' =>e=.returned (.int .i64 (jp (yA size number)))/\w=w' :=by
 by_cases Hu:1<=size/\size<=1099511627776/\0<=number/\number<size
 ·have Hb:=G (show jp (yA size number)=(jFE size.toNat number.toNat:Int)by rw[yA,jJ6 Hu];rfl);generalize jp (yA size number)=B at*;obtain⟨h1,h2,h3,h4⟩:=Hu;obtain⟨S,rfl⟩:=Int.eq_ofNat_of_zero_le (show 0<=size by omega);obtain⟨N,rfl⟩:=Int.eq_ofNat_of_zero_le h3;rw[jL1,jL1]at Hb;have g1:¬(S:Int)<1:=(by omega);have g2:¬(1099511627776:Int)<(S:Int):=(by omega);have g3:¬(N:Int)<0:=(by omega);have g4:¬(S:Int)<=(N:Int):=(by omega);go_enter func119,ntmps119;go_wp2;go_loop [0,1,5] (fun s i n=>∃(S' I' n' :Nat),s=.int .i64 S' /\i=.int .i64 I' /\n=.int .i64 n' /\1<=S' /\S' <=S/\I' <S' /\n' +S' <=S/\jFE S N=n' +jFE S' I') (fun s _ _=>(intOf s).toNat)
  case atStart=>exact⟨S,N,0,rfl,rfl,rfl,by omega,by omega,by omega,by omega,by omega⟩
  case round=>
   obtain⟨S',I',n',rfl,rfl,rfl,c1,c2,c3,c4,FM⟩:=hrel;have Fs:=G FM;clear FM;by_cases h:1<S'
   ·have p1:(1:Int)<(S' :Int):=(by omega);have HH:=G (jAo w S' (by omega));go_wp2_with fail;refine HH.out.mono ?_;rintro e w1 ⟨⟨k,rfl,hk⟩,rfl⟩;have Fq:=G (jEt (S:=S') (i:=I') (by omega) hk);have Fc:1<=k/\k<S' :=by
     obtain⟨j,rfl,_,_,h1⟩:=hk;exact⟨Nat.two_pow_pos j,h1 (by omega)⟩
    clear hk;by_cases hi:I' <k
    ·have p2:(I' :Int)<(k:Int):=(by omega);go_wp2;go_round
     case rel=>exact⟨k,I',n' +1,rfl,rfl,by go_num,by omega,by omega,by omega,by omega,by rw[Fs.out,Fq.out,jJ6 hi];omega⟩
     case measure=>simp[intOf];omega
    ·have p2:¬(I' :Int)<(k:Int):=(by omega);go_wp2;go_round
     case rel=>exact⟨S' -k,I' -k,n' +1,by go_num,by go_num,by go_num,by omega,by omega,by omega,by omega,by rw[Fs.out,Fq.out,jJ5 hi,jJ6 c3];omega⟩
     case measure=>simp[intOf];omega
   ·have p1:¬(1:Int)<(S' :Int):=(by omega);have Fm:=G (show B=(n' :Int)by rw[Hb.out,Fs.out,show S' =1 by omega,jG3];omega);go_wp2;go_ret;exact⟨by rw[Fm.out];rfl,rfl⟩
 ·have Hb:=G (show jp (yA size number)= -1 by rw[yA,jJ5 Hu];rfl);rw[Hb.out];by_cases h1:size<1
  ·go_enter func119,ntmps119;go_wp2;go_ret;exact⟨rfl,rfl⟩
  ·by_cases h2:1099511627776<size
   ·go_enter func119,ntmps119;go_wp2;go_ret;exact⟨rfl,rfl⟩
   ·by_cases h3:number<0
    ·go_enter func119,ntmps119;go_wp2;go_ret;exact⟨rfl,rfl⟩
    ·have h4:size<=number:=(by omega);go_enter func119,ntmps119;go_wp2;go_ret;exact⟨rfl,rfl⟩
def XQ:Nat->Nat->Nat->Bool->Nat
 |0,_,_,_=>0
 |f+1,m,n,known=>if m=n then(if known=true then 0 else 1)else if m<=2^(Lib.bitLen (n-1)-1)then XQ f m (2^(Lib.bitLen (n-1)-1)) known+1 else XQ f (m-2^(Lib.bitLen (n-1)-1)) (n-2^(Lib.bitLen (n-1)-1)) false+1
theorem jID{n k:Nat}(h2:2<=n)(hn:n<=1099511627776)(h:XN n k):2^(Lib.bitLen (n-1)-1)=k:=by
 obtain⟨j,rfl,_,a,b⟩:=h;obtain⟨s1,s2,s3⟩:=Jn (n-1) (n-1) (jL3 _) (by omega) (by omega);obtain⟨d,hd⟩:∃d,Lib.bitLen (n-1)=d+1:=⟨Lib.bitLen (n-1)-1,by omega⟩;rw[hd,Nat.add_sub_cancel]at s2⊢;rw[hd,Nat.pow_succ]at s3;rw[Xz (i:=d) (j:=j) (n:=n) (by omega) (by omega) (b h2) a]
theorem UQ{n:Nat}(h2:2<=n)(hn:n<=1099511627776):1<=2^(Lib.bitLen (n-1)-1)/\2^(Lib.bitLen (n-1)-1)<n:=by
 obtain⟨s1,s2,s3⟩:=Jn (n-1) (n-1) (jL3 _) (by omega) (by omega);exact⟨Nat.two_pow_pos _,by omega⟩
theorem Uy{f m n:Nat}{known:Bool}(hf:0<f)(h:m=n):XQ f m n known=if known=true then 0 else 1:=by
 obtain⟨g,rfl⟩:∃g,f=g+1:=⟨f-1,by omega⟩;rw[XQ,jJ6 h]
theorem jIR(F:Nat):∀(f T L N:Nat),L<F->F<=T->T<=1099511627776->T-L<=f->Ya (Jo F f T L N)=N+XQ f (F-L) (T-L) (decide (L=0)):=by
 intro f
 induction f with
 |zero=>intro T L N a b c d;omega
 |succ f ih=>
  intro T L N a b c d;rw[Jo,XQ];by_cases h:F=T
  ·rw[jJ6 h,jJ6 (by omega),Ya];by_cases hL:L=0
   ·rw[jJ5 (by omega),jJ6 (by simpa using hL)];rfl
   ·rw[jJ6 (by omega),jJ5 (by simpa using hL)]
  ·rw[jJ5 h,jJ5 (show¬(F-L=T-L)by omega)];obtain⟨p1,p2⟩:=UQ (n:=T-L) (by omega) (by omega);generalize 2^(Lib.bitLen (T-L-1)-1)=P at*;by_cases Fu:F<=L+P
   ·rw[jJ6 Fu,jJ6 (show F-L<=P by omega),ih (L+P) L (N+1) a Fu (by omega) (by omega),show L+P-L=P by omega];omega
   ·rw[jJ5 Fu,jJ5 (show¬F-L<=P by omega),ih T (L+P) (N+1) (by omega) b c (by omega),show F-(L+P)=F-L-P by omega,show T-(L+P)=T-L-P by omega,jK3 (show¬(L+P=0)by omega)];omega
theorem jDB:∀(f m n:Nat) (known:Bool),1<=m->m<=n->n<=1099511627776->n<=f->XQ f m n known<=n:=by
 intro f
 induction f with
 |zero=>intro m n known a b c d;omega
 |succ f ih=>
  intro m n known a b c d;rw[XQ];by_cases h:m=n
  ·rw[jJ6 h];split<;>omega
  ·rw[jJ5 h];obtain⟨p1,p2⟩:=UQ (n:=n) (by omega) c;generalize 2^(Lib.bitLen (n-1)-1)=P at*;by_cases Fu:m<=P
   ·rw[jJ6 Fu];have:=ih m P known a Fu (by omega) (by omega);omega
   ·rw[jJ5 Fu];have:=ih (m-P) (n-P) false (by omega) (by omega) (by omega) (by omega);omega
theorem jHV(w:World):∀(f m n:Nat) (known:Bool),1<=m->m<=n->n<=1099511627776->n<=f->Calls prog 164 #[.int .i64 m,.int .i64 n,.bool known] w fun e w' =>e=.returned (.int .i64 (XQ f m n known))/\w=w' :=by
 intro f
 induction f with
 |zero=>intro m n known a b c d;omega
 |succ f ih=>
  intro m n known a b c d;by_cases h:m=n
  ·subst h;have e1:((m:Int)==(m:Int))=true:=(by simp);rw[Uy (by omega) rfl];cases known
   ·go_enter func164,ntmps164;go_wp2;go_ret;exact⟨rfl,rfl⟩
   ·go_enter func164,ntmps164;go_wp2;go_ret;exact⟨rfl,rfl⟩
  ·have e1:((m:Int)==(n:Int))=false:=beq_eq_false_iff_ne.2 (by omega);have HH:=G (jAo w n c);obtain⟨p1,p2⟩:=UQ (n:=n) (by omega) c;have His:=G (fun k (hk:XN n k)=>jID (by omega) c hk);have Hs:=G (show XQ (f+1) m n known=_ from by rw[XQ,jJ5 h]);have I1:=G (fun(Fu:m<=2^(Lib.bitLen (n-1)-1))=>ih m (2^(Lib.bitLen (n-1)-1)) known a Fu (by omega) (by omega));have I2:=G (fun(Fu:¬m<=2^(Lib.bitLen (n-1)-1))=>ih (m-2^(Lib.bitLen (n-1)-1)) (n-2^(Lib.bitLen (n-1)-1)) false (by omega) (by omega) (by omega) (by omega));have B1:=G (fun(Fu:m<=2^(Lib.bitLen (n-1)-1))=>jDB f m (2^(Lib.bitLen (n-1)-1)) known a Fu (by omega) (by omega));have B2:=G (fun(Fu:¬m<=2^(Lib.bitLen (n-1)-1))=>jDB f (m-2^(Lib.bitLen (n-1)-1)) (n-2^(Lib.bitLen (n-1)-1)) false (by omega) (by omega) (by omega) (by omega));generalize 2^(Lib.bitLen (n-1)-1)=P at*;generalize XQ (f+1) m n known=R at*;clear ih;go_enter func164,ntmps164;go_wp2_with fail;refine HH.out.mono ?_;rintro e w1 ⟨⟨k,rfl,hk⟩,rfl⟩;obtain rfl:P=k:=His.out k hk;clear hk His HH;by_cases Fu:m<=P
   ·have q1:(m:Int)<=(P:Int):=(by omega);have HI:=G (I1.out Fu);have hB:=B1.out Fu;have HR:=G (show R=_ from by rw[Hs.out,jJ6 Fu]);clear I1 I2 B1 B2 Hs;generalize XQ f m P known=r at*;have e2:IntKind.i64.wrap ((r:Int)+1)=(r:Int)+1:=jQ3 _ (by omega);go_wp2_with fail;refine HI.out.mono ?_;rintro e w2 ⟨rfl,rfl⟩;go_wp2;go_ret;exact⟨by rw[HR.out];rfl,rfl⟩
   ·have q1:¬(m:Int)<=(P:Int):=(by omega);have HI:=G (I2.out Fu);rw[show((m-P:Nat):Int)=(m:Int)-(P:Int)by omega,show((n-P:Nat):Int)=(n:Int)-(P:Int)by omega]at HI;have hB:=B2.out Fu;have HR:=G (show R=_ from by rw[Hs.out,jJ5 Fu]);clear I1 I2 B1 B2 Hs;generalize XQ f (m-P) (n-P) false=r at*;have Aj:(r:Int)<=1099511627776:=(by omega);have e2:IntKind.i64.wrap ((r:Int)+1)=(r:Int)+1:=jQ3 _ (by omega);have e3:IntKind.i64.wrap ((m:Int)-(P:Int))=(m:Int)-(P:Int):=jQ3 _ (by omega);have e4:IntKind.i64.wrap ((n:Int)-(P:Int))=(n:Int)-(P:Int):=jQ3 _ (by omega);clear hB;go_wp2_with fail;refine HI.out.mono ?_;rintro e w2 ⟨rfl,rfl⟩;go_wp2;go_ret;exact⟨by rw[HR.out];rfl,rfl⟩
theorem ZM(w:World)(from_ to_:Int):Calls prog 121 #[.int .i64 from_,.int .i64 to_] w fun e w' =>e=.returned (.int .i64 (jp (JR from_ to_)))/\w=w' :=by
 by_cases Hu:0<=from_ /\from_ <=to_ /\to_ <=1099511627776
 ·obtain⟨h1,h2,h3⟩:=Hu;by_cases hz:from_=0
  ·have Hb:=G (show jp (JR from_ to_)=0 by rw[JR,jJ6 ⟨h1,h2,h3⟩,jJ6 (.inl hz)];rfl);rw[Hb.out];have z0:(from_==0)=true:=(by simpa using hz);have g2:¬to_ <from_:=(by omega);have Hz:=G hz;clear hz;go_enter func121,ntmps121;go_wp2;go_ret;exact⟨rfl,rfl⟩
  ·obtain⟨F,rfl⟩:=Int.eq_ofNat_of_zero_le h1;obtain⟨T,rfl⟩:=Int.eq_ofNat_of_zero_le (show 0<=to_ by omega);have hF:0<F:=(by omega);have Hb:=G (show jp (JR (F:Int) (T:Int))=(XQ T F T true:Int)by
    rw[JR,jJ6 ⟨h1,h2,h3⟩];by_cases he:(F:Int)=(T:Int)
    ·rw[jJ6 (.inr he),Uy (by omega) (by omega)];rfl
    ·rw[jJ5 (by omega),jL1,jL1,jIR F T T 0 0 hF (by omega) (by omega) (by omega)];simp[jp])
   have HS:=G (jHV w T F T true (by omega) (by omega) (by omega) (jL3 _));rw[Hb.out];generalize XQ T F T true=R at*;have z0:((F:Int)==0)=false:=beq_eq_false_iff_ne.2 (by omega);have g2:¬(T:Int)<(F:Int):=(by omega);clear hz;go_enter func121,ntmps121;go_wp2_with fail;refine HS.out.mono ?_;rintro e w1 ⟨rfl,rfl⟩;go_wp2;go_ret;exact⟨rfl,rfl⟩
 ·have Hb:=G (show jp (JR from_ to_)= -1 by rw[JR,jJ5 Hu];rfl);rw[Hb.out];by_cases h1:from_ <0
  ·go_enter func121,ntmps121;go_wp2;go_ret;exact⟨rfl,rfl⟩
  ·by_cases h2:to_ <from_
   ·go_enter func121,ntmps121;go_wp2;go_ret;exact⟨rfl,rfl⟩
   ·have h3:(1099511627776:Int)<to_:=(by omega);go_enter func121,ntmps121;go_wp2;go_ret;exact⟨rfl,rfl⟩
def nth:List Oper->Nat->Option Oper
 |[],_=>none
 |o::_,0=>some o
 |_::l,i+1=>nth l i
theorem xv:∀(l:List Oper) (i:Nat),nth l i=l.toArray[i]?
 |[],i=>by simp[nth]
 |o::l,0=>by simp[nth]
 |o::l,i+1=>by
  have:=xv l i;simpa [nth]using this
def chk(md:Region.Mode)(l:List Oper)(listed:Array Bool)(i:Nat):Bool:=Region.noSelect l.toArray&&(Region.free md l.toArray listed i&&(Region.ready md l.toArray listed).contains i)
theorem jHJ{md:Region.Mode}{l:List Oper}{listed:Array Bool}{i:Nat}(h:chk md l listed i=true):Region.noSelect l.toArray=true/\Region.free md l.toArray listed i=true/\(Region.ready md l.toArray listed).contains i=true:=by
 unfold chk at h;rw[Bool.and_eq_true,Bool.and_eq_true]at h;exact h
section
variable{P:Program}{l:List Oper}{Q:Exit->Act->World->Prop}{S:World->Prop}{md:Region.Mode}
theorem jP(i:Nat){oi:Oper}{d:Option Tmp}{v:Value}{fuel:Nat}{listed:Array Bool}{a:Act}{w:World}(hi:nth l i=some oi)(hd:oi.dst=d)
  (hk:chk md l listed i=true)
  (hQ:∀c a w,Q (.panic c) (a.put oi.dst v) w->Q (.panic c) a w) (hw:Region.wanted oi (yielded l.toArray a.tmps)=true) (hS:S w) (hy:∀w,S w->(execOp a.eval oi).run P w=.ok (.value v) w)
  (h:wpAnyH P md l.toArray Q S fuel (listed.setIfInBounds i true) (a.put d v) w):wpAnyH P md l.toArray Q S (fuel+1) listed a w:=by
 subst hd;obtain⟨hs,hf,hr⟩:=jHJ hk;exact wpAnyH_take ((xv l i).symm.trans hi) hs hf hr hQ (.inl ⟨hw,hy⟩) hS h
theorem jFT(i:Nat){oi:Oper}{d:Option Tmp}{fuel:Nat}{listed:Array Bool}{a:Act}{w:World}(hi:nth l i=some oi)(hd:oi.dst=d)
  (hk:chk md l listed i=true)
  (hQ:∀c a w,Q (.panic c) (a.put oi.dst undef) w->Q (.panic c) a w) (hw:Region.wanted oi (yielded l.toArray a.tmps)=false) (hS:S w)
  (h:wpAnyH P md l.toArray Q S fuel (listed.setIfInBounds i true) (a.put d undef) w):wpAnyH P md l.toArray Q S (fuel+1) listed a w:=by
 subst hd;obtain⟨hs,hf,hr⟩:=jHJ hk;exact wpAnyH_take ((xv l i).symm.trans hi) hs hf hr hQ (.inr ⟨hw,rfl⟩) hS h
theorem jU(i:Nat){oi:Oper}{fuel:Nat}{listed:Array Bool}{a:Act}{w:World}(hi:nth l i=some oi)(hr:Region.ready md l.toArray listed=[i])
  (h:∀K' :Act->World->Prop,Shut (∀a w,S w->(S w->wpAnyH P md l.toArray Q S fuel (listed.setIfInBounds i true) a w)->K' a w)->if Region.wanted oi (yielded l.toArray a.tmps)=true then Oper.wp P oi a w K' Q else K' (a.put oi.dst undef) w):
  wpAnyH P md l.toArray Q S (fuel+1) listed a w:=
 wpAnyH_ready hr (by simp) (AllReadyH.cons ((xv l i).symm.trans hi) h AllReadyH.nil)
end
theorem jD{P:Program}{fn:Func}{R:Ending->World->Prop}{a:Act}{w:World}{p u:Tmp}{ty:TypeId}{g:Nat}{t:TypeId}{cs:Array Value}{d:TypeDesc}(h:fn.results= #[.cell p ty,.tmp u])
  (hp:a.tmps.getD p undef=.pointer (some ⟨g,0,none⟩)) (hb:Blk w g t cs) (hu:P.underlying ty=some d) (hd:(match d with| .struct _ | .array _ _=>true|_=>false)=true) (hi:(P.info? ty).map (·.size)=some cs.size)
  (Do:a.defers=[]) (hR:R (.returned (.tuple #[.agg cs,a.tmps.getD u undef])) w):bodyPost P fn R .ret a w:=by
 refine bodyPost_ret ?_ Do hR;rw[results_cell_tmp h,hp];have hl:=run_loadVar_row (P:=P) w g t ty cs (0,0) d hb hu hd hi;simp[asAddr,hl,Result.andThen]
theorem YB{P:Program}{fn:Func}{R:Ending->World->Prop}{a:Act}{w:World}{p:Tmp}{ty:TypeId}{g:Nat}{t:TypeId}{cs:Array Value}{d:TypeDesc}(h:fn.results= #[.cell p ty])
  (hp:a.tmps.getD p undef=.pointer (some ⟨g,0,none⟩)) (hb:Blk w g t cs) (hu:P.underlying ty=some d) (hd:(match d with| .struct _ | .array _ _=>true|_=>false)=true) (hi:(P.info? ty).map (·.size)=some cs.size)
  (Do:a.defers=[]) (hR:R (.returned (.agg cs)) w):bodyPost P fn R .ret a w:=by
 refine bodyPost_ret ?_ Do hR;have hl:=run_loadVar_row (P:=P) w g t ty cs (0,0) d hb hu hd hi;simp only[results,h];simp only[Array.getD_eq_getD_getElem?]at hp;simp[hp,asAddr,hl]
def zD:LB:=List.replicate 32 0
theorem jy:zD.length=32:=by simp[zD]
theorem JW:jA zD=zero32:=by simp[jA,zD,zero32,bv,List.replicate]
theorem Kp.of_under{B:Nat}{w w1:World}(h:Below B w w1):Kp (fun k=>B<=k) w w1:=
 ⟨h.os,h.tape,h.output,h.size,fun k _ hx=>h.block k (by omega)⟩
def kq(bs:LB)(s:Rs):LB×Rs:=(if(vE bs 32 s).1=[]then zD else(vE bs 32 s).1,(vE bs 32 s).2)
theorem jAO(bs:LB)(n:Nat)(s:Rs):(vE bs (n:Int) s).1=[]\/(vE bs (n:Int) s).1.length=n:=by
 unfold vE;split
 ·exact .inl rfl
 ·split
  ·exact .inl rfl
  ·right;simp only[jK9,jK8];omega
theorem kU(bs:LB)(s:Rs):(kq bs s).1.length=32:=by
 have h:=jAO bs 32 s;unfold kq;by_cases e:(vE bs 32 s).1=[]
 ·simp only[jJ6 e,jy]
 ·simp only[jJ5 e];exact h.resolve_left e
theorem xT(l:LB)(hl:l=[]\/l.length=32):splice zero32 0 (l.map bv)=jA (if l=[]then zD else l):=by
 rcases hl with rfl|hl
 ·rw[jJ6 rfl,JW];simp[splice]
 ·rw[jJ5 (by rintro rfl;simp at hl)];have Y4:zero32.drop 32=[]:=List.drop_eq_nil_of_le (by decide);simp[splice,hl,jA,Y4]
theorem jT{P:Program}{ops:Array Oper}{rest:List Oper}{d:Option Tmp}{ty:TypeId}{pos:String}{after:Array Edge}{gd:Option (Nat×Bool)}{a:Act}{w:World}{Q:Exit->Act->World->Prop}(t:TypeId)(x:Operand)
  (h:wpList P ops Q (⟨d,.load t x,ty,pos,after,gd⟩::rest) a w):wpList P ops Q (⟨d,.load t x,ty,pos,after,gd⟩::rest) a w:=h
theorem yR(w:World)(g:Nat)(bs:LB)(s:Rs)(h:Rr w g bs s):
  Calls prog 138 #[.pointer (some ⟨g,0,none⟩)] w fun e w' =>e=.returned (.agg (jA (kq bs s).1).toArray)/\Rr w' g bs (kq bs s).2/\Kp (RX g) w w' :=by
 have NV:=h.lt;have HD:=G (show kq bs s=(if(vE bs 32 s).1=[]then zD else(vE bs 32 s).1,(vE bs 32 s).2)from rfl);have GL:=G (kU bs s);have HL:=G (jAO bs 32 s);have HR:=G (fun W (hR:Rr W g bs s)=>za W g bs 32 s hR (by omega));have MG:=G (jQ2 w 40 zero32.toArray);have Cc:=G (jQ2 (w.alloc (.cells zero32.toArray 40)) 40 zero32.toArray);have HO:=G (((jQ0 NoX w).alloc (.cells zero32.toArray 40)).alloc (.cells zero32.toArray 40));have MX:=G (show(w.alloc (.cells zero32.toArray 40)).heap.size=w.heap.size+1 by simp);have Pz:=G (show(prog.info? 5).map (·.size)=some 1 by kernel_rfl);rw[MX.out]at Cc;have Hh:=G h;clear h;generalize kq bs s=DN at*;generalize vE bs 32 s=RN at*;obtain⟨l,s1⟩:=RN;simp only at HD HL HR;unfold zero32 at MG Cc HO MX;go_enter func138,ntmps138;have Pf:=G (MG.out.alloc (.cells #[.int .u8 0,.int .u8 0,.int .u8 0,.int .u8 0,.int .u8 0,.int .u8 0,.int .u8 0,.int .u8 0,.int .u8 0,.int .u8 0,.int .u8 0,.int .u8 0,.int .u8 0,.int .u8 0,.int .u8 0,.int .u8 0,.int .u8 0,.int .u8 0,.int .u8 0,.int .u8 0,.int .u8 0,.int .u8 0,.int .u8 0,.int .u8 0,.int .u8 0,.int .u8 0,.int .u8 0,.int .u8 0,.int .u8 0,.int .u8 0,.int .u8 0,.int .u8 0] 40));go_wp2_with fail;generalize (w.alloc _).alloc _=W at*;refine wp_region_held_drew (S:=fun _=>True) (by kernel_rfl) trivial (fun H9=> ?_);refine' jP 0 rfl rfl (by kernel_rfl) (fun _ _ _ h=>h) rfl H9 (fun w hJ=> ?_) ?_;rotate_left
 ·((try dsimp only at hJ);go_simp<;>with_reducible rfl)
 simp only[Act.put,jJ1,jJ2,jJ3];refine' jP 1 rfl rfl (by kernel_rfl) (fun _ _ _ h=>h) rfl H9 (fun w hJ=> ?_) ?_;rotate_left
 ·((try dsimp only at hJ);go_simp<;>with_reducible rfl)
 simp only[Act.put,jJ1,jJ2,jJ3];refine jU 2 rfl (by kernel_rfl) (fun K hK=> ?_);go_simp;go_at_call 90;refine(HR.out _ (Hh.out.old HO.out.drew)).mono ?_;rintro e w1 ⟨A,c,rfl,Fa,FA,Mk,hr,hk⟩;have Hg:=G ((Cc.out.drew).kp hk (show¬RX g (w.heap.size+1)from fun e=>by have:w.heap.size+1=g:=e;omega));go_wp2_with fail;refine hK.out _ _ trivial (fun H9=> ?_);clear hK K;refine jU 3 rfl (by kernel_rfl) (fun K hK=> ?_);refine step_copy_splice rfl (.tmp 4) (.tmp 6) 22 22 rfl 5 underlying22 Pz.out (some ⟨w.heap.size+1,0,none⟩) A 32 32 l.length c rfl rfl (w.heap.size+1) 0 _ 40 Hg.out (l.map bv) ?_ ?_ ?_ ?_ (w.heap.size+1) _ (Below.refl _ _) (jL3 _) ?_
 ·rcases HL.out with e|e<;>simp[e]
 ·intro hn;obtain⟨b,o,rfl,hc⟩:=Fa.2 (by simpa using hn);exact⟨rfl,_,rfl,fun j v hv=>by rw[Addr.add_lit];exact hc j v hv⟩
 ·rcases HL.out with e|e<;>simp[e]
 ·exact jf l
 intro w2 WC WE;have Cl:=G WC.out;have Nq:=G WE;clear WC WE;go_wp2_with fail;refine hK.out _ _ trivial (fun H9=> ?_);clear hK K;refine wpAnyH_done (by kernel_rfl) ?_ _;have k0:Kp (RX g) w w1:=((HO.out.drew).mono (Y:=RX g) (fun _ _ f=>f.elim)).trans hk (fun _ _ e=>e);have k1:=Kp.of_under Nq.out;have Nw:s1=DN.2:=(by rw[HD.out]);have WJ:=G (show Rr w2 g bs DN.2 from Nw▸hr.kp k1 (fun b hb e=>by omega));have Wh:=G (show Kp (RX g) w w2 from k0.trans k1 (fun b hb e=>by omega));have Cb:=G (show Blk w2 (w.heap.size+1) 40 (jA DN.1).toArray from by
  have h:=Cl.out;have e:=xT l HL.out;unfold zero32 at e;rw[e]at h;rw[HD.out];exact h)
 have V6:=G (show Blk w2 w.heap.size 40 zero32.toArray from((Pf.out.drew).kp hk (show¬RX g w.heap.size from fun e=>by have:w.heap.size=g:=e;omega)).kp k1 (fun e=>by omega));have hU:=G (V6.out.there 0 (jA DN.1).toArray.size (by rw[jJ8,jB,GL.out];decide));have Fh:=G (show(prog.info? 40).map (·.size)=some (jA DN.1).length by rw[jB,GL.out];exact jO);have Fn:=G Cb.out.range;have HZ:=G (V6.out.setWhole (jA DN.1) (by rw[jB,GL.out];rfl));have Es:=G (show Kp (fun k=>k=w.heap.size) w2 (w2.setCells w.heap.size 0 (jA DN.1))from Kp.setCells _ _ _ _);have IW:=G (WJ.out.kp Es.out (fun b hb e=>by omega));have J0:=G (Wh.out.trans Es.out (fun b hb e=>by omega));clear k0 k1 hk hr Fa FA Mk Nw;go_wp2_with (first|((with_reducible refine jT 40 (.tmp 3) ?_);refine jK rfl 40 (.tmp 3) rfl (w.heap.size+1) 0 rfl (jA DN.1) _ Fn.out underlying40 rfl Fh.out ?_)|refine jQ1 rfl 40 (.tmp 2) (.tmp 8) rfl w.heap.size 0 (jA DN.1).toArray rfl rfl hU.out Fh.out (kV _) ?_ |fail);refine YB (g:=w.heap.size) (cs:=(jA DN.1).toArray) rfl rfl HZ.out underlying40 rfl (by rw[jJ8];exact Fh.out) rfl ?_;exact⟨rfl,IW.out,J0.out⟩
theorem Qg(z:Array Value)(v:Value)(h0:0<z.size)(h:∀i,i<z.size->z[i]! =v)(n:Nat):madeCells z n=(List.replicate n v).toArray:=by
 apply Array.ext
 ·simp[madeCells]
 ·intro i h1 h2;simp only[madeCells,Array.getElem_map,Array.getElem_range];rw[h _ (Nat.mod_lt _ h0)];simp
theorem Zt(i:Nat)(h:i<32):zero32.toArray[i]! =Value.int .u8 0:=by
 have:i=0\/i=1\/i=2\/i=3\/i=4\/i=5\/i=6\/i=7\/i=8\/i=9\/i=10\/i=11\/i=12\/i=13\/i=14\/i=15\/i=16\/i=17\/i=18\/i=19\/i=20\/i=21\/i=22\/i=23\/i=24\/i=25\/i=26\/i=27\/i=28\/i=29\/i=30\/i=31:=(by omega);rcases this with rfl|rfl|rfl|rfl|rfl|rfl|rfl|rfl|rfl|rfl|rfl|rfl|rfl|rfl|rfl|rfl|rfl|rfl|rfl|rfl|rfl|rfl|rfl|rfl|rfl|rfl|rfl|rfl|rfl|rfl|rfl|rfl<;>rfl
theorem jDi:∀n,(List.replicate n zD).flatMap jA=List.replicate (n*32) (Value.int .u8 0)
 |0=>rfl
 |n+1=>by
  rw[List.replicate_succ,jL9,jDi n,JW,show(n+1)*32=32+n*32 by omega,<-List.replicate_append_replicate];rfl
theorem uo:(prog.info? 40).map (fun i=>(i.zero,i.size,i.bytes))=some (some (.agg zero32.toArray),32,32):=by kernel_rfl
theorem jEH(n:Nat)(hn:n<=100000000000)(W:World):
  (Instr.makeSlice 49 (.int .i64 (n:Int)) (.int .i64 (n:Int))).run prog W=.ok (.slice (some ⟨W.heap.size,0,none⟩) n n) (W.alloc (.cells ((List.replicate n zD).flatMap jA).toArray 40)):=by
 obtain⟨i,hi,Fz,Ft,FC⟩:=info_parts uo;have hr:=run_make (P:=prog) W 49 40 i _ underlying49 hi Fz .i64 .i64 n n (by omega) (by omega) (by rw[FC];omega) (by omega);simp only[jL1,Ft]at hr;rw[hr,jDi];have e:(Value.agg zero32.toArray).cells=zero32.toArray:=rfl;rw[e,Qg _ (.int .u8 0) (by decide) (fun i h=>Zt i h)]
def KU(bs:LB)(p i:Nat):LB:=(bs.drop (p+32*i)).take 32
def yv(bs:LB)(p n:Nat):List LB:=(List.range n).map (KU bs p)
theorem zf(bs:LB)(p n:Nat):(yv bs p n).length=n:=by simp[yv]
theorem YW{bs:LB}{p n i:Nat}(h:p+32*n<=bs.length)(hi:i<n):(KU bs p i).length=32:=by
 simp only[KU,jK9,jK8];omega
theorem YV{bs:LB}{p n:Nat}(h:p+32*n<=bs.length):Dgs (yv bs p n):=by
 intro d hd;obtain⟨i,hi,rfl⟩:=List.mem_map.1 hd;exact YW h (List.mem_range.1 hi)
theorem jCH{bs:LB}{p n k:Nat}(h:p+32*n<=bs.length)(hk:k<n):kq bs ⟨p+32*k,0⟩=(KU bs p k,⟨p+32*(k+1),0⟩):=by
 have hc:=YW h hk;have e:vE bs 32 ⟨p+32*k,0⟩=(KU bs p k,⟨p+32*(k+1),0⟩):=by
  simp only[vE];rw[jJ5 (by simp),jJ5 (by omega)];rfl
 unfold kq;rw[e,jJ5 (by intro e';simp only at e';rw[e']at hc;simp at hc)]
def yC(bs:LB)(n:Int)(s:Rs):List LB×Rs:=
 if s.why≠0 then([],s)else if n<0\/(((bs.length-s.at_)/32:Nat):Int)<n then([],⟨s.at_,8⟩)else(yv bs s.at_ n.toNat,⟨s.at_ +32*n.toNat,0⟩)
def TookD(w:World)(g:Nat)(bs:LB)(l:List LB)(s:Rs)(e:Ending)(w' :World):Prop:=
 ∃A c,e=.returned (.slice A l.length c)/\Rd w' 32 A l.length (l.flatMap jA)/\Av (fun k=>k<w.heap.size) l.length A/\l.length<=c/\Rr w' g bs s/\Kp (RX g) w w'
theorem TookD.none_{w w' :World}{g:Nat}{bs:LB}{s:Rs}(h:Rr w' g bs s)(hk:Kp (RX g) w w'):TookD w g bs [] s (.returned (.slice none 0 0)) w' :=
 ⟨none,0,rfl,Rd.none_,fun h=>absurd h (by simp),jL3 _,h,hk⟩
def fillD(bs:LB)(p n k:Nat):List Value:=(yv bs p k++List.replicate (n-k) zD).flatMap jA
theorem jB7(bs:LB)(p n:Nat):fillD bs p n 0=(List.replicate n zD).flatMap jA:=by simp[fillD,yv]
theorem jB9(bs:LB)(p n:Nat):fillD bs p n n=(yv bs p n).flatMap jA:=by simp[fillD]
theorem Vc{bs:LB}{p n k:Nat}(h:p+32*n<=bs.length)(hk:k<=n):((yv bs p k).flatMap jA).length=k*32:=by
 rw[flat_len jA 32 _ ((YV (n:=k) (by omega)).cells),zf]
theorem US{bs:LB}{p n k:Nat}(hk:k<n):fillD bs p n k=(yv bs p k).flatMap jA++(jA zD++(List.replicate (n-(k+1)) zD).flatMap jA):=by
 obtain⟨m,hm⟩:∃m,n-k=m+1:=⟨n-k-1,by omega⟩;rw[fillD,hm,List.replicate_succ,show n-(k+1)=m by omega,List.flatMap_append,jL9]
theorem jB8{bs:LB}{p n k:Nat}:fillD bs p n (k+1)=(yv bs p k).flatMap jA++(jA (KU bs p k)++(List.replicate (n-(k+1)) zD).flatMap jA):=by
 rw[fillD,List.flatMap_append];have:yv bs p (k+1)=yv bs p k++[KU bs p k]:=(by simp[yv,List.range_succ]);rw[this,List.flatMap_append,jK1,List.flatMap_singleton]
theorem jEY{bs:LB}{p n k:Nat}(h:p+32*n<=bs.length)(hk:k<=n):(fillD bs p n k).length=n*32:=by
 rw[fillD,List.flatMap_append,jJ4,Vc h hk,jDi,List.length_replicate,<-Nat.add_mul]
 congr 1
 omega
theorem Blk.fillD{w:World}{L:Nat}{bs:LB}{p n k:Nat}(h:Blk w L 40 (Go.Proofs.YtnaolhjbapgjgaaGreat.fillD bs p n k).toArray)(hp:p+32*n<=bs.length)(hk:k<n):
  Blk (w.setCells L (k*32) (jA (KU bs p k))) L 40 (Go.Proofs.YtnaolhjbapgjgaaGreat.fillD bs p n (k+1)).toArray:=by
 rw[US hk]at h;have h2:=Blk.setCells h (jA (KU bs p k)) (by rw[jB,jB,YW hp hk,jy]);rw[Vc hp (by omega)]at h2;rw[jB8];exact h2
structure DigsAt(w:World)(g L:Nat)(bs:LB)(p n k:Nat)(wr:World):Prop where
 le:k<=n
 blk:Blk wr L 40 (fillD bs p n k).toArray
 rr:Rr wr g bs ⟨p+32*k,0⟩
 kp:Kp (RX g) w wr
theorem KH(w:World)(g:Nat)(bs:LB)(n:Int)(s:Rs)(h:Rr w g bs s)(hi:n<=9223372036854775807):
  Calls prog 144 #[.pointer (some ⟨g,0,none⟩),.int .i64 n] w (TookD w g bs (yC bs n s).1 (yC bs n s).2):=by
 obtain⟨p,y⟩:=s;have hfit:=h.fits;have NV:=h.lt;have Hh:=G h;obtain⟨A,c,hb,hr,ha,hc,hs,hl⟩:=h;have HO:=G ((jQ0 NoX w).alloc (.cells zero32.toArray 40));have Gt:=G (hb.old HO.out);unfold zero32 at HO Gt;have Hd:=G (show yC bs n ⟨p,y⟩=if y≠0 then([],⟨p,y⟩)else if n<0\/(((bs.length-p)/32:Nat):Int)<n then([],⟨p,8⟩)else(yv bs p n.toNat,⟨p+32*n.toNat,0⟩)from rfl);generalize yC bs n ⟨p,y⟩=DN at*;clear hr ha hb hc;simp only at hs hfit;by_cases hy:y=0
 case neg=>
  have Hn:=G (show DN=([],⟨p,y⟩)by rw[Hd.out,jJ6 hy]);have MK:(y !=0)=true:=(by simpa using hy);have Tp:=G (Hh.out.old HO.out);have MI:=G (HO.out.mono (Y:=RX g) (fun _ _ f=>f.elim));clear hy Hd;have c2:=Hh.out.why;simp only at c2;go_enter func144,ntmps144;go_wp2;go_ret;rw[Hn.out];exact TookD.none_ Tp.out MI.out
 subst hy;rw[jJ5 (by simp)]at Hd;have c2:=Hh.out.why;simp only at c2;have c0:=Gt.out.at_ 0 (v:=.slice A bs.length c) rfl;have c1:=Gt.out.at_ 1 (v:=.int .i64 p) rfl;have c2' :=Gt.out.at_ 2 (v:=.int .i64 0) rfl;have Sz:=G c2';have Hc0:=G c0;have Rq:=G c1;clear c0 c1 c2';have q1:IntKind.i64.wrap ((bs.length:Int)-(p:Int))=(bs.length:Int)-(p:Int):=jQ3 _ (by omega);have q2:((bs.length:Int)-(p:Int))=((bs.length-p:Nat):Int):=(by omega);go_enter func144,ntmps144;go_wp2_with fail;generalize w.alloc _=W at*;have c0:=Hc0.out;have c1:=Rq.out;by_cases h0:n<0
 ·have hd:decide (n<0)=true:=(by simpa using h0);have hY:=G (show DN=([],⟨p,8⟩)by rw[Hd.out,jJ6 (.inl h0)]);clear q2 Hd;go_quiet (fail);clear q1;go_wp2_with fail;refine(jx _ g bs ⟨p,0⟩ 8 ((Hh.out.old HO.out).old ((jQ0 _ _).drewN _)) rfl).mono ?_;rintro e w1 ⟨rfl,Fd,Fc⟩;go_wp2;go_ret;rw[hY.out];exact TookD.none_ Fd (((HO.out.drewN _).mono (Y:=RX g) (fun _ _ f=>f.elim)).trans Fc (fun _ _ h=>h))
 ·have hd:decide (n<0)=false:=(by simpa using h0);obtain⟨m,rfl⟩:=Int.eq_ofNat_of_zero_le (show 0<=n by omega);by_cases h1:(bs.length-p)/32<m
  ·have hY:=G (show DN=([],⟨p,8⟩)by rw[Hd.out,jJ6 (.inr (by omega))]);have q4:((bs.length:Int)-(p:Int)).tdiv 32=(((bs.length-p)/32:Nat):Int):=by
    rw[q2,Int.tdiv_eq_ediv_of_nonneg (by omega)];omega
   have q3:(((bs.length-p)/32:Nat):Int)<(m:Int):=(by omega);clear q2 Hd;go_quiet (fail);clear q1 q4;go_wp2_with fail;refine(jx _ g bs ⟨p,0⟩ 8 ((Hh.out.old HO.out).old ((jQ0 _ _).drewN _)) rfl).mono ?_;rintro e w1 ⟨rfl,Fd,Fc⟩;go_wp2;go_ret;rw[hY.out];exact TookD.none_ Fd (((HO.out.drewN _).mono (Y:=RX g) (fun _ _ f=>f.elim)).trans Fc (fun _ _ h=>h))
  ·have FT:=G (show DN=(yv bs p m,⟨p+32*m,0⟩)by rw[Hd.out,jJ5 (by omega)];rfl);have q4:((bs.length:Int)-(p:Int)).tdiv 32=(((bs.length-p)/32:Nat):Int):=by
    rw[q2,Int.tdiv_eq_ediv_of_nonneg (by omega)];omega
   have q3:¬(((bs.length-p)/32:Nat):Int)<(m:Int):=(by omega);have Ro:=G (show p+32*m<=bs.length by omega);have hm:m<=100000000:=(by omega);have Ek:=G (jEH m (by omega));clear q2 Hd;go_quiet (fail);clear q1 q4 q3;have Cv:=Ek.out;go_wp2_with fail;have Me:=G (show DigsAt w g W.heap.size bs p m 0 ((W.drewN nq).alloc (.cells ((List.replicate m zD).flatMap jA).toArray 40))from
    ⟨by omega,by rw[jB7];exact jQ2 _ _ _,(Hh.out.old HO.out).old (((jQ0 NoX W).drewN _).alloc _),((HO.out.drewN _).alloc _).mono (fun _ _ f=>f.elim)⟩)
   have hWg:w.heap.size<=W.heap.size:=HO.out.size;generalize ((W.drewN nq).alloc _)=W2 at*;generalize hLL:W.heap.size=L at*;clear c0 c1 c2 Cv Ek Hc0 Rq Sz Gt hLL;go_loopw [36,7] (fun i _ wr=>∃k:Nat,i=.int .i64 k/\DigsAt w g L bs p m k wr) (fun i _ _=>m-(intOf i).toNat)
   case atStart=>exact⟨0,rfl,Me.out⟩
   case round=>
    obtain⟨k,rfl,Fo⟩:=hrel;have HA:=G Fo;have TM:=Fo.le;clear Fo Me;by_cases hM:k<m
    ·have MJ:=G (fun W' (hR:Rr W' g bs ⟨p+32*k,0⟩)=>yR W' g bs ⟨p+32*k,0⟩ hR);rw[jCH Ro.out hM]at MJ;simp only at MJ;have b1:(0:Int)<=(k:Int):=(by omega);have b2:(k:Int)<(m:Int):=(by omega);have b3:(k:Int).toNat=k:=(by omega);have Dt:=YW Ro.out hM;have EB:=G Dt;clear Dt;go_wp2_with fail;refine(MJ.out _ HA.out.rr).mono ?_;rintro e w1 ⟨rfl,Fd,Fc⟩;have Hb:=G (HA.out.blk.kp Fc (show¬RX g L from fun e=>by have:L=g:=e;omega));have hU:=G (Hb.out.there (k*32) (jA (KU bs p k)).toArray.size (by rw[jJ8,jJ8,jB,EB.out,jEY Ro.out (by omega)];omega));have Fh:=G (show(prog.info? 40).map (·.size)=some (jA (KU bs p k)).length by rw[jB,EB.out];exact jO);have Fl:=G (show DigsAt w g L bs p m (k+1) (w1.setCells L (k*32) (jA (KU bs p k)))from
      ⟨by omega,Hb.out.fillD Ro.out hM,Fd.kp (Kp.setCells _ _ _ _) (fun b hb e=>by omega),(HA.out.kp.trans Fc (fun _ _ e=>e)).trans (Kp.setCells _ _ _ _) (fun b hb e=>by omega)⟩)
     clear Fd Fc;go_wp2_with (first|refine jQ1 rfl 40 (.tmp 43) (.tmp 42) rfl L (k*32) (jA (KU bs p k)).toArray rfl rfl hU.out Fh.out (kV _) ?_ |fail);go_roundw
     case rel=>exact⟨k+1,by go_num,Fl.out⟩
     case measure=>simp[intOf];omega
    ·obtain rfl:k=m:=(by omega);go_wp2;go_ret;rw[FT.out];have hb:=HA.out.blk;rw[jB9]at hb;refine⟨some ⟨L,0,none⟩,k,kL (by rw[zf];rfl),?_,?_,by rw[zf];omega,HA.out.rr,HA.out.kp⟩
     ·refine⟨by rw[Vc Ro.out (jL3 _),zf],fun _=>⟨L,0,rfl,fun j u hu=> ?_⟩⟩;exact hb.range j u hu
     ·intro _ ad e hM;injection e with e;subst e;simp only at hM;omega
end Go.Proofs.YtnaolhjbapgjgaaGreat

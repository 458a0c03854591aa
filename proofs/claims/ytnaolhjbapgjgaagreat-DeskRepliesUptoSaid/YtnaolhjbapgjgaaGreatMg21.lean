import Derived.Test.YtnaolhjbapgjgaaGreatMg20
set_option maxRecDepth 100000
set_option maxHeartbeats 6400000
namespace Go.Proofs.YtnaolhjbapgjgaaGreat
open Go.Proofs.Tryz
open Go.RowKit
structure Ls where
 at_:Nat
 short:Bool
def jZ(bs:LB)(n:Nat)(s:Ls):LB×Ls:=if bs.length<s.at_ +n then([],⟨s.at_,true⟩)else((bs.drop s.at_).take n,⟨s.at_ +n,s.short⟩)
def numL(bs:LB)(k:Nat)(s:Ls):Int×Ls:=(i64 (jq (jZ bs k s).1),(jZ bs k s).2)
def lowL(bs:LB)(k:Nat)(s:Ls):Nat×Ls:=(jq (jZ bs k s).1,(jZ bs k s).2)
def ke(bs:LB)(s:Ls):BA×Ls:=(⟨(jZ bs (lowL bs 4 s).1 (lowL bs 4 s).2).1.toArray⟩,(jZ bs (lowL bs 4 s).1 (lowL bs 4 s).2).2)
def Js(bs:LB)(s:Ls):Val×Ls:=
 if(jc (bs.drop s.at_) ⟨0,0⟩).2.why≠0 then(vK,⟨s.at_,true⟩)else((jc (bs.drop s.at_) ⟨0,0⟩).1,(jZ bs (jc (bs.drop s.at_) ⟨0,0⟩).2.at_ s).2)
theorem kW(n:Nat)(h:n<9223372036854775808):i64 n=(n:Int):=by
 unfold i64 wrap64;omega
theorem jGE:jq []=0:=rfl
theorem Qe(a:UInt8)(l:LB):jq (a::l)=a.toNat*256^l.length+jq l:=by
 have key:∀(l:LB) (n:Nat),l.foldl (fun n b=>n*256+b.toNat) n=n*256^l.length+jq l:=by
  intro l
  induction l with
  |nil=>intro n;simp[jq]
  |cons b l ih=>
   intro n;have hb:jq (b::l)=(0*256+b.toNat)*256^l.length+jq l:=ih _;rw[List.foldl_cons,ih,hb,jK6,Nat.pow_succ];simp only[Nat.zero_mul,Nat.zero_add,Nat.add_mul];rw[Nat.mul_assoc,Nat.mul_comm 256,Nat.add_assoc]
 rw[jq,List.foldl_cons,key];simp
theorem jJD(k:Nat):∀n m:Nat,be k (m*256^k+n)=be k n:=by
 induction k with
 |zero=>intro n m;rfl
 |succ k ih=>
  intro n m;have h1:m*256^(k+1)+n=(m*256)*256^k+n:=(by rw[Nat.pow_succ,Nat.mul_comm (256^k),Nat.mul_assoc]);have hp:0<256^k:=Nat.pow_pos (by decide);rw[be,be,h1,ih]
  congr 1
  rw[Nat.add_comm,Nat.add_mul_div_right _ _ hp];refine UInt8.toNat_inj.1 ?_;simp
theorem jEu(l:LB):be l.length (jq l)=l:=by
 induction l with
 |nil=>rfl
 |cons a l ih=>
  rw[jK6,be,Qe,jJD,ih]
  congr 1
  have hp:0<256^l.length:=Nat.pow_pos (by decide);rw[Nat.add_comm,Nat.add_mul_div_right _ _ hp,Nat.div_eq_of_lt (Yt l),Nat.zero_add];simp
theorem ZE(bs:LB)(p k:Nat)(h:p+k<=bs.length):be k (jq ((bs.drop p).take k))=(bs.drop p).take k:=by
 have hl:((bs.drop p).take k).length=k:=by rw[jK9,jK8];omega
 have:=jEu ((bs.drop p).take k);rw[hl]at this;exact this
theorem kF(bs:LB)(p k:Nat):bs.drop p=(bs.drop p).take k++bs.drop (p+k):=by
 rw[<-List.drop_drop,List.take_append_drop]
theorem Um(n:Nat)(h:n<18446744073709551616):be8 (i64 n)=be 8 n:=by
 have e:(i64 n% 18446744073709551616).toNat=n:=by
  unfold i64 wrap64;omega
 rw[be8,e]
structure Ag(bs:LB)(s:Rs)(l:Ls):Prop where
 ok:s.why=0↔l.short=false
 at_:s.why=0->s.at_=l.at_
 le:s.why=0->s.at_ <=bs.length
def Con(bs:LB)(s s' :Rs)(e:LB):Prop:=s'.why=0->s.why=0/\bs.drop s.at_=e++bs.drop s'.at_ /\(s.at_ <=bs.length->s'.at_ <=bs.length)
theorem Con.trans{bs:LB}{s s1 s2:Rs}{e e1:LB}(h:Con bs s s1 e)(h1:Con bs s1 s2 e1):Con bs s s2 (e++e1):=fun hz=>by
 obtain⟨a,b,x⟩:=h1 hz;obtain⟨c,d,y⟩:=h a;exact⟨c,by rw[d,b,jK1],fun hh=>x (y hh)⟩
section
variable{bs:LB}{s:Rs}{l:Ls}
theorem yb(n:Nat)(h:l.short=true):(jZ bs n l).2.short=true:=by
 unfold jZ;split
 ·rfl
 ·exact h
theorem zk{s' :Rs}{l' :Ls}(h1:s'.why≠0)(h2:l'.short=true):Ag bs s' l' :=⟨⟨fun h=>absurd h h1,fun h=>by rw[h2]at h;cases h⟩,fun h=>absurd h h1,fun h=>absurd h h1⟩
theorem ZH{p:Nat}(h:p<=bs.length):Ag bs ⟨p,0⟩ ⟨p,false⟩:=⟨⟨fun _=>rfl,fun _=>rfl⟩,fun _=>rfl,fun _=>h⟩
theorem Ag.cases(h:Ag bs s l):(∃p,s=⟨p,0⟩/\l=⟨p,false⟩/\p<=bs.length)\/(s.why≠0/\l.short=true):=by
 by_cases hw:s.why=0
 ·refine .inl ⟨s.at_,?_,?_,h.le hw⟩
  ·cases s;simp only at hw;subst hw;rfl
  ·have h1:=h.ok.1 hw;have h2:=h.at_ hw;cases l;simp only at h1 h2;rw[h1,h2]
 ·refine .inr ⟨hw,?_⟩;cases hs:l.short
  ·exact absurd (h.ok.2 hs) hw
  ·rfl
theorem YL(k:Nat)(h:Ag bs s l):Ag bs (tkN bs k s).2 (lowL bs k l).2/\((tkN bs k s).2.why=0->(tkN bs k s).1=(lowL bs k l).1)/\Con bs s (tkN bs k s).2 (be k (tkN bs k s).1):=by
 rcases h.cases with⟨p,rfl,rfl,hp⟩|⟨hw,hs⟩
 ·by_cases hl:p+k<=bs.length
  ·have e1:tkN bs k ⟨p,0⟩=(jq ((bs.drop p).take k),⟨p+k,0⟩):=(by simp[tkN,hl]);have e2:jZ bs k ⟨p,false⟩=((bs.drop p).take k,⟨p+k,false⟩):=(by rw[jZ,jJ5 (by simp only;omega)]);rw[lowL,e1,e2];refine⟨ZH hl,fun _=>rfl,fun _=>⟨rfl,?_,fun _=>hl⟩⟩;simp only;rw[ZE bs p k hl];exact kF bs p k
  ·have e1:tkN bs k ⟨p,0⟩=(0,⟨p,8⟩):=by simp[tkN];omega
   have e2:jZ bs k ⟨p,false⟩=([],⟨p,true⟩):=(by rw[jZ,jJ6 (by simp only;omega)]);rw[lowL,e1,e2];exact⟨zk (by simp) rfl,fun h=>absurd h (by simp),fun h=>absurd h (by simp)⟩
 ·have e1:tkN bs k s=(0,s):=(by rw[tkN,jJ6 hw]);rw[lowL,e1];exact⟨zk hw (yb k hs),fun h=>absurd h hw,fun h=>absurd h hw⟩
theorem UG(h:Ag bs s l):Ag bs (yp bs s).2 (numL bs 8 l).2/\((yp bs s).2.why=0->(yp bs s).1=(numL bs 8 l).1)/\Con bs s (yp bs s).2 (be8 (yp bs s).1):=by
 have:=YL 8 h;refine⟨this.1,fun hz=>by rw[yp,this.2.1 hz];rfl,?_⟩;rw[yp,Um _ (by have:=ku bs 8 s;omega)];exact this.2.2
theorem jCW(p n:Nat)(hn:jq ((bs.drop p).take 4)=n)(hm:bs.length<p+4+n):(jt bs 4194304 ⟨p,0⟩).2.why≠0:=by
 simp only[jt,hn];generalize (4194304:Int)=most;split
 ·assumption
 split
 ·simp
 split
 ·simp
 ·simp
theorem Ux(p:Nat)(hl:p+4<=bs.length):lowL bs 4 ⟨p,false⟩=(jq ((bs.drop p).take 4),⟨p+4,false⟩):=by
 have e2:jZ bs 4 ⟨p,false⟩=((bs.drop p).take 4,⟨p+4,false⟩):=(by rw[jZ,jJ5 (by simp only;omega)]);rw[lowL,e2]
theorem jC4(p n:Nat)(hn:jq ((bs.drop p).take 4)=n)(hm:p+4+n<=bs.length):ke bs ⟨p,false⟩=(⟨((bs.drop (p+4)).take n).toArray⟩,⟨p+4+n,false⟩):=by
 have e5:jZ bs n ⟨p+4,false⟩=((bs.drop (p+4)).take n,⟨p+4+n,false⟩):=(by rw[jZ,jJ5 (by simp only;omega)]);rw[ke,Ux p (by omega),hn,e5]
theorem jC5(p n:Nat)(hn:jq ((bs.drop p).take 4)=n)(hm:bs.length<p+4+n):(ke bs ⟨p,false⟩).2.short=true:=by
 by_cases hl:p+4<=bs.length
 ·have e5:jZ bs n ⟨p+4,false⟩=([],⟨p+4,true⟩):=(by rw[jZ,jJ6 (by simp only;omega)]);rw[ke,Ux p (by omega),hn,e5]
 ·have e5:(lowL bs 4 ⟨p,false⟩).2.short=true:=(by rw[lowL,jZ,jJ6 (by simp only;omega)]);rw[ke];exact yb _ e5
end
def sh{α:Type}(p:Nat)(x:α×Rs):α×Rs:=(x.1,⟨p+x.2.at_,x.2.why⟩)
section
variable(bs:LB)(p:Nat)
theorem jHD(hp:p<=bs.length)(k a:Nat)(y:Int):tkN bs k ⟨p+a,y⟩=sh p (tkN (bs.drop p) k ⟨a,y⟩):=by
 unfold tkN sh;simp only[jK8,List.drop_drop];by_cases h1:y≠0
 ·rw[jJ6 h1,jJ6 h1]
 ·rw[jJ5 h1,jJ5 h1];by_cases h2:p+a+k<=bs.length
  ·rw[jJ6 h2,jJ6 (by omega)];simp[Nat.add_assoc]
  ·rw[jJ5 h2,jJ5 (by omega)]
theorem jGh(hp:p<=bs.length)(a:Nat)(y:Int):jw bs ⟨p+a,y⟩=sh p (jw (bs.drop p) ⟨a,y⟩):=by
 unfold jw sh;simp only[jK8,List.drop_drop];by_cases h1:y≠0
 ·rw[jJ6 h1,jJ6 h1]
 ·rw[jJ5 h1,jJ5 h1];by_cases h2:bs.length<p+a+1\/1<jq ((bs.drop (p+a)).take 1)
  ·rw[jJ6 h2,jJ6 (by omega)]
  ·rw[jJ5 h2,jJ5 (by omega)];simp[Nat.add_assoc]
theorem Vu(hp:p<=bs.length)(m:Int)(a:Nat):jb bs m (p+a)=((jb (bs.drop p) m a).1,p+(jb (bs.drop p) m a).2.1,(jb (bs.drop p) m a).2.2):=by
 unfold jb;simp only[jK8,List.drop_drop];generalize jq ((bs.drop (p+a)).take 2)=n;by_cases h1:bs.length<p+a+2
 ·have Ns:bs.length-p<a+2:=(by omega);simp only[jJ6 h1,jJ6 Ns]
 ·have Ns:¬bs.length-p<a+2:=(by omega);simp only[jJ5 h1,jJ5 Ns];by_cases h2:min m 65535<(n:Int)
  ·simp only[jJ6 h2,Nat.add_assoc]
  ·simp only[jJ5 h2];by_cases h3:bs.length<p+a+2+n
   ·have LD:bs.length-p<a+2+n:=(by omega);simp only[jJ6 h3,jJ6 LD];simp only[Nat.add_assoc]
   ·have LD:¬bs.length-p<a+2+n:=(by omega);simp only[jJ5 h3,jJ5 LD];simp only[Nat.add_assoc]
theorem jFQ(hp:p<=bs.length)(m:Int)(a:Nat)(y:Int):zx bs m ⟨p+a,y⟩=sh p (zx (bs.drop p) m ⟨a,y⟩):=by
 unfold zx sh;simp only[Vu bs p hp];by_cases h1:y≠0
 ·rw[jJ6 h1,jJ6 h1]
 ·rw[jJ5 h1,jJ5 h1];split<;>rfl
theorem jA7(hp:p<=bs.length)(each:Int):∀(k a:Nat) (acc:List BA),
  (jk bs each k (p+a) acc).1=(jk (bs.drop p) each k a acc).1/\((jk (bs.drop p) each k a acc).1=0->(jk bs each k (p+a) acc).2=((jk (bs.drop p) each k a acc).2.1,p+(jk (bs.drop p) each k a acc).2.2)):=by
 intro k
 induction k with
 |zero=>intro a acc;exact⟨rfl,fun _=>rfl⟩
 |succ k ih=>
  intro a acc;have hE:zo acc (jb bs each (p+a))=zo acc (jb (bs.drop p) each a):=by rw[Vu bs p hp];rfl
  simp only[jk,hE];by_cases h:zo acc (jb (bs.drop p) each a)≠0
  ·rw[jJ6 h,jJ6 h];exact⟨rfl,fun hz=>absurd hz h⟩
  ·rw[jJ5 h,jJ5 h,Vu bs p hp];exact ih _ _
theorem jC2(hp:p<=bs.length)(most each:Int)(a:Nat)(y:Int):kI bs most each ⟨p+a,y⟩=sh p (kI (bs.drop p) most each ⟨a,y⟩):=by
 unfold kI sh;simp only[jK8,List.drop_drop];by_cases h1:y≠0
 ·simp only[jJ6 h1]
 ·simp only[jJ5 h1];by_cases h2:bs.length<p+a+2
  ·have Nx:bs.length-p<a+2:=(by omega);simp only[jJ6 h2,jJ6 Nx]
  ·have Nx:¬bs.length-p<a+2:=(by omega);simp only[jJ5 h2,jJ5 Nx];generalize jq ((bs.drop (p+a)).take 2)=n;by_cases h3:min most 65535<(n:Int)
   ·simp only[jJ6 h3]
   ·simp only[jJ5 h3];have hg:=jA7 bs p hp each n (a+2) [];rw[<-Nat.add_assoc]at hg;rw[hg.1];by_cases h4:(jk (bs.drop p) each n (a+2) []).1≠0
    ·simp only[jJ6 h4]
    ·simp only[jJ5 h4];have:=hg.2 (by simpa using h4);rw[this]
theorem jAe(hp:p<=bs.length)(k a:Nat)(y:Int):vF bs k ⟨p+a,y⟩=sh p (vF (bs.drop p) k ⟨a,y⟩):=by
 unfold vF;rw[jHD bs p hp,jGh bs p hp,jFQ bs p hp,jC2 bs p hp];split
 ·rfl
 split
 ·rfl
 split
 ·rfl
 split<;>rfl
theorem jGM(x:Val×Rs):Jw (sh p x)=sh p (Jw x):=by
 unfold Jw sh;simp only;split
 ·rfl
 split<;>rfl
theorem jA9(hp:p<=bs.length)(a:Nat)(y:Int):jc bs ⟨p+a,y⟩=sh p (jc (bs.drop p) ⟨a,y⟩):=by
 unfold jc;rw[jHD bs p hp];have:(sh p (tkN (bs.drop p) 1 ⟨a,y⟩)).2=⟨p+(tkN (bs.drop p) 1 ⟨a,y⟩).2.at_,(tkN (bs.drop p) 1 ⟨a,y⟩).2.why⟩:=rfl;rw[this,jAe bs p hp,jGM];rfl
end
theorem uA:∀(a b:LB),(Op.bytesLess a b||a==b)= !Op.bytesLess b a
 |[],[]=>rfl
 |[],y::b=>by simp[Op.bytesLess]
 |x::a,[]=>by simp[Op.bytesLess]
 |x::a,y::b=>by
  have ih:=uA a b;by_cases h:x=y
  ·subst h;simpa [Op.bytesLess]using ih
  ·have h1:¬x.toNat=y.toNat:=fun e=>h (UInt8.toNat_inj.1 e);by_cases h2:x<y
   ·have h3:¬y<x:=by rw[UInt8.lt_iff_toNat_lt]at*;omega
    have h4:¬y=x:=fun e=>h e.symm;simp[Op.bytesLess,h2,h3,h4]
   ·have h3:y<x:=by rw[UInt8.lt_iff_toNat_lt]at*;omega
    simp[Op.bytesLess,h,h2,h3]
def TxPost(w:World)(T:List BA×Rs)(e:Ending)(w' :World):Prop:=
 ∃A c n,e=.returned (.tuple #[.slice A T.1.length c,.int .i64 n,.int .i64 T.2.why])/\(T.2.why=0->n=(T.2.at_:Int))/\Rd w' 1 A T.1.length (T.1.map sv)/\Av (fun k=>k<w.heap.size) T.1.length A/\T.1.length<=c/\Old w w'
theorem TxPost.none_{w w' :World}(n y:Int)(p:Nat)(hy:y≠0)(ho:Old w w'):TxPost w ([],⟨p,y⟩) (.returned (.tuple #[.slice none 0 0,.int .i64 n,.int .i64 y])) w' :=
 ⟨none,0,n,rfl,fun h=>absurd h hy,Rd.none_,fun h=>absurd h (by simp),jL3 _,ho⟩
theorem jHY(w:World)(A0:OA)(c0:Nat)(b:LB)(hr:Rd w 1 A0 b.length (b.map bv))(hc:b.length<=c0)(hk:b.length<=100000000000):
  Calls prog 186 #[.slice A0 b.length c0,.int .i64 64,.int .i64 1024] w (TxPost w (kI b 64 1024 ⟨0,0⟩)):=by
 by_cases h2:b.length<2
 ·have e:kI b 64 1024 ⟨0,0⟩=([],⟨0,8⟩):=by
   simp only[kI];rw[jJ5 (by simp),jJ6 (by omega)]
  rw[e];clear e;have hY:=G (jDH w A0 c0 b.length 2 h2);go_enter func186,ntmps186;go_wp2_with fail;refine hY.out.mono ?_;rintro e w1 ⟨rfl,rfl⟩;go_wp2
  go_ret3
  exact TxPost.none_ 0 8 0 (by decide) (jQ0 _ _)
 have Fe:=G (jDG w A0 c0 b.length 2 b hr rfl (by omega) (by decide));have HL:=G (Qh w 64 65535 (by decide) (by decide));have hx:jq (b.take 2)<65536:=jm b 2;have HB:=G (show kI b 64 1024 ⟨0,0⟩=if(64:Int)<(jq (b.take 2):Int)then([],⟨0,7⟩)else if(jk b 1024 (jq (b.take 2)) 2 []).1≠0 then([],⟨0,(jk b 1024 (jq (b.take 2)) 2 []).1⟩)else((jk b 1024 (jq (b.take 2)) 2 []).2.1,⟨(jk b 1024 (jq (b.take 2)) 2 []).2.2,0⟩)by
  have Nx:¬b.length<0+2:=(by omega);simp only[kI,List.drop_zero,Nat.zero_add];rw[jJ5 (by simp),jJ5 (by omega)];have:min (64:Int) 65535=64:=(by decide);rw[this])
 generalize kI b 64 1024 ⟨0,0⟩=BN at HB⊢;generalize jq (b.take 2)=n at*;by_cases h7:(64:Int)<(n:Int)
 ·have Pj:=G (show BN=([],⟨0,7⟩)by rw[HB.out,jJ6 h7]);go_enter func186,ntmps186;go_wp2_with fail;refine Fe.out.mono ?_;rintro e w1 ⟨rfl,rfl⟩;go_wp2_with fail;refine HL.out.mono ?_;rintro e w1 ⟨rfl,rfl⟩;go_wp2
  go_ret3
  rw[Pj.out];exact TxPost.none_ 0 7 0 (by decide) (jQ0 _ _)
 have HB:=G (HB.out.trans (jJ5 h7));obtain⟨i0,hi,Fz,Ft,FC⟩:=info_parts Zl;have ex:IntKind.i64.wrap (n:Int)=(n:Int):=jQ3 _ (by omega);have ex2:wrap64 (n:Int)=(n:Int):=by unfold wrap64;omega
 go_enter func186,ntmps186;go_wp2_with fail;refine Fe.out.mono ?_;rintro e w1 ⟨rfl,rfl⟩;go_wp2_with fail;refine HL.out.mono ?_;rintro e w1 ⟨rfl,rfl⟩;go_wp2_with fail;go_loopw [10,12,13] (fun q l i wr=>∃(k:Nat) (acc:List BA) (A:OA) (c t:Nat),k<=n/\i=.int .i64 k/\acc.length=k/\l=.slice A k c/\wr.ownsRow w.heap.size 9 1 (.slice A k c) k (acc.map sv)/\q=.int .i64 t/\t<=b.length/\jk b 1024 n 2 []=jk b 1024 (n-k) t acc/\Old w wr) (fun _ _ i _=>n-(intOf i).toNat)
 case atStart=>exact⟨0,[],none,0,2,by omega,rfl,rfl,rfl,World.ownsRow_nil _ _ _ _,rfl,by omega,rfl,jQ0 _ _⟩
 case round=>
  obtain⟨k,acc,A,c,t,PV,rfl,G1,rfl,Hi,rfl,ht,FM,ho⟩:=hrel;have Fa:=Rd.of_own Hi;have Fs:=G FM;have Ho:=G ho;have LZ:=Vu b t ht 1024 0;rw[Nat.add_zero]at LZ;have RW:=Vv b 1024 t ht;have hcut:=(hr.old ho).cut (k:=t) (cap:=c0) ht hc;rw[Nat.mul_one,<-List.map_drop]at hcut;have Gi:=fun W=>uv (P:=prog) kE kA A0 b.length c0 t .i64 (t:Int) rfl ht W;rw[Nat.mul_one]at Gi;generalize (if c0=t then A0 else A0.map (·.add t))=AA at hcut Gi;have V3:=G (jDF wr AA (c0-t) (b.length-t) 1024 (b.drop t) hcut (by rw[jK8]) (by omega) (by omega) (by decide) (by decide));clear FM hcut ho;by_cases Wv:k<n
  ·obtain⟨m,hm⟩:∃m,n-k=m+1:=⟨n-k-1,by omega⟩;rw[hm]at Fs;generalize jb (b.drop t) 1024 0=T at V3 LZ;obtain⟨l,q,er⟩:=T;simp only at V3 LZ;rw[LZ]at RW;simp only at RW;have hT:jb b 1024 t=(l,t+q,er):=LZ;clear LZ;have hkk:(k:Int)<=64:=(by omega);by_cases FZ:er=0
   case neg=>
    rw[qG b 1024 m t acc hT FZ]at Fs;have hB:=HB.out;rw[Fs.out,jJ6 FZ]at hB;have Pj:=G hB;have P4:(er !=0)=true:=(by simpa using FZ);have II:=G FZ;clear hB hT hm FZ;go_wp2_with fail;refine V3.out.mono ?_;rintro e w1 ⟨kk,rfl,_,F0⟩;have FE:=G (Ho.out.old F0);clear F0;go_wp2
    go_ret3
    rw[Pj.out];exact TxPost.none_ 0 er 0 II.out FE.out
   subst FZ;have Hm:=G hm;have HT:=G hT;clear hm hT;have FU:=G (show k+1<=maxLen by unfold maxLen;omega);have FV:=G (show(k+1)*16<=140737488355328 by omega);have etq:IntKind.i64.wrap ((t:Int)+(q:Int))=(t:Int)+(q:Int):=jQ3 _ (by omega);rcases Nat.eq_zero_or_pos k with h0|NE
   ·subst h0;have NU:acc=[]:=List.eq_nil_of_length_eq_zero G1;subst NU;have Su:=G (JG b 1024 m t [] HT.out (.inl rfl));simp only[List.length_nil,List.map_nil]at*;go_wp2_with fail;refine V3.out.mono ?_;rintro e w1 ⟨kk,rfl,PW,F0⟩;obtain rfl:=PW (by trivial);have FE:=G (Ho.out.old F0);have N8:=kG Hi F0 (fun _ _ f=>f);clear F0 Hi;go_wp2_with (at_builtin;refine jJ _ rfl (.tmp 60) (.tmp 62) 27 rfl w.heap.size 9 i0 (.string ByteArray.empty) 1 16 underlying27 hi Fz Ft FC rfl (by decide) (.slice A 0 c) 0 [] rfl (N8.alloc _) _ 1 1 _ rfl (Rd.one_new _ _ _) (ky _ rfl) FU.out FV.out (jL4 FE.out.size (by simp)) ?_;intro A' c' w2 Ga hgrow Fo);have GJ:=G Ga;have FH:=G (((FE.out.alloc _).grown hgrow (fun k e=>by
     rcases N8.2 with⟨e',_⟩|⟨g',_,_,e',N0,_⟩
     ·rw[e']at e;simp[Value.ownBlock]at e
     ·rw[e']at e;simp[Value.ownBlock]at e;omega)))
    clear Ga hgrow Fo N8 Fa;go_wp2;go_roundw
    case rel=>
     refine⟨1,[⟨l.toArray⟩],A',c',t+q,by omega,rfl,rfl,rfl,?_,by go_num,RW,?_,FH.out⟩
     ·simpa [sv]using GJ.out
     ·rw[Fs.out,Su.out,show n-1=m by have:=Hm.out;omega];rfl
    case measure=>simp[intOf];omega
   ·obtain⟨bb,o,N7,GI⟩:=Fa.text (k:=k-1) (by omega);subst N7;have Ff:acc≠ []:=by rintro rfl;simp at G1;omega
    have NV:acc.getD (acc.length-1) ByteArray.empty=acc.getD (k-1) ByteArray.empty:=(by rw[G1]);generalize hz:acc.getD (k-1) ByteArray.empty=z at GI NV;have b1:(0:Int)<=(k:Int)-1:=(by omega);have b2:(k:Int)-1<(k:Int):=(by omega);have b3:((k:Int)-1).toNat=k-1:=(by omega);have b4:(0:Int)<(k:Int):=(by omega);have RV:=uA l z.toList;cases hlx:Op.bytesLess z.toList l
    ·have Hf:=G (Vt b 1024 m t acc HT.out Ff (by rw[NV];simpa [blt]using hlx));have hB:=HB.out;rw[Fs.out,Hf.out,jJ6 (by decide)]at hB;have Pj:=G hB;clear hB NV hz G1 Ff;go_wp2_with fail;refine V3.out.mono ?_;rintro e w1 ⟨kk,rfl,PW,F0⟩;obtain rfl:=PW (by trivial);have FE:=G (Ho.out.old F0);have TJ:=(World.cell?_of_block (F0.block bb (Jm GI) (fun f=>f))).trans GI;rw[hlx]at RV;simp only[Bool.not_false]at RV;clear F0 GI;go_wp2
     go_ret3
     rw[Pj.out];exact TxPost.none_ 0 8 0 (by decide) FE.out
    ·have Su:=G (JG b 1024 m t acc HT.out (.inr (by rw[NV];simpa [blt]using hlx)));have FY:=G G1;clear NV hz G1 Ff;go_wp2_with fail;refine V3.out.mono ?_;rintro e w1 ⟨kk,rfl,PW,F0⟩;obtain rfl:=PW (by trivial);have FE:=G (Ho.out.old F0);have N8:=kG Hi F0 (fun _ _ f=>f);have TJ:=(World.cell?_of_block (F0.block bb (Jm GI) (fun f=>f))).trans GI;rw[hlx]at RV;simp only[Bool.not_true,Bool.or_eq_false_iff]at RV;clear F0 Hi GI;go_wp2_with (at_builtin;refine jJ _ rfl (.tmp 60) (.tmp 62) 27 rfl w.heap.size 9 i0 (.string ByteArray.empty) 1 16 underlying27 hi Fz Ft FC rfl (by decide) (.slice (some ⟨bb,o,none⟩) k c) k (acc.map sv) rfl (N8.alloc _) _ 1 1 _ rfl (Rd.one_new _ _ _) (ky _ rfl) FU.out FV.out (jL4 FE.out.size (by simp)) ?_;intro A' c' w2 Ga hgrow Fo);have GJ:=G Ga;have FH:=G (((FE.out.alloc _).grown hgrow (fun k e=>by
      have:=N8.lt k e;omega)))
     clear Ga hgrow Fo N8 Fa;go_wp2;go_roundw
     case rel=>
      refine⟨k+1,acc++[⟨l.toArray⟩],A',c',t+q,by omega,by go_num,by rw[jJ4,FY.out];rfl,rfl,?_,by go_num,RW,?_,FH.out⟩
      ·rw[<-VU];exact GJ.out
      ·rw[Fs.out,Su.out,show n-(k+1)=m by have:=Hm.out;omega]
     case measure=>simp[intOf];omega
  ·obtain rfl:k=n:=(by omega);have hB:BN=(acc,⟨t,0⟩):=by
    have:=HB.out;rw[Fs.out,Nat.sub_self]at this;simpa [jk]using this
   have Pj:=G hB;have Gn:=G Hi;have FY:=G G1;clear hB Hi G1;go_wp2
   go_ret3
   rw[Pj.out];refine⟨A,c,(t:Int),by rw[FY.out];rfl,fun _=>rfl,?_,?_,?_,Ho.out⟩
   ·rw[FY.out];exact Rd.of_own Gn.out
   ·rw[FY.out];exact vd Gn.out
   ·rw[FY.out];exact zy Gn.out
def RPost(v:Val)(w:World)(e:Ending)(w' :World):Prop:=e=.returned (.int .i64 (jS v))/\Old w w'
theorem RPost.of{v:Val}{w w' :World}{r:Int}(h:jS v=r)(ho:Old w w'):RPost v w (.returned (.int .i64 r)) w' :=⟨by rw[h],ho⟩
theorem kO{v:Val}(h:jQ v=false):jS v=8:=by rw[jS,jJ6 h]
theorem jBK(k n:Int)(t:BA)(s:List BA)(A:OA)(c:Nat)(w:World)(hk:k<0\/5<k):
  Calls prog 158 #[vV ⟨k,n,t,s⟩ A c] w (RPost ⟨k,n,t,s⟩ w):=by
 have Hf:=G (show jQ ⟨k,n,t,s⟩=false by
  simp only[jQ];rw[jJ5 (by omega),jJ5 (by omega),jJ5 (by omega),jJ5 (by omega)];simp)
 unfold vV;rcases hk with h|h
 all_goals
  go_enter func158,ntmps158;go_wp2
  all_goals
   go_ret;exact .of (kO Hf.out) ((jQ0 _ _).alloc _)
theorem jDP(n:Int)(t:BA)(s:List BA)(A:OA)(c:Nat)(w:World)(hs:0<s.length):
  Calls prog 158 #[vV ⟨0,n,t,s⟩ A c] w (RPost ⟨0,n,t,s⟩ w):=by
 have Hf:=G (show jQ ⟨0,n,t,s⟩=false by simp[jQ,hs]);have NE:(0:Int)<(s.length:Int):=(by omega);clear hs;unfold vV;go_enter func158,ntmps158;go_wp2
 all_goals
  go_ret;exact .of (kO Hf.out) ((jQ0 _ _).alloc _)
theorem jDO(n:Int)(t:BA)(s:List BA)(A:OA)(c:Nat)(w:World)(hs:0<s.length):
  Calls prog 158 #[vV ⟨1,n,t,s⟩ A c] w (RPost ⟨1,n,t,s⟩ w):=by
 have Hf:=G (show jQ ⟨1,n,t,s⟩=false by simp[jQ,hs]);have NE:(0:Int)<(s.length:Int):=(by omega);clear hs;unfold vV;go_enter func158,ntmps158;go_wp2
 all_goals
  go_ret;exact .of (kO Hf.out) ((jQ0 _ _).alloc _)
theorem jDN(n:Int)(t:BA)(s:List BA)(A:OA)(c:Nat)(w:World)(hs:0<s.length):
  Calls prog 158 #[vV ⟨2,n,t,s⟩ A c] w (RPost ⟨2,n,t,s⟩ w):=by
 have Hf:=G (show jQ ⟨2,n,t,s⟩=false by simp[jQ,hs]);have NE:(0:Int)<(s.length:Int):=(by omega);clear hs;unfold vV;go_enter func158,ntmps158;go_wp2
 all_goals
  go_ret;exact .of (kO Hf.out) ((jQ0 _ _).alloc _)
theorem jDM(n:Int)(t:BA)(s:List BA)(A:OA)(c:Nat)(w:World)(hs:0<s.length):
  Calls prog 158 #[vV ⟨3,n,t,s⟩ A c] w (RPost ⟨3,n,t,s⟩ w):=by
 have Hf:=G (show jQ ⟨3,n,t,s⟩=false by simp[jQ,hs]);have NE:(0:Int)<(s.length:Int):=(by omega);clear hs;unfold vV;go_enter func158,ntmps158;go_wp2
 all_goals
  go_ret;exact .of (kO Hf.out) ((jQ0 _ _).alloc _)
theorem jDL(n:Int)(t:BA)(s:List BA)(A:OA)(c:Nat)(w:World)(hs:0<s.length):
  Calls prog 158 #[vV ⟨4,n,t,s⟩ A c] w (RPost ⟨4,n,t,s⟩ w):=by
 have Hf:=G (show jQ ⟨4,n,t,s⟩=false by simp[jQ,hs]);have NE:(0:Int)<(s.length:Int):=(by omega);clear hs;unfold vV;go_enter func158,ntmps158;go_wp2
 all_goals
  go_ret;exact .of (kO Hf.out) ((jQ0 _ _).alloc _)
theorem vo{t:BA}(h:t.toList=[]):t.size=0:=by
 rw[ByteArray.toList_eq]at h;have:=jH t;unfold sb at this;rw[h]at this;simpa using this.symm
theorem jJd(n:Int)(t:BA)(ht:t.toList.isEmpty=true)(RU:(t.size:Int)<=1024)(A:OA)(c:Nat)(w:World)(hf:jQ ⟨1,n,t,[]⟩=true):
  Calls prog 158 #[vV ⟨1,n,t,[]⟩ A c] w (RPost ⟨1,n,t,[]⟩ w):=by
 have HR:=G (show jS ⟨1,n,t,[]⟩=if 1=4/\¬(0<=(n:Int)/\(n:Int)<=4611686018427387904)then 111 else if 1024<t.size then 113 else 0 by
  rw[jS,hf];simp[VW])
 clear hf;unfold vV;cases hz:(n !=0)
 all_goals
  go_enter func158,ntmps158;go_wp2;go_loopw [3] (fun i wr=>i=.int .i64 1/\Blk wr w.heap.size 29 #[.int .i64 1,.int .i64 n,.string t,.slice A 0 c]/\Old w wr) (fun _ _=>0)
  case atStart=>exact⟨rfl,jQ2 _ _ _,(jQ0 _ _).alloc _⟩
  case round=>
   obtain⟨rfl,hb,ho⟩:=hrel;have GA:=hb.at_ 0 rfl;have FS:=hb.at_ 1 rfl;have Gz:=hb.at_ 2 rfl;have WN:=hb.at_ 3 rfl;have Hb:=G hb;have Ho:=G ho;clear hb ho;go_wp2
   all_goals
    first
    |(go_ret
      refine .of (HR.out.trans ?_) Ho.out;simp
      try omega)
    |(go_loopw [4] (fun i wr' =>i=.int .i64 0/\wr' =wr) (fun _ _=>0)
      case atStart=>exact⟨rfl,rfl⟩
      case round=>
       obtain⟨rfl,rfl⟩:=hrel;go_wp2
       all_goals
        go_ret;refine .of (HR.out.trans ?_) Ho.out;simp
        try omega)
theorem jJb(n:Int)(t:BA)(ht:t.toList.isEmpty=true)(RU:(t.size:Int)<=1024)(A:OA)(c:Nat)(w:World)(hf:jQ ⟨4,n,t,[]⟩=true):
  Calls prog 158 #[vV ⟨4,n,t,[]⟩ A c] w (RPost ⟨4,n,t,[]⟩ w):=by
 have HR:=G (show jS ⟨4,n,t,[]⟩=if 4=4/\¬(0<=(n:Int)/\(n:Int)<=4611686018427387904)then 111 else if 1024<t.size then 113 else 0 by
  rw[jS,hf];simp[VW])
 clear hf;unfold vV;cases hz:(n !=0)
 all_goals
  go_enter func158,ntmps158;go_wp2;go_loopw [3] (fun i wr=>i=.int .i64 1/\Blk wr w.heap.size 29 #[.int .i64 4,.int .i64 n,.string t,.slice A 0 c]/\Old w wr) (fun _ _=>0)
  case atStart=>exact⟨rfl,jQ2 _ _ _,(jQ0 _ _).alloc _⟩
  case round=>
   obtain⟨rfl,hb,ho⟩:=hrel;have GA:=hb.at_ 0 rfl;have FS:=hb.at_ 1 rfl;have Gz:=hb.at_ 2 rfl;have WN:=hb.at_ 3 rfl;have Hb:=G hb;have Ho:=G ho;clear hb ho;go_wp2
   all_goals
    first
    |(go_ret
      refine .of (HR.out.trans ?_) Ho.out;simp
      try omega)
    |(go_loopw [4] (fun i wr' =>i=.int .i64 0/\wr' =wr) (fun _ _=>0)
      case atStart=>exact⟨rfl,rfl⟩
      case round=>
       obtain⟨rfl,rfl⟩:=hrel;go_wp2
       all_goals
        go_ret;refine .of (HR.out.trans ?_) Ho.out;simp
        try omega)
theorem jJe(t:BA)(ht:t.toList.isEmpty=true)(RU:(t.size:Int)<=1024)(A:OA)(c:Nat)(w:World)(hf:jQ ⟨0,0,t,[]⟩=true):
  Calls prog 158 #[vV ⟨0,0,t,[]⟩ A c] w (RPost ⟨0,0,t,[]⟩ w):=by
 have HR:=G (show jS ⟨0,0,t,[]⟩=if 0=4/\¬(0<=(0:Int)/\(0:Int)<=4611686018427387904)then 111 else if 1024<t.size then 113 else 0 by
  rw[jS,hf];simp[VW])
 clear hf;unfold vV;go_enter func158,ntmps158;go_wp2;go_loopw [3] (fun i wr=>i=.int .i64 1/\Blk wr w.heap.size 29 #[.int .i64 0,.int .i64 0,.string t,.slice A 0 c]/\Old w wr) (fun _ _=>0)
 case atStart=>exact⟨rfl,jQ2 _ _ _,(jQ0 _ _).alloc _⟩
 case round=>
  obtain⟨rfl,hb,ho⟩:=hrel;have GA:=hb.at_ 0 rfl;have FS:=hb.at_ 1 rfl;have Gz:=hb.at_ 2 rfl;have WN:=hb.at_ 3 rfl;have Hb:=G hb;have Ho:=G ho;clear hb ho;go_wp2
  all_goals
   first
   |(go_ret
     refine .of (HR.out.trans ?_) Ho.out;simp
     try omega)
   |(go_loopw [4] (fun i wr' =>i=.int .i64 0/\wr' =wr) (fun _ _=>0)
     case atStart=>exact⟨rfl,rfl⟩
     case round=>
      obtain⟨rfl,rfl⟩:=hrel;go_wp2
      all_goals
       go_ret;refine .of (HR.out.trans ?_) Ho.out;simp
       try omega)
theorem jIj(t:BA)(ht:t.toList.isEmpty=true)(RU:(t.size:Int)<=1024)(A:OA)(c:Nat)(w:World)(hf:jQ ⟨2,0,t,[]⟩=true):
  Calls prog 158 #[vV ⟨2,0,t,[]⟩ A c] w (RPost ⟨2,0,t,[]⟩ w):=by
 have HR:=G (show jS ⟨2,0,t,[]⟩=if 2=4/\¬(0<=(0:Int)/\(0:Int)<=4611686018427387904)then 111 else if 1024<t.size then 113 else 0 by
  rw[jS,hf];simp[VW])
 clear hf;unfold vV;go_enter func158,ntmps158;go_wp2;go_loopw [3] (fun i wr=>i=.int .i64 1/\Blk wr w.heap.size 29 #[.int .i64 2,.int .i64 0,.string t,.slice A 0 c]/\Old w wr) (fun _ _=>0)
 case atStart=>exact⟨rfl,jQ2 _ _ _,(jQ0 _ _).alloc _⟩
 case round=>
  obtain⟨rfl,hb,ho⟩:=hrel;have GA:=hb.at_ 0 rfl;have FS:=hb.at_ 1 rfl;have Gz:=hb.at_ 2 rfl;have WN:=hb.at_ 3 rfl;have Hb:=G hb;have Ho:=G ho;clear hb ho;go_wp2
  all_goals
   first
   |(go_ret
     refine .of (HR.out.trans ?_) Ho.out;simp
     try omega)
   |(go_loopw [4] (fun i wr' =>i=.int .i64 0/\wr' =wr) (fun _ _=>0)
     case atStart=>exact⟨rfl,rfl⟩
     case round=>
      obtain⟨rfl,rfl⟩:=hrel;go_wp2
      all_goals
       go_ret;refine .of (HR.out.trans ?_) Ho.out;simp
       try omega)
theorem jJa(t:BA)(ht:t.toList.isEmpty=true)(RU:(t.size:Int)<=1024)(A:OA)(c:Nat)(w:World)(hf:jQ ⟨5,0,t,[]⟩=true):
  Calls prog 158 #[vV ⟨5,0,t,[]⟩ A c] w (RPost ⟨5,0,t,[]⟩ w):=by
 have HR:=G (show jS ⟨5,0,t,[]⟩=if 5=4/\¬(0<=(0:Int)/\(0:Int)<=4611686018427387904)then 111 else if 1024<t.size then 113 else 0 by
  rw[jS,hf];simp[VW])
 clear hf;unfold vV;go_enter func158,ntmps158;go_wp2;go_loopw [3] (fun i wr=>i=.int .i64 1/\Blk wr w.heap.size 29 #[.int .i64 5,.int .i64 0,.string t,.slice A 0 c]/\Old w wr) (fun _ _=>0)
 case atStart=>exact⟨rfl,jQ2 _ _ _,(jQ0 _ _).alloc _⟩
 case round=>
  obtain⟨rfl,hb,ho⟩:=hrel;have GA:=hb.at_ 0 rfl;have FS:=hb.at_ 1 rfl;have Gz:=hb.at_ 2 rfl;have WN:=hb.at_ 3 rfl;have Hb:=G hb;have Ho:=G ho;clear hb ho;go_wp2
  all_goals
   first
   |(go_ret
     refine .of (HR.out.trans ?_) Ho.out;simp
     try omega)
   |(go_loopw [4] (fun i wr' =>i=.int .i64 0/\wr' =wr) (fun _ _=>0)
     case atStart=>exact⟨rfl,rfl⟩
     case round=>
      obtain⟨rfl,rfl⟩:=hrel;go_wp2
      all_goals
       go_ret;refine .of (HR.out.trans ?_) Ho.out;simp
       try omega)
theorem jIi(t:BA)(ht:t.toList.isEmpty=true)(RU:(t.size:Int)<=1024)(A:OA)(c:Nat)(w:World)(hf:jQ ⟨2,1,t,[]⟩=true):
  Calls prog 158 #[vV ⟨2,1,t,[]⟩ A c] w (RPost ⟨2,1,t,[]⟩ w):=by
 have HR:=G (show jS ⟨2,1,t,[]⟩=if 2=4/\¬(0<=(1:Int)/\(1:Int)<=4611686018427387904)then 111 else if 1024<t.size then 113 else 0 by
  rw[jS,hf];simp[VW])
 clear hf;unfold vV;go_enter func158,ntmps158;go_wp2;go_loopw [3] (fun i wr=>i=.int .i64 1/\Blk wr w.heap.size 29 #[.int .i64 2,.int .i64 1,.string t,.slice A 0 c]/\Old w wr) (fun _ _=>0)
 case atStart=>exact⟨rfl,jQ2 _ _ _,(jQ0 _ _).alloc _⟩
 case round=>
  obtain⟨rfl,hb,ho⟩:=hrel;have GA:=hb.at_ 0 rfl;have FS:=hb.at_ 1 rfl;have Gz:=hb.at_ 2 rfl;have WN:=hb.at_ 3 rfl;have Hb:=G hb;have Ho:=G ho;clear hb ho;go_wp2
  all_goals
   first
   |(go_ret
     refine .of (HR.out.trans ?_) Ho.out;simp
     try omega)
   |(go_loopw [4] (fun i wr' =>i=.int .i64 0/\wr' =wr) (fun _ _=>0)
     case atStart=>exact⟨rfl,rfl⟩
     case round=>
      obtain⟨rfl,rfl⟩:=hrel;go_wp2
      all_goals
       go_ret;refine .of (HR.out.trans ?_) Ho.out;simp
       try omega)
theorem jJc(t:BA)(A:OA)(c:Nat)(w:World)(hf:jQ ⟨3,0,t,[]⟩=true):
  Calls prog 158 #[vV ⟨3,0,t,[]⟩ A c] w (RPost ⟨3,0,t,[]⟩ w):=by
 have HR:=G (show jS ⟨3,0,t,[]⟩=if 3=4/\¬(0<=(0:Int)/\(0:Int)<=4611686018427387904)then 111 else if 1024<t.size then 113 else 0 by
  rw[jS,hf];simp[VW])
 clear hf;unfold vV;cases hz:t.toList.isEmpty
 all_goals
  go_enter func158,ntmps158;go_wp2;go_loopw [3] (fun i wr=>i=.int .i64 1/\Blk wr w.heap.size 29 #[.int .i64 3,.int .i64 0,.string t,.slice A 0 c]/\Old w wr) (fun _ _=>0)
  case atStart=>exact⟨rfl,jQ2 _ _ _,(jQ0 _ _).alloc _⟩
  case round=>
   obtain⟨rfl,hb,ho⟩:=hrel;have GA:=hb.at_ 0 rfl;have FS:=hb.at_ 1 rfl;have Gz:=hb.at_ 2 rfl;have WN:=hb.at_ 3 rfl;have Hb:=G hb;have Ho:=G ho;clear hb ho;go_wp2
   all_goals
    first
    |(go_ret
      refine .of (HR.out.trans ?_) Ho.out;simp
      try omega)
    |(go_loopw [4] (fun i wr' =>i=.int .i64 0/\wr' =wr) (fun _ _=>0)
      case atStart=>exact⟨rfl,rfl⟩
      case round=>
       obtain⟨rfl,rfl⟩:=hrel;go_wp2
       all_goals
        go_ret;refine .of (HR.out.trans ?_) Ho.out;simp
        try omega)
theorem jFq(n:Int)(t:BA)(A:OA)(c:Nat)(w:World):
  Calls prog 158 #[vV ⟨1,n,t,[]⟩ A c] w (RPost ⟨1,n,t,[]⟩ w):=by
 cases hf:jQ ⟨1,n,t,[]⟩
 ·have Hf:=G hf;have hb:((n !=0)=true/\(1=0\/1=3))\/(t.toList.isEmpty=false/\1≠3)\/(1=2/\(n !=0)=true/\(n !=1)=true):=by
   clear Hf;simp[jQ]at hf;simp
   first|done|omega|(by_cases h:t.toList=[]<;>simp_all)
  clear hf;unfold vV;rcases hb with⟨h,h'⟩|⟨h,h'⟩|⟨h',h,h2⟩
  all_goals
   first
   |(exfalso;simp at h';done)
   |(clear h'
     go_enter func158,ntmps158;go_wp2
     all_goals
      go_ret;exact .of (kO Hf.out) ((jQ0 _ _).alloc _))
 ·have hz:t.toList=[]->(t.size:Int)<=1024:=fun h=>by rw[vo h];decide
  have My:=hf;simp[jQ]at hf;exact jJd n t (by simp[hf]) (hz hf) A c w My
theorem jFn(n:Int)(t:BA)(A:OA)(c:Nat)(w:World):
  Calls prog 158 #[vV ⟨4,n,t,[]⟩ A c] w (RPost ⟨4,n,t,[]⟩ w):=by
 cases hf:jQ ⟨4,n,t,[]⟩
 ·have Hf:=G hf;have hb:((n !=0)=true/\(4=0\/4=3))\/(t.toList.isEmpty=false/\4≠3)\/(4=2/\(n !=0)=true/\(n !=1)=true):=by
   clear Hf;simp[jQ]at hf;simp
   first|done|omega|(by_cases h:t.toList=[]<;>simp_all)
  clear hf;unfold vV;rcases hb with⟨h,h'⟩|⟨h,h'⟩|⟨h',h,h2⟩
  all_goals
   first
   |(exfalso;simp at h';done)
   |(clear h'
     go_enter func158,ntmps158;go_wp2
     all_goals
      go_ret;exact .of (kO Hf.out) ((jQ0 _ _).alloc _))
 ·have hz:t.toList=[]->(t.size:Int)<=1024:=fun h=>by rw[vo h];decide
  have My:=hf;simp[jQ]at hf;exact jJb n t (by simp[hf]) (hz hf) A c w My
theorem jFr(n:Int)(t:BA)(A:OA)(c:Nat)(w:World):
  Calls prog 158 #[vV ⟨0,n,t,[]⟩ A c] w (RPost ⟨0,n,t,[]⟩ w):=by
 cases hf:jQ ⟨0,n,t,[]⟩
 ·have Hf:=G hf;have hb:((n !=0)=true/\(0=0\/0=3))\/(t.toList.isEmpty=false/\0≠3)\/(0=2/\(n !=0)=true/\(n !=1)=true):=by
   clear Hf;simp[jQ]at hf;simp
   first|done|omega|(by_cases h:t.toList=[]<;>simp_all)
  clear hf;unfold vV;rcases hb with⟨h,h'⟩|⟨h,h'⟩|⟨h',h,h2⟩
  all_goals
   first
   |(exfalso;simp at h';done)
   |(clear h'
     go_enter func158,ntmps158;go_wp2
     all_goals
      go_ret;exact .of (kO Hf.out) ((jQ0 _ _).alloc _))
 ·have hz:t.toList=[]->(t.size:Int)<=1024:=fun h=>by rw[vo h];decide
  have My:=hf;simp[jQ]at hf;obtain⟨ht,rfl⟩:=hf;exact jJe t (by simp[ht]) (hz ht) A c w My
theorem jFp(n:Int)(t:BA)(A:OA)(c:Nat)(w:World):
  Calls prog 158 #[vV ⟨2,n,t,[]⟩ A c] w (RPost ⟨2,n,t,[]⟩ w):=by
 cases hf:jQ ⟨2,n,t,[]⟩
 ·have Hf:=G hf;have hb:((n !=0)=true/\(2=0\/2=3))\/(t.toList.isEmpty=false/\2≠3)\/(2=2/\(n !=0)=true/\(n !=1)=true):=by
   clear Hf;simp[jQ]at hf;simp
   first|done|omega|(by_cases h:t.toList=[]<;>simp_all)
  clear hf;unfold vV;rcases hb with⟨h,h'⟩|⟨h,h'⟩|⟨h',h,h2⟩
  all_goals
   first
   |(exfalso;simp at h';done)
   |(clear h'
     go_enter func158,ntmps158;go_wp2
     all_goals
      go_ret;exact .of (kO Hf.out) ((jQ0 _ _).alloc _))
 ·have hz:t.toList=[]->(t.size:Int)<=1024:=fun h=>by rw[vo h];decide
  have My:=hf;simp[jQ]at hf;obtain⟨ht,rfl|rfl⟩:=hf
  ·exact jIj t (by simp[ht]) (hz ht) A c w My
  ·exact jIi t (by simp[ht]) (hz ht) A c w My
theorem jFo(n:Int)(t:BA)(A:OA)(c:Nat)(w:World):
  Calls prog 158 #[vV ⟨3,n,t,[]⟩ A c] w (RPost ⟨3,n,t,[]⟩ w):=by
 cases hf:jQ ⟨3,n,t,[]⟩
 ·have Hf:=G hf;have hb:((n !=0)=true/\(3=0\/3=3))\/(t.toList.isEmpty=false/\3≠3)\/(3=2/\(n !=0)=true/\(n !=1)=true):=by
   clear Hf;simp[jQ]at hf;simp
   first|done|omega|(by_cases h:t.toList=[]<;>simp_all)
  clear hf;unfold vV;rcases hb with⟨h,h'⟩|⟨h,h'⟩|⟨h',h,h2⟩
  all_goals
   first
   |(exfalso;simp at h';done)
   |(clear h'
     go_enter func158,ntmps158;go_wp2
     all_goals
      go_ret;exact .of (kO Hf.out) ((jQ0 _ _).alloc _))
 ·have My:=hf;simp[jQ]at hf;subst hf;exact jJc t A c w My
theorem Xn(n:Int)(t:BA)(s:List BA)(A:OA)(c:Nat)(w:World)(hb:(n !=0)=true\/t.toList.isEmpty=false):
  Calls prog 158 #[vV ⟨5,n,t,s⟩ A c] w (RPost ⟨5,n,t,s⟩ w):=by
 have Hf:=G (show jQ ⟨5,n,t,s⟩=false by
  rcases hb with h|h
  ·have h' :¬n=0:=(by simpa using h);simp[jQ,h']
  ·have h' :¬t.toList=[]:=(by simpa using h);simp[jQ,h'])
 unfold vV;rcases hb with h|h
 all_goals
  go_enter func158,ntmps158;go_wp2
  all_goals
   go_ret;exact .of (kO Hf.out) ((jQ0 _ _).alloc _)
theorem jFm(t:BA)(ht:t.toList.isEmpty=true)(RU:(t.size:Int)<=1024)(s:List BA)(A:OA)(c:Nat)(w:World)(hr:Rd w 1 A s.length (s.map sv))(hs:s.length<=1000000000000)(NE:(0:Int)<(s.length:Int)):
  Calls prog 158 #[vV ⟨5,0,t,s⟩ A c] w (RPost ⟨5,0,t,s⟩ w):=by
 have Hs:=G hs;have Hf:=G (show jQ ⟨5,0,t,s⟩=yV s by
  have h' :t.toList=[]:=(by simpa using ht);simp[jQ,h'])
 have HR:=G (show jS ⟨5,0,t,s⟩=if yV s=false then 8 else if(s.any fun x=>decide (1024<x.size))=true then 113 else if 64<s.length then 114 else 0 by
  rw[jS,Hf.out];have:¬1024<t.size:=(by omega);simp[VW,this])
 clear hs;unfold vV;go_enter func158,ntmps158;go_wp2;go_loopw [3] (fun i wr=>∃k:Nat,k+1<=max 1 s.length/\i=.int .i64 ((k:Int)+1)/\jIf s (k+1)/\Blk wr w.heap.size 29 #[.int .i64 5,.int .i64 0,.string t,.slice A s.length c]/\Old w wr) (fun i _=>s.length-(intOf i).toNat)
 case atStart=>exact⟨0,by omega,rfl,fun i hi=>by omega,jQ2 _ _ _,(jQ0 _ _).alloc _⟩
 case round=>
  obtain⟨k,hk,rfl,PF,hb,ho⟩:=hrel;have GA:=hb.at_ 0 rfl;have FS:=hb.at_ 1 rfl;have Gz:=hb.at_ 2 rfl;have WN:=hb.at_ 3 rfl;by_cases hM:k+1<s.length
  ·obtain⟨b,o,rfl,hx⟩:=(hr.old ho).text (k:=k) (by omega);obtain⟨b',o',e,hy⟩:=(hr.old ho).text (k:=k+1) (by omega);obtain⟨rfl,rfl⟩:b=b' /\o=o' :=by injection e with e;injection e with e1 e2;exact⟨e1,e2⟩
   clear e;have b1:(0:Int)<=(k:Int):=(by omega);have b2:(k:Int)<(s.length:Int):=(by omega);have b3:(0:Int)<=(k:Int)+1:=(by omega);have b4:(k:Int)+1<(s.length:Int):=(by omega);have b5:(k:Int)<=1000000000000:=by have:=Hs.out;omega
   generalize hxx:s.getD k ByteArray.empty=x at hx;generalize hyy:s.getD (k+1) ByteArray.empty=y at hy;have Hx:=G hxx;have Hy:=G hyy;have HW:=G hb;clear hxx hyy hb;cases hlx:Op.bytesLess x.toList y.toList
   all_goals
    go_wp2;have e1:IntKind.i64.wrap (k:Int)=(k:Int):=jQ3 _ (by have:=Hs.out;omega);have e2:((k:Int)+1).toNat=k+1:=(by omega);go_quiet (fail);clear e1 e2;go_wp2
   ·go_ret;refine .of (HR.out.trans ?_) (ho.drewN _);rw[xw s k (by omega) (by rw[Hx.out,Hy.out];exact hlx)];rfl
   ·go_roundw
    case rel=>exact⟨k+1,by omega,by go_num,QG s k PF (by rw[Hx.out,Hy.out];exact hlx),HW.out,ho.drewN _⟩
    case measure=>simp[intOf];omega
  ·have WJ:=G (show jS ⟨5,0,t,s⟩=if(s.any fun x=>decide (1024<x.size))=true then 113 else if 64<s.length then 114 else 0 by
    rw[HR.out,QU s (fun i hi=>PF i (by omega))];rfl)
   clear HR PF;have Hb:=G hb;have Ho:=G ho;clear hb ho;go_wp2;go_loopw [4] (fun i wr' =>∃k:Nat,k<=s.length/\i=.int .i64 k/\(∀j,j<k->(s.getD j ByteArray.empty).size<=1024)/\wr' =wr) (fun i _=>s.length-(intOf i).toNat)
   case atStart=>exact⟨0,by omega,rfl,fun j hj=>by omega,rfl⟩
   case round=>
    obtain⟨j,hj,rfl,GH,rfl⟩:=hrel;have hY:=G GH;clear GH;by_cases hjt:j<s.length
    ·obtain⟨b,o,rfl,hx⟩:=(hr.old Ho.out).text (k:=j) hjt;generalize hxx:s.getD j ByteArray.empty=x at hx;have Hx:=G hxx;clear hxx;have b5:(j:Int)<=1000000000000:=by have:=Hs.out;omega
     by_cases hl:1024<x.size
     ·go_wp2;go_ret;refine .of (WJ.out.trans ?_) Ho.out;rw[jE4 s j hjt (by rw[Hx.out];exact hl)];rfl
     ·go_wp2;go_roundw
      case rel=>
       refine⟨j+1,by omega,by go_num,fun i hi=> ?_,by trivial⟩;by_cases e:i=j
       ·subst e;rw[Hx.out];omega
       ·exact hY.out i (by omega)
      case measure=>simp[intOf];omega
    ·have HR3:=G (show jS ⟨5,0,t,s⟩=if 64<s.length then 114 else 0 by
      rw[WJ.out,jED s (fun i hi=>hY.out i (by omega))];rfl)
     go_wp2
     all_goals
      go_ret;refine .of (HR3.out.trans ?_) Ho.out;simp;omega
theorem yI(v:Val)(A:OA)(c:Nat)(w:World)(hr:Rd w 1 A v.s.length (v.s.map sv))(hs:v.s.length<=1000000000000):
  Calls prog 158 #[vV v A c] w (RPost v w):=by
 obtain⟨k,n,t,s⟩:=v;by_cases h:k<0\/5<k
 ·exact jBK k n t s A c w h
 ·by_cases h5:k=5
  ·subst h5;by_cases hb:(n !=0)=true\/t.toList.isEmpty=false
   ·exact Xn n t s A c w hb
   ·have h1:n=0:=by
     by_cases h:n=0
     ·exact h
     ·exact absurd (.inl (by simpa using h)) hb
    have h2:t.toList.isEmpty=true:=by
     cases h:t.toList.isEmpty
     ·exact absurd (.inr h) hb
     ·rfl
    subst h1;have RU:(t.size:Int)<=1024:=by rw[vo (by simpa using h2)];decide
    by_cases NE:(0:Int)<(s.length:Int)
    ·exact jFm t h2 RU s A c w hr hs NE
    ·have:s=[]:=List.eq_nil_of_length_eq_zero (by omega);subst this;have h3:t.toList=[]:=(by simpa using h2);exact jJa t h2 RU A c w (by simp[jQ,h3,yV])
  ·have hk:k=0\/k=1\/k=2\/k=3\/k=4:=(by omega);by_cases P0:0<s.length
   ·rcases hk with rfl|rfl|rfl|rfl|rfl
    ·exact jDP n t s A c w P0
    ·exact jDO n t s A c w P0
    ·exact jDN n t s A c w P0
    ·exact jDM n t s A c w P0
    ·exact jDL n t s A c w P0
   ·have:s=[]:=List.eq_nil_of_length_eq_zero (by omega);subst this;rcases hk with rfl|rfl|rfl|rfl|rfl
    ·exact jFr n t A c w
    ·exact jFq n t A c w
    ·exact jFp n t A c w
    ·exact jFo n t A c w
    ·exact jFn n t A c w
section
variable{bs:LB}{s:Rs}{l:Ls}
theorem vD{s s' :Rs}{e:LB}(h:s'.why≠0):Con bs s s' e:=fun hz=>absurd hz h
theorem vG(k:Nat)(s:Rs):Con bs s (tkN bs k s).2 (be k (tkN bs k s).1):=by
 unfold tkN;by_cases h1:s.why≠0
 ·rw[jJ6 h1];exact vD h1
 ·rw[jJ5 h1];by_cases h2:s.at_ +k<=bs.length
  ·rw[jJ6 h2];refine fun _=>⟨by simpa using h1,?_,fun _=>h2⟩;simp only;rw[ZE bs s.at_ k h2];exact kF bs s.at_ k
  ·rw[jJ5 h2];exact vD (by simp)
theorem qm(s:Rs):Con bs s (jw bs s).2 [if(jw bs s).1=true then 1 else 0]:=by
 unfold jw;by_cases h1:s.why≠0
 ·rw[jJ6 h1];exact vD h1
 ·rw[jJ5 h1];by_cases h2:bs.length<s.at_ +1\/1<jq ((bs.drop s.at_).take 1)
  ·rw[jJ6 h2];exact vD (by simp)
  ·rw[jJ5 h2];have h3:s.at_ +1<=bs.length:=(by omega);refine fun _=>⟨by simpa using h1,?_,fun _=>h3⟩;have hq:=ZE bs s.at_ 1 h3;have hn:jq ((bs.drop s.at_).take 1)<=1:=(by omega);have he:=kF bs s.at_ 1;simp only;generalize jq ((bs.drop s.at_).take 1)=n at*;rw[<-hq]at he;have hc:n=0\/n=1:=(by omega);rcases hc with rfl|rfl
   ·simpa [be]using he
   ·simpa [be]using he
theorem xQ(m:Int)(p:Nat)(h:(jb bs m p).2.2=0):bs.drop p=lp 2 (jb bs m p).1++bs.drop (jb bs m p).2.1/\(jb bs m p).2.1<=bs.length:=by
 revert h
 unfold jb;by_cases h1:bs.length<p+2
 ·rw[jJ6 h1];intro h;cases h
 ·rw[jJ5 h1];have hq:=ZE bs p 2 (by omega);have he:=kF bs p 2;generalize jq ((bs.drop p).take 2)=n at*;by_cases h2:min m 65535<(n:Int)
  ·rw[jJ6 h2];intro h;cases h
  ·rw[jJ5 h2];by_cases h3:bs.length<p+2+n
   ·rw[jJ6 h3];intro h;cases h
   ·rw[jJ5 h3];intro _;have EX:((bs.drop (p+2)).take n).length=n:=by rw[jK9,jK8];omega
    refine⟨?_,by simp only;omega⟩;simp only[lp,EX];rw[hq,jK1,<-kF bs (p+2) n];exact he
theorem jC7(m:Int)(s:Rs):Con bs s (zx bs m s).2 (lp 2 (zx bs m s).1):=by
 unfold zx;by_cases h1:s.why≠0
 ·rw[jJ6 h1];exact vD h1
 ·rw[jJ5 h1];by_cases h2:(jb bs m s.at_).2.2≠0
  ·rw[jJ6 h2];exact vD h2
  ·rw[jJ5 h2];have:=xQ m s.at_ (by simpa using h2);exact fun _=>⟨by simpa using h1,this.1,fun _=>this.2⟩
theorem XZ(each:Int):∀(k p:Nat) (acc:List BA),(jk bs each k p acc).1=0->
  ∃new,new.length=k/\(jk bs each k p acc).2.1=acc++new/\bs.drop p=lps new++bs.drop (jk bs each k p acc).2.2/\(p<=bs.length->(jk bs each k p acc).2.2<=bs.length):=by
 intro k
 induction k with
 |zero=>intro p acc _;exact⟨[],rfl,by simp[jk],by simp[jk,lps],fun h=>h⟩
 |succ k ih=>
  intro p acc;simp only[jk];by_cases h:zo acc (jb bs each p)≠0
  ·rw[jJ6 h];intro hz;exact absurd hz h
  ·rw[jJ5 h];intro hz;obtain⟨new,hn,he,hd,hl⟩:=ih _ _ hz;have h0:(jb bs each p).2.2=0:=by
    have h' :zo acc (jb bs each p)=0:=(by simpa using h);unfold zo at h';split at h'
    ·cases h'
    ·exact h'
   have ht:=xQ each p h0;refine⟨⟨(jb bs each p).1.toArray⟩::new,by simp[hn],by rw[he];simp,?_,fun _=>hl ht.2⟩;rw[ht.1,hd];simp[lps,jDE]
theorem xO(most each:Int)(s:Rs):Con bs s (kI bs most each s).2 (yM (kI bs most each s).1):=by
 unfold kI;by_cases h1:s.why≠0
 ·rw[jJ6 h1];exact vD h1
 ·rw[jJ5 h1];by_cases h2:bs.length<s.at_ +2
  ·rw[jJ6 h2];exact vD (by simp)
  ·rw[jJ5 h2];have hq:=ZE bs s.at_ 2 (by omega);have he:=kF bs s.at_ 2;generalize jq ((bs.drop s.at_).take 2)=n at*;by_cases h3:min most 65535<(n:Int)
   ·rw[jJ6 h3];exact vD (by simp)
   ·rw[jJ5 h3];by_cases h4:(jk bs each n (s.at_ +2) []).1≠0
    ·rw[jJ6 h4];exact vD h4
    ·rw[jJ5 h4];obtain⟨new,hn,hl,hd,Fu⟩:=XZ (bs:=bs) each n (s.at_ +2) [] (by simpa using h4);refine fun _=>⟨by simpa using h1,?_,fun _=>Fu (by omega)⟩;simp only;rw[hl,List.nil_append,yM,hn,hq,jK1,<-hd];exact he
theorem jEz(k:Nat):be 1 ((k:Int)).toNat=be 1 k:=by simp
theorem zV(s:Rs):Con bs s (jc bs s).2 (yX (jc bs s).1)/\((jc bs s).2.why=0->jS (jc bs s).1=0):=by
 have hk:=vG (bs:=bs) 1 s;have hM:=ku bs 1 s;rw[jc];generalize tkN bs 1 s=K at hk hM;obtain⟨k,s1⟩:=K;simp only at hk hM⊢;have key:jS (vF bs k s1).1=0->Con bs s (vF bs k s1).2 (yX (vF bs k s1).1):=by
  unfold vF;by_cases h1:k=1\/k=4
  ·rw[jJ6 h1];intro _;have e:yX ⟨(k:Int),i64 (tkN bs 8 s1).1,ByteArray.empty,[]⟩=be 1 k++be 8 (tkN bs 8 s1).1:=by
    rw[yX];simp only;rw[jJ6 (by omega),jEz k];have:=Um (tkN bs 8 s1).1 (by have:=ku bs 8 s1;omega);rw[be8]at this;rw[this]
   simp only;rw[e];exact hk.trans (vG 8 s1)
  ·rw[jJ5 h1];by_cases h2:k=2
   ·subst h2;rw[jJ6 rfl];intro _;have e:yX ⟨2,if(jw bs s1).1=true then 1 else 0,ByteArray.empty,[]⟩=be 1 2++[if(jw bs s1).1=true then 1 else 0]:=by
     cases (jw bs s1).1<;>simp[yX]
    simp only;rw[e];exact hk.trans (qm s1)
   ·rw[jJ5 h2];by_cases h3:k=3
    ·subst h3;rw[jJ6 rfl];intro _;have e:yX ⟨3,0,⟨(zx bs 1024 s1).1.toArray⟩,[]⟩=be 1 3++lp 2 (zx bs 1024 s1).1:=by
      rw[yX];simp[jDE]
     simp only;rw[e];exact hk.trans (jC7 1024 s1)
    ·rw[jJ5 h3];by_cases h5:k=5
     ·subst h5;rw[jJ6 rfl];intro _;have e:yX ⟨5,0,ByteArray.empty,(kI bs 64 1024 s1).1⟩=be 1 5++yM (kI bs 64 1024 s1).1:=by
       rw[yX];simp
      simp only;rw[e];exact hk.trans (xO 64 1024 s1)
     ·rw[jJ5 h5];intro hr;have h0:k=0:=by
       by_cases h0:k=0
       ·exact h0
       ·exfalso;have hf:jQ ⟨(k:Int),0,ByteArray.empty,[]⟩=false:=by
         simp only[jQ];rw[jJ5 (by omega),jJ5 (by omega),jJ5 (by omega),jJ5 (by omega)];simp
        simp only[jS]at hr;rw[jJ6 hf]at hr;cases hr
      subst h0;have e:yX ⟨((0:Nat):Int),0,ByteArray.empty,[]⟩=be 1 0:=by
       rw[yX];simp
      simp only;rw[e];exact hk
 unfold Jw;by_cases h1:(vF bs k s1).2.why≠0
 ·rw[jJ6 h1];exact⟨vD h1,fun hz=>absurd hz h1⟩
 ·rw[jJ5 h1];by_cases h2:jS (vF bs k s1).1≠0
  ·rw[jJ6 h2];exact⟨vD (by simp),fun hz=>by simp at hz⟩
  ·rw[jJ5 h2];have Nx:jS (vF bs k s1).1=0:=(by simpa using h2);exact⟨key Nx,fun _=>Nx⟩
theorem JZ(s:Rs)(h:s.why≠0):(jc bs s).2.why≠0:=fun hz=>h ((zV s).1 hz).1
theorem jFM(h:Ag bs s l):Ag bs (jc bs s).2 (Js bs l).2/\((jc bs s).2.why=0->(jc bs s).1=(Js bs l).1):=by
 rcases h.cases with⟨p,rfl,rfl,hp⟩|⟨hw,hs⟩
 ·have O9:=jA9 bs p hp 0 0;rw[Nat.add_zero]at O9;have hc:=(zV (bs:=bs.drop p) ⟨0,0⟩).1;rw[O9,Js];simp only;generalize jc (bs.drop p) ⟨0,0⟩=V at*;obtain⟨v,q,y⟩:=V;by_cases hy:y=0
  ·subst hy;have hq:=(hc rfl).2.2 (Nat.zero_le _);simp only[jK8]at hq;simp only[ne_eq,not_true_eq_false,if_false,sh];have e:jZ bs q ⟨p,false⟩=((bs.drop p).take q,⟨p+q,false⟩):=(by rw[jZ,jJ5 (by simp only;omega)]);rw[e];exact⟨ZH (by omega),fun _=>by trivial⟩
  ·simp only[sh];rw[jJ6 hy];exact⟨zk hy rfl,fun h=>absurd h hy⟩
 ·refine⟨zk (JZ s hw) ?_,fun h=>absurd h (JZ s hw)⟩;rw[Js];split
  ·rfl
  ·exact yb _ hs
end
end Go.Proofs.YtnaolhjbapgjgaaGreat

import Derived.Test.YtnaolhjbapgjgaaGreatMg03
import Derived.Laws.IdiomCopy
import Derived.Deep.DeepCutAuto
set_option maxRecDepth 100000
set_option maxHeartbeats 6400000
namespace Go.Proofs.YtnaolhjbapgjgaaGreat
open Go.Proofs.Tryz
open Go.RowKit
def jt(bs:LB)(most:Int)(s:Rs):LB×Rs:=
 if s.why≠0 then([],s)
 else if bs.length<s.at_ +4 then([],⟨s.at_,8⟩)
 else if min most 2147483647<(jq ((bs.drop s.at_).take 4):Int)then([],⟨s.at_,6⟩)
 else if bs.length<s.at_ +4+jq ((bs.drop s.at_).take 4)then([],⟨s.at_,8⟩)
 else((bs.drop (s.at_ +4)).take (jq ((bs.drop s.at_).take 4)),⟨s.at_ +4+jq ((bs.drop s.at_).take 4),0⟩)
theorem TookB.mono{w w1 w' :World}{g:Nat}{bs l:LB}{s:Rs}{e:Ending}(hk:Kp (RX g) w w1)(h:TookB w1 g bs l s e w'):TookB w g bs l s e w' :=by
 obtain⟨A,c,he,hr,ha,hc,hR,hZ⟩:=h;exact⟨A,c,he,hr,fun hn ad ea hM=>ha hn ad ea (jL8 hM hk.size),hc,hR,hk.trans hZ (fun _ _ h=>h)⟩
theorem TookB.form{w w' :World}{g:Nat}{bs l:LB}{s:Rs}{e:Ending}(h:TookB w g bs l s e w'):∃A n c,e=.returned (.slice A n c)/\Hid (TookB w g bs l s (.returned (.slice A n c)) w'):=by
 obtain⟨A,c,he,rest⟩:=h;exact⟨A,l.length,c,he,⟨A,c,rfl,rest⟩⟩
theorem xj(w:World)(g:Nat)(bs:LB)(most:Int)(s:Rs)(h:Rr w g bs s)(hm:0<=most):
  Calls prog 84 #[.pointer (some ⟨g,0,none⟩),.int .i64 most] w (TookB w g bs (jt bs most s).1 (jt bs most s).2):=by
 obtain⟨p,y⟩:=s;have h' :=h;have hfit:=h.fits;obtain⟨A,c,hb,hr,ha,hc,hs,hl⟩:=h;have c0:=hb.at_ 0 rfl;have c1:=hb.at_ 1 rfl;have c2:=hb.at_ 2 rfl;have z1:=hb.frozen 1;simp only at*;clear hr ha;by_cases hy:y=0
 case neg=>
  rw[show jt bs most ⟨p,y⟩=([],⟨p,y⟩)by simp[jt,hy]];have MK:(y !=0)=true:=(by simpa using hy);go_enter func84,ntmps84;go_wp2;go_ret;exact TookB.none_ h' (jQ0 _ _)
 subst hy;by_cases h4:bs.length<p+4
 ·rw[show jt bs most ⟨p,0⟩=([],⟨p,8⟩)by simp only[jt];rw[jJ5 (by simp),jJ6 h4]];go_enter func84,ntmps84;go_wp2_with fail;refine(uP w g bs ⟨p,0⟩ p h' hs h4).mono ?_;rintro e w' ⟨rfl,rfl⟩;go_wp2_with fail;refine(jx w g bs ⟨p,0⟩ 8 h' rfl).mono ?_;rintro e w1 ⟨rfl,Fd,Fc⟩;go_wp2;go_ret;exact TookB.none_ Fd Fc
 ·have hN:=jm (bs.drop p) 4;have HB:=G (show jt bs most ⟨p,0⟩=if min most 2147483647<(jq ((bs.drop p).take 4):Int)then([],⟨p,6⟩)else if bs.length<p+4+jq ((bs.drop p).take 4)then([],⟨p,8⟩)else((bs.drop (p+4)).take (jq ((bs.drop p).take 4)),⟨p+4+jq ((bs.drop p).take 4),0⟩)by
   simp only[jt];rw[jJ5 (by simp),jJ5 h4])
  generalize jt bs most ⟨p,0⟩=BN at HB⊢;have Hh:=G (qx w g bs ⟨p,0⟩ p h' (by omega));generalize jq ((bs.drop p).take 4)=n at HB hN Hh;have BI:(n:Int)<=4294967295:=(by omega);by_cases hmost:min most 2147483647<(n:Int)
  ·rw[jJ6 hmost]at HB;rw[HB.out];go_enter func84,ntmps84;go_wp2_with fail;refine Hh.out.mono ?_;rintro e w' ⟨rfl,rfl⟩;go_wp2_with fail;refine(kn _ _ _ hm).mono ?_;rintro e w' ⟨rfl,rfl⟩;go_wp2_with fail;refine(jx w g bs ⟨p,0⟩ 6 h' rfl).mono ?_;rintro e w1 ⟨rfl,Fd,Fc⟩;go_wp2;go_ret;exact TookB.none_ Fd Fc
  ·rw[jJ5 hmost]at HB;by_cases hlen:bs.length<p+4+n
   ·rw[jJ6 hlen]at HB;rw[HB.out];have hd:(bs.length:Int)-((p:Int)+4)<(n:Int):=(by omega);go_enter func84,ntmps84;go_wp2_with fail;refine Hh.out.mono ?_;rintro e w' ⟨rfl,rfl⟩;go_wp2_with fail;refine(kn _ _ _ hm).mono ?_;rintro e w' ⟨rfl,rfl⟩;go_wp2_with fail;refine(jx w g bs ⟨p,0⟩ 8 h' rfl).mono ?_;rintro e w1 ⟨rfl,Fd,Fc⟩;go_wp2;go_ret;exact TookB.none_ Fd Fc
   ·rw[jJ5 hlen]at HB;rw[HB.out];have hd:¬(bs.length:Int)-((p:Int)+4)<(n:Int):=(by omega);go_enter func84,ntmps84;go_wp2_with fail;refine Hh.out.mono ?_;rintro e w' ⟨rfl,rfl⟩;go_wp2_with fail;refine(kn _ _ _ hm).mono ?_;rintro e w' ⟨rfl,rfl⟩;go_wp2_with fail;have RZ:Rr (w.setCell ⟨g,1,none⟩ (.int .i64 ((p:Int)+4))) g bs ⟨p+4,0⟩:=by
     have:=h'.setAt (p+4) (by omega)
     rwa [Int.natCast_add]at this
    refine(jDs _ g bs n (p+4) RZ (by omega)).mono ?_;intro e w1 ht;have Cr:=TookB.mono ((jQ0 (RX g) w).setCell (p:=⟨g,1,none⟩) (fun _=>rfl) _) ht;obtain⟨A2,ll,c2',rfl,Fm⟩:=Cr.form;clear ht Cr;go_wp2;go_ret;exact Fm.out
def jw(bs:LB)(s:Rs):Bool×Rs:=
 if s.why≠0 then(false,s)else if bs.length<s.at_ +1\/1<jq ((bs.drop s.at_).take 1)then(false,⟨s.at_,8⟩)else(jq ((bs.drop s.at_).take 1)==1,⟨s.at_ +1,0⟩)
theorem qQ(w:World)(g:Nat)(bs:LB)(s:Rs)(h:Rr w g bs s):
  Calls prog 92 #[.pointer (some ⟨g,0,none⟩)] w fun e w' =>e=.returned (.bool (jw bs s).1)/\Rr w' g bs (jw bs s).2/\Kp (RX g) w w' :=by
 obtain⟨p,y⟩:=s;have hfit:=h.fits;have c1:=h.atc;have c2:=h.why;have z1:=h.zer 1;simp only at*;by_cases hy:y=0
 case neg=>
  rw[show jw bs ⟨p,y⟩=(false,⟨p,y⟩)by simp[jw,hy]];have MK:(y !=0)=true:=(by simpa using hy);go_enter func92,ntmps92;go_wp2;go_ret;exact⟨rfl,h,jQ0 _ _⟩
 subst hy;by_cases h4:bs.length<p+1
 ·rw[show jw bs ⟨p,0⟩=(false,⟨p,8⟩)by simp only[jw];rw[jJ5 (by simp),jJ6 (.inl h4)]];go_enter func92,ntmps92;go_wp2_with fail;refine(XL w g bs ⟨p,0⟩ p h hfit.1 h4).mono ?_;rintro e w' ⟨rfl,rfl⟩;go_wp2_with fail;refine(jx w g bs ⟨p,0⟩ 8 h rfl).mono ?_;rintro e w1 ⟨rfl,Fd,Fc⟩;go_wp2;go_ret;exact⟨rfl,Fd,Fc⟩
 ·have HB:=G (show jw bs ⟨p,0⟩=if 1<jq ((bs.drop p).take 1)then(false,⟨p,8⟩)else(jq ((bs.drop p).take 1)==1,⟨p+1,0⟩)by
   simp only[jw];rw[jJ5 (by simp)];simp[h4])
  generalize jw bs ⟨p,0⟩=BN at HB⊢;have Hh:=G (uO w g bs ⟨p,0⟩ p h (by omega));generalize jq ((bs.drop p).take 1)=n at HB Hh;by_cases hn:1<n
  ·rw[jJ6 hn]at HB;rw[HB.out];have Wu:(1:Int)<(n:Int):=(by omega);go_enter func92,ntmps92;go_wp2_with fail;refine Hh.out.mono ?_;rintro e w' ⟨rfl,rfl⟩;go_wp2_with fail;refine(jx w g bs ⟨p,0⟩ 8 h rfl).mono ?_;rintro e w1 ⟨rfl,Fd,Fc⟩;go_wp2;go_ret;exact⟨rfl,Fd,Fc⟩
  ·rw[jJ5 hn]at HB;rw[HB.out];have Wu:¬(1:Int)<(n:Int):=(by omega);have RZ:Rr (w.setCell ⟨g,1,none⟩ (.int .i64 ((p:Int)+1))) g bs ⟨p+1,0⟩:=by
    have:=h.setAt (p+1) (by omega)
    rwa [Int.natCast_add]at this
   have Ra:=G RZ;have WT:n=0\/n=1:=(by omega);clear RZ;rcases WT with rfl|rfl
   all_goals
    go_enter func92,ntmps92;go_wp2_with fail;refine Hh.out.mono ?_;rintro e w' ⟨rfl,rfl⟩;go_wp2;go_ret;exact⟨rfl,Ra.out,(jQ0 (RX g) w).setCell (p:=⟨g,1,none⟩) (fun _=>rfl) _⟩
def jb(bs:LB)(most:Int)(p:Nat):LB×Nat×Int:=
 if bs.length<p+2 then([],p,8)
 else if min most 65535<(jq ((bs.drop p).take 2):Int)then([],p+2,6)
 else if bs.length<p+2+jq ((bs.drop p).take 2)then([],p+2,8)
 else((bs.drop (p+2)).take (jq ((bs.drop p).take 2)),p+2+jq ((bs.drop p).take 2),0)
theorem qM(w:World)(g:Nat)(bs:LB)(most:Int)(p:Nat)(s:Rs)(h:Rr w g bs s)(hm:0<=most)(hp:p<=bs.length):
  Calls prog 173 #[.pointer (some ⟨g,0,none⟩),.int .i64 p,.int .i64 most] w fun e w' =>
   e=.returned (.tuple #[.string ⟨(jb bs most p).1.toArray⟩,.int .i64 (jb bs most p).2.1,.int .i64 (jb bs most p).2.2])/\w=w' :=by
 have h' :=h;obtain⟨A,c,hb,hr,ha,hc,hs,hl⟩:=h;have c0:=hb.at_ 0 rfl;clear hs;by_cases h4:bs.length<p+2
 ·rw[show jb bs most p=([],p,8)by simp only[jb];rw[jJ6 h4]];go_enter func173,ntmps173;go_wp2_with fail;refine(ZG w g bs s p h' hp h4).mono ?_;rintro e w' ⟨rfl,rfl⟩;go_wp2
  go_ret3
  exact⟨rfl,rfl⟩
 ·have hN:=jm (bs.drop p) 2;have HB:=G (show jb bs most p=if min most 65535<(jq ((bs.drop p).take 2):Int)then([],p+2,6)else if bs.length<p+2+jq ((bs.drop p).take 2)then([],p+2,8)else((bs.drop (p+2)).take (jq ((bs.drop p).take 2)),p+2+jq ((bs.drop p).take 2),0)by
   simp only[jb];rw[jJ5 h4])
  generalize jb bs most p=BN at HB⊢;have Hh:=G (Vi w g bs s p h' (by omega));generalize jq ((bs.drop p).take 2)=n at HB hN Hh;have BI:(n:Int)<=65535:=(by omega);by_cases hmost:min most 65535<(n:Int)
  ·rw[jJ6 hmost]at HB;rw[HB.out];go_enter func173,ntmps173;go_wp2_with fail;refine Hh.out.mono ?_;rintro e w' ⟨rfl,rfl⟩;go_wp2_with fail;refine(kn _ _ _ hm).mono ?_;rintro e w' ⟨rfl,rfl⟩;go_wp2
   go_ret3
   exact⟨rfl,rfl⟩
  ·rw[jJ5 hmost]at HB;by_cases hlen:bs.length<p+2+n
   ·rw[jJ6 hlen]at HB;rw[HB.out];have hd:(bs.length:Int)-((p:Int)+2)<(n:Int):=(by omega);go_enter func173,ntmps173;go_wp2_with fail;refine Hh.out.mono ?_;rintro e w' ⟨rfl,rfl⟩;go_wp2_with fail;refine(kn _ _ _ hm).mono ?_;rintro e w' ⟨rfl,rfl⟩;go_wp2
    go_ret3
    exact⟨rfl,rfl⟩
   ·rw[jJ5 hlen]at HB;rw[HB.out];have hd:¬(bs.length:Int)-((p:Int)+2)<(n:Int):=(by omega);have hcut:=(hr.cut (k:=p+2) (cap:=c) (by omega) hc).take_ (k:=n) (by omega);rw[Nat.mul_one,Nat.mul_one,<-List.map_drop,<-List.map_take]at hcut;have Gi:=fun W=>VJ (P:=prog) kE kA A bs.length c (p+2) (p+2+n) .i64 .i64 ((p:Int)+2) ((p:Int)+2+(n:Int)) (by omega) (by omega) (by omega) (by omega) W;rw[Nat.add_sub_cancel_left,Nat.mul_one]at Gi;generalize (if c=p+2 then A else A.map (·.add (p+2)))=AA at hcut Gi;have Q2:=vO (P:=prog) w underlying22 underlying5 underlying9 AA n (c-(p+2)) _ hcut;go_enter func173,ntmps173;go_wp2_with fail;refine Hh.out.mono ?_;rintro e w' ⟨rfl,rfl⟩;go_wp2_with fail;refine(kn _ _ _ hm).mono ?_;rintro e w' ⟨rfl,rfl⟩;go_wp2
    go_ret3
    exact⟨rfl,rfl⟩
theorem Vv(bs:LB)(most:Int)(p:Nat)(hp:p<=bs.length):(jb bs most p).2.1<=bs.length:=by
 unfold jb;split
 ·exact hp
 ·split
  ·simp only;omega
  ·split
   ·simp only;omega
   ·simp only;omega
def zx(bs:LB)(most:Int)(s:Rs):LB×Rs:=
 if s.why≠0 then([],s)
 else if(jb bs most s.at_).2.2≠0 then([],⟨s.at_,(jb bs most s.at_).2.2⟩)
 else((jb bs most s.at_).1,⟨(jb bs most s.at_).2.1,0⟩)
theorem jDJ(w:World)(g:Nat)(bs:LB)(most:Int)(s:Rs)(h:Rr w g bs s)(hm:0<=most):
  Calls prog 135 #[.pointer (some ⟨g,0,none⟩),.int .i64 most] w fun e w' =>e=.returned (.string ⟨(zx bs most s).1.toArray⟩)/\Rr w' g bs (zx bs most s).2/\Kp (RX g) w w' :=by
 obtain⟨p,y⟩:=s;have hfit:=h.fits;have c1:=h.atc;have c2:=h.why;have z1:=h.zer 1;simp only at*;by_cases hy:y=0
 case neg=>
  rw[show zx bs most ⟨p,y⟩=([],⟨p,y⟩)by simp[zx,hy]];have MK:(y !=0)=true:=(by simpa using hy);go_enter func135,ntmps135;go_wp2;go_ret;exact⟨rfl,h,jQ0 _ _⟩
 subst hy;have Fu:=Vv bs most p hfit.1;have HB:=G (show zx bs most ⟨p,0⟩=if(jb bs most p).2.2≠0 then([],⟨p,(jb bs most p).2.2⟩)else((jb bs most p).1,⟨(jb bs most p).2.1,0⟩)by
  simp only[zx];rw[jJ5 (by simp)])
 generalize zx bs most ⟨p,0⟩=BN at HB⊢;have Hh:=G (qM w g bs most p ⟨p,0⟩ h hm hfit.1);generalize jb bs most p=T at HB Hh Fu;obtain⟨l,to0,er⟩:=T;simp only at HB Hh Fu;by_cases he:er=0
 ·subst he;rw[jJ5 (by simp)]at HB;rw[HB.out];have Ra:=G (h.setAt to0 Fu);go_enter func135,ntmps135;go_wp2_with fail;refine Hh.out.mono ?_;rintro e w' ⟨rfl,rfl⟩;go_wp2;go_ret;exact⟨rfl,Ra.out,(jQ0 (RX g) w).setCell (p:=⟨g,1,none⟩) (fun _=>rfl) _⟩
 ·rw[jJ6 he]at HB;rw[HB.out];have he' :(er !=0)=true:=(by simpa using he);go_enter func135,ntmps135;go_wp2_with fail;refine Hh.out.mono ?_;rintro e w' ⟨rfl,rfl⟩;go_wp2_with fail;refine(jx w g bs ⟨p,0⟩ er h rfl).mono ?_;rintro e w1 ⟨rfl,Fd,Fc⟩;go_wp2;go_ret;exact⟨rfl,Fd,Fc⟩
def zo(acc:List BA)(T:LB×Nat×Int):Int:=
 if T.2.2=0/\acc≠ []/\blt (acc.getD (acc.length-1) ByteArray.empty) ⟨T.1.toArray⟩=false then 8 else T.2.2
def jk(bs:LB)(each:Int):Nat->Nat->List BA->Int×List BA×Nat
 |0,p,acc=>(0,acc,p)
 |k+1,p,acc=>if zo acc (jb bs each p)≠0 then(zo acc (jb bs each p),[],0)else jk bs each k (jb bs each p).2.1 (acc++[⟨(jb bs each p).1.toArray⟩])
def kI(bs:LB)(most each:Int)(s:Rs):List BA×Rs:=
 if s.why≠0 then([],s)
 else if bs.length<s.at_ +2 then([],⟨s.at_,8⟩)
 else if min most 65535<(jq ((bs.drop s.at_).take 2):Int)then([],⟨s.at_,7⟩)
 else if(jk bs each (jq ((bs.drop s.at_).take 2)) (s.at_ +2) []).1≠0 then([],⟨s.at_,(jk bs each (jq ((bs.drop s.at_).take 2)) (s.at_ +2) []).1⟩)
 else((jk bs each (jq ((bs.drop s.at_).take 2)) (s.at_ +2) []).2.1,⟨(jk bs each (jq ((bs.drop s.at_).take 2)) (s.at_ +2) []).2.2,0⟩)
def TookT(w:World)(g:Nat)(bs:LB)(l:List BA)(s:Rs)(e:Ending)(w' :World):Prop:=
 ∃A c,e=.returned (.slice A l.length c)/\Rd w' 1 A l.length (l.map sv)/\Av (fun k=>k<w.heap.size) l.length A/\l.length<=c/\Rr w' g bs s/\Kp (RX g) w w'
theorem TookT.none_{w w' :World}{g:Nat}{bs:LB}{s:Rs}(h:Rr w' g bs s)(hk:Kp (RX g) w w'):TookT w g bs [] s (.returned (.slice none 0 0)) w' :=
 ⟨none,0,rfl,Rd.none_,fun h=>absurd h (by simp),jL3 _,h,hk⟩
theorem zy{w:World}{base:Nat}{e:TypeId}{size:Nat}{A:OA}{n c:Nat}{xs:List Value}(h:w.ownsRow base e size (.slice A n c) n xs):n<=c:=by
 rcases h.2 with⟨e,h0⟩|⟨g,cap,cur,e,_,_,TB,_⟩
 ·omega
 ·injection e with e1 e2 e3;omega
theorem vd{w:World}{base:Nat}{e:TypeId}{size:Nat}{A:OA}{n c:Nat}{xs:List Value}(h:w.ownsRow base e size (.slice A n c) n xs):Av (fun k=>k<base) n A:=by
 intro _ ad ea hM;have:=h.lt ad.block (by rw[jE,ea];rfl);omega
theorem qG(bs:LB)(each:Int)(k p:Nat)(acc:List BA){l:LB}{to0:Nat}{er:Int}(h:jb bs each p=(l,to0,er))(he:er≠0):jk bs each (k+1) p acc=(er,[],0):=by
 have e:zo acc (jb bs each p)=er:=(by rw[h,zo,jJ5 (fun hh=>he hh.1)]);rw[jk,e,jJ6 he]
theorem Vt(bs:LB)(each:Int)(k p:Nat)(acc:List BA){l:LB}{to0:Nat}(h:jb bs each p=(l,to0,0))(ha:acc≠ [])(hb:blt (acc.getD (acc.length-1) ByteArray.empty) ⟨l.toArray⟩=false):jk bs each (k+1) p acc=(8,[],0):=by
 have e:zo acc (jb bs each p)=8:=(by rw[h,zo,jJ6 ⟨rfl,ha,hb⟩]);rw[jk,e,jJ6 (by decide)]
theorem JG(bs:LB)(each:Int)(k p:Nat)(acc:List BA){l:LB}{to0:Nat}(h:jb bs each p=(l,to0,0))(hb:acc=[]\/blt (acc.getD (acc.length-1) ByteArray.empty) ⟨l.toArray⟩=true):jk bs each (k+1) p acc=jk bs each k to0 (acc++[⟨l.toArray⟩]):=by
 have e:zo acc (jb bs each p)=0:=by
  rw[h,zo,jJ5];rintro ⟨_,h1,h2⟩;rcases hb with hb|hb
  ·exact h1 hb
  ·rw[hb]at h2;cases h2
 rw[jk,e,jJ5 (by simp),h]
theorem VU(acc:List BA)(x:BA):acc.map sv++[.string x]=(acc++[x]).map sv:=by simp[sv]
theorem Zl:(prog.info? 9).map (fun i=>(i.zero,i.size,i.bytes))=some (some (.string ByteArray.empty),1,16):=by kernel_rfl
theorem jBH(w:World)(g:Nat)(bs:LB)(most each:Int)(s:Rs)(h:Rr w g bs s)(hm:0<=most)(he:0<=each):
  Calls prog 136 #[.pointer (some ⟨g,0,none⟩),.int .i64 most,.int .i64 each] w (TookT w g bs (kI bs most each s).1 (kI bs most each s).2):=by
 obtain⟨p,y⟩:=s;have hfit:=h.fits;have c1:=h.atc;have c2:=h.why;have z1:=h.zer 1;have hM:=h.lt;simp only at*;by_cases hy:y=0
 case neg=>
  rw[show kI bs most each ⟨p,y⟩=([],⟨p,y⟩)by simp[kI,hy]];have MK:(y !=0)=true:=(by simpa using hy);go_enter func136,ntmps136;go_wp2;go_ret;exact TookT.none_ h (jQ0 _ _)
 subst hy;by_cases h2:bs.length<p+2
 ·rw[show kI bs most each ⟨p,0⟩=([],⟨p,8⟩)by simp only[kI];rw[jJ5 (by simp),jJ6 h2]];go_enter func136,ntmps136;go_wp2_with fail;refine(ZG w g bs ⟨p,0⟩ p h hfit.1 h2).mono ?_;rintro e w' ⟨rfl,rfl⟩;go_wp2_with fail;refine(jx w g bs ⟨p,0⟩ 8 h rfl).mono ?_;rintro e w1 ⟨rfl,Fd,Fc⟩;go_wp2;go_ret;exact TookT.none_ Fd Fc
 have hN:=jm (bs.drop p) 2;have HB:=G (show kI bs most each ⟨p,0⟩=if min most 65535<(jq ((bs.drop p).take 2):Int)then([],⟨p,7⟩)else if(jk bs each (jq ((bs.drop p).take 2)) (p+2) []).1≠0 then([],⟨p,(jk bs each (jq ((bs.drop p).take 2)) (p+2) []).1⟩)else((jk bs each (jq ((bs.drop p).take 2)) (p+2) []).2.1,⟨(jk bs each (jq ((bs.drop p).take 2)) (p+2) []).2.2,0⟩)by
  simp only[kI];rw[jJ5 (by simp),jJ5 h2])
 generalize kI bs most each ⟨p,0⟩=BN at HB⊢;have Hh:=G (Vi w g bs ⟨p,0⟩ p h (by omega));generalize jq ((bs.drop p).take 2)=n at HB hN Hh;have BI:(n:Int)<=65535:=(by omega);by_cases hmost:min most 65535<(n:Int)
 ·rw[jJ6 hmost]at HB;rw[HB.out];go_enter func136,ntmps136;go_wp2_with fail;refine Hh.out.mono ?_;rintro e w' ⟨rfl,rfl⟩;go_wp2_with fail;refine(kn _ _ _ hm).mono ?_;rintro e w' ⟨rfl,rfl⟩;go_wp2_with fail;refine(jx w g bs ⟨p,0⟩ 7 h rfl).mono ?_;rintro e w1 ⟨rfl,Fd,Fc⟩;go_wp2;go_ret;exact TookT.none_ Fd Fc
 rw[jJ5 hmost]at HB;have H2:=G h2;obtain⟨i0,hi,Fz,Ft,FC⟩:=info_parts Zl;go_enter func136,ntmps136;go_wp2_with fail;refine Hh.out.mono ?_;rintro e w' ⟨rfl,rfl⟩;go_wp2_with fail;refine(kn _ _ _ hm).mono ?_;rintro e w' ⟨rfl,rfl⟩;go_wp2_with fail;clear h2;go_loopw [42,10,8] (fun i l q wr=>∃(k:Nat) (acc:List BA) (A:OA) (c t:Nat),k<=n/\i=.int .i64 k/\acc.length=k/\l=.slice A k c/\wr.ownsRow w.heap.size 9 1 (.slice A k c) k (acc.map sv)/\q=.int .i64 t/\t<=bs.length/\jk bs each n (p+2) []=jk bs each (n-k) t acc/\Old w wr) (fun i _ _ _=>n-(intOf i).toNat)
 case atStart=>exact⟨0,[],none,0,p+2,by omega,rfl,rfl,rfl,World.ownsRow_nil _ _ _ _,by go_num,by have:=H2.out;omega,rfl,jQ0 _ _⟩
 case round=>
  obtain⟨k,acc,A,c,t,hk,rfl,G1,rfl,Hi,rfl,ht,FM,ho⟩:=hrel;have hR:=h.old ho;have HR:=G hR;have RW:=Vv bs each t ht;have V3:=G (qM wr g bs each t ⟨p,0⟩ hR he ht);have Fa:=Rd.of_own Hi;have Fs:=G FM;have Ho:=G ho;clear FM hR;by_cases Wv:k<n
  ·obtain⟨m,hm⟩:∃m,n-k=m+1:=⟨n-k-1,by omega⟩;rw[hm]at Fs;generalize hT:jb bs each t=T at V3 RW;obtain⟨l,to0,er⟩:=T;simp only at V3 RW;by_cases FZ:er=0
   case neg=>
    rw[qG bs each m t acc hT FZ]at Fs;have hB:=HB.out;rw[Fs.out,jJ6 FZ]at hB;have Pj:=G hB;have P4:(er !=0)=true:=(by simpa using FZ);have her2:(er==0)=false:=beq_eq_false_iff_ne.2 FZ;clear hB hT hm FZ;go_wp2_with fail;refine V3.out.mono ?_;rintro e w' ⟨rfl,rfl⟩;go_wp2_with fail;refine(jx _ g bs ⟨p,0⟩ er HR.out rfl).mono ?_;rintro e w1 ⟨rfl,Fd,Fc⟩;have WH:=G Fd;have V2:=G ((Ho.out.mono (Y:=RX g) (fun _ _ f=>f.elim)).trans Fc (fun _ _ h=>h));clear Fd Fc;go_wp2;go_ret;rw[Pj.out];exact TookT.none_ WH.out V2.out
   subst FZ;have Hm:=G hm;have HT:=G hT;clear hm hT;have FU:=G (show k+1<=maxLen by unfold maxLen;omega);have FV:=G (show(k+1)*16<=140737488355328 by omega);have hkk:(k:Int)<=65535:=(by omega);rcases Nat.eq_zero_or_pos k with h0|NE
   ·subst h0;have NU:acc=[]:=List.eq_nil_of_length_eq_zero G1;subst NU;have Su:=G (JG bs each m t [] HT.out (.inl rfl));simp only[List.length_nil,List.map_nil]at*;go_wp2_with fail;refine V3.out.mono ?_;rintro e w' ⟨rfl,rfl⟩;go_wp2_with (at_builtin;refine jJ _ rfl (.tmp 74) (.tmp 76) 27 rfl w.heap.size 9 i0 (.string ByteArray.empty) 1 16 underlying27 hi Fz Ft FC rfl (by decide) (.slice A 0 c) 0 [] rfl (Hi.alloc _) _ 1 1 _ rfl (Rd.one_new _ _ _) (ky _ rfl) FU.out FV.out (jL4 Ho.out.size (by simp)) ?_;intro A' c' w2 Ga hgrow Fo);have GJ:=G Ga;have FH:=G (((Ho.out.alloc _).grown hgrow (fun k e=>by
     rcases Hi.2 with⟨e',_⟩|⟨g',_,_,e',N0,_⟩
     ·rw[e']at e;simp[Value.ownBlock]at e
     ·rw[e']at e;simp[Value.ownBlock]at e;omega)))
    clear Ga hgrow Fo Hi Fa;go_wp2;go_roundw
    case rel=>
     refine⟨1,[⟨l.toArray⟩],A',c',to0,by omega,rfl,rfl,rfl,?_,rfl,RW,?_,FH.out⟩
     ·simpa [sv]using GJ.out
     ·rw[Fs.out,Su.out,show n-1=m by have:=Hm.out;omega];rfl
    case measure=>simp[intOf];omega
   ·obtain⟨b,o,N7,GI⟩:=Fa.text (k:=k-1) (by omega);subst N7;have Ff:acc≠ []:=by rintro rfl;simp at G1;omega
    have NV:acc.getD (acc.length-1) ByteArray.empty=acc.getD (k-1) ByteArray.empty:=(by rw[G1]);generalize hz:acc.getD (k-1) ByteArray.empty=z at GI NV;have b1:(0:Int)<=(k:Int)-1:=(by omega);have b2:(k:Int)-1<(k:Int):=(by omega);have b3:((k:Int)-1).toNat=k-1:=(by omega);have b4:(0:Int)<(k:Int):=(by omega);cases hlx:Op.bytesLess z.toList l
    ·have Hf:=G (Vt bs each m t acc HT.out Ff (by rw[NV];simpa [blt]using hlx));have hB:=HB.out;rw[Fs.out,Hf.out,jJ6 (by decide)]at hB;have Pj:=G hB;clear hB NV hz G1 Ff;go_wp2_with fail;refine V3.out.mono ?_;rintro e w' ⟨rfl,rfl⟩;go_wp2_with fail;refine(jx _ g bs ⟨p,0⟩ 8 HR.out rfl).mono ?_;rintro e w1 ⟨rfl,Fd,Fc⟩;have WH:=G Fd;have V2:=G ((Ho.out.mono (Y:=RX g) (fun _ _ f=>f.elim)).trans Fc (fun _ _ h=>h));clear Fd Fc;go_wp2;go_ret;rw[Pj.out];exact TookT.none_ WH.out V2.out
    ·have Su:=G (JG bs each m t acc HT.out (.inr (by rw[NV];simpa [blt]using hlx)));have FY:=G G1;clear NV hz G1 Ff;go_wp2_with fail;refine V3.out.mono ?_;rintro e w' ⟨rfl,rfl⟩;go_wp2_with (at_builtin;refine jJ _ rfl (.tmp 74) (.tmp 76) 27 rfl w.heap.size 9 i0 (.string ByteArray.empty) 1 16 underlying27 hi Fz Ft FC rfl (by decide) (.slice (some ⟨b,o,none⟩) k c) k (acc.map sv) rfl (Hi.alloc _) _ 1 1 _ rfl (Rd.one_new _ _ _) (ky _ rfl) FU.out FV.out (jL4 Ho.out.size (by simp)) ?_;intro A' c' w2 Ga hgrow Fo);have GJ:=G Ga;have FH:=G (((Ho.out.alloc _).grown hgrow (fun k e=>by
      have:=Hi.lt k e;omega)))
     clear Ga hgrow Fo Hi Fa;go_wp2;go_roundw
     case rel=>
      refine⟨k+1,acc++[⟨l.toArray⟩],A',c',to0,by omega,by go_num,by rw[jJ4,FY.out];rfl,rfl,?_,rfl,RW,?_,FH.out⟩
      ·rw[<-VU];exact GJ.out
      ·rw[Fs.out,Su.out,show n-(k+1)=m by have:=Hm.out;omega]
     case measure=>simp[intOf];omega
  ·obtain rfl:k=n:=(by omega);have hB:BN=(acc,⟨t,0⟩):=by
    have:=HB.out;rw[Fs.out,Nat.sub_self]at this;simpa [jk]using this
   have Pj:=G hB;have Ra:=G (HR.out.setAt t ht);have Gn:=G Hi;have FY:=G G1;have z1r:=HR.out.zer 1;have c1r:=HR.out.atc;simp only at c1r;clear hB Hi G1;go_wp2;go_ret;rw[Pj.out];have hZ:Kp (RX g) w (wr.setCell ⟨g,1,none⟩ (.int .i64 t)):=(Ho.out.mono (Y:=RX g) (fun _ _ f=>f.elim)).setCell (p:=⟨g,1,none⟩) (fun _=>rfl) _;refine⟨A,c,kL (by rw[FY.out];rfl),?_,?_,?_,Ra.out,hZ⟩
   ·rw[FY.out];refine(Rd.of_own Gn.out).kp ((jQ0 (RX g) wr).setCell (p:=⟨g,1,none⟩) (fun _=>rfl) _) ?_;intro hn ad ea hx;have:=vd Gn.out hn ad ea;have h2:ad.block=g:=hx;omega
   ·rw[FY.out];exact vd Gn.out
   ·rw[FY.out];exact zy Gn.out
theorem Qh(w:World)(m o:Int)(hm:0<=m)(ho:m<=o):Calls prog 198 #[.int .i64 m,.int .i64 o] w fun e w' =>e=.returned (.int .i64 m)/\w=w' :=by
 have h1:¬m<0:=(by omega);by_cases h2:m<o
 ·go_enter func198,ntmps198;go_wp2;go_ret;exact⟨rfl,rfl⟩
 ·obtain rfl:m=o:=(by omega);go_enter func198,ntmps198;go_wp2;go_ret;exact⟨rfl,rfl⟩
theorem Rd.byte{w:World}{A:OA}{n:Nat}{l:LB}(h:Rd w 1 A n (l.map bv)){k:Nat}(hk:k<n):∃b o,A=some ⟨b,o,none⟩/\w.cell? ⟨b,o+k,none⟩=some (.int .u8 ((l.getD k 0).toNat:Int)):=by
 obtain⟨b,o,u,rfl,hx,hc⟩:=h.at_ hk;refine⟨b,o,rfl,?_⟩;rw[hc];rw[jM1]at hx;obtain⟨b,hb,rfl⟩:=Option.map_eq_some_iff.1 hx;simp[bv,List.getD,hb]
theorem jDH(w:World)(A:OA)(c n k:Nat)(h:n<k):
  Calls prog 183 #[.slice A n c,.int .i64 (k:Int)] w fun e w' =>e=.returned (.tuple #[.int .u64 0,.int .i64 0,.int .i64 8])/\w=w' :=by
 have h1:(n:Int)<(k:Int):=(by omega);go_enter func183,ntmps183;go_wp2
 go_ret3
 exact⟨rfl,rfl⟩
theorem jDG(w:World)(A:OA)(c n k:Nat)(b:LB)(hr:Rd w 1 A n (b.map bv))(hn:n=b.length)(h:k<=n)(hk:k<=8):
  Calls prog 183 #[.slice A n c,.int .i64 (k:Int)] w fun e w' =>e=.returned (.tuple #[.int .u64 (jq (b.take k):Int),.int .i64 (k:Int),.int .i64 0])/\w=w' :=by
 have h1:¬(n:Int)<(k:Int):=(by omega);have Hn:=G hn;clear hn;go_enter func183,ntmps183;go_wp2;go_loop [7,8] (fun nn i=>∃j:Nat,j<=k/\i=.int .i64 j/\nn=.int .u64 (jq (b.take j):Int)) (fun _ i=>k-(intOf i).toNat)
 case atStart=>exact⟨0,by omega,rfl,rfl⟩
 case round=>
  obtain⟨j,hj,rfl,rfl⟩:=hrel;by_cases hM:j<k
  ·obtain⟨bb,o,rfl,hc⟩:=hr.byte (k:=j) (by omega);have hs:jq (b.take (j+1))=jq (b.take j)*256+(b.getD j 0).toNat:=by
    have:=ka b 0 j (by have:=Hn.out;omega);simpa using this
   have Gi:=jm b j;have PM:(256:Nat)^j<=256^7:=Nat.pow_le_pow_right (by decide) (by omega);have GP:=(b.getD j 0).toNat_lt;have Hs:=G hs;clear hs;generalize (b.getD j 0).toNat=y at*;generalize jq (b.take j)=x at*;have AW:x<72057594037927936:=(by omega);have e1:IntKind.u64.wrap ((x:Int)*256)=(x:Int)*256:=IntWalk.u64_in _ (by omega);have e2:IntKind.u64.wrap ((x:Int)*256+(y:Int))=(x:Int)*256+(y:Int):=IntWalk.u64_in _ (by omega);have e3:IntKind.u64.wrap (y:Int)=(y:Int):=IntWalk.u64_in _ (by omega);clear Gi PM;have b1:(j:Int)<(n:Int):=(by omega);have b2:(j:Int)<=8:=(by omega);go_wp2;go_round
   case rel=>exact⟨j+1,by omega,by go_num,by rw[Hs.out];simp⟩
   case measure=>simp[intOf];omega
  ·obtain rfl:j=k:=(by omega);go_wp2
   go_ret3
   exact⟨rfl,rfl⟩
def Ye(w:World)(T:LB×Nat×Int)(e:Ending)(w' :World):Prop:=
 ∃A c n,e=.returned (.tuple #[.slice A T.1.length c,.int .i64 n,.int .i64 T.2.2])/\(T.2.2=0->n=(T.2.1:Int))/\Rd w' 1 A T.1.length (T.1.map bv)/\Old w w'
theorem jHe(w:World)(A:OA)(c n k:Nat)(h:n<k)(hk:k<=100000000000):
  Calls prog 204 #[.slice A n c,.int .i64 (k:Int)] w fun e w' =>e=.returned (.tuple #[.slice none 0 0,.int .i64 0,.int .i64 8])/\w=w' :=by
 have h1:(n:Int)<(k:Int):=(by omega);have h2:¬(k:Int)<0:=(by omega);go_enter func204,ntmps204;go_wp2
 go_ret3
 exact⟨rfl,rfl⟩
theorem jHd(w:World)(A:OA)(c n k:Nat)(b:LB)(hr:Rd w 1 A n (b.map bv))(hn:n=b.length)(hc:n<=c)(h:k<=n)(hk:n<=100000000000):
  Calls prog 204 #[.slice A n c,.int .i64 (k:Int)] w (Ye w (b.take k,k,0)):=by
 subst hn;obtain⟨i0,hi,Fz,Ft,FC⟩:=info_parts kc;have h1:¬(b.length:Int)<(k:Int):=(by omega);have h2:¬(k:Int)<0:=(by omega);have Gi:=fun W=>jCO (P:=prog) kE kA A b.length c k .i64 (k:Int) rfl (by omega) W;have Fb:=hr.take_ (k:=k) h;rw[Nat.mul_one,<-List.map_take]at Fb;have Ot:(b.take k).length=k:=by rw[jK9];omega
 have Is:=G Ot;have FU:=G (show 0+k<=maxLen by unfold maxLen;omega);have FV:=G (show(0+k)*1<=140737488355328 by omega);clear Ot;unfold Ye;simp only[Is.out];generalize b.take k=l at*;go_enter func204,ntmps204;go_wp2_with (at_builtin;refine jJ _ rfl (.const (.slice none 0 0)) (.tmp 17) 22 rfl w.heap.size 5 i0 (.int .u8 0) 1 1 underlying22 hi Fz Ft FC rfl (by decide) (.slice none 0 0) 0 [] rfl (World.ownsRow_nil _ _ _ _) A k c (l.map bv) rfl Fb (jf _) FU.out FV.out (jL3 _) ?_;intro A' c' w1 Hi hgrow Fo)
 go_ret3
 rw[Nat.zero_add,List.nil_append]at Hi;exact⟨A',c',k,rfl,by simp,Rd.of_own Hi,(jQ0 NoX w).grown hgrow (fun k e=>by simp[Value.ownBlock]at e)⟩
theorem QJ(b:LB)(m:Int)(h:b.length<2):jb b m 0=([],0,8):=by simp[jb,h]
theorem jFR(b:LB)(m:Int)(h:¬b.length<2)(hm:m<=65535):jb b m 0=if m<(jq (b.take 2):Int)then([],2,6)else if b.length<2+jq (b.take 2)then([],2,8)else((b.drop 2).take (jq (b.take 2)),2+jq (b.take 2),0):=by
 have:min m 65535=m:=(by omega);simp[jb,h,this]
theorem jBI(w:World)(A:OA)(c n:Nat)(m:Int)(b:LB)(hr:Rd w 1 A n (b.map bv))(hn:n=b.length)(hc:n<=c)(hk:n<=100000000000)(hm:0<=m)(TC:m<=65535):
  Calls prog 197 #[.slice A n c,.int .i64 2,.int .i64 m] w (Ye w (jb b m 0)):=by
 subst hn;by_cases h2:b.length<2
 ·rw[QJ b m h2];have hY:=G (jDH w A c b.length 2 (by omega));go_enter func197,ntmps197;go_wp2_with fail;refine hY.out.mono ?_;rintro e w1 ⟨rfl,rfl⟩;go_wp2
  go_ret3
  exact⟨none,0,0,rfl,(fun h=>by cases h),Rd.none_,jQ0 _ _⟩
 ·rw[jFR b m h2 TC];have Fe:=G (jDG w A c b.length 2 b hr rfl (by omega) (by decide));have hx:jq (b.take 2)<65536:=jm b 2;have E9:=G (fun(k:Nat) (A' :OA) (c' :Nat) (Mi:Rd w 1 A' (b.length-2) ((b.drop 2).map bv)) (Ae:b.length-2<=c') (h:k<=b.length-2)=>jHd w A' c' (b.length-2) k (b.drop 2) Mi (by rw[jK8]) Ae h (by omega));have hcut:=hr.cut (k:=2) (cap:=c) (by omega) hc;rw[Nat.mul_one,<-List.map_drop]at hcut;have Gi:=fun W=>uv (P:=prog) kE kA A b.length c 2 .i64 2 rfl (by omega) W;rw[Nat.mul_one]at Gi;generalize (if c=2 then A else A.map (·.add 2))=AA at hcut Gi;generalize jq (b.take 2)=x at*;have em:IntKind.u64.wrap m=m:=IntWalk.u64_in _ (by omega);have ex:IntKind.i64.wrap (x:Int)=(x:Int):=jQ3 _ (by omega);have ex2:wrap64 (x:Int)=(x:Int):=by unfold wrap64;omega
  by_cases h6:m<(x:Int)
  ·rw[jJ6 h6];clear hcut Gi;go_enter func197,ntmps197;go_wp2_with fail;refine Fe.out.mono ?_;rintro e w1 ⟨rfl,rfl⟩;go_wp2
   go_ret3
   exact⟨none,0,0,rfl,(fun h=>by cases h),Rd.none_,jQ0 _ _⟩
  ·rw[jJ5 h6];by_cases h8:b.length<2+x
   ·rw[jJ6 h8];have hY:=G (fun(A' :OA) (c' :Nat)=>jHe w A' c' (b.length-2) x (by omega) (by omega));go_enter func197,ntmps197;go_wp2_with fail;refine Fe.out.mono ?_;rintro e w1 ⟨rfl,rfl⟩;go_wp2_with fail;refine(hY.out _ _).mono ?_;rintro e w1 ⟨rfl,rfl⟩;go_wp2
    go_ret3
    exact⟨none,0,_,rfl,(fun h=>by cases h),Rd.none_,jQ0 _ _⟩
   ·rw[jJ5 h8];have HR:=G (E9.out x AA (c-2) hcut (by omega) (by omega));clear E9 hcut;go_enter func197,ntmps197;go_wp2_with fail;refine Fe.out.mono ?_;rintro e w1 ⟨rfl,rfl⟩;go_wp2_with fail;refine HR.out.mono ?_;rintro e w1 ⟨A',c',n',rfl,_,Fa,ho⟩;have hx3:IntKind.i64.wrap (2+(x:Int))=2+(x:Int):=jQ3 _ (by omega);generalize (b.drop 2).take x=l at*;go_wp2
    go_ret3
    exact⟨A',c',2+(x:Int),rfl,(fun _=>by simp),Fa,ho⟩
theorem jDF(w:World)(A:OA)(c n:Nat)(m:Int)(b:LB)(hr:Rd w 1 A n (b.map bv))(hn:n=b.length)(hc:n<=c)(hk:n<=100000000000)(hm:0<=m)(TC:m<=65535):
  Calls prog 185 #[.slice A n c,.int .i64 m] w fun e w' =>∃k:Int,e=.returned (.tuple #[.string ⟨(jb b m 0).1.toArray⟩,.int .i64 k,.int .i64 (jb b m 0).2.2])/\((jb b m 0).2.2=0->k=((jb b m 0).2.1:Int))/\Old w w' :=by
 subst hn;have HS:=G (jBI w A c b.length m b hr rfl hc hk hm TC);have HL:=G (Qh w m 65535 hm TC);generalize jb b m 0=T at*;obtain⟨l,p,y⟩:=T;unfold Ye at HS;simp only at HS⊢;go_enter func185,ntmps185;go_wp2_with fail;refine HL.out.mono ?_;rintro e w1 ⟨rfl,rfl⟩;go_wp2_with fail;refine HS.out.mono ?_;rintro e w1 ⟨A',c',k,rfl,Na,Fa,ho⟩;have Q2:=vO (P:=prog) w1 underlying22 underlying5 underlying9 A' _ c' _ Fa;go_wp2
 go_ret3
 exact⟨k,rfl,Na,ho⟩
theorem qK(w:World)(A B:OA)(c d:Nat)(x y:LB)(hx:Rd w 1 A x.length (x.map bv))(hy:Rd w 1 B y.length (y.map bv))(Cp:x.length<=1000000000000):
  Calls prog 9 #[.slice A x.length c,.slice B y.length d] w fun e w' =>e=.returned (.bool (decide (x=y)))/\Old w w' :=by
 by_cases hl:x.length=y.length
 case neg=>
  have Ff:x≠y:=fun e=>hl (by rw[e]);have h1:((x.length:Int) !=(y.length:Int))=true:=bne_iff_ne.2 (by omega);rw[jK3 Ff];go_enter func9,ntmps9;go_wp2;go_ret;exact⟨rfl,jQ0 _ _⟩
 have h1:((x.length:Int) !=(y.length:Int))=false:=bne_eq_false_iff_eq.2 (by omega);have Q7:=G hl;rw[<-hl]at hy⊢;clear hl;go_enter func9,ntmps9;go_wp2;go_loopw [5] (fun i wr=>∃k:Nat,k<=x.length/\i=.int .i64 k/\x.take k=y.take k/\Old w wr) (fun i _=>x.length-(intOf i).toNat)
 case atStart=>exact⟨0,by omega,rfl,rfl,jQ0 _ _⟩
 case round=>
  obtain⟨k,hk,rfl,Gc,Fk⟩:=hrel;by_cases hM:k<x.length
  ·have PT:k<y.length:=by have:=Q7.out;omega
   obtain⟨b1,o1,u1,rfl,Lo,FS⟩:=(hx.old Fk).at_ hM;obtain⟨b2,o2,u2,rfl,Ln,Gz⟩:=(hy.old Fk).at_ hM;rw[jM1,jJ9 hM]at Lo;rw[jM1,jJ9 PT]at Ln;simp only[Option.map_some,Option.some.injEq,bv]at Lo Ln;subst Lo Ln;have SM:(x[k].toNat:Int)<=255:=by have:=x[k].toNat_lt;omega
   have Pm:(y[k].toNat:Int)<=255:=by have:=y[k].toNat_lt;omega
   have b5:(k:Int)<=1000000000000:=(by omega);have b6:(0:Int)<=(k:Int):=(by omega);have b7:(k:Int)<(x.length:Int):=(by omega);have b8:(k:Int).toNat=k:=(by omega);have Hp:=G Gc;have Ho:=G Fk;clear Gc Fk;by_cases he:x[k]=y[k]
   ·have hq:((x[k].toNat:Int) !=(y[k].toNat:Int))=false:=(by simp[he]);have Fl:=G (show x.take (k+1)=y.take (k+1)by rw[jK2 hM,jK2 PT,Hp.out,he]);clear he;generalize (x[k].toNat:Int)=xa at*;generalize (y[k].toNat:Int)=ya at*;go_wp2;go_quiet (fail);go_wp2;go_roundw
    case rel=>exact⟨k+1,by omega,by go_num,Fl.out,Ho.out.drewN _⟩
    case measure=>simp[intOf];omega
   ·have hq:((x[k].toNat:Int) !=(y[k].toNat:Int))=true:=by
     simp only[bne_iff_ne,ne_eq];intro h;exact he (UInt8.toNat_inj.1 (by omega))
    have Ff:x≠y:=fun e=>he (by subst e;rfl);clear he;generalize (x[k].toNat:Int)=xa at*;generalize (y[k].toNat:Int)=ya at*;go_wp2;go_quiet (fail);go_wp2;go_ret;exact⟨kL (kZ (jK3 Ff).symm),Ho.out.drewN _⟩
  ·obtain rfl:k=x.length:=(by omega);have he:x=y:=by
    rw[List.take_length,Q7.out,List.take_length]at Gc;exact Gc
   have Ho:=G Fk;clear Fk;go_wp2;go_ret;exact⟨kL (kZ (jK5 he).symm),Ho.out⟩
theorem jAA:(prog.info? 5).map (·.size)=some 1:=by kernel_rfl
theorem jCP{w:World}{ops:Array Oper}{rest:List Oper}{o:Oper}{a:Act}{Q:Exit->Act->World->Prop}(d s:Operand){g dl dc:Nat}{cs:List Value}(hb:Blk w g 5 cs.toArray)(FO:cs.length=dl)
  {A:OA} {n c:Nat} {l:LB} (hr:Rd w 1 A n (l.map bv)) (hn:l.length=n) (Fu:n<=dl)
  (WY:o.guard=none) (ho:o.op=.call {callee:=.builtin .copy,args:= #[d,s],argTypes:= #[22,22]}) (hd:a.eval d=.slice (some ⟨g,0,none⟩) dl dc) (hs:a.eval s=.slice A n c)
  (hK:wpList prog ops Q rest (a.put o.dst (.int .i64 n)) (w.setCells g 0 (l.map bv))):wpList prog ops Q (o::rest) a w:=by
 refine wpList_plain WY fun K hK' => ?_;have PO:(Builtin.copy_ #[22,22] o.type #[.slice (some ⟨g,0,none⟩) dl dc,.slice A n c]).run prog w=.ok (.int .i64 n) (w.setCells g 0 (l.map bv)):=by
  cases A with
  |none=>
   have h0:n=0:=by
    rcases Nat.eq_zero_or_pos n with h|h
    ·exact h
    ·obtain⟨b,o,h',_⟩:=hr.2 h;cases h'
   subst h0;have:l=[]:=List.eq_nil_of_length_eq_zero hn;subst this;exact run_copy_none (P:=prog) w 22 22 o.type 5 _ none dl dc 0 c underlying22 jAA (by simp)
  |some ad=>
   have WV:(l.map bv).length=n:=(by rw[jK7,hn]);have:=run_copy_cells (P:=prog) w 22 22 o.type 5 g 0 dl dc ad n c (l.map bv) underlying22 jAA (by rw[WV];exact(Nat.min_eq_left Fu).symm) (fun j v hv=>by
     have hj:j<n:=by rw[<-WV];exact(List.getElem?_eq_some_iff.1 hv).1
     obtain⟨b,o,h',hc⟩:=hr.2 (by omega);injection h' with h';subst h';rw[Addr.add_lit];exact hc j v hv)
    (fun j hj=>by
     rw[Nat.zero_add,hb.cell,jJ7,jJ9 (by omega)];rfl)
    (fun j hj=>hb.frozen _) (jf l)
   rw[WV]at this;exact this
 unfold Oper.wp execOp;simp only[ho,resolve,invoke,builtin,Sem.run_bind,Sem.run_pure,Result.andThen_ok,List.map_toArray,List.map_cons,List.map_nil,hd,hs,PO];exact hK' _ _ hK
def Zu(n:Nat):Array Value:=(List.replicate n (Value.int .u8 0)).toArray
def Jv(l:LB):LB:=l++List.replicate 80 165
theorem KD(l:LB):(Jv l).length=l.length+80:=by simp[Jv]
theorem QQ(l:LB)(k:Nat)(h1:l.length<=k)(h2:k<(Jv l).length):(Jv l)[k]=165:=by
 have h3:(Jv l)[k]? =some 165:=by
  rw[KD]at h2;unfold Jv;rw[List.getElem?_append_right h1,List.getElem?_replicate,jJ6 (by omega)]
 rw[jJ9 h2]at h3;injection h3
theorem jDU(w:World)(A:OA)(c:Nat)(l:LB)(hr:Rd w 1 A l.length (l.map bv))(hl:l.length<=10000000000):
  Calls prog 35 #[.slice A l.length c,.int .u8 165] w fun e w' =>∃g,e=.returned (.slice (some ⟨g,0,none⟩) (l.length+80) (l.length+80))/\w.heap.size<=g/\Blk w' g 5 ((Jv l).map bv).toArray/\Old w w' :=by
 have De:=Yw (l.length+80) (by omega);have Cv:∀W:World,(Instr.makeSlice 22 (.int .i64 ((l.length:Int)+80)) (.int .i64 ((l.length:Int)+80))).run prog W=.ok (.slice (some ⟨W.heap.size,0,none⟩) (l.length+80) (l.length+80)) (W.alloc (.cells (Zu (l.length+80)) 5)):=by
  intro W;have h:=De W;rw[show((l.length+80:Nat):Int)=(l.length:Int)+80 by simp]at h;exact h
 clear De;have e80:IntKind.i64.wrap ((l.length:Int)+80)=(l.length:Int)+80:=jQ3 _ (by omega);have Hl:=G hl;have Hr:=G (hr.alloc (.cells (Zu (l.length+80)) 5));have Hb:=G (show Blk (w.alloc (.cells (Zu (l.length+80)) 5)) w.heap.size 5 (List.replicate (l.length+80) (Value.int .u8 0)).toArray from jQ2 w 5 (Zu (l.length+80)));have Ex:=G (uC (Jv l) (.int .u8 0));have Hs:=G (show Blk ((w.alloc (.cells (Zu (l.length+80)) 5)).setCells w.heap.size 0 (l.map bv)) w.heap.size 5 (YR (Jv l) (l.length+80) l.length (.int .u8 0)).toArray by
  have h1:Blk (w.alloc (.cells (Zu (l.length+80)) 5)) w.heap.size 5 (([]:List Value)++(List.replicate l.length (Value.int .u8 0)++List.replicate 80 (Value.int .u8 0))).toArray:=by
   rw[List.nil_append,List.replicate_append_replicate];exact Hb.out
  have h2:=Blk.setCells h1 (l.map bv) (by simp);have h3:YR (Jv l) (l.length+80) l.length (.int .u8 0)=([]:List Value)++(l.map bv++List.replicate 80 (Value.int .u8 0)):=by
   simp[YR,Jv]
  rw[h3];exact h2)
 have Ho:=G (show Old w ((w.alloc (.cells (Zu (l.length+80)) 5)).setCells w.heap.size 0 (l.map bv))from((jQ0 NoX w).alloc _).trans (Kp.setCells _ _ _ _) (fun b hb e=>by omega));clear hr hl;have Hn:=G (KD l);go_enter func35,ntmps35;go_wp2_with (first|refine jCP (.tmp 11) (.tmp 12) (dl:=l.length+80) (dc:=l.length+80) (c:=c) Hb.out List.length_replicate Hr.out rfl (Nat.le_add_right _ _) rfl rfl rfl rfl ?_ |fail);generalize (w.alloc _).setCells _ _ _=W at*;go_loopw [6] (fun i wr=>∃k:Nat,l.length<=k/\k<=l.length+80/\i=.int .i64 k/\Blk wr w.heap.size 5 (YR (Jv l) (l.length+80) k (.int .u8 0)).toArray/\Old w wr) (fun i _=>l.length+80-(intOf i).toNat)
 case atStart=>exact⟨l.length,jL3 _,Nat.le_add_right _ _,rfl,Hs.out,Ho.out⟩
 case round=>
  obtain⟨k,Fc,hZ,rfl,hb,ho⟩:=hrel;have HB:=G hb;have HO:=G ho;clear hb ho;by_cases hM:k<l.length+80
  ·have hc:=HB.out.at_ k (v:=.int .u8 0) (by rw[jJ7];exact Qs _ _ k _ hM (by rw[Hn.out];omega));have hz:=HB.out.frozen k;have b1:(0:Int)<=(k:Int):=(by omega);have b2:(k:Int)<(l.length:Int)+80:=(by omega);have b3:(k:Int).toNat=k:=(by omega);have b4:(k:Int)<=10000000100:=by have:=Hl.out;omega
   go_wp2;go_roundw
   case rel=>
    refine⟨k+1,by omega,by omega,by go_num,?_,HO.out.setCell (p:=⟨w.heap.size,k,none⟩) (fun h=>absurd h (Nat.lt_irrefl _)) _⟩;have h1:=HB.out.set_ k (.int .u8 165);rw[jJ1]at h1;have h2:=Qr (Jv l) (l.length+80) k (.int .u8 0) hM (by rw[Hn.out];exact hM);rw[QQ l k Fc]at h2;rw[<-h2];exact h1
   case measure=>simp[intOf];omega
  ·obtain rfl:k=l.length+80:=(by omega);go_wp2;go_ret;refine⟨_,rfl,jL3 _,?_,HO.out⟩;have h2:=Ex.out;rw[Hn.out]at h2;rw[<-h2];exact HB.out
theorem jBu(w:World)(g:Nat)(B:OA)(d:Nat)(l:LB)(hb:Blk w g 5 ((Jv l).map bv).toArray)(hr:Rd w 1 B l.length (l.map bv))(hl:l.length<=10000000000):
  Calls prog 38 #[.slice (some ⟨g,0,none⟩) (l.length+80) (l.length+80),.slice B l.length d,.int .u8 165] w fun e w' =>e=.returned (.bool true)/\Old w w' :=by
 have OQ:=Rd.of_blk hb;have Gc:=OQ.take_ (k:=l.length) (by rw[jK7,KD];omega);rw[Nat.mul_one,<-List.map_take,show(Jv l).take l.length=l by simp[Jv]]at Gc;have HS:=G (qK w (some ⟨g,0,none⟩) B (l.length+80) d l l Gc hr (by omega));have Gi:=fun W=>jCO (P:=prog) kE kA (some ⟨g,0,none⟩) (l.length+80) (l.length+80) l.length .i64 (l.length:Int) rfl (by omega) W;have e80:IntKind.i64.wrap ((l.length:Int)+80)=(l.length:Int)+80:=jQ3 _ (by omega);have Hl:=G hl;have Hb:=G hb;clear hb hr hl OQ Gc;go_enter func38,ntmps38;go_wp2_with fail;refine HS.out.mono ?_;rintro e w1 ⟨rfl,F0⟩;have FE:=G F0;clear F0 HS Gi;go_wp2_with fail;go_loopw [7] (fun i wr=>∃k:Nat,l.length<=k/\k<=l.length+80/\i=.int .i64 k/\wr=w1) (fun i _=>l.length+80-(intOf i).toNat)
 case atStart=>exact⟨l.length,jL3 _,Nat.le_add_right _ _,rfl,rfl⟩
 case round=>
  obtain⟨k,Fc,hZ,rfl,rfl⟩:=hrel;by_cases hM:k<l.length+80
  ·have hc:wr.cell? ⟨g,k,none⟩=some (.int .u8 165):=by
    rw[(Hb.out.old FE.out).cell,jJ7,jM1,jJ9 (by rw[KD];exact hM),QQ l k Fc];rfl
   have b1:(0:Int)<=(k:Int):=(by omega);have b2:(k:Int)<(l.length:Int)+80:=(by omega);have b3:(k:Int).toNat=k:=(by omega);have b4:(k:Int)<=10000000100:=by have:=Hl.out;omega
   go_wp2;go_roundw
   case rel=>exact⟨k+1,by omega,by omega,by go_num,by trivial⟩
   case measure=>simp[intOf];omega
  ·obtain rfl:k=l.length+80:=(by omega);go_wp2;go_ret;exact⟨rfl,FE.out⟩
theorem Rd.arr_new(w:World)(t:TypeId)(l:List Value):Rd (w.alloc (.cells l.toArray t)) 1 (some ⟨w.heap.size,0,none⟩) l.length l:=by
 refine⟨by simp,fun _=>⟨_,_,rfl,fun j u hu=> ?_⟩⟩;have hb:=jQ2 w t l.toArray;rw[Nat.zero_add,hb.cell j];simpa using hu
theorem Av.new{w:World}{g n:Nat}{r:Option Nat}{bs:LB}(h:Wr w g r bs):Av (WX g r) n (some ⟨w.heap.size,0,none⟩):=by
 intro _ ad e;injection e with e;subst e;exact yx h (jL3 _)
theorem WStep.after{w1 w2 w3:World}{g:Nat}{r:Option Nat}{bs:LB}(ho:Old w1 w2)(h:WStep w2 g r w3 bs):WStep w1 g r w3 bs:=
 WStep.trans (ho.mono (Y:=WX g r) (fun _ _ f=>f.elim)) (.inl rfl) h
theorem WStep.old{w1 w2 w3:World}{g:Nat}{r:Option Nat}{bs:LB}(h:WStep w1 g r w2 bs)(ho:Old w2 w3):WStep w1 g r w3 bs:=by
 obtain⟨r',hW,hk,hf⟩:=h;exact⟨r',hW.old ho,hk.old ho,hf⟩
theorem TextPost.one{w w' :World}{g:Nat}{r:Option Nat}{bs:LB}{a:BA}{e:Ending}(h:TextPost w g r bs [a] e w'):
  (e=.returned (.bool true)/\a.size<=4194304/\WStep w g r w' (bs++lp 4 (sb a)))\/(e=.returned (.bool false)/\4194304<a.size/\WStep w g r w' bs):=by
 obtain⟨k,hk,he,h1,h2,HU⟩:=h;simp only[jK6,List.length_nil]at hk h2 he;have Na:k=0\/k=1:=(by omega);rcases Na with rfl|rfl
 ·exact .inr ⟨he,h2 (by omega),by simpa [YK]using HU⟩
 ·exact .inl ⟨he,h1 0 (by omega),by simpa [YK]using HU⟩
structure Req where
 op:Int
 do_:Opn
 name:BA
 number:Int
 size:Int
 from_:Int
 to_:Int
 first:Int
structure MReq.Ok(w:World)(m:MReq):Prop where
 do_:m.do_.Ok w NoX
 name:m.name.size<=2147483647
def jKM(q:Req):Option LB:=
 if q.op=1\/q.op=2 then opB q.do_
 else if q.op=3 then some (lp 4 (sb q.name))
 else if q.op=4 then some (be8 q.number)
 else if q.op=5\/q.op=6\/q.op=7\/q.op=12 then some []
 else if q.op=8 then some (be8 q.number++be8 q.size)
 else if q.op=9 then some (be8 q.from_ ++be8 q.to_)
 else if q.op=10 then some (lp 4 (sb q.name)++be8 q.size)
 else if q.op=11 then some (lp 4 (sb q.name)++(be8 q.size++be8 q.first))
 else none
theorem Av.own{w:World}{g n size:Nat}{A:OA}{xs:List Value}(hr:Rd w size A n xs)(hs:0<size)(hg:w.heap.size<=g):Av (WX g none) n A:=by
 intro hn ad e hx;have:=hr.lt hs hn e;rcases hx with hx|hx
 ·omega
 ·cases hx
def MaybeB(w:World)(b:Option LB)(e:Ending)(w' :World):Prop:=
 (∃l A c,b=some l/\l≠ []/\e=.returned (.slice A l.length c)/\BRow w' w.heap.size l A c/\Old w w')\/(b=none/\e=.returned (.slice none 0 0)/\Old w w')
theorem BRow.drew{w:World}{base:Nat}{l:LB}{A:OA}{c:Nat}(h:BRow w base l A c):BRow w.drew base l A c:=h.old (jQ0 _ _).drew
theorem MaybeB.some_{w w' :World}{base:Nat}{b:Option LB}{l l' :LB}{A:OA}{c:Nat}(hb:b=some l')(hl:l=l')(Ff:l' ≠ [])(h:BRow w' base l A c)(Gx:w.heap.size<=base)(ho:Old w w'):
  MaybeB w b (.returned (.slice A l.length c)) w' :=by
 subst hl;refine .inl ⟨l,A,c,hb,Ff,rfl,⟨⟨h.own.1,?_⟩,ho.size⟩,ho⟩;rcases h.own.2 with hn|⟨g,cap,cur,e,hg,rest⟩
 ·exact .inl hn
 ·exact .inr ⟨g,cap,cur,e,jL4 Gx hg,rest⟩
def jHQ(A:OA):Nat->Prop:=fun k=>A.map (·.block)=some k
structure Grew(w:World)(base:Nat)(A:OA)(w' :World)(out:LB)(A' :OA)(c' :Nat):Prop where
 row:BRow w' base out A' c'
 kp:Kp (jHQ A) w w'
 at_:A'.map (·.block)=A.map (·.block)\/∃k,A'.map (·.block)=some k/\w.heap.size<=k
theorem Grew.trans{w w1 w2:World}{base:Nat}{A A1 A2:OA}{l1 l2:LB}{c1 c2:Nat}(h:Grew w base A w1 l1 A1 c1)(h2:Grew w1 base A1 w2 l2 A2 c2):Grew w base A w2 l2 A2 c2:=by
 refine⟨h2.row,h.kp.trans h2.kp (fun b hb hx=> ?_),?_⟩
 ·rcases h.at_ with e|⟨k,e,Fu⟩
  ·exact e.symm.trans hx
  ·have:some k=some b:=e.symm.trans hx;injection this with this;omega
 ·rcases h2.at_ with e|⟨k,e,Fu⟩
  ·rcases h.at_ with e' |⟨k,e',Fu⟩
   ·exact .inl (e.trans e')
   ·exact .inr ⟨k,e.trans e',Fu⟩
  ·exact .inr ⟨k,e,jL4 h.kp.size Fu⟩
theorem Grew.old{w w1 w2:World}{base:Nat}{A A2:OA}{l2:LB}{c2:Nat}(h:Old w w1)(h2:Grew w1 base A w2 l2 A2 c2):Grew w base A w2 l2 A2 c2:=by
 refine⟨h2.row,(h.mono (Y:=jHQ A) (fun _ _ f=>f.elim)).trans h2.kp (fun _ _ hx=>hx),?_⟩;rcases h2.at_ with e|⟨k,e,Fu⟩
 ·exact .inl e
 ·exact .inr ⟨k,e,jL4 h.size Fu⟩
theorem Grew.from_{w w1:World}{base:Nat}{A A1:OA}{l l1:LB}{c c1:Nat}(h:Grew w base A w1 l1 A1 c1)(hb:BRow w base l A c):Kp (From base) w w1:=
 h.kp.mono (fun k _ hx=>(hb.own.lt k (by rw[jE];exact hx)).1)
section
variable{w:World}{ops:Array Oper}{rest:List Oper}{o:Oper}{a:Act}{Q:Exit->Act->World->Prop}
theorem ja(s x:Operand){base:Nat}{l:LB}{A:OA}{c:Nat}(h:BRow w base l A c){B:OA}{m:LB}{d:Nat}(hr:Rd w 1 B m.length (m.map bv))(hl:l.length+m.length<=10000000000000)
  (WY:o.guard=none) (ho:o.op=.call {callee:=.builtin .append,args:= #[s,x],argTypes:= #[22,22]}) (hs:a.eval s=.slice A l.length c) (hx:a.eval x=.slice B m.length d)
  (hK:∀(out:LB) A' c' w',Hid (out=l++m)->Grew w base A w' out A' c' ->wpList prog ops Q rest (a.put o.dst (.slice A' out.length c')) w'):wpList prog ops Q (o::rest) a w:=by
 obtain⟨i0,hi,Fz,Ft,FC⟩:=info_parts kc;refine jJ w WY s x 22 ho base 5 i0 (.int .u8 0) 1 1 underlying22 hi Fz Ft FC rfl (by decide) (.slice A l.length c) l.length (l.map bv) hs h.own B m.length d (m.map bv) hx hr (jf _) (by unfold maxLen;omega) (by omega) h.le ?_;intro A' c' w' Hi hg Fo;obtain⟨h1,_⟩:=h.grown rfl rfl Hi hg;rw[jE]at hg Fo;have:=hK _ A' c' w' (G rfl) ⟨h1,(jQ0 (jHQ A) w).grown hg (fun k e _=>e),by
  rcases Fo with e|e
  ·exact .inl e
  ·exact .inr ⟨_,e,jL3 _⟩⟩
 rwa [jJ4]at this
theorem uy(s x:Operand){base:Nat}{l:LB}{A:OA}{c:Nat}(h:BRow w base l A c){t:BA}(hl:l.length+t.size<=10000000000000)
  (WY:o.guard=none) (ho:o.op=.call {callee:=.builtin .append,args:= #[s,x],argTypes:= #[22,9]}) (hs:a.eval s=.slice A l.length c) (hx:a.eval x=.string t)
  (hK:∀(out:LB) A' c' w',Hid (out=l++sb t)->Grew w base A w' out A' c' ->wpList prog ops Q rest (a.put o.dst (.slice A' out.length c')) w'):wpList prog ops Q (o::rest) a w:=by
 obtain⟨i0,hi,Fz,Ft,FC⟩:=info_parts kc;refine yW w WY s x 22 9 ho base 5 i0 underlying22 underlying9 hi Fz Ft FC (.slice A l.length c) l.length (l.map bv) hs h.own t hx (by unfold maxLen;omega) (by omega) h.le ?_;intro A' c' w' Hi hg Fo;obtain⟨h1,_⟩:=h.grown (jH t) rfl Hi hg;rw[jE]at hg Fo;have:=hK _ A' c' w' (G rfl) ⟨h1,(jQ0 (jHQ A) w).grown hg (fun k e _=>e),by
  rcases Fo with e|e
  ·exact .inl e
  ·exact .inr ⟨_,e,jL3 _⟩⟩
 rwa [jJ4,jH]at this
theorem kv{K:Act->World->Prop}{Q:Exit->Act->World->Prop}{E:Prop}(s x:Operand){base:Nat}{l:LB}{A:OA}{c:Nat}(h:BRow w base l A c){B:OA}{m:LB}{d:Nat}(hr:Rd w 1 B m.length (m.map bv))(hl:l.length+m.length<=10000000000000)
  (WY:o.guard=none) (ho:o.op=.call {callee:=.builtin .append,args:= #[s,x],argTypes:= #[22,22]}) (hs:a.eval s=.slice A l.length c) (hx:a.eval x=.slice B m.length d)
  (hK:∀(out:LB) A' c' w',Hid (out=l++m)->Grew w base A w' out A' c' ->K (a.put o.dst (.slice A' out.length c')) w'):
  if Region.wanted o (yielded ops a.tmps)=true then Oper.wp prog o a w K Q else E:=by
 obtain⟨i0,hi,Fz,Ft,FC⟩:=info_parts kc;refine jg w WY s x 22 ho base 5 i0 (.int .u8 0) 1 1 underlying22 hi Fz Ft FC rfl (by decide) (.slice A l.length c) l.length (l.map bv) hs h.own B m.length d (m.map bv) hx hr (jf _) (by unfold maxLen;omega) (by omega) h.le ?_;intro A' c' w' Hi hg Fo;obtain⟨h1,_⟩:=h.grown rfl rfl Hi hg;rw[jE]at hg Fo;have:=hK _ A' c' w' (G rfl) ⟨h1,(jQ0 (jHQ A) w).grown hg (fun k e _=>e),by
  rcases Fo with e|e
  ·exact .inl e
  ·exact .inr ⟨_,e,jL3 _⟩⟩
 rwa [jJ4]at this
end
def jG8(w:World)(base:Nat)(A:OA)(l:LB)(e:Ending)(w' :World):Prop:=
 ∃out A' c',Hid (out=l)/\e=.returned (.slice A' out.length c')/\Grew w base A w' out A' c'
theorem Kh(w:World)(base:Nat)(l:LB)(A:OA)(c:Nat)(s:BA)(h:BRow w base l A c)(hl:l.length<=4000000000000)(hs:s.size<=2147483647):
  Calls prog 65 #[.slice A l.length c,.string s] w (jG8 w base A (l++lp 4 (sb s))):=by
 have HQ:=G (show(l++be 4 s.size)++sb s=l++lp 4 (sb s)by rw[lp,jH,jK1]);generalize l++lp 4 (sb s)=out at HQ⊢;go_enter func65,ntmps65;go_wp2_with fail;refine(jAc w _).mono ?_;rintro e w1 ⟨B,d,rfl,hr,_,ho⟩;rw[YI s.size (by omega)]at hr⊢;have h1:=h.old ho;go_wp2_with (first
  |(at_builtin;refine ja (.tmp 5) (.tmp 8) h1 hr (by rw[jC];omega) rfl rfl rfl rfl ?_;intro l2 A2 c2 w2 e2 h2)
  |(at_builtin;refine uy (.tmp 9) (.tmp 10) h2.row (by rw[e2.out,jJ4,jC];omega) rfl rfl rfl rfl ?_;intro l3 A3 c3 w3 e3 h3))
 go_ret;exact⟨l3,A3,c3,G (by rw[e3.out,e2.out,HQ.out]),rfl,(h2.trans h3).old ho⟩
theorem cal{w:World}{p:Addr}{v:Value}(h:w.cell? p=some v)(o:Obj):(w.alloc o).cell? p=some v:=by
 rw[World.cell?_of_block (Below.heap_alloc w o p.block (Jm h))];exact h
theorem Uz{w:World}{ops:Array Oper}{o:Oper}{a:Act}{K:Act->World->Prop}{Q:Exit->Act->World->Prop}{E:Prop}(s x:Operand){base:Nat}{l:LB}{A:OA}{c:Nat}(h:BRow w base l A c){v:Value}{b:UInt8}(hv:v=bv b)(hl:l.length+1<=10000000000000)
  (WY:o.guard=none) (ho:o.op=.call {callee:=.builtin .append,args:= #[s,x],argTypes:= #[22,22]}) (hs:a.eval s=.slice A l.length c) (hx:a.eval x=.slice (some ⟨w.heap.size,0,none⟩) 1 1)
  (hK:∀(out:LB) A' c' w',Hid (out=l++[b])->Grew (w.alloc (.cells #[v] 5)) base A w' out A' c' ->K (a.put o.dst (.slice A' out.length c')) w'):
  if Region.wanted o (yielded ops a.tmps)=true then Oper.wp prog o a (w.alloc (.cells #[v] 5)) K Q else E:=by
 subst hv;exact kv s x (h.alloc _) (m:=[b]) (d:=1) (Rd.one_new w 5 (bv b)) hl WY ho hs hx hK
end Go.Proofs.YtnaolhjbapgjgaaGreat

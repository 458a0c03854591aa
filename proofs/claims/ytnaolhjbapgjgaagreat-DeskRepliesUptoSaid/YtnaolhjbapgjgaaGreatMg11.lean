import Derived.Test.YtnaolhjbapgjgaaGreatMg10
set_option maxRecDepth 100000
set_option maxHeartbeats 6400000
namespace Go.Proofs.YtnaolhjbapgjgaaGreat
open Go.Proofs.Tryz
open Go.RowKit
theorem jHI:∀(k:Nat) (a b:LB) (ha:k<a.length) (hb:k<b.length),a.take k=b.take k->a[k]≠b[k]->Lib.compareBytes a b=if a[k]<b[k]then-1 else 1
 |0,x::a,y::b,_,_,_,Ff=>by
  simp only[List.getElem_cons_zero]at Ff⊢;rw[Lib.compareBytes];by_cases h:x<y
  ·rw[jJ6 h,jJ6 h]
  ·rw[jJ5 h,jJ5 h,jJ6];rcases UInt8.lt_or_lt_of_ne Ff with h' |h'
   ·exact absurd h' h
   ·exact h'
 |k+1,x::a,y::b,ha,hb,ht,Ff=>by
  simp only[List.take_succ_cons,List.cons.injEq]at ht;obtain⟨rfl,ht⟩:=ht;simp only[List.getElem_cons_succ]at Ff⊢;rw[Lib.compareBytes,jJ5 (UInt8.lt_irrefl x),jJ5 (UInt8.lt_irrefl x)];exact jHI k a b (by simpa using ha) (by simpa using hb) ht Ff
 |_,[],_,h,_,_,_=>by simp at h
 |_,_::_,[],_,h,_,_=>by simp at h
theorem QT(w:World)(a b:LB)(ha:a.length=32)(hb:b.length=32):Calls prog 167 #[.agg (jA a).toArray,.agg (jA b).toArray] w fun e w' =>e=.returned (.bool (decide (Lib.compareBytes a b<0)))/\Old w w' :=by
 have Ha:=G ((jQ2 w 40 (jA a).toArray).alloc (.cells (jA b).toArray 40));have Hb:=G (show Blk ((w.alloc (.cells (jA a).toArray 40)).alloc (.cells (jA b).toArray 40)) (w.heap.size+1) 40 (jA b).toArray by
  have h:=jQ2 (w.alloc (.cells (jA a).toArray 40)) 40 (jA b).toArray
  rwa [show(w.alloc (.cells (jA a).toArray 40)).heap.size=w.heap.size+1 by simp]at h)
 have Ho:=G (((jQ0 NoX w).alloc (.cells (jA a).toArray 40)).alloc (.cells (jA b).toArray 40));have Hla:=G ha;have Px:=G hb;have Me:=G (fun k (SQ:k<a.length) (TP:k<b.length)=>jHI k a b SQ TP);obtain⟨R,hR⟩:∃R,decide (Lib.compareBytes a b<0)=R:=⟨_,rfl⟩;have HR:=G hR;rw[hR];clear ha hb hR;go_enter func167,ntmps167;go_wp2_with fail;generalize (w.alloc _).alloc _=W at*;go_loopw [5] (fun i wr=>∃k:Nat,k<=32/\i=.int .i64 k/\a.take k=b.take k/\Old W wr) (fun i _=>32-(intOf i).toNat)
 case atStart=>exact⟨0,by omega,rfl,rfl,jQ0 _ _⟩
 case round=>
  obtain⟨k,hk,rfl,Gc,Fk⟩:=hrel;have Z9:=G Gc;have GR:=G Fk;clear Gc Fk;by_cases hM:k<32
  ·have SQ:k<a.length:=by have:=Hla.out;omega
   have TP:k<b.length:=by have:=Px.out;omega
   have c1:=(Ha.out.old GR.out).at_ k (v:=.int .u8 (a[k].toNat:Int)) (by simp[jA,SQ,bv]);have c2:=(Hb.out.old GR.out).at_ k (v:=.int .u8 (b[k].toNat:Int)) (by simp[jA,TP,bv]);have b1:(0:Int)<=(k:Int):=(by omega);have b2:(k:Int)<32:=(by omega);have b3:(k:Int).toNat=k:=(by omega);have Hn:=G (fun(he:a[k]=b[k])=>show a.take (k+1)=b.take (k+1)by
    rw[jK2 SQ,jK2 TP,Z9.out,he])
   have Hq:=G (fun(Ff:a[k]≠b[k])=>show R=decide (a[k].toNat<b[k].toNat)by
    rw[<-HR.out,Me.out k SQ TP Z9.out Ff];refine decide_eq_decide.2 ?_;have hi:a[k]<b[k]↔a[k].toNat<b[k].toNat:=UInt8.lt_iff_toNat_lt;by_cases h:a[k]<b[k]
    ·rw[jJ6 h];have:=hi.1 h;constructor<;>intro _ <;>omega
    ·rw[jJ5 h];have hn:¬a[k].toNat<b[k].toNat:=fun h' =>h (hi.2 h');constructor<;>intro h2<;>omega)
   have hx8:=a[k].toNat_lt;have hy8:=b[k].toNat_lt;have We:=G (show a[k]=b[k]↔a[k].toNat=b[k].toNat from⟨fun h=>by rw[h],fun h=>UInt8.toNat_inj.1 h⟩);generalize hxa:a[k].toNat=x at*;generalize AU:b[k].toNat=y at*;clear hxa AU;by_cases he:x=y
   ·have hq:((x:Int) !=(y:Int))=false:=(by simp[he]);have HN:=G (Hn.out (We.out.2 he));clear he;go_wp2_with fail;go_quiet (fail);go_wp2;go_roundw
    case rel=>exact⟨k+1,by omega,by go_num,HN.out,GR.out.drewN _⟩
    case measure=>simp[intOf];omega
   ·have hq:((x:Int) !=(y:Int))=true:=bne_iff_ne.2 (by omega);have HN:=G (Hq.out (fun h=>he (We.out.1 h)));clear he;go_wp2_with fail;go_quiet (fail);go_wp2_with fail;go_quiet (fail);go_wp2;go_ret;exact⟨by rw[HN.out];rfl,Ho.out.old ((GR.out.drewN _).drewN _)⟩
  ·obtain rfl:k=32:=(by omega);have Dy:a=b:=by
    have h:=Z9.out
    rwa [jK4 (by rw[Hla.out];omega),jK4 (by rw[Px.out];omega)]at h
   have HF:=G (show R=false by rw[<-HR.out,Dy,Zr];rfl);clear Dy;go_wp2;go_ret;exact⟨by rw[HF.out];rfl,Ho.out.old GR.out⟩
def kt(x:Sgn)(l:List Sgn):Nat:=(l.takeWhile fun y=>decide (Lib.compareBytes y.key x.key<0)).length
def jAf(x:Sgn)(l:List Sgn):List Sgn:=l.take (kt x l)++([x]++l.drop (kt x l))
def jAq(x:Sgn)(l:List Sgn):Bool:=match l[kt x l]? with|some y=>decide (y.key=x.key)|none=>false
def Kz:List Sgn->List Sgn->Option (List Sgn)
 |[],out=>some out
 |x::r,out=>if jAq x out=true then none else Kz r (jAf x out)
theorem jAg(x:Sgn)(l:List Sgn):kt x l<=l.length:=by
 unfold kt;have:=List.takeWhile_sublist (fun y:Sgn=>decide (Lib.compareBytes y.key x.key<0)) (l:=l);exact this.length_le
theorem xR(x:Sgn)(l:List Sgn):l.take (kt x l)=l.takeWhile fun y=>decide (Lib.compareBytes y.key x.key<0):=by
 unfold kt
 induction l with
 |nil=>rfl
 |cons a r ih=>
  rw[List.takeWhile_cons];by_cases h:decide (Lib.compareBytes a.key x.key<0)=true
  ·rw[jJ6 h,jK6,List.take_succ_cons,ih]
  ·rw[jJ5 h];rfl
theorem jAw{x:Sgn}{l:List Sgn}(h:kt x l<l.length):¬Lib.compareBytes l[kt x l].key x.key<0:=by
 induction l with
 |nil=>simp at h
 |cons a r ih=>
  by_cases hc:decide (Lib.compareBytes a.key x.key<0)=true
  ·have e:kt x (a::r)=kt x r+1:=by rw[kt,List.takeWhile_cons,jJ6 hc,jK6];rfl
   simp only[e,jK6,List.getElem_cons_succ]at h⊢;exact ih (by omega)
  ·have e:kt x (a::r)=0:=by rw[kt,List.takeWhile_cons,jJ5 hc];rfl
   simp only[e,List.getElem_cons_zero];simpa using hc
theorem jEN(x:Sgn)(l:List Sgn):(jAf x l).Perm (x::l):=by
 have h:(l.take (kt x l)++([x]++l.drop (kt x l))).Perm ([x]++(l.take (kt x l)++l.drop (kt x l))):=by
  rw[<-jK1,<-jK1];exact List.Perm.append_right _ List.perm_append_comm
 rw[List.take_append_drop]at h;exact h
theorem Xh{a b c:Sgn}(h1:KC a b)(h2:KC b c):KC a c:=JP _ _ _ h1 h2
theorem UM{x:Sgn}{l:List Sgn}(hs:l.Pairwise KC)(hd:jAq x l=false):(jAf x l).Pairwise KC:=by
 have PL:=hs;rw[<-List.take_append_drop (kt x l) l,List.pairwise_append]at PL;obtain⟨h1,h2,h3⟩:=PL;have TH:∀y∈l.take (kt x l),KC y x:=by
  intro y hy;rw[xR]at hy;have:=List.all_takeWhile (p:=fun y:Sgn=>decide (Lib.compareBytes y.key x.key<0)) (l:=l);rw[List.all_eq_true]at this;have h4:Lib.compareBytes y.key x.key<0:=of_decide_eq_true (this y hy);exact h4
 have Dm:∀z∈l.drop (kt x l),KC x z:=by
  by_cases hM:kt x l<l.length
  ·have hz:KC x l[kt x l]:=by
    have hn:=jAw hM;unfold jAq at hd;rw[jJ9 hM]at hd;have Ff:l[kt x l].key≠x.key:=of_decide_eq_false hd;have Mj:=Jl x.key l[kt x l].key;unfold KC;rcases Int.lt_trichotomy (Lib.compareBytes x.key l[kt x l].key) 0 with h|h|h
    ·exact h
    ·exact absurd (Ks _ _ h).symm Ff
    ·omega
   intro z Pk;rw[List.drop_eq_getElem_cons hM]at Pk h2;rcases List.mem_cons.1 Pk with e|e
   ·rw[e];exact hz
   ·exact Xh hz ((List.pairwise_cons.1 h2).1 z e)
  ·intro z Pk;rw[List.drop_of_length_le (by omega)]at Pk;cases Pk
 rw[jAf,List.pairwise_append];refine⟨h1,?_,?_⟩
 ·rw[List.singleton_append,List.pairwise_cons];exact⟨Dm,h2⟩
 ·intro a ha b hb;rw[List.singleton_append]at hb;rcases List.mem_cons.1 hb with e|e
  ·rw[e];exact TH a ha
  ·exact h3 a ha b e
theorem jH1{l:List Sgn}(h:l.Pairwise KC):(l.map (·.key)).Nodup:=by
 rw[List.Nodup,List.pairwise_map];refine h.imp (fun{a b} Dy e=> ?_);unfold KC at Dy;rw[e,Zr]at Dy;omega
theorem xg:∀(r out:List Sgn),out.Pairwise KC->
  match Kz r out with
  |some l=>l.Pairwise KC/\l.Perm (r++out)
  |none=>¬((r++out).map (·.key)).Nodup
 |[],out,h=>⟨h,List.Perm.refl _⟩
 |x::r,out,h=>by
  rw[Kz];by_cases hd:jAq x out=true
  ·rw[jJ6 hd];simp only;unfold jAq at hd;have hM:kt x out<out.length:=by
    rcases Nat.lt_or_ge (kt x out) out.length with h' |h'
    ·exact h'
    ·rw[List.getElem?_eq_none h']at hd;cases hd
   rw[jJ9 hM]at hd;have he:out[kt x out].key=x.key:=of_decide_eq_true hd;intro hn;rw[List.cons_append,List.map_cons,List.nodup_cons]at hn;apply hn.1;rw[List.mem_map];exact⟨out[kt x out],List.mem_append_right _ (jL6 hM),he⟩
  ·rw[jJ5 hd];have Po:jAq x out=false:=(by simpa using hd);have ih:=xg r (jAf x out) (UM h Po);have hp:(r++jAf x out).Perm ((x::r)++out):=by
    refine(List.Perm.append_left r (jEN x out)).trans ?_;rw[List.cons_append];exact List.perm_middle
   cases hr:Kz r (jAf x out)with
   |some l=>
    rw[hr]at ih;exact⟨ih.1,ih.2.trans hp⟩
   |none=>
    rw[hr]at ih;exact fun hn=>ih ((hp.map _).nodup_iff.2 hn)
theorem Yp(l:List Sgn):Kz l []=if vP ((zF l).map (·.key))=true then some (zF l)else none:=by
 have h:=xg l [] List.Pairwise.nil;rw[List.append_nil]at h;cases hr:Kz l []with
 |some o=>
  rw[hr]at h;obtain⟨h1,h2⟩:=h;have hs:∀i j (hi:i<o.length) (hj:j<o.length),i<j->0<=Lib.compareBytes o[j].key o[i].key:=by
   intro i j hi hj TS;have:=(List.pairwise_iff_getElem.1 h1) i j hi hj TS;have Mj:=Jl o[i].key o[j].key;unfold KC at this;omega
  have Cs:=QK h2 hs;have hk:=(KE o).2 h1;rw[jJ6 (Cs.1.symm.trans hk),Cs.2 hk]
 |none=>
  rw[hr]at h;rw[jJ5];intro hk;exact h (((zQ l).map _).nodup_iff.1 (jH1 ((KE _).1 hk)))
theorem xe(w:World)(s:BA)(hs:s.size<=9223372036854775807):Calls prog 122 #[.string s] w fun e w' =>e=.returned (.bool (kT s))/\w=w' :=by
 by_cases h1:s.size<=64
 ·have b1:¬(64:Int)<(s.size:Int):=(by omega);have Hc:=G (show kT s=(sb s).all um by rw[kT,jK5 h1];rfl);generalize kT s=R at*;clear hs;go_enter func122,ntmps122;go_wp2;go_loop [3] (fun i=>∃k:Nat,k<=s.size/\i=.int .i64 k/\((sb s).take k).all um=true) (fun i=>s.size-(intOf i).toNat)
  case atStart=>exact⟨0,Nat.zero_le _,rfl,rfl⟩
  case round=>
   obtain⟨k,hk,rfl,Fp⟩:=hrel;by_cases hM:k<s.size
   ·have Fv:=G (show((sb s).take (k+1)).all um=um s[k]by rw[ZJ s k hM,List.all_append,Fp];simp);have hY:=G (show um s[k]=false->R=false from fun h=>by
     rw[Hc.out,<-Bool.not_eq_true,List.all_eq_true];intro h';have:=h' s[k] (by
      have:s[k]=(sb s)[k]'(by rw[jH];exact hM):=rfl;rw[this];exact jL6 _)
     rw[h]at this;cases this)
    have Hy:=G (show um s[k]=decide (97<=s[k].toNat/\s[k].toNat<=122\/48<=s[k].toNat/\s[k].toNat<=57\/s[k].toNat=45)from rfl);have b2:(0:Int)<=(k:Int):=(by omega);have b3:(k:Int)<(s.size:Int):=(by omega);have b4:(k:Int).toNat=k:=(by omega);have WU:s[k].toNat<256:=s[k].toNat_lt;clear Fp;have M9:(s[k].toNat<45\/45<s[k].toNat/\s[k].toNat<48\/57<s[k].toNat/\s[k].toNat<97\/122<s[k].toNat)\/s[k].toNat=45\/48<=s[k].toNat/\s[k].toNat<=57\/97<=s[k].toNat/\s[k].toNat<=122:=(by omega);rcases M9 with hc|hc
    ·have Hn:=G (hY.out (by rw[Hy.out,jK3 (by omega)]));have f5:((s[k].toNat:Int) !=45)=true:=bne_iff_ne.2 (by omega);clear Hy hY Fv WU;rcases hc with hc|hc|hc|hc
     ·have f1:¬(97:Int)<=(s[k].toNat:Int):=(by omega);have f3:¬(48:Int)<=(s[k].toNat:Int):=(by omega);clear hc;go_wp2;go_ret;exact⟨by rw[Hn.out];rfl,rfl⟩
     ·have f1:¬(97:Int)<=(s[k].toNat:Int):=(by omega);have f3:¬(48:Int)<=(s[k].toNat:Int):=(by omega);clear hc;go_wp2;go_ret;exact⟨by rw[Hn.out];rfl,rfl⟩
     ·have f1:¬(97:Int)<=(s[k].toNat:Int):=(by omega);have f3:(48:Int)<=(s[k].toNat:Int):=(by omega);have f4:¬(s[k].toNat:Int)<=57:=(by omega);clear hc;go_wp2;go_ret;exact⟨by rw[Hn.out];rfl,rfl⟩
     ·have f1:(97:Int)<=(s[k].toNat:Int):=(by omega);have f2:¬(s[k].toNat:Int)<=122:=(by omega);have f3:(48:Int)<=(s[k].toNat:Int):=(by omega);have f4:¬(s[k].toNat:Int)<=57:=(by omega);clear hc;go_wp2;go_ret;exact⟨by rw[Hn.out];rfl,rfl⟩
    ·have Hg:=G (show((sb s).take (k+1)).all um=true by rw[Fv.out,Hy.out,jK5 (by omega)]);clear Hy hY Fv WU;rcases hc with hc|hc|hc
     ·have f1:¬(97:Int)<=(s[k].toNat:Int):=(by omega);have f3:¬(48:Int)<=(s[k].toNat:Int):=(by omega);have f5:((s[k].toNat:Int) !=45)=false:=by rw[show(s[k].toNat:Int)=45 by omega];rfl
      clear hc;go_wp2;go_round
      case rel=>exact⟨k+1,by omega,by go_num,Hg.out⟩
      case measure=>simp[intOf];omega
     ·have f1:¬(97:Int)<=(s[k].toNat:Int):=(by omega);have f3:(48:Int)<=(s[k].toNat:Int):=(by omega);have f4:(s[k].toNat:Int)<=57:=(by omega);clear hc;go_wp2;go_round
      case rel=>exact⟨k+1,by omega,by go_num,Hg.out⟩
      case measure=>simp[intOf];omega
     ·have f1:(97:Int)<=(s[k].toNat:Int):=(by omega);have f2:(s[k].toNat:Int)<=122:=(by omega);clear hc;go_wp2;go_round
      case rel=>exact⟨k+1,by omega,by go_num,Hg.out⟩
      case measure=>simp[intOf];omega
   ·obtain rfl:k=s.size:=(by omega);have FT:=G (show R=true by rw[Hc.out,<-Fp,jK4 (by rw[jH];omega)]);clear Fp;go_wp2;go_ret;exact⟨by rw[FT.out];rfl,rfl⟩
 ·have b1:(64:Int)<(s.size:Int):=(by omega);have hY:=G (show kT s=false by rw[kT,jK3 (by omega)];rfl);rw[hY.out];clear h1;go_enter func122,ntmps122;go_wp2;go_ret;exact⟨rfl,rfl⟩
theorem xD(c:Nat)(h:0<c)(BP:c<256):Lib.onesCount c=c% 2+Lib.onesCount (c/2):=by
 have:∀n:Fin 256,0<n.val->Lib.onesCount n.val=n.val% 2+Lib.onesCount (n.val/2):=(by decide+kernel);exact this ⟨c,BP⟩ h
theorem QR(w:World)(d:LB)(hd:d.length=32):Calls prog 123 #[.agg (jA d).toArray] w fun e w' =>e=.returned (.int .i64 (vM d))/\Old w w' :=by
 have Hb:=G (jQ2 w 40 (jA d).toArray);have Ho:=G ((jQ0 NoX w).alloc (.cells (jA d).toArray 40));have Hd:=G hd;clear hd;go_enter func123,ntmps123;go_wp2;generalize w.alloc _=W at*;go_loop [3,4] (fun n i=>∃k:Nat,k<=32/\i=.int .i64 k/\n=.int .i64 (vM (d.take k))) (fun _ i=>32-(intOf i).toNat)
 case atStart=>exact⟨0,by omega,rfl,rfl⟩
 case round=>
  obtain⟨k,hk,rfl,rfl⟩:=hrel;have Fu:=Jf (d.take k);rw[jK9,Hd.out]at Fu;by_cases hM:k<32
  ·have Hs:=G (xt d k (by rw[Hd.out];exact hM));have h8:=UF (d.getD k 0);have hb:=(d.getD k 0).toNat_lt;have ck:=Hb.out.at_ k (v:=bv (d.getD k 0)) (by rw[jJ7,jA,jM1,jJ9 (by rw[Hd.out];exact hM)];simp[List.getD,Hd.out,hM]);rw[bv]at ck;have Hoc:=G (show Lib.onesCount (d.getD k 0).toNat=Lib.onesCount (d.getD k 0).toNat from rfl);generalize (d.getD k 0).toNat=c0 at*;generalize vM (d.take k)=m at*;have hm:(m:Int)<=256:=(by omega);have b2:(k:Int)<32:=(by omega);have b0:(0:Int)<=(k:Int):=(by omega);have b4:(k:Int).toNat=k:=(by omega);have Nj:(c0:Int)<=255:=(by omega);have Hb8:=G hb;have H8:=G h8;have Nz:=G Fu;clear Fu h8 hb;go_wp2_with fail;go_loop [3,5] (fun n c=>∃(c' n' :Nat),c' <256/\c=.int .i64 c' /\n=.int .i64 n' /\n' +Lib.onesCount c' =m+Lib.onesCount c0) (fun _ c=>(intOf c).toNat)
   case atStart=>exact⟨c0,m,Hb8.out,rfl,rfl,rfl⟩
   case round=>
    obtain⟨c',n',hc,rfl,rfl,Lp⟩:=hrel;have Wu:(n' :Int)<=300:=by have:=Nz.out;have:=H8.out;omega
    have Ae:(c' :Int)<=255:=(by omega);by_cases hz:0<c'
    ·have Pk:(0:Int)<(c' :Int):=(by omega);have Fq:=G (xD c' hz hc);have Z1:=G Lp;clear Lp;go_wp2;go_round
     case rel=>exact⟨c' /2,n' +c' % 2,by omega,by go_num,by go_num,by rw[<-Z1.out,Fq.out];omega⟩
     case measure=>simp[intOf];omega
    ·obtain rfl:c' =0:=(by omega);have Z1:=G (show n' =m+Lib.onesCount c0 by rw[<-Lp];rfl);clear Lp;go_wp2;go_round
     case rel=>exact⟨k+1,by omega,by go_num,by rw[Hs.out,Z1.out]⟩
     case measure=>simp[intOf];omega
  ·obtain rfl:k=32:=(by omega);have Hf:=G (show d.take 32=d from jK4 (by rw[Hd.out];omega));go_wp2;go_ret;exact⟨by rw[Hf.out];rfl,Ho.out⟩
structure IxS(w' :World)(B:Nat)(cs:BA)(found:Bool)(cnt:Int)(en bm:List Value)(A:OA)(n c:Nat):Prop where
 c0:w'.cell? ⟨B,0,none⟩=some (.string cs)
 c1:w'.cell? ⟨B,1,none⟩=some (.bool found)
 c2:w'.cell? ⟨B,2,none⟩=some (.int .i64 cnt)
 c67:w'.cell? ⟨B,67,none⟩=some (.slice A n c)
 en:w'.rangeAt B 2 en
 bm:w'.rangeAt B 35 bm
 z:w'.rangeAt (B+1) 0 (.int .i64 0::zero32)
theorem IxS.of{W:World}{B:Nat}{x:Idx}{A:OA}{c:Nat}(Hu:x.Ok)(hb:Blk W B 57 (x.cells A c).toArray)(hz:Blk W (B+1) 55 (.int .i64 0::zero32).toArray):
  IxS W B x.case_ x.found x.count (.int .i64 x.count::jA x.chain) (jA x.bitmap) A x.way.length c:=by
 have hc:∀(i:Nat) (v:Value),(x.cells A c)[i]? =some v->W.cell? ⟨B,i,none⟩=some v:=fun i v e=>hb.at_ i (by rw[jJ7];exact e);exact⟨hc 0 _ rfl,hc 1 _ rfl,hc 2 _ rfl,hc 67 _ Hu.s67,(x.s2 A c).range hb,Hu.s35.range hb,hz.range⟩
theorem jl{P:Program}{op:Oper}{a:Act}{w:World}(ty:TypeId)(x:Operand)(ho:op.op=.load ty x)
  (b o:Nat) (hx:a.eval x=.pointer (some ⟨b,o,none⟩)) (cs:List Value) (d:TypeDesc) (hc:w.rangeAt b o cs)
  (hu:P.underlying ty=some d) (hd:d.isRow=true) (hi:(P.info? ty).map (·.size)=some cs.length):(execOp a.eval op).run P w=.ok (.value (.agg cs.toArray)) w:=by
 unfold execOp;simp only[ho,hx,Instr.loadAt,Instr.sureAddr,Sem.run_bind,Sem.run_pure,Result.andThen_ok,run_loadVar_mid w b o ty cs d hc hu hd hi]
theorem Zq{op:Oper}{a:Act}{w:World}(t t' :TypeId)(x y:Operand)(ho:op.op=.binOp .neq t x y t')
  (xs ys:Array Value) (hx:a.eval x=.agg xs) (hy:a.eval y=.agg ys) (hg:prog.eqGuardType prog.depth t=false) (r:Bool) (hr:(Op.equalIn 10000 t (.agg xs) (.agg ys)).run prog w=.ok r w):
  (execOp a.eval op).run prog w=.ok (.value (.bool (!r))) w:=by
 unfold execOp;simp only[ho,hx,hy,Sem.run_bind,run_eqGuard_agg w .neq t x y xs ys hg,run_neq_struct,hr,Result.andThen_ok];rfl
def jHB:Array Value:= #[.int .i64 0,.int .u8 0,.int .u8 0,.int .u8 0,.int .u8 0,.int .u8 0,.int .u8 0,.int .u8 0,.int .u8 0,.int .u8 0,.int .u8 0,.int .u8 0,.int .u8 0,.int .u8 0,.int .u8 0,.int .u8 0,.int .u8 0,.int .u8 0,.int .u8 0,.int .u8 0,.int .u8 0,.int .u8 0,.int .u8 0,.int .u8 0,.int .u8 0,.int .u8 0,.int .u8 0,.int .u8 0,.int .u8 0,.int .u8 0,.int .u8 0,.int .u8 0,.int .u8 0]
def JB(x:Idx):LB:=[50,UInt8.ofNat x.case_.size]++sb x.case_
theorem jAM(w:World)(x:Idx)(A:OA)(c:Nat)(Hu:x.Ok)(Fa:Rd w 32 A x.way.length (x.way.flatMap jA)):Calls prog 71 #[.agg (x.cells A c).toArray] w (MaybeB w (qj x)):=by
 have Fe:=G Hu;have Fy:=G Fa;obtain⟨ML,hz,Mv⟩:=ZC 55 jHB (.int .i64 0::zero32) rfl (w.alloc (.cells (x.cells A c).toArray 57)) (w.heap.size+1) (by simp);have hb:=(jQ2 w 57 (x.cells A c).toArray).old Mv;have hU:=G ML;have HX:=G (fun W' ho=>IxS.of Hu (hb.old (w' :=W') ho) (hz.old ho));have HB:=G hb;have Ho:=G (((jQ0 NoX w).alloc (.cells (x.cells A c).toArray 57)).old Mv);have FD:=G (show(Value.int .i64 0::zero32).toArray.all (·.oneCell')=true from jR rfl);have Q9:=G (show(prog.info? 55).map (·.size)=some (Value.int .i64 0::zero32).toArray.size from JH);have HN:=G (fun W=>xe W x.case_ Hu.big.2);have HO:=G (fun W=>QR W x.bitmap Hu.bitmap);have CN:(prog.info? 40).map (·.size)=some (jA x.bitmap).length:=by rw[jB,Hu.bitmap];exact jO
 have CM:(prog.info? 55).map (·.size)=some (Value.int .i64 x.count::jA x.chain).length:=by rw[jK6,jB,Hu.chain];exact JH
 clear Hu Fa hb hz ML Mv;generalize x.cells A c=cl at*;unfold jHB at hU HX HB Ho;go_enter func71,ntmps71;go_upto_region 2 with(first|(with_reducible refine jM 55 ?_;refine jX rfl 55 rfl _ (Zx _) ?_)|((with_reducible refine jF 55 (.tmp 3) (.tmp 5) ?_);refine jQ1 rfl 55 (.tmp 3) (.tmp 5) rfl (w.heap.size+1) 0 (.int .i64 0::zero32).toArray rfl rfl hU.out Q9.out FD.out ?_)|fail);generalize ((w.alloc _).alloc _).setCells _ _ _=W at*;go_simp;go_cut [45] (fun v wx=>v=.bool (!Ji x)/\Old W wx)
 case first=>
  have HS:=G (HX.out W.drew (jQ0 NoX W).drew);have HI:=G (show Ji x=(ze x&&(kT x.case_ &&decide (vM x.bitmap=x.way.length)))from rfl);have HE:=G (show ze x=if x.found=true then decide (1<=x.count/\x.count<=1099511627776)else decide (x.count=0/\x.chain=zC)from rfl);have Hq:=G (fun W r (h:decide (x.count=0/\x.chain=zC)=r)=>ut W x.count Fe.out.count x.chain Fe.out.chain r h);refine je (S:=fun w' =>IxS w' w.heap.size x.case_ x.found x.count (.int .i64 x.count::jA x.chain) (jA x.bitmap) A x.way.length c) 40 rfl (by kernel_rfl) HS.out (fun H9=> ?_);generalize Ji x=R at*;generalize ze x=E0 at*;clear HS
  iterate 2 (first|(refine qI rfl rfl (by kernel_rfl) (fun _ _ _ h=>h) rfl H9 ?_;simp only[Act.put,jJ1,jJ2,jJ3])|(refine' tOn rfl rfl (by kernel_rfl) (fun _ _ _ h=>h) rfl H9 (fun w' hJ=> ?_) ?_;rotate_left;(have s0:=hJ.c0;have s1:=hJ.c1;have s2:=hJ.c2;have s3:=hJ.c67;clear hJ;go_simp<;>with_reducible rfl);simp only[Act.put,jJ1,jJ2,jJ3]))
  refine VP rfl (by kernel_rfl) (by decide) (fun K hK=> ?_);go_simp;go_at_call 122;refine(HN.out _).mono ?_;rintro e w1 ⟨rfl,rfl⟩;go_simp;refine hK.out _ _ H9 (fun H9=> ?_);clear hK K;cases SL:kT x.case_ with
  |false=>
   have Hv:=G (show R=false by rw[HI.out,SL];simp)
   iterate 37 (first|(refine qI rfl rfl (by kernel_rfl) (fun _ _ _ h=>h) rfl H9 ?_;simp only[Act.put,jJ1,jJ2,jJ3])|(refine' tOn rfl rfl (by kernel_rfl) (fun _ _ _ h=>h) rfl H9 (fun w' hJ=> ?_) ?_;rotate_left;(have s0:=hJ.c0;have s1:=hJ.c1;have s2:=hJ.c2;have s3:=hJ.c67;clear hJ;go_simp<;>with_reducible rfl);simp only[Act.put,jJ1,jJ2,jJ3]))
   refine wpAnyH_done (by kernel_rfl) ?_ _;go_wp2_with fail;go_meet
   case rel=>exact⟨by rw[Hv.out];rfl,(jQ0 NoX W).drew⟩
  |true=>
   rw[SL]at HI
   iterate 3 (first|(refine qI rfl rfl (by kernel_rfl) (fun _ _ _ h=>h) rfl H9 ?_;simp only[Act.put,jJ1,jJ2,jJ3])|(refine' tOn rfl rfl (by kernel_rfl) (fun _ _ _ h=>h) rfl H9 (fun w' hJ=> ?_) ?_;rotate_left;(have s0:=hJ.c0;have s1:=hJ.c1;have s2:=hJ.c2;have s3:=hJ.c67;clear hJ;go_simp<;>with_reducible rfl);simp only[Act.put,jJ1,jJ2,jJ3]))
   refine' tOn rfl rfl (by kernel_rfl) (fun _ _ _ h=>h) rfl H9 (fun w' hJ=>jl 40 (.tmp 11) rfl w.heap.size 35 rfl (jA x.bitmap) _ hJ.bm underlying40 rfl CN) ?_;simp only[Act.put,jJ1,jJ2,jJ3];refine' jP 8 rfl rfl (by kernel_rfl) (fun _ _ _ h=>h) rfl H9 (fun w' hJ=> ?_) ?_;rotate_left
   ·(have s3:=hJ.c67;clear hJ;go_simp<;>with_reducible rfl)
   simp only[Act.put,jJ1,jJ2,jJ3];refine' jP 9 rfl rfl (by kernel_rfl) (fun _ _ _ h=>h) rfl H9 (fun w' hJ=> ?_) ?_;rotate_left
   ·(have s3:=hJ.c67;clear hJ;go_simp<;>with_reducible rfl)
   simp only[Act.put,jJ1,jJ2,jJ3];refine' jP 10 rfl rfl (by kernel_rfl) (fun _ _ _ h=>h) rfl H9 (fun w' hJ=> ?_) ?_;rotate_left
   ·(have s3:=hJ.c67;clear hJ;go_simp<;>with_reducible rfl)
   simp only[Act.put,jJ1,jJ2,jJ3];refine jU 7 rfl (by kernel_rfl) (fun K hK=> ?_);go_simp;go_at_call 123;refine(HO.out _).mono ?_;rintro e w2 ⟨rfl,FL⟩;have FH:=G ((jQ0 NoX W).drew.old FL);clear FL;go_simp;refine hK.out _ _ (HX.out w2 FH.out) (fun H9=> ?_);clear hK K;refine jFS (ls' :=(Kw 11 40).toArray) (by kernel_rfl) ?_;by_cases hon:vM x.bitmap=x.way.length
   ·have hb:((vM x.bitmap:Int) !=(x.way.length:Int))=false:=by rw[hon];simp
    have HJ:=G (show R=E0 by rw[HI.out,jK5 hon];simp);clear HI;clear hon;generalize vM x.bitmap=on at*;cases hf:x.found with
    |false=>
     rw[hf]at HE H9
     iterate 8 (first|(refine qI rfl rfl (by kernel_rfl) (fun _ _ _ h=>h) rfl H9 ?_;simp only[Act.put,jJ1,jJ2,jJ3])|(refine' tOn rfl rfl (by kernel_rfl) (fun _ _ _ h=>h) rfl H9 (fun w' hJ=> ?_) ?_;rotate_left;(have s0:=hJ.c0;have s1:=hJ.c1;have s2:=hJ.c2;have s3:=hJ.c67;clear hJ;go_simp<;>with_reducible rfl);simp only[Act.put,jJ1,jJ2,jJ3]))
     refine' tOn rfl rfl (by kernel_rfl) (fun _ _ _ h=>h) rfl H9 (fun w' hJ=>jl 55 (.tmp 24) rfl w.heap.size 2 rfl (.int .i64 x.count::jA x.chain) _ hJ.en underlying55 rfl CM) ?_;simp only[Act.put,jJ1,jJ2,jJ3];refine' tOn rfl rfl (by kernel_rfl) (fun _ _ _ h=>h) rfl H9 (fun w' hJ=>jl 55 (.tmp 3) rfl (w.heap.size+1) 0 rfl (.int .i64 0::zero32) _ hJ.z underlying55 rfl JH) ?_;simp only[Act.put,jJ1,jJ2,jJ3];obtain⟨bz,Bw⟩:∃b,decide (x.count=0/\x.chain=zC)=b:=⟨_,rfl⟩;have Hv:=G (show R=bz by rw[HJ.out,HE.out,jJ5 (by simp),Bw]);cases bz
     all_goals
      refine' tOn rfl rfl (by kernel_rfl) (fun _ _ _ h=>h) rfl H9 (fun w' hJ=>Zq 55 55 (.tmp 25) (.tmp 26) rfl _ (.int .i64 0::zero32).toArray rfl rfl Kl _ (Hq.out _ _ Bw)) ?_;simp only[Act.put,jJ1,jJ2,jJ3];clear Bw
      iterate 18 (first|(refine qI rfl rfl (by kernel_rfl) (fun _ _ _ h=>h) rfl H9 ?_;simp only[Act.put,jJ1,jJ2,jJ3])|(refine' tOn rfl rfl (by kernel_rfl) (fun _ _ _ h=>h) rfl H9 (fun w' hJ=> ?_) ?_;rotate_left;(have s0:=hJ.c0;have s1:=hJ.c1;have s2:=hJ.c2;have s3:=hJ.c67;clear hJ;go_simp<;>with_reducible rfl);simp only[Act.put,jJ1,jJ2,jJ3]))
      refine wpAnyH_done (by kernel_rfl) ?_ _;go_wp2_with fail;go_meet
      case rel=>exact⟨by rw[Hv.out];rfl,FH.out⟩
    |true=>
     rw[hf]at HE H9;have hc:x.count<1\/(¬x.count<1/\1099511627776<x.count)\/(¬x.count<1/\¬1099511627776<x.count):=(by omega);rcases hc with h1|⟨h1,h2⟩|⟨h1,h2⟩
     case' inr.inr=>have Hv:=G (show R=true by rw[HJ.out,HE.out,jJ6 rfl,jK5 (by omega)])
     case' inl|inr.inl=>have Hv:=G (show R=false by rw[HJ.out,HE.out,jJ6 rfl,jK3 (by omega)])
     all_goals
      iterate 29 (first|(refine qI rfl rfl (by kernel_rfl) (fun _ _ _ h=>h) rfl H9 ?_;simp only[Act.put,jJ1,jJ2,jJ3])|(refine' tOn rfl rfl (by kernel_rfl) (fun _ _ _ h=>h) rfl H9 (fun w' hJ=> ?_) ?_;rotate_left;(have s0:=hJ.c0;have s1:=hJ.c1;have s2:=hJ.c2;have s3:=hJ.c67;clear hJ;go_simp<;>with_reducible rfl);simp only[Act.put,jJ1,jJ2,jJ3]))
      refine wpAnyH_done (by kernel_rfl) ?_ _;go_wp2_with fail;go_meet
      case rel=>exact⟨by rw[Hv.out];rfl,FH.out⟩
   ·have hb:((vM x.bitmap:Int) !=(x.way.length:Int))=true:=bne_iff_ne.2 (by omega);have Hv:=G (show R=false by rw[HI.out,jK3 hon];simp);clear hon
    iterate 29 (first|(refine qI rfl rfl (by kernel_rfl) (fun _ _ _ h=>h) rfl H9 ?_;simp only[Act.put,jJ1,jJ2,jJ3])|(refine' tOn rfl rfl (by kernel_rfl) (fun _ _ _ h=>h) rfl H9 (fun w' hJ=> ?_) ?_;rotate_left;(have s0:=hJ.c0;have s1:=hJ.c1;have s2:=hJ.c2;have s3:=hJ.c67;clear hJ;go_simp<;>with_reducible rfl);simp only[Act.put,jJ1,jJ2,jJ3]))
    refine wpAnyH_done (by kernel_rfl) ?_ _;go_wp2_with fail;go_meet
    case rel=>exact⟨by rw[Hv.out];rfl,FH.out⟩
 case rest=>
  obtain⟨rfl,EV⟩:=hcut;obtain⟨wd,Cq⟩:∃wd,wd=wc:=⟨_,rfl⟩;subst Cq;have Ce:=G (fun W' (ho:Old wd W')=>HX.out W' (EV.old ho));have Ho:=G (Ho.out.old EV);have Nq:=G (HB.out.old EV);have Fh:=G (show w.heap.size<wd.heap.size from Nq.out.lt);clear EV HX HB HN HO hU FD Q9 CN CM;cases hR:Ji x with
  |false=>
   have hY:=G (show qj x=none by rw[qj,jJ5 (by rw[hR];simp)]);go_wp2;go_ret;exact .inr ⟨hY.out,rfl,Ho.out⟩
  |true=>
   have FO:=qh hR;have Hy:=G (show qj x=some ((JB x++(if x.found=true then [1]++(be8 x.count++x.chain)else [0]))++(x.bitmap++x.way.flatten))by
    rw[qj,jJ6 hR,vJ,JB,lp,jH];cases x.found<;>simp[be])
   generalize qj x=R at*;have Ng:=G FO;have e8:IntKind.u8.wrap (x.case_.size:Int)=(x.case_.size:Int):=IntWalk.u8_in _ (by omega);have HR:=G (show BRow (wd.alloc (.cells #[.int .u8 50,.int .u8 (x.case_.size:Int)] 5)) wd.heap.size [50,UInt8.ofNat x.case_.size] (some ⟨wd.heap.size,0,none⟩) 2 by
    have h:=BRow.new wd [50,UInt8.ofNat x.case_.size] (by simp[maxLen]);have e:([50,UInt8.ofNat x.case_.size]:LB).map bv=[.int .u8 50,.int .u8 (x.case_.size:Int)]:=by
     simp only[List.map_cons,List.map_nil,zO,Nat.mod_eq_of_lt (show x.case_.size<256 by omega)];rfl
    rw[e]at h;exact h)
   have AG:=G (Ce.out _ ((jQ0 NoX wd).alloc (.cells #[.int .u8 50,.int .u8 (x.case_.size:Int)] 5)));have RQ:=G (Nq.out.alloc (.cells #[.int .u8 50,.int .u8 (x.case_.size:Int)] 5));have s0:=(Ce.out wd (jQ0 _ _)).c0;have s0' :=AG.out.c0;clear FO hR;go_upto_region 5 with(first|(at_builtin;refine uy (.tmp 50) (.tmp 52) HR.out (by have:=Ng.out;simp;omega) rfl rfl rfl rfl ?_;intro l5 A5 c5 w5 e5 h5)|fail);have K5:=G (show Kp (From wd.heap.size) wd w5 from((jQ0 _ wd).alloc _).trans (h5.from_ HR.out) (fun _ _ h=>h));have R5:=G h5.row;have E5:=G (show l5=JB x from e5.out);have L5:=G (show l5.length<=66 by rw[E5.out,JB,jJ4,jH];have:=Ng.out;simp;omega);have HX:=G (fun W' (hk:Kp (From wd.heap.size) wd W')=>Ce.out W' (From.old (jQ0 NoX wd) hk (jL3 _)));have s1:=(HX.out w5 K5.out).c1;clear h5 e5 s0 s0' AG RQ HR Ce e8
   go_upto_if 55 with(fail)
   go_cut [4] (fun v wx=>∃(l:LB) (A' :OA) (c' :Nat),v=.slice A' l.length c' /\l=JB x++(if x.found=true then [1]++(be8 x.count++x.chain)else [0])/\BRow wx wd.heap.size l A' c' /\Kp (From wd.heap.size) wd wx)
   case first=>
    cases hf:x.found with
    |false=>
     rw[hf]at s1;go_wp2_with (first|(at_builtin;refine ja (.tmp 69) (.tmp 70) (R5.out.alloc _) (m:=[0]) (d:=1) (Rd.one_new _ 5 (bv 0)) (by have:=L5.out;simp;omega) rfl rfl rfl rfl ?_;intro l6 A6 c6 w6 e6 h6)|fail);have Hr:=G (show∃(l:LB) (A' :OA) (c' :Nat),Value.slice A6 l6.length c6=.slice A' l.length c' /\l=JB x++(if false=true then [1]++(be8 x.count++x.chain)else [0])/\BRow w6 wd.heap.size l A' c' /\Kp (From wd.heap.size) wd w6 from
      ⟨l6,A6,c6,rfl,by rw[e6.out,E5.out];rfl,h6.row,(K5.out.alloc _).trans (h6.from_ (R5.out.alloc _)) (fun _ _ h=>h)⟩)
     clear h6 e6;go_meet
     case rel=>rw[hf];exact Hr.out
    |true=>
     rw[hf]at s1;go_upto_region 6 with(fail);have Fg:=R5.out.drew;have kk:=K5.out.drew;have d2:=(HX.out _ kk).c2;have H1:=G (show Value.int .u8 1=bv 1 from rfl)
     go_region_held3 (fun w' =>w'.cell? ⟨w.heap.size,2,none⟩=some (.int .i64 x.count)) (first|exact d2|exact cal d2 _ |fail)
      (first
       |(refine Uz (.tmp 56) (.tmp 57) Fg H1.out ?_ rfl rfl rfl rfl ?_;(have:=L5.out;omega);intro l6 A6 c6 w6 e6 h6;have kk:=(kk.alloc _).trans (h6.from_ (Fg.alloc _)) (fun _ _ h=>h);have Fg:=h6.row;have d2:=(HX.out _ kk).c2)
       |(go_at_call 64;refine(yr _ x.count).mono ?_;rintro e w7 ⟨B7,d7,rfl,r7,a7,o7⟩;have Fg:=Fg.old o7;have kk:=kk.old o7;have d2:=(HX.out _ kk).c2)
       |(refine kv (.tmp 58) (.tmp 62) Fg r7 ?_ rfl rfl rfl rfl ?_;(rw[e6.out,jG,jJ4];have:=L5.out;simp;omega);intro l8 A8 c8 w8 e8 h8;have kk:=kk.trans (h8.from_ Fg) (fun _ _ h=>h);have Fg:=h8.row;have d2:=(HX.out _ kk).c2)
       |fail)
     all_goals
      have K8:=G kk;have R8:=G Fg;have E8:=G (show l8=JB x++([1]++be8 x.count)by rw[e8.out,e6.out,E5.out,jK1]);have L8:=G (show l8.length<=75 by rw[e8.out,e6.out];have:=L5.out;simp[jG];omega);have RM:=G (show Rd w8 1 (some ⟨w.heap.size,3,none⟩) x.chain.length (x.chain.map bv)from⟨by simp,fun _=>⟨_,_,rfl,fun j v hj=>by
       have:=(HX.out _ kk).en (1+j) v (by rw[Nat.add_comm];exact hj);rw[<-Nat.add_assoc]at this;exact this⟩⟩)
      have GL:=G Fe.out.chain;clear kk Fg d2 e8 e6 h6 h8 r7 a7 o7;go_wp2_with (first|(at_builtin;refine ja (.tmp 64) (.tmp 67) R8.out (d:=32) RM.out (by rw[GL.out];have:=L8.out;omega) rfl rfl rfl (by rw[GL.out];rfl) ?_;intro l9 A9 c9 w9 e9 h9)|fail);have Hr:=G (show∃(l:LB) (A' :OA) (c' :Nat),Value.slice A9 l9.length c9=.slice A' l.length c' /\l=JB x++(if true=true then [1]++(be8 x.count++x.chain)else [0])/\BRow w9 wd.heap.size l A' c' /\Kp (From wd.heap.size) wd w9 from
       ⟨l9,A9,c9,rfl,by rw[e9.out,E8.out];simp,h9.row,K8.out.trans (h9.from_ R8.out) (fun _ _ h=>h)⟩)
      clear h9 e9;go_meet
      case rel=>rw[hf];exact Hr.out
   case rest=>
    obtain⟨l6,A6,c6,rfl,S8,OR,NG⟩:=hcut;have E6:=G S8;have R6:=G OR;have K6:=G NG;have L6:=G (show l6.length<=200 by
     rw[S8,jJ4,JB,jJ4,jH];have:=Ng.out;have:=Fe.out.chain;cases x.found<;>simp[jG,this]<;>omega)
    clear S8 OR NG s1 R5 K5 E5 L5;have HY:=G (fun out (e:out=l6++x.bitmap++x.way.flatten)=>show R=some out by rw[Hy.out,e,E6.out];simp only[jK1]);have Hbm:=G (fun W' (hk:Kp (From wd.heap.size) wd W')=>show Rd W' 1 (some ⟨w.heap.size,35,none⟩) x.bitmap.length (x.bitmap.map bv)from⟨by simp,fun _=>⟨_,_,rfl,(HX.out _ hk).bm⟩⟩);have GL:=G Fe.out.bitmap;have FW:=G (Fy.out.from_ (base:=wd.heap.size) (by decide) Ho.out.size);have Pu:=G (Fy.out.old Ho.out);go_upto_region 9 with(fail);have Fg:=R6.out.drew;have kk:=K6.out.drew;have d67:=(HX.out _ kk).c67
    go_region_held3 (fun w' =>w'.cell? ⟨w.heap.size,67,none⟩=some (.slice A x.way.length c)) (first|exact d67|fail)
     (first
      |(refine kv (.tmp 72) (.tmp 74) Fg (d:=32) (Hbm.out _ kk) ?_ rfl rfl rfl (by rw[GL.out];rfl) ?_;(rw[GL.out];have:=L6.out;omega);intro l7 A7 c7 w7 e7 h7;have kk:=kk.trans (h7.from_ Fg) (fun _ _ h=>h);have Fg:=h7.row;have d67:=(HX.out _ kk).c67)
      |(go_at_call 120;refine(zp _ wd.heap.size l7 A7 c7 Fg ?_ A x.way.length c x.way rfl Fe.out.way (Pu.out.kp kk FW.out) FW.out Fe.out.big.1).mono ?_;(rw[e7.out,jJ4,GL.out];have:=L6.out;omega);rintro e w8 ⟨l8,A8,c8,e8,rfl,h8⟩;have kk:=kk.trans (h8.from_ Fg) (fun _ _ h=>h);have Fg:=h8.row;have d67:=(HX.out _ kk).c67)
      |fail)
    all_goals
     have Fm:=G (MaybeB.some_ (HY.out l8 (by rw[e8.out,e7.out])) rfl (by rw[e8.out,e7.out,E6.out,JB];simp) Fg Ho.out.size (From.old Ho.out kk Ho.out.size));clear kk Fg d67;go_wp2;go_ret;exact Fm.out
theorem xL{ops:Array Oper}{rest:List Oper}{op:Oper}{a:Act}{w:World}{Q:Exit->Act->World->Prop}(hw:Region.wanted op (yielded ops a.tmps)=true)(t t' :TypeId)(x y:Operand)(ho:op.op=.binOp .eql t x y t')
  (xs ys:Array Value) (hx:a.eval x=.agg xs) (hy:a.eval y=.agg ys) (hg:prog.eqGuardType prog.depth t=false) (r:Bool) (hr:(Op.equalIn 10000 t (.agg xs) (.agg ys)).run prog w=.ok r w)
  (h:wpList prog ops Q rest (a.put op.dst (.bool r)) w):wpList prog ops Q (op::rest) a w:=
 wpList_step fun K hK=>by
  simp only[hw,if_true];unfold Oper.wp execOp;simp only[ho,hx,hy,Sem.run_bind,run_eqGuard_agg w .eql t x y xs ys hg,run_eql_struct,hr,Result.andThen_ok];exact hK _ _ h
theorem yB:prog.eqGuardType prog.depth 40=false:=by kernel_rfl
theorem xJ(w:World):(Instr.build 40 #[]).run prog w=.ok (.agg zero32.toArray) w:=by kernel_rfl
theorem Qt(W:World)(d:LB)(hd:d.length=32)(r:Bool)(hr:decide (d=zC)=r):(Op.equalIn 10000 40 (.agg (jA d).toArray) (.agg zero32.toArray)).run prog W=.ok r W:=by
 have h:=jEc W d zC hd rfl;rw[Zv,hr]at h;exact h
theorem ur(w:World)(s:BA)(hs:s.size<=140737488355328):Calls prog 155 #[.string s] w fun e w' =>e=.returned (.int .i64 (54+s.size))/\w=w' :=by
 go_enter func155,ntmps155;go_wp2;go_ret;exact⟨kL (by simp;omega),rfl⟩
theorem QP(w:World)(B:OA)(n c2:Nat)(a b:Int)(A:OA)(k c:Nat)(hn:n<=2147483647)(hk:k<=2147483647):
  Calls prog 156 #[.slice B n c2,.agg #[.int .i64 a,.int .i64 b,.slice A k c]] w fun e w' =>e=.returned (.int .i64 (12+n+32*k))/\Old w w' :=by
 have Ho:=G ((jQ0 NoX w).alloc (.cells #[.int .i64 a,.int .i64 b,.slice A k c] 51));go_enter func156,ntmps156;go_wp2;go_ret;exact⟨kL (by simp),Ho.out⟩
def Jb(n:Nat)(a b:Int)(k:Nat)(size:Int):Bool:=decide (yA a b=some k/\a=size/\1<=n/\n<=65536)
theorem jHf(w:World)(B:OA)(n c2:Nat)(a b:Int)(A:OA)(k c:Nat)(size:Int):
  Calls prog 157 #[.slice B n c2,.agg #[.int .i64 a,.int .i64 b,.slice A k c],.int .i64 size] w fun e w' =>e=.returned (.bool (Jb n a b k size))/\Old w w' :=by
 have Ho:=G ((jQ0 NoX w).alloc (.cells #[.int .i64 a,.int .i64 b,.slice A k c] 51));have HB:=G (fun W=>Ku W a b);have HR:=G (show Jb n a b k size=decide (yA a b=some k/\a=size/\1<=n/\n<=65536)from rfl);have Hb:=G (jQ2 w 51 #[.int .i64 a,.int .i64 b,.slice A k c]);generalize Jb n a b k size=R at*;go_enter func157,ntmps157;go_wp2_with fail;generalize w.alloc _=W at*;refine(HB.out W).mono ?_;rintro e w1 ⟨he,rfl⟩;have c0:=Hb.out.at_ 0 (v:=.int .i64 a) rfl;have c2' :=Hb.out.at_ 2 (v:=.slice A k c) rfl;generalize yA a b=o at*;rcases o with _ |m
 ·simp only at he;subst he;have hY:=G (show R=false by rw[HR.out,jK3 (by simp)]);go_wp2;go_ret;exact⟨by rw[hY.out];rfl,Ho.out⟩
 ·simp only at he;subst he;by_cases h1:m=k
  ·subst h1;have b1:((m:Int)==(m:Int))=true:=(by simp);by_cases h2:a=size
   ·subst h2;have b2:(a==a)=true:=(by simp);by_cases h3:1<=n
    ·have g3:(1:Int)<=(n:Int):=(by omega);by_cases h4:n<=65536
     ·have g4:(n:Int)<=65536:=(by omega);have Hy:=G (show R=true by rw[HR.out,jK5 ⟨rfl,rfl,h3,h4⟩]);go_wp2;go_ret;exact⟨by rw[Hy.out];rfl,Ho.out⟩
     ·have g4:decide ((n:Int)<=65536)=false:=jK3 (by omega);have hY:=G (show R=false by rw[HR.out,jK3 (fun h=>h4 h.2.2.2)]);go_wp2;go_ret;exact⟨by rw[hY.out];rfl,Ho.out⟩
    ·have g3:¬(1:Int)<=(n:Int):=(by omega);have hY:=G (show R=false by rw[HR.out,jK3 (fun h=>h3 h.2.2.1)]);go_wp2;go_ret;exact⟨by rw[hY.out];rfl,Ho.out⟩
   ·have b2:(a==size)=false:=(by simpa using h2);have hY:=G (show R=false by rw[HR.out,jK3 (fun h=>h2 h.2.1)]);go_wp2;go_ret;exact⟨by rw[hY.out];rfl,Ho.out⟩
  ·have b1:((m:Int)==(k:Int))=false:=by simp;omega
   have hY:=G (show R=false by rw[HR.out,jK3 (fun h=>h1 (jL5 h.1))]);go_wp2;go_ret;exact⟨by rw[hY.out];rfl,Ho.out⟩
def yE(s:BA)(first:Int)(before:LB):Bool:=kT s&&decide (0<=first/\(0<first\/before=zC))
theorem jCc(w:World)(s:BA)(first:Int)(d:LB)(hd:d.length=32)(hs:s.size<=9223372036854775807):
  Calls prog 154 #[.string s,.int .i64 first,.agg (jA d).toArray] w fun e w' =>e=.returned (.bool (yE s first d))/\Old w w' :=by
 have Hb:=G (jQ2 w 40 (jA d).toArray);have Ho:=G ((jQ0 NoX w).alloc (.cells (jA d).toArray 40));have Fh:=G (show(prog.info? 40).map (·.size)=some (jA d).length by rw[jB,hd];exact jO);have HN:=G (fun W=>KM W s hs);have HR:=G (show yE s first d=(kT s&&decide (0<=first/\(0<first\/d=zC)))from rfl);have We:=G (fun W=>Qt W d hd (decide (d=zC)) rfl);generalize yE s first d=R at*
 clear hs;go_enter func154,ntmps154;go_wp2_with fail;generalize w.alloc _=W at*;refine(HN.out W).mono ?_;rintro e w1 ⟨rfl,rfl⟩;by_cases hn:kT s=true
 ·rw[hn]at HR⊢;by_cases h0:0<=first
  ·by_cases h1:0<first
   ·have Hy:=G (show R=true by rw[HR.out,jK5 ⟨h0,.inl h1⟩];rfl);clear hn;go_wp2;go_ret;exact⟨by rw[Hy.out];rfl,Ho.out⟩
   ·have Hy:=G (show R=decide (d=zC)by
     rw[HR.out,Bool.true_and];exact decide_eq_decide.2 ⟨fun h=>h.2.resolve_left h1,fun h=>⟨h0,.inr h⟩⟩)
    generalize decide (d=zC)=r at*;have g1:decide (0<first)=false:=jK3 h1;clear hn;go_wp2_with (first|(with_reducible refine ji 40 (.tmp 5) ?_;refine jK rfl 40 (.tmp 5) rfl w.heap.size 0 rfl (jA d) _ Hb.out.range underlying40 rfl Fh.out ?_)|(with_reducible refine jM 40 ?_;refine jX rfl 40 rfl _ (xJ _) ?_)|(with_reducible refine zi .eql 40 40 (.tmp 17) (.tmp 18) ?_;refine xL rfl 40 40 (.tmp 17) (.tmp 18) rfl _ zero32.toArray rfl rfl yB r (We.out _) ?_)|fail);go_ret;exact⟨by rw[Hy.out];rfl,Ho.out⟩
  ·have hY:=G (show R=false by rw[HR.out,jK3 (fun h=>h0 h.1)];rfl);clear hn;go_wp2;go_ret;exact⟨by rw[hY.out];rfl,Ho.out⟩
 ·have Wu:kT s=false:=(by simpa using hn);have hY:=G (show R=false by rw[HR.out,Wu];rfl);rw[Wu];clear hn Wu;go_wp2;go_ret;exact⟨by rw[hY.out];rfl,Ho.out⟩
end Go.Proofs.YtnaolhjbapgjgaaGreat

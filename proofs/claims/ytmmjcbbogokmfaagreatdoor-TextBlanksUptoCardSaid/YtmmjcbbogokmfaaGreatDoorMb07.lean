import Derived.Test.YtmmjcbbogokmfaaGreatDoorMb05
import Derived.Test.YtmmjcbbogokmfaaGreatDoorMb06
set_option maxRecDepth 100000
set_option maxHeartbeats 25600000
namespace Go.Proofs.YtmmjcbbogokmfaaGreatDoor
open Go.Proofs.Tryz
theorem Jh{t:Nat}(hJ:t<58):∀{st:List Nat} {f:Nat} {st' :List Nat},kI t st=true->kO t f st=some st' ->∃e n l k,st=e++n::l/\(e.all fun x=> !jE x t&&kX x)=true/\jE n t=true/\n<85/\kO t 30 [n]=some k/\st' =k++l
 |[],f,st',hm,_=>by cases hm
 |n::l,f,st',hm,ht=>by
  rw[kI]at hm;by_cases hb:jE n t=true
  ·obtain⟨k,hk⟩:=xE n t hJ hb;have h1:=Ji t 30 [n] k l hk;obtain rfl:=Zk ht h1;exact⟨[],n,l,k,rfl,rfl,hb,ZQ hJ hb,hk,rfl⟩
  ·have Gs:jE n t=false:=(by simpa using hb);rw[jJ5 hb]at hm;split at hm
   case isFalse=>cases hm
   rename_i he;cases f with
   |zero=>cases ht
   |succ f=>
    rw[kO]at ht;have W5:=zx n he;rw[jJ5 (by omega),zW n t Gs,jN8]at ht;obtain⟨e,m,l2,k,h1,h2,h3,h4,h5,h6⟩:=Jh hJ hm ht;refine⟨n::e,m,l2,k,by rw[h1];rfl,?_,h3,h4,h5,h6⟩;rw[List.all_cons,Gs,he,h2];rfl
def JU(l:List Nat):Bool:=decide (l.headD 0=60)||(decide (l.headD 0=59)&&decide ((l.drop 1).headD 0=60))
def zj:List Nat->Bool
 |[]=>true
 |n::l=>(decide (n≠10)||JU l)&&zj l
theorem qy(l b:List Nat)(h:JU l=true):JU (l++b)=true:=by
 unfold JU at h⊢
 match l,h with
 |[],h=>cases h
 |[x],h=>
  rw[Bool.or_eq_true,Bool.and_eq_true]at h⊢;rcases h with h|h
  ·exact .inl h
  ·exact absurd (jM8 h.2:0=60) (by decide)
 |x::y::l,h=>exact h
def xe(st:List Nat):Bool:=st.all fun n=>decide (n<14\/17<n)
def jAQ(st:List Nat):Bool:=zj st&&xe st
theorem qF:∀(a b:List Nat),zj a=true->zj b=true->zj (a++b)=true
 |[],b,_,hb=>hb
 |n::l,b,ha,hb=>by
  rw[zj,Bool.and_eq_true,Bool.or_eq_true]at ha;rw[jN6,zj,qF l b ha.2 hb,Bool.and_true,Bool.or_eq_true];exact ha.1.imp id (qy l b)
theorem JA:∀(a b:List Nat),zj (a++b)=true->zj b=true
 |[],b,h=>h
 |n::l,b,h=>by
  rw[jN6,zj,Bool.and_eq_true]at h;exact JA l b h.2
theorem qQ(a b:List Nat):xe (a++b)=(xe a&&xe b):=List.all_append
def jFO(n t:Nat):Bool:= !jE n t||decide (14<=n/\n<=17)||(match kO t 30 [n]with|some k=>jAQ k|none=>true)
theorem Un:∀n:Fin 85,∀t:Fin 58,jFO n.val t.val=true:=by decide+kernel
theorem jBn{t:Nat}(hJ:t<58){st st' :List Nat}{f:Nat}(h:jAQ st=true)(hm:kI t st=true)(ht:kO t f st=some st'):jAQ st' =true:=by
 obtain⟨e,n,l,k,rfl,he,hb,Q1,hk,rfl⟩:=Jh hJ hm ht;unfold jAQ at h⊢;rw[Bool.and_eq_true,qQ,Bool.and_eq_true]at h;obtain⟨h1,-,h3⟩:=h;have h4:xe (n::l)=(decide (n<14\/17<n)&&xe l):=List.all_cons;rw[h4,Bool.and_eq_true]at h3;have hn:=jM8 h3.1;have h5:=Un ⟨n,Q1⟩ ⟨t,hJ⟩;simp only[jFO,hb,Bool.not_true,Bool.false_or,jK3 (show¬(14<=n/\n<=17)by omega),hk]at h5;unfold jAQ at h5;rw[Bool.and_eq_true]at h5;have h6:zj l=true:=by
  have:=JA e _ h1;rw[zj,Bool.and_eq_true]at this;exact this.2
 rw[qF k l h5.1 h6,qQ,h5.2,h3.2];rfl
def jJx(n t:Nat):Bool:= !(jE n t&&decide (t=10\/t=14\/t=16))||decide (14<=n/\n<=17)||decide (n=10)||(match kO t 30 [n]with|some [77]=>true|_=>false)
theorem jD7:∀n:Fin 85,∀t:Fin 58,jJx n.val t.val=true:=by decide+kernel
theorem jJe{t:Nat}(Dp:t=10\/t=14\/t=16){st st' :List Nat}{f:Nat}(h:jAQ st=true)(hm:kI t st=true)(ht:kO t f st=some st'):kI 12 st' =false:=by
 have hJ:t<58:=(by omega);obtain⟨e,n,l,k,rfl,he,hb,Q1,hk,rfl⟩:=Jh hJ hm ht;unfold jAQ at h;rw[Bool.and_eq_true,qQ,Bool.and_eq_true]at h;obtain⟨h1,-,h3⟩:=h;have h4:xe (n::l)=(decide (n<14\/17<n)&&xe l):=List.all_cons;rw[h4,Bool.and_eq_true]at h3;have hn:=jM8 h3.1;have h5:=jD7 ⟨n,Q1⟩ ⟨t,hJ⟩;simp only[jJx,hb,Bool.true_and,jK5 Dp,Bool.not_true,Bool.false_or,jK3 (show¬(14<=n/\n<=17)by omega),hk]at h5;by_cases GM:n=10
 ·subst GM;have Th:t=10:=(yz (by decide) hb).symm;subst Th;have Fg:k=[]:=by
   have:kO 10 30 [10]=some []:=(by decide);rw[this]at hk;exact(jL5 hk).symm
  subst Fg;have:=JA e _ h1;rw[zj,Bool.and_eq_true]at this;have h6:=this.1;rw[jN8];simp only[ne_eq,not_true_eq_false,decide_false,Bool.false_or]at h6;unfold JU at h6
  match l,h6 with
  |[],h6=>cases h6
  |[x],h6=>
   rw[Bool.or_eq_true,Bool.and_eq_true]at h6;have hx:x=60:=h6.elim (fun e=>jM8 e) (fun e=>absurd (jM8 e.2:0=60) (by decide));subst hx;exact Kg 12 60 [] (by decide) (by decide)
  |x::y::l,h6=>
   rw[Bool.or_eq_true,Bool.and_eq_true]at h6;rcases h6 with hx|⟨hx,hy⟩
   ·obtain rfl:x=60:=jM8 hx;exact Kg 12 60 (y::l) (by decide) (by decide)
   ·obtain rfl:x=59:=jM8 hx;obtain rfl:y=60:=jM8 hy;rw[kI,jJ5 (by decide),jJ6 (by decide)];exact Kg 12 60 l (by decide) (by decide)
 ·simp only[jK3 GM,Bool.false_or]at h5;have Fg:k=[77]:=by
   split at h5
   ·rename_i e2;injection e2
   ·cases h5
  subst Fg;exact Kg 12 77 l (by decide) (by decide)
theorem xX{src:LB}{p n:Nat}{ts:List Tk}(hs:jN false (src.drop p)=n+jN false (src.drop (p+n)))(h:Toks src (p+n) ts):Toks src p ts:=by
 cases h with
 |done h1=>exact .done (by omega)
 | @more _ k x ts hk hlt hx hl ht=>exact .more (by omega) hlt hx hl ht
theorem Vr:∀(l:LB),jN true l=(l.takeWhile fun c=> !lfC c).length+jN false (l.drop (l.takeWhile fun c=> !lfC c).length)
 |[]=>rfl
 |c::l=>by
  by_cases hc:lfC c=true
  ·rw[jN,jJ6 hc,List.takeWhile_cons,jJ5 (by rw[hc];decide),jN2,List.drop_zero,Nat.zero_add];have hb:kL c=true:=by
    have:=jM8 hc;unfold kL;rw[jK5 (by omega)]
   rw[jN,jJ6 hb]
  ·rw[jN,jJ5 hc,List.takeWhile_cons,jJ6 (by simpa using hc),jK6,List.drop_succ_cons,Vr l];omega
theorem zf{src:LB}{p n t:Nat}{l:LB}(h:src.drop p=l):Ve src ⟨t,p,p+n⟩=l.take n:=by
 unfold Ve;simp only;rw[List.drop_take,h,Nat.add_sub_cancel_left]
theorem KI(w:LB):∀(l:List LB) (k:Nat),jl k w l≠0->w∈l
 |[],k,h=>absurd rfl h
 |r::l,k,h=>by
  rw[jl]at h;split at h
  ·rename_i e;rw[e];exact List.mem_cons_self
  ·exact jN1 _ (KI w l _ h)
theorem Uh:∀r∈resL,Qe (r.headD 0)=true:=by decide
theorem uu{w:LB}(h:yG w≠0):Qe (w.headD 0)=true:=Uh w (KI w resL 23 h)
theorem Qd{c:UInt8}(h:Qe c=true):yd c=false:=by
 unfold Qe at h;have:=jM8 h;unfold yd;rw[jK3 (by omega)]
theorem Zp{w:LB}(hd:yd (w.headD 0)=true)(h:vH w=true):jo w=true:=by
 unfold vH at h;rw[Bool.or_eq_true,Bool.or_eq_true,Bool.and_eq_true]at h;rcases h with(h|h)|h
 ·exact h.2
 ·have:=Qd (uu (jM8 h));rw[this]at hd;cases hd
 ·unfold jQ jk at h;rw[Bool.and_eq_true,Bool.and_eq_true,Bool.and_eq_true]at h;have:=Qd h.1.1.2;rw[this]at hd;cases hd
theorem Yy{w:LB}(h:jj w=1)(hp:vH w=true):jQ w=true:=by
 unfold jj at h;split at h
 ·cases h
 ·rename_i hd;split at h
  ·rename_i h0;unfold vH at hp;simp only[Bool.or_eq_true,Bool.and_eq_true,decide_eq_true_eq]at hp;rcases hp with(hp|hp)|hp
   ·exact absurd hp.1 hd
   ·exact absurd h0 hp
   ·exact hp
  ·rename_i h0;have h4:∀r∈resL,yG r≠1:=(by decide);exact absurd h (h4 _ (KI _ resL 23 h0))
theorem uE{w:LB}(h:jj w=2):yd (w.headD 0)=true:=by
 unfold jj at h;split at h
 ·assumption
 ·split at h
  ·cases h
  ·rename_i h1 h2;exfalso;have h3:23<=yG w\/yG w=0:=by
    unfold yG;generalize resL=L
    suffices∀(l:List LB) (k:Nat),23<=k->23<=jl k w l\/jl k w l=0 from this L 23 (jL3 _)
    intro l
    induction l with
    |nil=>exact fun k _=>.inr rfl
    |cons r l ih=>
     intro k hk;rw[jl];split
     ·exact .inl hk
     ·exact ih (k+1) (by omega)
   omega
theorem Jn(f:Nat)(c:UInt8)(l:LB)(h:¬c.toNat=92):meantN (f+1) (c::l)=(meantN f l).map (c:: ·):=by
 rw[meantN.eq_def];exact jJ5 h
theorem jBx(f:Nat)(c:UInt8)(h:c.toNat=92):meantN (f+1) [c]=none:=by
 rw[meantN.eq_def];exact jJ6 h
def jDE(d:UInt8):UInt8:=if d.toNat=110 then 10 else if d.toNat=116 then 9 else d
theorem Vv(f:Nat)(c d:UInt8)(l:LB)(h:c.toNat=92)(hd:¬d.toNat=120):meantN (f+1) (c::d::l)=(meantN f l).map (jDE d:: ·):=by
 rw[meantN.eq_def];refine(jJ6 h).trans ?_;unfold jDE;by_cases h1:d.toNat=110
 ·simp only[jJ6 h1]
 by_cases h2:d.toNat=116
 ·simp only[jJ5 h1,jJ6 h2]
 ·simp only[jJ5 h1,jJ5 h2,jJ5 hd]
theorem jHj(f:Nat)(c d a b:UInt8)(l:LB)(h:c.toNat=92)(hd:d.toNat=120):meantN (f+1) (c::d::a::b::l)=if xC a=true/\xC b=true then(meantN f l).map (UInt8.ofNat (16*YM a+YM b):: ·)else none:=by
 rw[meantN.eq_def];refine(jJ6 h).trans ?_;simp only;rw[jJ5 (by omega),jJ5 (by omega),jJ6 hd]
theorem jGd(f:Nat)(c d:UInt8)(h:c.toNat=92)(hd:d.toNat=120):meantN (f+1) [c,d]=none:=by
 rw[meantN.eq_def];refine(jJ6 h).trans ?_;simp only;rw[jJ5 (by omega),jJ5 (by omega),jJ6 hd]
theorem jGc(f:Nat)(c d a:UInt8)(h:c.toNat=92)(hd:d.toNat=120):meantN (f+1) [c,d,a]=none:=by
 rw[meantN.eq_def];refine(jJ6 h).trans ?_;simp only;rw[jJ5 (by omega),jJ5 (by omega),jJ6 hd]
theorem zu:∀(f g:Nat) (l v:LB),f<=g->meantN f l=some v->meantN g l=some v
 |0,g,l,v,_,h=>by cases h
 |f+1,0,l,v,hg,_=>by omega
 |f+1,g+1,[],v,_,h=>h
 |f+1,g+1,c::l,v,hg,h=>by
  have ih:=fun l v=>zu f g l v (by omega);have im:∀(l:LB) (w:UInt8),(meantN f l).map (w:: ·)=some v->(meantN g l).map (w:: ·)=some v:=fun l w e=>by
   obtain⟨x,hx,WK⟩:=jM4 e;rw[ih l x hx];exact congrArg some WK
  by_cases hc:c.toNat=92
  ·match l,h with
   |[],h=>rw[jBx f c hc]at h;cases h
   |d::l,h=>
    by_cases hd:d.toNat=120
    ·match l,h with
     |[],h=>rw[jGd f c d hc hd]at h;cases h
     |[a],h=>rw[jGc f c d a hc hd]at h;cases h
     |a::b::l,h=>
      rw[jHj f c d a b l hc hd]at h;rw[jHj g c d a b l hc hd];split at h
      ·rename_i h4;rw[jJ6 h4];exact im _ _ h
      ·cases h
    ·rw[Vv f c d l hc hd]at h;rw[Vv g c d l hc hd];exact im _ _ h
  ·rw[Jn f c l hc]at h;rw[Jn g c l hc];exact im _ _ h
theorem QJ(c:UInt8)(l:LB)(h:c.toNat=34):strLen (c::l)=some 1:=by
 rw[strLen.eq_def];exact jJ6 h
theorem Yk(c d:UInt8)(l:LB)(h:c.toNat=92):strLen (c::d::l)=(strLen l).map (· +2):=by
 rw[strLen.eq_def];exact(jJ5 (by omega)).trans (jJ6 h)
theorem zo(c:UInt8)(l:LB)(h:¬c.toNat=34)(h2:¬c.toNat=92):strLen (c::l)=(strLen l).map (· +1):=by
 rw[strLen.eq_def];exact(jJ5 h).trans (jJ5 h2)
theorem KP:∀(n:Nat) (l:LB) (q k:Nat),l.length<=n->jr l q 4=.shut k->∃j v,strLen l=some (j+1)/\k=q+(j+1)/\j<l.length/\meantN (j+1) (l.take j)=some v
 |_,[],q,k,_,h=>by cases h
 |0,c::l,q,k,hn,_=>by rw[jK6]at hn;omega
 |n+1,c::l,q,k,hn,h=>by
  rw[jK6]at hn;rw[jr,jJ6 rfl]at h;by_cases Gw:c.toNat=34
  ·rw[jJ6 Gw]at h;injection h with h;refine⟨0,[],?_,by omega,by simp,rfl⟩;exact QJ c l Gw
  rw[jJ5 Gw]at h;by_cases FQ:c.toNat=92
  ·rw[jJ6 FQ]at h;cases l with
   |nil=>cases h
   |cons d l=>
    rw[jK6]at hn;rw[jr,jJ5 (by decide),jJ6 rfl]at h;by_cases hx:d.toNat=120
    ·rw[jJ6 hx]at h;cases l with
     |nil=>cases h
     |cons a l=>
      rw[jr,jJ5 (by decide),jJ5 (by decide)]at h;by_cases ha:xC a=true
      ·rw[jJ5 (by rw[ha];decide),jJ5 (by decide)]at h;cases l with
       |nil=>cases h
       |cons b l=>
        rw[jr,jJ5 (by decide),jJ5 (by decide)]at h;by_cases hb:xC b=true
        ·rw[jJ5 (by rw[hb];decide),jJ6 (by decide)]at h;simp only[jK6]at hn;obtain⟨j,v,e1,e2,e3,e4⟩:=KP n l _ k (by omega) h;have Fa:∀y,xC y=true->¬y.toNat=34/\¬y.toNat=92:=fun y hy=>by
          unfold xC yd at hy;rw[Bool.or_eq_true]at hy;rcases hy with e|e<;>(have:=jM8 e;omega)
         refine⟨j+4,UInt8.ofNat (16*YM a+YM b)::v,?_,by omega,by simp only[jK6];omega,?_⟩
         ·rw[Yk c d _ FQ,zo a _ (Fa a ha).1 (Fa a ha).2,zo b _ (Fa b hb).1 (Fa b hb).2,e1];rfl
         ·simp only[List.take_succ_cons];rw[jHj (j+4) c d a b _ FQ hx,jJ6 ⟨ha,hb⟩,zu (j+1) (j+4) _ v (by omega) e4];rfl
        ·rw[jJ6 (by simpa using hb)]at h;cases h
      ·rw[jJ6 (by simpa using ha)]at h;cases h
    ·rw[jJ5 hx]at h;by_cases hd:d.toNat=34\/d.toNat=92\/d.toNat=110\/d.toNat=116
     ·rw[jJ6 hd]at h;obtain⟨j,v,e1,e2,e3,e4⟩:=KP n l _ k (by omega) h;have hm:=zu (j+1) (j+2) _ v (by omega) e4;have Hm:strLen (c::d::l)=some (j+2+1):=by
       rw[Yk c d l FQ,e1];rfl
      have Fj:∃v',meantN (j+2+1) ((c::d::l).take (j+2))=some v' :=by
       simp only[List.take_succ_cons];rw[Vv (j+2) c d _ FQ hx,hm];exact⟨_,rfl⟩
      obtain⟨v',Dk⟩:=Fj;exact⟨j+2,v',Hm,by omega,by simp only[jK6];omega,Dk⟩
     ·rw[jJ5 hd]at h;cases h
  ·rw[jJ5 FQ]at h;by_cases hr:c.toNat<32\/126<c.toNat
   ·rw[jJ6 hr]at h;cases h
   ·rw[jJ5 hr]at h;obtain⟨j,v,e1,e2,e3,e4⟩:=KP n l _ k (by omega) h;refine⟨j+1,c::v,?_,by omega,by simp only[jK6];omega,?_⟩
    ·rw[zo c l Gw FQ,e1];rfl
    ·simp only[List.take_succ_cons];rw[Jn (j+1) c _ FQ,e4];rfl
theorem JJ{t:Nat}{m m' :Mc}{k:Nat}(h:vg t m k=.ok m'):kO t (m.stack.length+100) m.stack=some m'.stack/\m'.at_=k:=by
 unfold vg at h;split at h
 ·rename_i s hs;injection h with h;rw[<-h];exact⟨hs,rfl⟩
 ·cases h
theorem Ua(l:LB)(m:Mc)(c:UInt8)(hw:jS c=true)(hs:m.stack=[]):yR m (c::l)=.error m.at_:=by
 have h1:zV [] resL 0=[]:=(by decide);have h2:∀w:LB,jEa false false [] w=false:=fun w=>rfl;unfold yR;rw[hs,h1,show kI 1 []=false from rfl,show kI 2 []=false from rfl,zP,jJ5 (by rw[hw];decide),jJ5 (by rw[h2];decide)]
theorem jAW:∀c:Fin 256,(decide (jc [UInt8.ofNat c.val,61]=0)||(decide (jc [UInt8.ofNat c.val]=0)||(decide (jc [UInt8.ofNat c.val]=10)||(decide (jc [UInt8.ofNat c.val]=14)||decide (jc [UInt8.ofNat c.val]=16)))))=true:=by decide+kernel
theorem jDM{c:UInt8}(h2:jc [c,61]≠0)(h1:jc [c]≠0):jc [c]=10\/jc [c]=14\/jc [c]=16:=by
 have h:=jAW ⟨c.toNat,c.toNat_lt⟩;simp only[UInt8.ofNat_toNat]at h;simp only[jK3 h2,jK3 h1,Bool.false_or,Bool.or_eq_true,decide_eq_true_eq]at h;exact h
theorem Ud{src:LB}{m m' :Mc}{f:Nat}(he:src.length<=m.at_)(h:Vs src f m=.ok m'):m' =m:=by
 cases f with
 |zero=>rw[Vs]at h;injection h with h;exact h.symm
 |succ f=>rw[Vs,jJ6 he]at h;injection h with h;exact h.symm
theorem jFs{src:LB}{m:Mc}{f k:Nat}(hlt:m.at_ <src.length)(hf:0<f)(hs:vh m (src.drop m.at_)=.error k):Vs src f m=.error k:=by
 cases f with
 |zero=>omega
 |succ f=>rw[Vs,jJ5 (by omega),hs]
theorem jFm{src:LB}{p:Nat}{c:UInt8}{l:LB}{n t:Nat}{ts:List Tk}(hd:src.drop p=c::l)(hb:kL c=false)(Nj:¬c.toNat=35)(hx:ZB (c::l)=some (n,t))(hl:us src ⟨t,p,p+n⟩)(h:Toks src (p+n) ts):Toks src p (⟨t,p,p+n⟩::ts):=by
 have hs:jN false (c::l)=0:=(by rw[jN,jJ5 (by rw[hb];decide),jJ5 Nj]);have hlen:=congrArg List.length hd;rw[jK8,jK6]at hlen;exact .more (x:=(n,t)) (by rw[hd,hs];rfl) (by omega) (by rw[hd];exact hx) hl h
theorem XS(src:LB):∀(f:Nat) (m m' :Mc),src.length+1<=f+m.at_ ->m.at_ <=src.length->jAQ m.stack=true->Vs src f m=.ok m' ->m'.stack=[]->∃ts,Toks src m.at_ ts/\Acc m.stack ts/\ts.length<=src.length-m.at_
 |0,m,m',hf,ha,_,_,_=>by omega
 |f+1,m,m',hf,ha,Gk,h,h0=>by
  rw[Vs]at h;by_cases hlt:src.length<=m.at_
  ·rw[jJ6 hlt]at h;injection h with h;rw[<-h]at h0;rw[h0];exact⟨[],.done (by omega),.done,Nat.zero_le _⟩
  rw[jJ5 hlt]at h;obtain⟨c,l,hd⟩:∃c l,src.drop m.at_=c::l:=by
   cases hd:src.drop m.at_ with
   |nil=>
    have:=congrArg List.length hd;rw[jK8,jN2]at this;omega
   |cons c l=>exact⟨c,l,rfl⟩
  have hlen:=congrArg List.length hd;rw[jK8,jK6]at hlen;rw[hd]at h;cases Hm:vh m (c::l)with
  |error k=>rw[Hm]at h;cases h
  |ok m1=>
   rw[Hm]at h;simp only at h;have Dv:=YE Hm;rw[jK6]at Dv;have ih:=fun(Tu:jAQ m1.stack=true)=>XS src f m1 m' (by omega) (by omega) Tu h h0
   --a kC
   have tok:∀(n t:Nat),kL c=false->¬c.toNat=35->ZB (c::l)=some (n,t)->us src ⟨t,m.at_,m.at_ +n⟩->t<58->kI t m.stack=true->(∃g,kO t g m.stack=some m1.stack)->m1.at_=m.at_ +n->1<=n->∃ts,Toks src m.at_ ts/\Acc m.stack ts/\ts.length<=src.length-m.at_:=by
    rintro n t hb Nj hx hl hJ hm ⟨g,hg⟩ h1 hn;obtain⟨ts,i1,i2,i3⟩:=ih (jBn hJ Gk hm hg);rw[h1]at i1 i3;exact⟨_,jFm hd hb Nj hx hl i1,.tak (k:=⟨t,m.at_,m.at_ +n⟩) hJ hm hg i2,by rw[jK6];omega⟩
   have ends:m1.stack=m.stack->src.length<=m1.at_ ->m.stack=[]:=fun e1 e2=>by
    rw[<-e1,<-Ud e2 h];exact h0
   rw[vh]at Hm;by_cases hb:kL c=true
   ·rw[jJ6 hb]at Hm;injection Hm with Hm;obtain⟨ts,i1,i2,i3⟩:=ih (by rw[<-Hm];exact Gk);rw[<-Hm]at i1 i2 i3;simp only at i1 i2 i3;refine⟨ts,xX (n:=1) ?_ i1,i2,by omega⟩;rw[show src.drop (m.at_ +1)=l by rw[<-List.drop_drop,hd];rfl,hd,jN,jJ6 hb,Nat.add_comm]
   rw[jJ5 hb]at Hm;have Gs:kL c=false:=(by simpa using hb);by_cases Nj:c.toNat=35
   ·rw[jJ6 Nj]at Hm;unfold vT at Hm;simp only at Hm;injection Hm with Hm;have MR:m1.stack=m.stack/\m1.at_=m.at_ +((c::l).takeWhile fun c=> !lfC c).length:=by
     split at Hm
     ·rename_i e;rw[<-Hm];exact⟨rfl,by rw[e]⟩
     ·rw[<-Hm];exact⟨rfl,rfl⟩
    obtain⟨ts,i1,i2,i3⟩:=ih (by rw[MR.1];exact Gk);rw[MR.1]at i2;rw[MR.2]at i1 i3;refine⟨ts,xX ?_ i1,i2,by omega⟩;have PL:lfC c=false:=by unfold lfC;rw[jK3 (by omega)]
    rw[<-List.drop_drop,hd,List.takeWhile_cons,jJ6 (by rw[PL];rfl),jK6,List.drop_succ_cons,jN,jJ5 hb,jJ6 Nj,Vr l];omega
   rw[jJ5 Nj]at Hm;by_cases Gw:c.toNat=34
   ·rw[jJ6 Gw]at Hm;unfold vJ at Hm;cases hm:kI 3 m.stack with
    |false=>rw[hm,jJ6 rfl]at Hm;cases Hm
    |true=>
     rw[hm,jJ5 (by decide)]at Hm;simp only[List.drop_one,List.tail_cons]at Hm;split at Hm
     ·cases Hm
     ·rename_i k hk;obtain⟨e1,e2⟩:=JJ Hm;obtain⟨j,v,s1,s2,s3,s4⟩:=KP l.length l _ k (jL3 _) hk;have hw:jS c=false:=by
       unfold jS Qe yd;rw[jK3 (by omega),jK3 (by omega),jK3 (by omega)];rfl
      refine tok (j+2) 3 Gs Nj ?_ ?_ (by decide) hm ⟨_,e1⟩ (by omega) (by omega)
      ·rw[ZB,jJ5 (by rw[hw];decide),jJ6 Gw,s1];rfl
      ·refine⟨fun _=> ?_,fun e=>absurd e (by simp only;decide)⟩;rw[zf hd];have hL:(c::l).take (j+2)=c::l.take (j+1):=(by rw[List.take_succ_cons]);have Gg:((c::l).take (j+2)).length=j+2:=by rw[jK9,jK6];omega
       have FB:(((c::l).take (j+2)).drop 1).take (((c::l).take (j+2)).length-2)=l.take j:=by
        rw[Gg,hL,List.drop_one,List.tail_cons,List.take_take]
        congr 1
        omega
       show∃n,jt 3 _=some n;unfold jt;rw[jJ5 (by decide),jJ5 (by decide),jJ6 rfl,jJ6 (by rw[Gg];omega),FB,Gg,zu (j+1) (j+2+1) _ v (by omega) s4];exact⟨_,rfl⟩
     ·rename_i e he;injection Hm with Hm;have:=ends (by rw[<-Hm]) (by rw[<-Hm];simp only[jK6];omega);rw[this]at hm;cases hm
   rw[jJ5 Gw]at Hm;by_cases hw:jS c=true
   ·rw[jJ6 hw]at Hm;unfold vS at Hm;simp only at Hm;split at Hm
    ·rename_i hc;obtain⟨e1,e2⟩:=JJ Hm;simp only at e1;have Sk:(c::l).take ((c::l).takeWhile jS).length=(c::l).takeWhile jS:=(List.prefix_iff_eq_take.1 (List.takeWhile_prefix _)).symm;refine tok _ (jj ((c::l).takeWhile jS)) Gs Nj (by rw[ZB,jJ6 hw]) ?_ (JS _) hc.2.2 ⟨_,e1⟩ e2 (kt jS c l hw);refine⟨fun hlt=> ?_,fun FS=>by rw[zf hd,Sk];exact Yy FS hc.2.1⟩;rw[zf hd,Sk];simp only at hlt⊢;have Fa:(c::l).takeWhile jS≠ []:=List.ne_nil_of_length_pos (kt jS c l hw);unfold jt;by_cases h2:jj ((c::l).takeWhile jS)=2
     ·rw[jJ6 h2,jJ6 ⟨Zp (uE h2) hc.2.1,Fa⟩];exact⟨_,rfl⟩
     rw[jJ5 h2];by_cases h46:jj ((c::l).takeWhile jS)=46\/jj ((c::l).takeWhile jS)=47
     ·rw[jJ6 h46];exact⟨_,rfl⟩
     rw[jJ5 h46];by_cases h3:jj ((c::l).takeWhile jS)=3
     ·exfalso;unfold jj at h3;split at h3
      ·cases h3
      ·split at h3
       ·cases h3
       ·have h4:∀r∈resL,yG r≠3:=(by decide);rename_i h5;exact h4 _ (KI _ resL 23 h5) h3
     rw[jJ5 h3];by_cases h1:jj ((c::l).takeWhile jS)=1
     ·rw[jJ6 h1];exact⟨_,rfl⟩
     rw[jJ5 h1];exact⟨_,rfl⟩
    ·exfalso;unfold yR at Hm;split at Hm
     ·cases Hm
     ·injection Hm with Hm;have:=ends (by rw[<-Hm]) (by rw[<-Hm];simp only[jK6];omega);rename_i Lr;have h1:=Ua l {m with from_:=m.at_} c hw this;unfold yR at h1;rw[Lr]at h1;cases h1
   rw[jJ5 hw]at Hm;have L2:ZB (c::l)=if l.headD 0=61/\jc [c,61]≠0 then some (2,jc [c,61])else some (1,jc [c]):=(by rw[ZB,jJ5 hw,jJ5 Gw]);have MP:∀t n,4<=t->t<23->us src ⟨t,m.at_,m.at_ +n⟩:=fun t n h1 h2=>⟨fun e=>by
    have:=jM8 e;simp only at this;omega,fun e=>by simp only at e;omega⟩
   have ML:∀w,jc w≠0->4<=jc w/\jc w<23:=fun w hw=>by
    have h1:∀r∈signL,4<=jc r/\jc r<23:=(by decide);exact h1 w (KI w signL 4 hw)
   unfold vK at Hm;simp only at Hm;split at Hm
   ·rename_i hc;split at Hm
    ·rename_i Fq;obtain⟨e1,e2⟩:=JJ Hm;exact tok 2 (jc [c,61]) Gs Nj (by rw[L2,jJ6 ⟨Fq.2.2,Fq.1⟩]) (MP _ _ (ML _ Fq.1).1 (ML _ Fq.1).2) (ku _) Fq.2.1 ⟨_,e1⟩ e2 (by decide)
    ·rename_i Fq;obtain⟨e1,e2⟩:=JJ Hm;by_cases Fi:l.headD 0=61/\jc [c,61]≠0
     ·exfalso;have Rm:=jJe (jDM Fi.2 hc.1) Gk hc.2 e1;obtain⟨l2,rfl⟩:∃l2,l=61::l2:=by
       cases l with
       |nil=>exact absurd Fi.1 (by decide)
       |cons x l2=>exact⟨l2,by rw[show x=61 from Fi.1]⟩
      have hd1:src.drop m1.at_=61::l2:=by rw[e2,<-List.drop_drop,hd];rfl
      have F0:=UZ m1 61 l2 12 (by decide) (by decide) (by decide) (by decide) (by decide) (by decide) Rm;rw[jFs (by rw[jK6]at hlen;omega) (by omega) (by rw[hd1];exact F0)]at h;cases h
     ·exact tok 1 (jc [c]) Gs Nj (by rw[L2,jJ5 Fi]) (MP _ _ (ML _ hc.1).1 (ML _ hc.1).2) (ku _) hc.2 ⟨_,e1⟩ e2 (by decide)
   ·rename_i hc;split at Hm
    ·cases Hm
    ·rename_i Fq;rw[not_or]at Fq;have MQ:kI (jc [c,61]) m.stack=true:=(by simpa using Fq.2);split at Hm
     ·rename_i hl;injection Hm with Hm;have:=ends (by rw[<-Hm]) (by rw[hl,jN2]at hlen;rw[<-Hm];simp only;omega);rw[this]at MQ;cases MQ
     ·split at Hm
      ·cases Hm
      ·rename_i Gm;have Gm:l.headD 0=61:=(by simpa using Gm);obtain⟨e1,e2⟩:=JJ Hm;exact tok 2 (jc [c,61]) Gs Nj (by rw[L2,jJ6 ⟨Gm,Fq.1⟩]) (MP _ _ (ML _ Fq.1).1 (ML _ Fq.1).2) (ku _) MQ ⟨_,e1⟩ e2 (by decide)
theorem Vn{src:LB}{m:Mc}(h:ka src=.ok m)(h0:m.stack=[]):∃ts,Toks src 0 ts/\Acc [23,1,4,58,5] ts/\ts.length<=src.length:=by
 obtain⟨ts,i1,i2,i3⟩:=XS src (src.length+1) startM m (by have:startM.at_=0:=rfl;omega) (Nat.zero_le _) (by decide) h h0;exact⟨ts,i1,i2,i3⟩
theorem qW{src:LB}{m:Mc}(h:ka src=.ok m)(h0:m.stack=[])(hs:src.length<=60000):∃r,yh src (10*src.length+20)=some r:=by
 obtain⟨ts,i1,i2,i3⟩:=Vn h h0;exact jDq i1 i2 (by omega) _ (by omega)
theorem ZL(n:Nat)(h:n<10):yd (UInt8.ofNat (48+n))=true/\(UInt8.ofNat (48+n)).toNat=48+n:=by
 have:∀n:Fin 10,yd (UInt8.ofNat (48+n.val))=true/\(UInt8.ofNat (48+n.val)).toNat=48+n.val:=(by decide+kernel);exact this ⟨n,h⟩
theorem Kx:∀(f n:Nat),(ZN f n).all yd=true
 |0,n=>rfl
 |f+1,n=>by
  rw[ZN];split
  ·rename_i h;rw[List.all_cons,(ZL n h).1];rfl
  ·rw[List.all_append,Kx f,List.all_cons,(ZL (n% 10) (Nat.mod_lt _ (by decide))).1];rfl
theorem UK:∀(l:LB) (c:UInt8) (n:Nat),zy (l++[c]) n=10*zy l n+(c.toNat-48)
 |[],_,_=>rfl
 |a::l,c,n=>by rw[jN6,zy,zy,UK l]
theorem uh:∀(f n:Nat),n<10^f->zy (ZN f n) 0=n
 |0,n,h=>by
  have:n=0:=(by simpa using h);rw[this];rfl
 |f+1,n,h=>by
  rw[ZN];split
  ·rename_i GM;rw[zy,zy,(ZL n GM).2];omega
  ·have:=(ZL (n% 10) (Nat.mod_lt _ (by decide))).2;rw[UK,uh f (n/10) (by rw[Nat.pow_succ]at h;omega),this];omega
theorem UM:∀(f k n:Nat),0<k->n<10^k->(ZN f n).length<=k
 |0,k,n,_,_=>Nat.zero_le _
 |f+1,k,n,hk,h=>by
  rw[ZN];split
  ·exact hk
  ·rename_i GM;obtain⟨k',rfl⟩:∃k',k=k' +1:=⟨k-1,by omega⟩;have L4:0<k' :=by
    rcases Nat.eq_zero_or_pos k' with h0|h0
    ·subst h0;simp at h;omega
    ·exact h0
   have:=UM f k' (n/10) L4 (by rw[Nat.pow_succ]at h;omega);rw[jJ4,List.length_singleton];omega
theorem ui:∀(f n:Nat),0<f->0<n->n<10^f->∃c l,ZN f n=c::l/\c≠48
 |0,_,h,_,_=>absurd h (by decide)
 |f+1,n,_,h0,h=>by
  rw[ZN];split
  ·rename_i GM;refine⟨_,[],rfl,fun e=> ?_⟩;have:=(ZL n GM).2;rw[e]at this;have SL:(48:UInt8).toNat=48:=rfl;omega
  ·obtain⟨c,l,e,hc⟩:=ui f (n/10) (by
    rcases Nat.eq_zero_or_pos f with h1|h1
    ·subst h1;simp at h;omega
    ·exact h1) (by omega) (by rw[Nat.pow_succ]at h;omega)
   exact⟨c,l++[_],by rw[e];rfl,hc⟩
theorem jAD(n:Nat)(h:n<10^20):yl (ZN 20 n)=ZN 20 n:=by
 rcases Nat.eq_zero_or_pos n with h0|h0
 ·subst h0;rfl
 ·obtain⟨c,l,e,hc⟩:=ui 20 n (by decide) h0 h;rw[e];cases l with
  |nil=>rfl
  |cons b l=>rw[yl,jJ5 hc]
theorem jFS:∀(x y:LB),x.length=y.length->x.all yd=true->y.all yd=true->leB x y=false->zy y 0<zy x 0
 |[],[],_,_,_,h=>by cases h
 |a::x,b::y,hl,hx,hy,h=>by
  rw[List.all_cons,Bool.and_eq_true]at hx hy;have ha:=ZK hx.1;have hb:=ZK hy.1;simp only[jK6,Nat.add_right_cancel_iff]at hl;rw[leB]at h;rw[zy,zy,zM y,zM x];have h1:=ZM x hx.2;have h2:=ZM y hy.2;rw[hl]at h1⊢;split at h
  ·cases h
  ·split at h
   ·rename_i Wq _;have:(b.toNat-48+1)*10^y.length<=(a.toNat-48)*10^y.length:=Nat.mul_le_mul_right _ (by omega);rw[Nat.succ_mul]at this;simp only[Nat.mul_zero,Nat.zero_add];omega
   ·have ih:=jFS x y hl hx.2 hy.2 h;have:a.toNat=b.toNat:=(by omega);rw[this];omega
theorem QR(v:Nat)(h:v<=9223372036854775807):jo (Yu (v:Int))=true/\Yu (v:Int)≠ []/\zy (Yu (v:Int)) 0=v:=by
 have SM:v<10^20:=(by omega);have e:Yu (v:Int)=ZN 20 v:=rfl;rw[e];have hd:=uh 20 v SM;have hl:=UM 20 19 v (by decide) (by omega);refine⟨?_,?_,hd⟩
 ·unfold jo;rw[Kx,jAD v SM,Bool.true_and];simp only[Bool.or_eq_true,Bool.and_eq_true,decide_eq_true_eq];rcases Nat.lt_or_ge (ZN 20 v).length 19 with h1|h1
  ·exact .inl h1
  ·refine .inr ⟨by omega,?_⟩;cases Fc:leB (ZN 20 v) greatest with
   |true=>rfl
   |false=>
    have:=jFS (ZN 20 v) greatest (by have:greatest.length=19:=rfl;omega) (Kx _ _) (by decide) Fc;rw[hd,Vx]at this;omega
 ·rw[ZN];split
  ·exact List.cons_ne_nil _ _
  ·exact List.append_ne_nil_of_right_ne_nil _ (List.cons_ne_nil _ _)
theorem UA(n:Nat)(h:n<16):xC (KM n)=true/\YM (KM n)=n:=by
 have:∀n:Fin 16,xC (KM n.val)=true/\YM (KM n.val)=n.val:=(by decide+kernel);exact this ⟨n,h⟩
theorem jIr:∀c:Fin 256,((c.val=34\/c.val=92)->jDE (UInt8.ofNat c.val)=UInt8.ofNat c.val/\(UInt8.ofNat c.val).toNat≠120):=by decide+kernel
theorem Yz:∀(s:LB) (f:Nat),(s.flatMap jz).length<f->meantN f (s.flatMap jz)=some s
 |[],f,h=>by
  cases f with
  |zero=>exact absurd h (Nat.not_lt_zero _)
  |succ f=>rfl
 |c::s,f,h=>by
  rw[jL9]at h⊢;rw[jJ4]at h;obtain⟨f,rfl⟩:∃g,f=g+1:=⟨f-1,by omega⟩;have ih:=Yz s;generalize s.flatMap jz=q at h ih⊢;unfold jz at h⊢;by_cases e1:c.toNat=34\/c.toNat=92
  ·rw[jJ6 e1]at h⊢;have hc:UInt8.ofNat c.toNat=c:=UInt8.ofNat_toNat;obtain⟨h1,h2⟩:=jIr ⟨c.toNat,c.toNat_lt⟩ e1;simp only[hc]at h1 h2;show meantN (f+1) (92::c::q)=_;rw[Vv f 92 c _ (by decide) h2,ih f (by simp only[jK6,jN2]at h;omega),h1];rfl
  rw[jJ5 e1]at h⊢;by_cases e2:c.toNat=10
  ·rw[jJ6 e2]at h⊢;show meantN (f+1) (92::110::q)=_;rw[Vv f 92 110 _ (by decide) (by decide),ih f (by simp only[jK6,jN2]at h;omega)];have:c=10:=UInt8.toNat_inj.1 e2;rw[this];rfl
  rw[jJ5 e2]at h⊢;by_cases e3:c.toNat=9
  ·rw[jJ6 e3]at h⊢;show meantN (f+1) (92::116::q)=_;rw[Vv f 92 116 _ (by decide) (by decide),ih f (by simp only[jK6,jN2]at h;omega)];have:c=9:=UInt8.toNat_inj.1 e3;rw[this];rfl
  rw[jJ5 e3]at h⊢;by_cases e4:c.toNat<32\/126<c.toNat
  ·rw[jJ6 e4]at h⊢;have hlt:=c.toNat_lt;obtain⟨a1,a2⟩:=UA (c.toNat/16) (by omega);obtain⟨b1,b2⟩:=UA (c.toNat% 16) (Nat.mod_lt _ (by decide));show meantN (f+1) (92::120::KM (c.toNat/16)::KM (c.toNat% 16)::q)=_;rw[jHj f 92 120 _ _ _ (by decide) (by decide),jJ6 ⟨a1,b1⟩,ih f (by simp only[jK6,jN2]at h;omega),a2,b2,show 16*(c.toNat/16)+c.toNat% 16=c.toNat by omega,UInt8.ofNat_toNat];rfl
  ·rw[jJ5 e4]at h⊢;show meantN (f+1) (c::q)=_;rw[Jn f c _ (by omega),ih f (by simp only[jK6,jN2]at h;omega)];rfl
theorem xr(s:LB):((ji s).drop 1).take ((ji s).length-2)=s.flatMap jz:=by
 unfold ji;rw[List.drop_one,List.tail_cons,jK6,jJ4,List.length_singleton];exact List.take_left' (by omega)
theorem uH(x:Lt)(h:x.ok):Uw x.tok.1=true/\jt x.tok.1 x.tok.2=some x.nd:=by
 cases x with
 |int v=>
  obtain⟨h1,h2,h3⟩:=QR v h;refine⟨rfl,?_⟩;show jt 2 (Yu (v:Int))=_;unfold jt;rw[jJ6 rfl,jJ6 ⟨h1,h2⟩,h3];rfl
 |bool b=>cases b<;>exact⟨rfl,rfl⟩
 |text s=>
  refine⟨rfl,?_⟩;show jt 3 (ji s)=_;have hl:2<=(ji s).length:=by
   unfold ji;rw[jK6,jJ4,List.length_singleton];omega
  have hf:(s.flatMap jz).length<(ji s).length+1:=by
   unfold ji;rw[jK6,jJ4,List.length_singleton];omega
  unfold jt;rw[jJ5 (by decide),jJ5 (by decide),jJ6 rfl,jJ6 hl,xr,Yz s _ hf];rfl
 |none_=>exact⟨rfl,rfl⟩
 |name w=>exact⟨rfl,rfl⟩
end Go.Proofs.YtmmjcbbogokmfaaGreatDoor

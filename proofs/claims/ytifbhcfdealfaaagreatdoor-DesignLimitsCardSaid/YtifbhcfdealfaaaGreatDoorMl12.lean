import Derived.Test.YtifbhcfdealfaaaGreatDoorMl10
import Derived.Deep.Slices
import Derived.OpenShut
import Derived.SliceStrings
set_option maxRecDepth 100000
set_option maxHeartbeats 25600000
namespace Go.Proofs.YtifbhcfdealfaaaGreatDoor
open Go.Proofs.Tryz
theorem JY{t:Nat}(Fx:t<58):∀{st:List Nat} {f:Nat} {st' :List Nat},jz t st=true->kB t f st=some st' ->∃e n l k,st=e++n::l/\(e.all fun x=> !jE x t&&vw x)=true/\jE n t=true/\n<85/\kB t 30 [n]=some k/\st' =k++l
 |[],f,st',hm,_=>by cases hm
 |n::l,f,st',hm,ht=>by
  rw[jz]at hm;by_cases hb:jE n t=true
  ·obtain⟨k,hk⟩:=YN n t Fx hb;have h1:=yX t 30 [n] k l hk;obtain rfl:=VW ht h1;exact⟨[],n,l,k,rfl,rfl,hb,Zj Fx hb,hk,rfl⟩
  ·have Gm:jE n t=false:=(by simpa using hb);rw[jJ5 hb]at hm;split at hm
   case isFalse=>cases hm
   rename_i he;cases f with
   |zero=>cases ht
   |succ f=>
    rw[kB]at ht;have NB:=KK n he;rw[jJ5 (by omega),JD n t Gm,jN8]at ht;obtain⟨e,m,l2,k,h1,h2,h3,h4,h5,h6⟩:=JY Fx hm ht;refine⟨n::e,m,l2,k,by rw[h1];rfl,?_,h3,h4,h5,h6⟩;rw[List.all_cons,Gm,he,h2];rfl
def zG(l:List Nat):Bool:=decide (l.headD 0=60)||(decide (l.headD 0=59)&&decide ((l.drop 1).headD 0=60))
def yb:List Nat->Bool
 |[]=>true
 |n::l=>(decide (n≠10)||zG l)&&yb l
theorem YI(l b:List Nat)(h:zG l=true):zG (l++b)=true:=by
 unfold zG at h⊢
 match l,h with
 |[],h=>cases h
 |[x],h=>
  rw[Bool.or_eq_true,Bool.and_eq_true]at h⊢;rcases h with h|h
  ·exact .inl h
  ·exact absurd (jM8 h.2:0=60) (by decide)
 |x::y::l,h=>exact h
def Yo(st:List Nat):Bool:=st.all fun n=>decide (n<14\/17<n)
def jAX(st:List Nat):Bool:=yb st&&Yo st
theorem Vl:∀(a b:List Nat),yb a=true->yb b=true->yb (a++b)=true
 |[],b,_,hb=>hb
 |n::l,b,ha,hb=>by
  rw[yb,Bool.and_eq_true,Bool.or_eq_true]at ha;rw[jN6,yb,Vl l b ha.2 hb,Bool.and_true,Bool.or_eq_true];exact ha.1.imp id (YI l b)
theorem yk:∀(a b:List Nat),yb (a++b)=true->yb b=true
 |[],b,h=>h
 |n::l,b,h=>by
  rw[jN6,yb,Bool.and_eq_true]at h;exact yk l b h.2
theorem Vt(a b:List Nat):Yo (a++b)=(Yo a&&Yo b):=List.all_append
def jBw(n t:Nat):Bool:= !jE n t||decide (14<=n/\n<=17)||(match kB t 30 [n]with|some k=>jAX k|none=>true)
theorem uQ:∀n:Fin 85,∀t:Fin 58,jBw n.val t.val=true:=by decide+kernel
theorem jC0{t:Nat}(Fx:t<58){st st' :List Nat}{f:Nat}(h:jAX st=true)(hm:jz t st=true)(ht:kB t f st=some st'):jAX st' =true:=by
 obtain⟨e,n,l,k,rfl,he,hb,T7,hk,rfl⟩:=JY Fx hm ht;unfold jAX at h⊢;rw[Bool.and_eq_true,Vt,Bool.and_eq_true]at h;obtain⟨h1,-,h3⟩:=h;have h4:Yo (n::l)=(decide (n<14\/17<n)&&Yo l):=List.all_cons;rw[h4,Bool.and_eq_true]at h3;have hn:=jM8 h3.1;have h5:=uQ ⟨n,T7⟩ ⟨t,Fx⟩;simp only[jBw,hb,Bool.not_true,Bool.false_or,jK3 (show¬(14<=n/\n<=17)by omega),hk]at h5;unfold jAX at h5;rw[Bool.and_eq_true]at h5;have h6:yb l=true:=by
  have:=yk e _ h1;rw[yb,Bool.and_eq_true]at this;exact this.2
 rw[Vl k l h5.1 h6,Vt,h5.2,h3.2];rfl
def jGb(n t:Nat):Bool:= !(jE n t&&decide (t=10\/t=14\/t=16))||decide (14<=n/\n<=17)||decide (n=10)||(match kB t 30 [n]with|some [77]=>true|_=>false)
theorem jAY:∀n:Fin 85,∀t:Fin 58,jGb n.val t.val=true:=by decide+kernel
theorem jFp{t:Nat}(Ac:t=10\/t=14\/t=16){st st' :List Nat}{f:Nat}(h:jAX st=true)(hm:jz t st=true)(ht:kB t f st=some st'):jz 12 st' =false:=by
 have Fx:t<58:=(by omega);obtain⟨e,n,l,k,rfl,he,hb,T7,hk,rfl⟩:=JY Fx hm ht;unfold jAX at h;rw[Bool.and_eq_true,Vt,Bool.and_eq_true]at h;obtain⟨h1,-,h3⟩:=h;have h4:Yo (n::l)=(decide (n<14\/17<n)&&Yo l):=List.all_cons;rw[h4,Bool.and_eq_true]at h3;have hn:=jM8 h3.1;have h5:=jAY ⟨n,T7⟩ ⟨t,Fx⟩;simp only[jGb,hb,Bool.true_and,jK5 Ac,Bool.not_true,Bool.false_or,jK3 (show¬(14<=n/\n<=17)by omega),hk]at h5;by_cases Nm:n=10
 ·subst Nm;have TS:t=10:=(VH (by decide) hb).symm;subst TS;have Fu:k=[]:=by
   have:kB 10 30 [10]=some []:=(by decide);rw[this]at hk;exact(jL5 hk).symm
  subst Fu;have:=yk e _ h1;rw[yb,Bool.and_eq_true]at this;have h6:=this.1;rw[jN8];simp only[ne_eq,not_true_eq_false,decide_false,Bool.false_or]at h6;unfold zG at h6
  match l,h6 with
  |[],h6=>cases h6
  |[x],h6=>
   rw[Bool.or_eq_true,Bool.and_eq_true]at h6;have hx:x=60:=h6.elim (fun e=>jM8 e) (fun e=>absurd (jM8 e.2:0=60) (by decide));subst hx;exact JN 12 60 [] (by decide) (by decide)
  |x::y::l,h6=>
   rw[Bool.or_eq_true,Bool.and_eq_true]at h6;rcases h6 with hx|⟨hx,hy⟩
   ·obtain rfl:x=60:=jM8 hx;exact JN 12 60 (y::l) (by decide) (by decide)
   ·obtain rfl:x=59:=jM8 hx;obtain rfl:y=60:=jM8 hy;rw[jz,jJ5 (by decide),jJ6 (by decide)];exact JN 12 60 l (by decide) (by decide)
 ·simp only[jK3 Nm,Bool.false_or]at h5;have Fu:k=[77]:=by
   split at h5
   ·rename_i e2;injection e2
   ·cases h5
  subst Fu;exact JN 12 77 l (by decide) (by decide)
theorem Yh{src:LB}{p n:Nat}{ts:List Tk}(hs:jQ false (src.drop p)=n+jQ false (src.drop (p+n)))(h:Toks src (p+n) ts):Toks src p ts:=by
 cases h with
 |done h1=>exact .done (by omega)
 | @more _ k x ts hk hlt hx hl ht=>exact .more (by omega) hlt hx hl ht
theorem Jm:∀(l:LB),jQ true l=(l.takeWhile fun c=> !lfC c).length+jQ false (l.drop (l.takeWhile fun c=> !lfC c).length)
 |[]=>rfl
 |c::l=>by
  by_cases hc:lfC c=true
  ·rw[jQ,jJ6 hc,List.takeWhile_cons,jJ5 (by rw[hc];decide),jN2,List.drop_zero,Nat.zero_add];have hb:vM c=true:=by
    have:=jM8 hc;unfold vM;rw[jK5 (by omega)]
   rw[jQ,jJ6 hb]
  ·rw[jQ,jJ5 hc,List.takeWhile_cons,jJ6 (by simpa using hc),jK6,List.drop_succ_cons,Jm l];omega
theorem Jj{src:LB}{p n t:Nat}{l:LB}(h:src.drop p=l):jAn src ⟨t,p,p+n⟩=l.take n:=by
 unfold jAn;simp only;rw[List.drop_take,h,Nat.add_sub_cancel_left]
theorem Jk(w:LB):∀(l:List LB) (k:Nat),jq k w l≠0->w∈l
 |[],k,h=>absurd rfl h
 |r::l,k,h=>by
  rw[jq]at h;split at h
  ·rename_i e;rw[e];exact List.mem_cons_self
  ·exact jN1 _ (Jk w l _ h)
theorem uK:∀r∈resL,Zr (r.headD 0)=true:=by decide
theorem Zv{w:LB}(h:vO w≠0):Zr (w.headD 0)=true:=uK w (Jk w resL 23 h)
theorem Xf{c:UInt8}(h:Zr c=true):yU c=false:=by
 unfold Zr at h;have:=jM8 h;unfold yU;rw[jK3 (by omega)]
theorem uL{w:LB}(hd:yU (w.headD 0)=true)(h:vZ w=true):jZ w=true:=by
 unfold vZ at h;rw[Bool.or_eq_true,Bool.or_eq_true,Bool.and_eq_true]at h;rcases h with(h|h)|h
 ·exact h.2
 ·have:=Xf (Zv (jM8 h));rw[this]at hd;cases hd
 ·unfold kY ji at h;rw[Bool.and_eq_true,Bool.and_eq_true,Bool.and_eq_true]at h;have:=Xf h.1.1.2;rw[this]at hd;cases hd
theorem qW{w:LB}(h:jv w=1)(hp:vZ w=true):kY w=true:=by
 unfold jv at h;split at h
 ·cases h
 ·rename_i hd;split at h
  ·rename_i h0;unfold vZ at hp;simp only[Bool.or_eq_true,Bool.and_eq_true,decide_eq_true_eq]at hp;rcases hp with(hp|hp)|hp
   ·exact absurd hp.1 hd
   ·exact absurd h0 hp
   ·exact hp
  ·rename_i h0;have h4:∀r∈resL,vO r≠1:=(by decide);exact absurd h (h4 _ (Jk _ resL 23 h0))
theorem XK{w:LB}(h:jv w=2):yU (w.headD 0)=true:=by
 unfold jv at h;split at h
 ·assumption
 ·split at h
  ·cases h
  ·rename_i h1 h2;exfalso;have h3:23<=vO w\/vO w=0:=by
    unfold vO;generalize resL=L
    suffices∀(l:List LB) (k:Nat),23<=k->23<=jq k w l\/jq k w l=0 from this L 23 (jL3 _)
    intro l
    induction l with
    |nil=>exact fun k _=>.inr rfl
    |cons r l ih=>
     intro k hk;rw[jq];split
     ·exact .inl hk
     ·exact ih (k+1) (by omega)
   omega
theorem KG(f:Nat)(c:UInt8)(l:LB)(h:¬c.toNat=92):meantN (f+1) (c::l)=(meantN f l).map (c:: ·):=by
 rw[meantN.eq_def];exact jJ5 h
theorem jB0(f:Nat)(c:UInt8)(h:c.toNat=92):meantN (f+1) [c]=none:=by
 rw[meantN.eq_def];exact jJ6 h
def jBG(d:UInt8):UInt8:=if d.toNat=110 then 10 else if d.toNat=116 then 9 else d
theorem xW(f:Nat)(c d:UInt8)(l:LB)(h:c.toNat=92)(hd:¬d.toNat=120):meantN (f+1) (c::d::l)=(meantN f l).map (jBG d:: ·):=by
 rw[meantN.eq_def];refine(jJ6 h).trans ?_;unfold jBG;by_cases h1:d.toNat=110
 ·simp only[jJ6 h1]
 by_cases h2:d.toNat=116
 ·simp only[jJ5 h1,jJ6 h2]
 ·simp only[jJ5 h1,jJ5 h2,jJ5 hd]
theorem jFN(f:Nat)(c d a b:UInt8)(l:LB)(h:c.toNat=92)(hd:d.toNat=120):meantN (f+1) (c::d::a::b::l)=if Vi a=true/\Vi b=true then(meantN f l).map (UInt8.ofNat (16*VI a+VI b):: ·)else none:=by
 rw[meantN.eq_def];refine(jJ6 h).trans ?_;simp only;rw[jJ5 (by omega),jJ5 (by omega),jJ6 hd]
theorem jEn(f:Nat)(c d:UInt8)(h:c.toNat=92)(hd:d.toNat=120):meantN (f+1) [c,d]=none:=by
 rw[meantN.eq_def];refine(jJ6 h).trans ?_;simp only;rw[jJ5 (by omega),jJ5 (by omega),jJ6 hd]
theorem jEm(f:Nat)(c d a:UInt8)(h:c.toNat=92)(hd:d.toNat=120):meantN (f+1) [c,d,a]=none:=by
 rw[meantN.eq_def];refine(jJ6 h).trans ?_;simp only;rw[jJ5 (by omega),jJ5 (by omega),jJ6 hd]
theorem yi:∀(f g:Nat) (l v:LB),f<=g->meantN f l=some v->meantN g l=some v
 |0,g,l,v,_,h=>by cases h
 |f+1,0,l,v,hg,_=>by omega
 |f+1,g+1,[],v,_,h=>h
 |f+1,g+1,c::l,v,hg,h=>by
  have ih:=fun l v=>yi f g l v (by omega);have im:∀(l:LB) (w:UInt8),(meantN f l).map (w:: ·)=some v->(meantN g l).map (w:: ·)=some v:=fun l w e=>by
   obtain⟨x,hx,Pt⟩:=jM4 e;rw[ih l x hx];exact congrArg some Pt
  by_cases hc:c.toNat=92
  ·match l,h with
   |[],h=>rw[jB0 f c hc]at h;cases h
   |d::l,h=>
    by_cases hd:d.toNat=120
    ·match l,h with
     |[],h=>rw[jEn f c d hc hd]at h;cases h
     |[a],h=>rw[jEm f c d a hc hd]at h;cases h
     |a::b::l,h=>
      rw[jFN f c d a b l hc hd]at h;rw[jFN g c d a b l hc hd];split at h
      ·rename_i h4;rw[jJ6 h4];exact im _ _ h
      ·cases h
    ·rw[xW f c d l hc hd]at h;rw[xW g c d l hc hd];exact im _ _ h
  ·rw[KG f c l hc]at h;rw[KG g c l hc];exact im _ _ h
theorem jCX(c:UInt8)(l:LB)(h:c.toNat=34):strLen (c::l)=some 1:=by
 rw[strLen.eq_def];exact jJ6 h
theorem jBk(c d:UInt8)(l:LB)(h:c.toNat=92):strLen (c::d::l)=(strLen l).map (· +2):=by
 rw[strLen.eq_def];exact(jJ5 (by omega)).trans (jJ6 h)
theorem Vw(c:UInt8)(l:LB)(h:¬c.toNat=34)(h2:¬c.toNat=92):strLen (c::l)=(strLen l).map (· +1):=by
 rw[strLen.eq_def];exact(jJ5 h).trans (jJ5 h2)
theorem zu:∀(n:Nat) (l:LB) (q k:Nat),l.length<=n->jj l q 4=.shut k->∃j v,strLen l=some (j+1)/\k=q+(j+1)/\j<l.length/\meantN (j+1) (l.take j)=some v
 |_,[],q,k,_,h=>by cases h
 |0,c::l,q,k,hn,_=>by rw[jK6]at hn;omega
 |n+1,c::l,q,k,hn,h=>by
  rw[jK6]at hn;rw[jj,jJ6 rfl]at h;by_cases h34:c.toNat=34
  ·rw[jJ6 h34]at h;injection h with h;refine⟨0,[],?_,by omega,by simp,rfl⟩;exact jCX c l h34
  rw[jJ5 h34]at h;by_cases h92:c.toNat=92
  ·rw[jJ6 h92]at h;cases l with
   |nil=>cases h
   |cons d l=>
    rw[jK6]at hn;rw[jj,jJ5 (by decide),jJ6 rfl]at h;by_cases hx:d.toNat=120
    ·rw[jJ6 hx]at h;cases l with
     |nil=>cases h
     |cons a l=>
      rw[jj,jJ5 (by decide),jJ5 (by decide)]at h;by_cases ha:Vi a=true
      ·rw[jJ5 (by rw[ha];decide),jJ5 (by decide)]at h;cases l with
       |nil=>cases h
       |cons b l=>
        rw[jj,jJ5 (by decide),jJ5 (by decide)]at h;by_cases hb:Vi b=true
        ·rw[jJ5 (by rw[hb];decide),jJ6 (by decide)]at h;simp only[jK6]at hn;obtain⟨j,v,e1,e2,e3,e4⟩:=zu n l _ k (by omega) h;have Fe:∀y,Vi y=true->¬y.toNat=34/\¬y.toNat=92:=fun y hy=>by
          unfold Vi yU at hy;rw[Bool.or_eq_true]at hy;rcases hy with e|e<;>(have:=jM8 e;omega)
         refine⟨j+4,UInt8.ofNat (16*VI a+VI b)::v,?_,by omega,by simp only[jK6];omega,?_⟩
         ·rw[jBk c d _ h92,Vw a _ (Fe a ha).1 (Fe a ha).2,Vw b _ (Fe b hb).1 (Fe b hb).2,e1];rfl
         ·simp only[List.take_succ_cons];rw[jFN (j+4) c d a b _ h92 hx,jJ6 ⟨ha,hb⟩,yi (j+1) (j+4) _ v (by omega) e4];rfl
        ·rw[jJ6 (by simpa using hb)]at h;cases h
      ·rw[jJ6 (by simpa using ha)]at h;cases h
    ·rw[jJ5 hx]at h;by_cases hd:d.toNat=34\/d.toNat=92\/d.toNat=110\/d.toNat=116
     ·rw[jJ6 hd]at h;obtain⟨j,v,e1,e2,e3,e4⟩:=zu n l _ k (by omega) h;have hm:=yi (j+1) (j+2) _ v (by omega) e4;have F3:strLen (c::d::l)=some (j+2+1):=by
       rw[jBk c d l h92,e1];rfl
      have Fh:∃v',meantN (j+2+1) ((c::d::l).take (j+2))=some v' :=by
       simp only[List.take_succ_cons];rw[xW (j+2) c d _ h92 hx,hm];exact⟨_,rfl⟩
      obtain⟨v',A8⟩:=Fh;exact⟨j+2,v',F3,by omega,by simp only[jK6];omega,A8⟩
     ·rw[jJ5 hd]at h;cases h
  ·rw[jJ5 h92]at h;by_cases hr:c.toNat<32\/126<c.toNat
   ·rw[jJ6 hr]at h;cases h
   ·rw[jJ5 hr]at h;obtain⟨j,v,e1,e2,e3,e4⟩:=zu n l _ k (by omega) h;refine⟨j+1,c::v,?_,by omega,by simp only[jK6];omega,?_⟩
    ·rw[Vw c l h34 h92,e1];rfl
    ·simp only[List.take_succ_cons];rw[KG (j+1) c _ h92,e4];rfl
theorem yt{t:Nat}{m m' :Mc}{k:Nat}(h:vI t m k=.ok m'):kB t (m.stack.length+100) m.stack=some m'.stack/\m'.at_=k:=by
 unfold vI at h;split at h
 ·rename_i s hs;injection h with h;rw[<-h];exact⟨hs,rfl⟩
 ·cases h
theorem uG(l:LB)(m:Mc)(c:UInt8)(hw:jR c=true)(hs:m.stack=[]):vU m (c::l)=.error m.at_:=by
 have h1:yn [] resL 0=[]:=(by decide);have h2:∀w:LB,UE false false [] w=false:=fun w=>rfl;unfold vU;rw[hs,h1,show jz 1 []=false from rfl,show jz 2 []=false from rfl,vD,jJ5 (by rw[hw];decide),jJ5 (by rw[h2];decide)]
theorem QR:∀c:Fin 256,(decide (jf [UInt8.ofNat c.val,61]=0)||(decide (jf [UInt8.ofNat c.val]=0)||(decide (jf [UInt8.ofNat c.val]=10)||(decide (jf [UInt8.ofNat c.val]=14)||decide (jf [UInt8.ofNat c.val]=16)))))=true:=by decide+kernel
theorem Ux{c:UInt8}(h2:jf [c,61]≠0)(h1:jf [c]≠0):jf [c]=10\/jf [c]=14\/jf [c]=16:=by
 have h:=QR ⟨c.toNat,c.toNat_lt⟩;simp only[UInt8.ofNat_toNat]at h;simp only[jK3 h2,jK3 h1,Bool.false_or,Bool.or_eq_true,decide_eq_true_eq]at h;exact h
theorem uI{src:LB}{m m' :Mc}{f:Nat}(he:src.length<=m.at_)(h:VZ src f m=.ok m'):m' =m:=by
 cases f with
 |zero=>rw[VZ]at h;injection h with h;exact h.symm
 |succ f=>rw[VZ,jJ6 he]at h;injection h with h;exact h.symm
theorem jCY{src:LB}{m:Mc}{f k:Nat}(hlt:m.at_ <src.length)(hf:0<f)(hs:vP m (src.drop m.at_)=.error k):VZ src f m=.error k:=by
 cases f with
 |zero=>omega
 |succ f=>rw[VZ,jJ5 (by omega),hs]
theorem XL(w:LB):jv w≠3:=fun h3=>by
 unfold jv at h3;split at h3
 ·cases h3
 ·split at h3
  ·cases h3
  ·have h4:∀r∈resL,vO r≠3:=(by decide);rename_i h5;exact h4 _ (Jk _ resL 23 h5) h3
theorem jCQ{src:LB}{p:Nat}{c:UInt8}{l:LB}{n t:Nat}{ts:List Tk}(hd:src.drop p=c::l)(hb:vM c=false)(Gv:¬c.toNat=35)(hx:qa (c::l)=some (n,t))(hl:Um src ⟨t,p,p+n⟩)(h:Toks src (p+n) ts):Toks src p (⟨t,p,p+n⟩::ts):=by
 have hs:jQ false (c::l)=0:=(by rw[jQ,jJ5 (by rw[hb];decide),jJ5 Gv]);have hlen:=congrArg List.length hd;rw[jK8,jK6]at hlen;exact .more (x:=(n,t)) (by rw[hd,hs];rfl) (by omega) (by rw[hd];exact hx) hl h
theorem xH(src:LB):∀(f:Nat) (m m' :Mc),src.length+1<=f+m.at_ ->m.at_ <=src.length->jAX m.stack=true->VZ src f m=.ok m' ->m'.stack=[]->∃ts,Toks src m.at_ ts/\Acc m.stack ts/\ts.length<=src.length-m.at_
 |0,m,m',hf,ha,_,_,_=>by omega
 |f+1,m,m',hf,ha,Pv,h,h0=>by
  rw[VZ]at h;by_cases hlt:src.length<=m.at_
  ·rw[jJ6 hlt]at h;injection h with h;rw[<-h]at h0;rw[h0];exact⟨[],.done (by omega),.done,Nat.zero_le _⟩
  rw[jJ5 hlt]at h;obtain⟨c,l,hd⟩:∃c l,src.drop m.at_=c::l:=by
   cases hd:src.drop m.at_ with
   |nil=>
    have:=congrArg List.length hd;rw[jK8,jN2]at this;omega
   |cons c l=>exact⟨c,l,rfl⟩
  have hlen:=congrArg List.length hd;rw[jK8,jK6]at hlen;rw[hd]at h;cases F3:vP m (c::l)with
  |error k=>rw[F3]at h;cases h
  |ok m1=>
   rw[F3]at h;simp only at h;have Ar:=Vs F3;rw[jK6]at Ar;have ih:=fun(TZ:jAX m1.stack=true)=>xH src f m1 m' (by omega) (by omega) TZ h h0
   --a jh
   have tok:∀(n t:Nat),vM c=false->¬c.toNat=35->qa (c::l)=some (n,t)->Um src ⟨t,m.at_,m.at_ +n⟩->t<58->jz t m.stack=true->(∃g,kB t g m.stack=some m1.stack)->m1.at_=m.at_ +n->1<=n->∃ts,Toks src m.at_ ts/\Acc m.stack ts/\ts.length<=src.length-m.at_:=by
    rintro n t hb Gv hx hl Fx hm ⟨g,hg⟩ h1 hn;obtain⟨ts,i1,i2,i3⟩:=ih (jC0 Fx Pv hm hg);rw[h1]at i1 i3;exact⟨_,jCQ hd hb Gv hx hl i1,.tak (k:=⟨t,m.at_,m.at_ +n⟩) Fx hm hg i2,by rw[jK6];omega⟩
   have ends:m1.stack=m.stack->src.length<=m1.at_ ->m.stack=[]:=fun e1 e2=>by
    rw[<-e1,<-uI e2 h];exact h0
   rw[vP]at F3;by_cases hb:vM c=true
   ·rw[jJ6 hb]at F3;injection F3 with F3;obtain⟨ts,i1,i2,i3⟩:=ih (by rw[<-F3];exact Pv);rw[<-F3]at i1 i2 i3;simp only at i1 i2 i3;refine⟨ts,Yh (n:=1) ?_ i1,i2,by omega⟩;rw[show src.drop (m.at_ +1)=l by rw[<-List.drop_drop,hd];rfl,hd,jQ,jJ6 hb,Nat.add_comm]
   rw[jJ5 hb]at F3;have Gm:vM c=false:=(by simpa using hb);by_cases Gv:c.toNat=35
   ·rw[jJ6 Gv]at F3;unfold vS at F3;simp only at F3;injection F3 with F3;have X7:m1.stack=m.stack/\m1.at_=m.at_ +((c::l).takeWhile fun c=> !lfC c).length:=by
     split at F3
     ·rename_i e;rw[<-F3];exact⟨rfl,by rw[e]⟩
     ·rw[<-F3];exact⟨rfl,rfl⟩
    obtain⟨ts,i1,i2,i3⟩:=ih (by rw[X7.1];exact Pv);rw[X7.1]at i2;rw[X7.2]at i1 i3;refine⟨ts,Yh ?_ i1,i2,by omega⟩;have Pz:lfC c=false:=by unfold lfC;rw[jK3 (by omega)]
    rw[<-List.drop_drop,hd,List.takeWhile_cons,jJ6 (by rw[Pz];rfl),jK6,List.drop_succ_cons,jQ,jJ5 hb,jJ6 Gv,Jm l];omega
   rw[jJ5 Gv]at F3;by_cases h34:c.toNat=34
   ·rw[jJ6 h34]at F3;unfold ke at F3;cases hm:jz 3 m.stack with
    |false=>rw[hm,jJ6 rfl]at F3;cases F3
    |true=>
     rw[hm,jJ5 (by decide)]at F3;simp only[List.drop_one,List.tail_cons]at F3;split at F3
     ·cases F3
     ·rename_i k hk;obtain⟨e1,e2⟩:=yt F3;obtain⟨j,v,s1,s2,s3,s4⟩:=zu l.length l _ k (jL3 _) hk;have hw:jR c=false:=by
       unfold jR Zr yU;rw[jK3 (by omega),jK3 (by omega),jK3 (by omega)];rfl
      refine tok (j+2) 3 Gm Gv ?_ ?_ (by decide) hm ⟨_,e1⟩ (by omega) (by omega)
      ·rw[qa,jJ5 (by rw[hw];decide),jJ6 h34,s1];rfl
      ·refine⟨fun _=> ?_,fun e=>absurd e (by simp only;decide),fun _=> ?_⟩
       case refine_2=>
        have PG:src.drop (m.at_ +1)=l:=by rw[<-List.drop_drop,hd];rfl
        have hlen:l.length<src.length:=by rw[<-PG,jK8];have:=congrArg List.length hd;rw[jK8,jK6]at this;omega
        obtain⟨g1,g2⟩:=Jy src.length l _ k hlen hk;simp only[PG,g2]
        congr 1
        omega
       rw[Jj hd];have hL:(c::l).take (j+2)=c::l.take (j+1):=(by rw[List.take_succ_cons]);have NU:((c::l).take (j+2)).length=j+2:=by rw[jK9,jK6];omega
       have Fz:(((c::l).take (j+2)).drop 1).take (((c::l).take (j+2)).length-2)=l.take j:=by
        rw[NU,hL,List.drop_one,List.tail_cons,List.take_take]
        congr 1
        omega
       show∃n,kJ 3 _=some n;unfold kJ;rw[jJ5 (by decide),jJ5 (by decide),jJ6 rfl,jJ6 (by rw[NU];omega),Fz,NU,yi (j+1) (j+2+1) _ v (by omega) s4];exact⟨_,rfl⟩
     ·rename_i e he;injection F3 with F3;have:=ends (by rw[<-F3]) (by rw[<-F3];simp only[jK6];omega);rw[this]at hm;cases hm
   rw[jJ5 h34]at F3;by_cases hw:jR c=true
   ·rw[jJ6 hw]at F3;unfold kU at F3;simp only at F3;split at F3
    ·rename_i hc;obtain⟨e1,e2⟩:=yt F3;simp only at e1;have D4:(c::l).take ((c::l).takeWhile jR).length=(c::l).takeWhile jR:=(List.prefix_iff_eq_take.1 (List.takeWhile_prefix _)).symm;refine tok _ (jv ((c::l).takeWhile jR)) Gm Gv (by rw[qa,jJ6 hw]) ?_ (zB _) hc.2.2 ⟨_,e1⟩ e2 (kV jR c l hw);refine⟨fun hlt=> ?_,fun Nr=>by rw[Jj hd,D4];exact qW Nr hc.2.1,fun e=>absurd e (XL _)⟩;rw[Jj hd,D4];simp only at hlt⊢;have Fe:(c::l).takeWhile jR≠ []:=List.ne_nil_of_length_pos (kV jR c l hw);unfold kJ;by_cases h2:jv ((c::l).takeWhile jR)=2
     ·rw[jJ6 h2,jJ6 ⟨uL (XK h2) hc.2.1,Fe⟩];exact⟨_,rfl⟩
     rw[jJ5 h2];by_cases h46:jv ((c::l).takeWhile jR)=46\/jv ((c::l).takeWhile jR)=47
     ·rw[jJ6 h46];exact⟨_,rfl⟩
     rw[jJ5 h46];by_cases h3:jv ((c::l).takeWhile jR)=3
     ·exfalso;unfold jv at h3;split at h3
      ·cases h3
      ·split at h3
       ·cases h3
       ·have h4:∀r∈resL,vO r≠3:=(by decide);rename_i h5;exact h4 _ (Jk _ resL 23 h5) h3
     rw[jJ5 h3];by_cases h1:jv ((c::l).takeWhile jR)=1
     ·rw[jJ6 h1];exact⟨_,rfl⟩
     rw[jJ5 h1];exact⟨_,rfl⟩
    ·exfalso;unfold vU at F3;split at F3
     ·cases F3
     ·injection F3 with F3;have:=ends (by rw[<-F3]) (by rw[<-F3];simp only[jK6];omega);rename_i SM;have h1:=uG l {m with from_:=m.at_} c hw this;unfold vU at h1;rw[SM]at h1;cases h1
   rw[jJ5 hw]at F3;have LI:qa (c::l)=if l.headD 0=61/\jf [c,61]≠0 then some (2,jf [c,61])else some (1,jf [c]):=(by rw[qa,jJ5 hw,jJ5 h34]);have WR:∀t n,4<=t->t<23->Um src ⟨t,m.at_,m.at_ +n⟩:=fun t n h1 h2=>⟨fun e=>by
    have:=jM8 e;simp only at this;omega,(fun e=>by simp only at e;omega),fun e=>by simp only at e;omega⟩
   have Pu:∀w,jf w≠0->4<=jf w/\jf w<23:=fun w hw=>by
    have h1:∀r∈signL,4<=jf r/\jf r<23:=(by decide);exact h1 w (Jk w signL 4 hw)
   unfold kf at F3;simp only at F3;split at F3
   ·rename_i hc;split at F3
    ·rename_i Fm;obtain⟨e1,e2⟩:=yt F3;exact tok 2 (jf [c,61]) Gm Gv (by rw[LI,jJ6 ⟨Fm.2.2,Fm.1⟩]) (WR _ _ (Pu _ Fm.1).1 (Pu _ Fm.1).2) (kD _) Fm.2.1 ⟨_,e1⟩ e2 (by decide)
    ·rename_i Fm;obtain⟨e1,e2⟩:=yt F3;by_cases LP:l.headD 0=61/\jf [c,61]≠0
     ·exfalso;have Rk:=jFp (Ux LP.2 hc.1) Pv hc.2 e1;obtain⟨l2,rfl⟩:∃l2,l=61::l2:=by
       cases l with
       |nil=>exact absurd LP.1 (by decide)
       |cons x l2=>exact⟨l2,by rw[show x=61 from LP.1]⟩
      have PG:src.drop m1.at_=61::l2:=by rw[e2,<-List.drop_drop,hd];rfl
      have F5:=uF m1 61 l2 12 (by decide) (by decide) (by decide) (by decide) (by decide) (by decide) Rk;rw[jCY (by rw[jK6]at hlen;omega) (by omega) (by rw[PG];exact F5)]at h;cases h
     ·exact tok 1 (jf [c]) Gm Gv (by rw[LI,jJ5 LP]) (WR _ _ (Pu _ hc.1).1 (Pu _ hc.1).2) (kD _) hc.2 ⟨_,e1⟩ e2 (by decide)
   ·rename_i hc;split at F3
    ·cases F3
    ·rename_i Fm;rw[not_or]at Fm;have Ms:jz (jf [c,61]) m.stack=true:=(by simpa using Fm.2);split at F3
     ·rename_i hl;injection F3 with F3;have:=ends (by rw[<-F3]) (by rw[hl,jN2]at hlen;rw[<-F3];simp only;omega);rw[this]at Ms;cases Ms
     ·split at F3
      ·cases F3
      ·rename_i Gr;have Gr:l.headD 0=61:=(by simpa using Gr);obtain⟨e1,e2⟩:=yt F3;exact tok 2 (jf [c,61]) Gm Gv (by rw[LI,jJ6 ⟨Gr,Fm.1⟩]) (WR _ _ (Pu _ Fm.1).1 (Pu _ Fm.1).2) (kD _) Ms ⟨_,e1⟩ e2 (by decide)
theorem QD{src:LB}{m:Mc}(h:kC src=.ok m)(h0:m.stack=[]):∃ts,Toks src 0 ts/\Acc [23,1,4,58,5] ts/\ts.length<=src.length:=by
 obtain⟨ts,i1,i2,i3⟩:=xH src (src.length+1) startM m (by have:startM.at_=0:=rfl;omega) (Nat.zero_le _) (by decide) h h0;exact⟨ts,i1,i2,i3⟩
theorem jAN{src:LB}{m:Mc}(h:kC src=.ok m)(h0:m.stack=[])(hs:src.length<=60000):∃r,Jb src (10*src.length+20)=some r:=by
 obtain⟨ts,i1,i2,i3⟩:=QD h h0;exact jAO i1 i2 (by omega) _ (by omega)
open Go.RowKit Go.ChangeShapes
section
variable{H:Type}
theorem jBR(d:DataW H):1<=Rows.uptoBulk d:=by
 cases d with
 |lit l=>cases l<;>simp[Rows.uptoBulk]
 |nil=>simp[Rows.uptoBulk]
 |ptr d=>simp[Rows.uptoBulk]
 |slice elems spare=>simp[Rows.uptoBulk]
 |agg parts=>simp[Rows.uptoBulk]
 |iface t d=>simp[Rows.uptoBulk]
 |map entries=>simp[Rows.uptoBulk]
 |held h=>simp[Rows.uptoBulk]
theorem Zh{d:DataW H}{l:List (DataW H)}(h:d∈l):Rows.uptoBulk d<=Rows.uptoBulkAll l:=by
 induction l with
 |nil=>cases h
 |cons x r ih=>
  simp only[Rows.uptoBulkAll];cases jN4 h with
  |inl e=>subst e;omega
  |inr e=>have:=ih e;omega
theorem YX(l:List (DataW H)):l.length<=Rows.uptoBulkAll l:=by
 induction l with
 |nil=>simp[Rows.uptoBulkAll]
 |cons x r ih=>have:=jBR x;simp only[Rows.uptoBulkAll,jK6];omega
variable{enc:TypeId×Value->H}{w:World}{fuel:Nat}{cs:List Value}{x:DataW H×List MemPlace}
abbrev Tr(enc:TypeId×Value->H)(w:World)(fuel:Nat)(t:TypeId)(cs:List Value)(x:DataW H×List MemPlace):Prop:=DataW.trod enc prog w 0 (fun _=>true) true fuel t cs=some x
theorem jCm{t:TypeId}{fs:Array Field}(ht:prog.underlying t=some (.struct fs))(h:Tr enc w fuel t cs x):
  cs.length=prog.cellsOf t/\∀(i:Nat) (ft:TypeId) (o:Nat),(fs[i]?).map (fun f=>(f.type,f.offset))=some (ft,o)->∃n y,Tr enc w n ft ((cs.drop o).take (prog.cellsOf ft)) y/\Rows.uptoBulk y.1+1<=Rows.uptoBulk x.1:=by
 obtain⟨xs,n,_,rfl,hl,hlen,hf⟩:=DataW.trod_struct ht h;refine⟨hl,fun i ft o hi=> ?_⟩;obtain⟨f,Dn,e⟩:=jM4 hi;injection e with e1 e2;subst e1 e2;have hlt:i<xs.length:=by rw[hlen];exact(Array.getElem?_eq_some_iff.1 Dn).1
 have h1:=hf i f Dn;rw[jJ9 hlt]at h1;refine⟨n,xs[i],h1,?_⟩;have:=Zh (List.mem_map_of_mem (f:=fun y:DataW H×List MemPlace=>y.1) (jL6 hlt));simp only[Rows.uptoBulk];omega
theorem jFK{t:TypeId}(ht:prog.underlying t=some (.int .i64))(h:Tr enc w fuel t cs x):∃n:Int,cs=[.int .i64 n]/\ -9223372036854775808<=n/\n<=9223372036854775807:=by
 obtain⟨n,rfl,_,hw⟩:=DataW.trod_int ht h;refine⟨n,rfl,?_⟩;simpa [Lit.wf,IntKind.min,IntKind.max,IntKind.signed,IntKind.bits]using hw
theorem XB(h:Tr enc w fuel 9 cs x):∃s:ByteArray,cs=[.string s]/\s.size+1<=Rows.uptoBulk x.1:=by
 obtain⟨s,rfl,rfl,hw⟩:=DataW.trod_string underlying9 h;refine⟨s,rfl,?_⟩;have e:s.data.toList.length=s.size:=by rw[Array.length_toList];rfl
 simp only[Rows.uptoBulk];omega
theorem jDh{n:Int}(h:(Lit.int .u8 n).wf=true):((UInt8.ofNat n.toNat).toNat:Int)=n:=by
 have h1:0<=n/\n<=255:=(by simpa [Lit.wf,IntKind.min,IntKind.max,IntKind.signed,IntKind.bits]using h);rw[UInt8.toNat_ofNat'];omega
theorem uP(h:Tr enc w fuel 22 cs x):∃A c,∃l:LB,cs=[.slice A l.length c]/\Rd w 1 A l.length (l.map bv)/\l.length<=c/\l.length+1<=Rows.uptoBulk x.1:=by
 rcases open_ints underlying22 underlying5 (by kernel_rfl) h with⟨rfl,rfl⟩|⟨a,len,cap,zs,rfl,_,Dj,_,Ps,rfl,Ff,D5⟩
 ·exact⟨none,0,[],rfl,Rd.none_,jL3 _,by simp[Rows.uptoBulk]⟩
 ·simp only[if_true]at Ps;have hl:((zs.take len).map fun z=>UInt8.ofNat z.toNat).length=len:=by simp;omega
  refine⟨some a,cap,(zs.take len).map fun z=>UInt8.ofNat z.toNat,by rw[hl],?_,by omega,?_⟩
  ·rw[hl];refine Rd.of_add (by rw[jK7,hl,Nat.mul_one]) (by decide) (fun j u hu=> ?_);have hj:j<len:=by
    have:=(jM5 hu).1;rw[jK7,hl]at this;exact this
   have Wy:j<zs.length:=(by omega);rw[Ff j Wy];rw[jM1,jM1,List.getElem?_take,jJ6 hj,jJ9 Wy]at hu;simp only[Option.map_some,Option.some.injEq]at hu;rw[<-hu];simp only[bv,jDh (D5 _ (jL6 Wy)),List.getD,jJ9 Wy,Option.getD_some]
  ·have:=YX (lits (H:=H) .u8 (zs.take len));rw[hl];simp only[Rows.uptoBulk];simp only[lits,jK7,jK9]at this;simp only[lits];omega
theorem jDw(h:Tr enc w fuel 45 cs x):∃A c,∃l:List ByteArray,cs=[.slice A l.length c]/\Rd w 1 A l.length (l.map sv)/\l.length<=c/\l.length+1<=Rows.uptoBulk x.1/\∀s∈l,s.size+1<=Rows.uptoBulk x.1:=by
 rcases open_strings underlying45 underlying9 (by kernel_rfl) h with⟨rfl,rfl⟩|⟨a,len,cap,ss,rfl,_,Dj,_,Ps,rfl,Ff,_⟩
 ·exact⟨none,0,[],rfl,Rd.none_,jL3 _,by simp[Rows.uptoBulk],fun s hs=>by cases hs⟩
 ·simp only[if_true]at Ps;have hl:(ss.take len).length=len:=by simp;omega
  refine⟨some a,cap,ss.take len,by rw[hl],?_,by omega,?_,fun s hs=> ?_⟩
  ·rw[hl];refine Rd.of_add (by rw[jK7,hl,Nat.mul_one]) (by decide) (fun j u hu=> ?_);have hj:j<len:=by
    have:=(jM5 hu).1;rw[jK7,hl]at this;exact this
   have Wy:j<ss.length:=(by omega);rw[Ff j Wy];rw[jM1,List.getElem?_take,jJ6 hj,jJ9 Wy]at hu;simp only[Option.map_some,Option.some.injEq]at hu;rw[<-hu];simp only[sv,List.getD,jJ9 Wy,Option.getD_some]
  ·have:=YX (strs (H:=H) (ss.take len));rw[hl];simp only[Rows.uptoBulk];simp only[strs,jK7,jK9]at this;simp only[strs];omega
  ·have h1:=Zh (List.mem_map_of_mem (f:=fun s=>DataW.lit (H:=H) (.string s.data.toList)) hs);have e:s.data.toList.length=s.size:=by rw[Array.length_toList];rfl
   simp only[Rows.uptoBulk]at h1;simp only[Rows.uptoBulk,strs];omega
theorem jEY(h:Tr enc w fuel 37 cs x):∃A c,∃l:List Int,cs=[.slice A l.length c]/\Rd w 1 A l.length (l.map iv)/\l.length<=c/\l.length+1<=Rows.uptoBulk x.1:=by
 rcases open_ints underlying37 underlying3 (by kernel_rfl) h with⟨rfl,rfl⟩|⟨a,len,cap,zs,rfl,_,Dj,_,Ps,rfl,Ff,D5⟩
 ·exact⟨none,0,[],rfl,Rd.none_,jL3 _,by simp[Rows.uptoBulk]⟩
 ·simp only[if_true]at Ps;have hl:(zs.take len).length=len:=by simp;omega
  refine⟨some a,cap,zs.take len,by rw[hl],?_,by omega,?_⟩
  ·rw[hl];refine Rd.of_add (by rw[jK7,hl,Nat.mul_one]) (by decide) (fun j u hu=> ?_);have hj:j<len:=by
    have:=(jM5 hu).1;rw[jK7,hl]at this;exact this
   have Wy:j<zs.length:=(by omega);rw[Ff j Wy];rw[jM1,List.getElem?_take,jJ6 hj,jJ9 Wy]at hu;simp only[Option.map_some,Option.some.injEq]at hu;rw[<-hu];simp only[iv,List.getD,jJ9 Wy,Option.getD_some]
  ·have:=YX (lits (H:=H) .i64 (zs.take len));rw[hl];simp only[Rows.uptoBulk];simp only[lits,jK7,jK9]at this;simp only[lits];omega
end
end Go.Proofs.YtifbhcfdealfaaaGreatDoor

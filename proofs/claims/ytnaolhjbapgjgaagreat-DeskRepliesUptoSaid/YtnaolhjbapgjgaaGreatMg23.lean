import Derived.Test.YtnaolhjbapgjgaaGreatMg22
set_option maxRecDepth 100000
set_option maxHeartbeats 6400000
namespace Go.Proofs.YtnaolhjbapgjgaaGreat
open Go.Proofs.Tryz
open Go.RowKit
theorem Ju:(256:Nat)^4=4294967296:=by decide
theorem xp:(256:Nat)^8=18446744073709551616:=by decide
theorem VT(k:Nat):∀n:Nat,jq (be k n)=n% 256^k:=by
 induction k with
 |zero=>intro n;simp[be,jGE,Nat.mod_one]
 |succ k ih=>
  intro n;rw[be,Qe,ih,jC];have hp:0<256^k:=Nat.pow_pos (by decide);have h1:(UInt8.ofNat (n/256^k)).toNat=(n/256^k)% 256:=(by simp);rw[h1,Nat.pow_succ,Nat.mul_comm (256^k) 256,Nat.mod_mul_left_div_self_aux n k]
where
 Nat.mod_mul_left_div_self_aux (n k:Nat):n/256^k% 256*256^k+n% 256^k=n% (256*256^k):=by
  rw[Nat.mul_comm 256,Nat.mod_mul];rw[Nat.mul_comm (256^k) (n/256^k% 256),Nat.add_comm]
section
variable(pre post:LB)
theorem jIW(e:LB):(pre++(e++post)).drop pre.length=e++post:=by simp
theorem Jr(e:LB)(k:Nat)(h:e.length=k):((pre++(e++post)).drop pre.length).take k=e:=by
 rw[jIW,<-h];simp
theorem qD(k n:Nat)(hn:n<256^k):tkN (pre++(be k n++post)) k ⟨pre.length,0⟩=(n,⟨pre.length+k,0⟩):=by
 have hl:pre.length+k<=(pre++(be k n++post)).length:=by simp only[jJ4,jC];omega
 simp only[tkN];rw[jJ5 (by simp),jJ6 hl,Jr pre post (be k n) k (jC k n),VT,Nat.mod_eq_of_lt hn]
theorem jAP(l:LB):vE (pre++(l++post)) (l.length:Int) ⟨pre.length,0⟩=(l,⟨pre.length+l.length,0⟩):=by
 have hl:(pre++(l++post)).length-pre.length=l.length+post.length:=by simp only[jJ4];omega
 simp only[vE];rw[jJ5 (by simp),jJ5 (by rw[hl];omega),jL1,Jr pre post l l.length rfl]
theorem jGn(d:LB)(hd:d.length=32):kq (pre++(d++post)) ⟨pre.length,0⟩=(d,⟨pre.length+32,0⟩):=by
 have h:=jAP pre post d;rw[hd]at h;have h' :vE (pre++(d++post)) 32 ⟨pre.length,0⟩=(d,⟨pre.length+32,0⟩):=h;unfold kq;rw[h',jJ5 (by intro e;simp only at e;rw[e]at hd;simp at hd)]
theorem Qq(b:Bool):jw (pre++([if b=true then 1 else 0]++post)) ⟨pre.length,0⟩=(b,⟨pre.length+1,0⟩):=by
 have hl:¬(pre++([if b=true then 1 else 0]++post)).length<pre.length+1:=by simp only[jJ4,List.length_singleton];omega
 have ht:=Jr pre post [if b=true then 1 else 0] 1 rfl;simp only[jw];rw[jJ5 (by simp),ht];cases b
 ·rw[jJ5 (by intro h;rcases h with h|h;exact hl h;revert h;decide)];rfl
 ·rw[jJ5 (by intro h;rcases h with h|h;exact hl h;revert h;decide)];rfl
theorem uJ(l:LB)(most:Int)(hm:(l.length:Int)<=most)(hl:l.length<=2147483647):jt (pre++(lp 4 l++post)) most ⟨pre.length,0⟩=(l,⟨pre.length+(4+l.length),0⟩):=by
 have e:pre++(lp 4 l++post)=pre++(be 4 l.length++(l++post)):=(by simp[lp]);have h4:jq (((pre++(lp 4 l++post)).drop pre.length).take 4)=l.length:=by
  rw[e,Jr pre (l++post) (be 4 l.length) 4 (jC _ _),VT,Nat.mod_eq_of_lt (by rw[Ju];omega)]
 have hlen:(pre++(lp 4 l++post)).length=pre.length+4+l.length+post.length:=by simp only[jJ4,jV];omega
 have hd:((pre++(lp 4 l++post)).drop (pre.length+4)).take l.length=l:=by
  have e2:pre++(lp 4 l++post)=(pre++be 4 l.length)++(l++post):=(by simp[lp]);have:=Jr (pre++be 4 l.length) post l l.length rfl;rw[jJ4,jC,<-e2]at this;exact this
 simp only[jt];rw[jJ5 (by simp),jJ5 (by omega),h4,jJ5 (by omega),jJ5 (by omega),hd,Nat.add_assoc]
theorem jCt(s:BA)(hs:s.size<=4194304):js (pre++(lp 4 (sb s)++post)) ⟨pre.length,0⟩=(s,⟨pre.length+(4+s.size),0⟩):=by
 have h:=uJ pre post (sb s) 4194304 (by rw[jH];omega) (by rw[jH];omega);unfold js;rw[h,jH];simp only[qf]
def c64(n:Int):Int:=i64 (n% 18446744073709551616).toNat
theorem jGF(n:Int):yp (pre++(be8 n++post)) ⟨pre.length,0⟩=(c64 n,⟨pre.length+8,0⟩):=by
 have h:=qD pre post 8 (n% 18446744073709551616).toNat (by rw[xp];omega);unfold yp;rw[show be8 n=be 8 (n% 18446744073709551616).toNat from rfl,h];rfl
theorem jEe(ds:List LB)(hd:Dgs ds):yv (pre++(ds.flatten++post)) pre.length ds.length=ds:=by
 induction ds generalizing pre with
 |nil=>rfl
 |cons d ds ih=>
  have Y4:=hd d List.mem_cons_self;have Pn:Dgs ds:=fun x hx=>hd x (List.mem_cons_of_mem _ hx);have e:pre++((d::ds).flatten++post)=(pre++d)++(ds.flatten++post):=(by simp);have ih' :=ih (pre++d) Pn;rw[jJ4,Y4]at ih';rw[yv,jK6,List.range_succ_eq_map,List.map_cons,List.map_map]
  congr 1
  ·rw[KU,Nat.mul_zero,Nat.add_zero];have:=Jr pre (ds.flatten++post) d 32 Y4;rw[e,jK1];exact this
  ·rw[e]
   conv=>rhs;rw[<-ih']
   unfold yv;refine List.map_congr_left (fun i _=> ?_);simp only[Function.comp,KU]
   congr 2
   omega
theorem jEd(ds:List LB)(hd:Dgs ds):yC (pre++(ds.flatten++post)) (ds.length:Int) ⟨pre.length,0⟩=(ds,⟨pre.length+32*ds.length,0⟩):=by
 have hl:((pre++(ds.flatten++post)).length-pre.length)/32>=ds.length:=by
  rw[jJ4,jJ4,hd.flat];omega
 simp only[yC];rw[jJ5 (by simp),jJ5 (by omega),jL1,jEe pre post ds hd]
end
section
variable(pre post:LB)
theorem jAR:(256:Nat)^2=65536:=by decide
theorem xP(l:LB)(most:Int)(hm:(l.length:Int)<=most)(hl:l.length<=65535):jb (pre++(lp 2 l++post)) most pre.length=(l,pre.length+(2+l.length),0):=by
 have e:pre++(lp 2 l++post)=pre++(be 2 l.length++(l++post)):=(by simp[lp]);have h4:jq (((pre++(lp 2 l++post)).drop pre.length).take 2)=l.length:=by
  rw[e,Jr pre (l++post) (be 2 l.length) 2 (jC _ _),VT,Nat.mod_eq_of_lt (by rw[jAR];omega)]
 have hlen:(pre++(lp 2 l++post)).length=pre.length+2+l.length+post.length:=by simp only[jJ4,jV];omega
 have hd:((pre++(lp 2 l++post)).drop (pre.length+2)).take l.length=l:=by
  have e2:pre++(lp 2 l++post)=(pre++be 2 l.length)++(l++post):=(by simp[lp]);have:=Jr (pre++be 2 l.length) post l l.length rfl;rw[jJ4,jC,<-e2]at this;exact this
 simp only[jb];rw[jJ5 (by omega),h4,jJ5 (by omega),jJ5 (by omega),hd,Nat.add_assoc]
theorem jC6(l:LB)(most:Int)(hm:(l.length:Int)<=most)(hl:l.length<=65535):zx (pre++(lp 2 l++post)) most ⟨pre.length,0⟩=(l,⟨pre.length+(2+l.length),0⟩):=by
 unfold zx;rw[jJ5 (by simp)];simp only[xP pre post l most hm hl];rw[jJ5 (by simp)]
theorem qF(each:Int):∀(l acc:List BA) (pre post:LB),(∀s∈l,(s.size:Int)<=each/\s.size<=65535)->
  (∀i,i+1<(acc++l).length->blt ((acc++l).getD i ByteArray.empty) ((acc++l).getD (i+1) ByteArray.empty)=true)->
  jk (pre++(lps l++post)) each l.length pre.length acc=(0,acc++l,pre.length+(lps l).length)
 |[],acc,pre,post,_,_=>by simp[jk,lps]
 |s::l,acc,pre,post,h,hr=>by
  have hs:=h s List.mem_cons_self;have e1:lps (s::l)=lp 2 (sb s)++lps l:=(by simp[lps]);have e:pre++(lps (s::l)++post)=pre++(lp 2 (sb s)++(lps l++post)):=by rw[e1];simp
  have ht:=xP pre (lps l++post) (sb s) each (by rw[jH];exact hs.1) (by rw[jH];exact hs.2);rw[<-e]at ht;have hx:acc=[]\/blt (acc.getD (acc.length-1) ByteArray.empty) ⟨(sb s).toArray⟩=true:=by
   rcases List.eq_nil_or_concat acc with h0|⟨a,x,h0⟩
   ·exact .inl h0
   ·right;have hlen:acc.length=a.length+1:=by rw[h0];simp
    have h2:=hr (acc.length-1) (by rw[jJ4,jK6];omega);have g1:(acc++s::l).getD (acc.length-1) ByteArray.empty=acc.getD (acc.length-1) ByteArray.empty:=by
     simp only[List.getD,List.getElem?_append_left (show acc.length-1<acc.length by omega)]
    have g2:(acc++s::l).getD (acc.length-1+1) ByteArray.empty=s:=by
     rw[show acc.length-1+1=acc.length by omega];simp[List.getD]
    rw[g1,g2]at h2;rw[qf];exact h2
  rw[jK6,JG _ each l.length pre.length acc ht hx,qf];have e3:pre++(lps (s::l)++post)=(pre++lp 2 (sb s))++(lps l++post):=by rw[e1];simp
  have ih:=qF each l (acc++[s]) (pre++lp 2 (sb s)) post (fun x hx=>h x (List.mem_cons_of_mem _ hx)) (by
   rw[jK1,List.singleton_append];exact hr)
  rw[<-e3,jJ4,jV]at ih;rw[show pre.length+(2+(sb s).length)=pre.length+(2+(sb s).length)from rfl,ih];simp only[jK1,List.singleton_append,Prod.mk.injEq,true_and,e1,jJ4,jV];omega
theorem jDX{l:List BA}(h:yV l=true):∀i,i+1<l.length->blt (l.getD i ByteArray.empty) (l.getD (i+1) ByteArray.empty)=true:=by
 intro i hi;rw[yV,List.all_eq_true]at h;exact h i (List.mem_range.2 (by omega))
theorem jA5(l:List BA)(h:yV l=true)(hn:l.length<=64)(hs:∀s∈l,s.size<=1024):kI (pre++(yM l++post)) 64 1024 ⟨pre.length,0⟩=(l,⟨pre.length+(yM l).length,0⟩):=by
 have e:pre++(yM l++post)=pre++(be 2 l.length++(lps l++post)):=(by simp[yM]);have h2:jq (((pre++(yM l++post)).drop pre.length).take 2)=l.length:=by
  rw[e,Jr pre (lps l++post) (be 2 l.length) 2 (jC _ _),VT,Nat.mod_eq_of_lt (by rw[jAR];omega)]
 have hlen:(pre++(yM l++post)).length=pre.length+2+(lps l).length+post.length:=by simp only[yM,jJ4,jC];omega
 have e3:pre++(yM l++post)=(pre++be 2 l.length)++(lps l++post):=(by simp[yM]);have hg:=qF 1024 l [] (pre++be 2 l.length) post (fun s hx=>by have:=hs s hx;omega) (by simpa using jDX h);rw[<-e3,jJ4,jC,List.nil_append]at hg;simp only[kI];rw[jJ5 (by simp),jJ5 (by omega),h2,jJ5 (by omega),hg];simp only[ne_eq,not_true_eq_false,if_false,yM,jJ4,jC,Nat.add_assoc]
def cV(v:Val):Val:=if v.kind=1 then{v with n:=c64 v.n}else v
theorem jJB{n:Int}(h:0<=n/\n<=4611686018427387904):c64 n=n:=by
 unfold c64;rw[kW _ (by omega)];omega
end
theorem jJE{t:BA}(h:t.toList.isEmpty=true):t=ByteArray.empty:=by
 rw[QI,List.isEmpty_iff]at h;rw[<-qf t,h];rfl
structure RightV(v:Val):Prop where
 kind:v.kind=0\/v.kind=1\/v.kind=2\/v.kind=3\/v.kind=4\/v.kind=5
 t:v.kind≠3->v.t=ByteArray.empty
 s:v.kind≠5->v.s=[]
 flag:v.kind=2->v.n=0\/v.n=1
 zero:v.kind=0\/v.kind=3\/v.kind=5->v.n=0
 up:v.kind=5->yV v.s=true
 time:v.kind=4->0<=v.n/\v.n<=4611686018427387904
 size:v.t.size<=1024
 many:v.s.length<=64
 each:∀x∈v.s,x.size<=1024
theorem jIk{v:Val}(h:jS v=0):RightV v:=by
 obtain⟨hf,hl,Y3⟩:=jz h;have h4:v.kind=4->0<=v.n/\v.n<=4611686018427387904:=by
  intro hk;unfold jS at h;rw[jJ5 (by rw[hf];decide)]at h;by_cases h4:v.kind=4/\¬(0<=v.n/\v.n<=4611686018427387904)
  ·rw[jJ6 h4]at h;cases h
  ·by_cases h5:0<=v.n/\v.n<=4611686018427387904
   ·exact h5
   ·exact absurd ⟨hk,h5⟩ h4
 unfold VW at hl;rw[Bool.or_eq_false_iff]at hl;have he:∀x∈v.s,x.size<=1024:=by
  intro x hx;have:=(List.any_eq_false.1 hl.2) x hx;simp only[decide_eq_true_eq]at this;omega
 unfold jQ at hf;rw[Bool.and_eq_true]at hf;obtain⟨ha,hb⟩:=hf;simp only[Bool.not_eq_true',Bool.or_eq_false_iff,Bool.and_eq_false_imp]at ha;have ht:v.kind≠3->v.t=ByteArray.empty:=fun hk=>jJE (by
  have:=ha.1 (by simpa using hk);simpa using this)
 have hs:v.kind≠5->v.s=[]:=fun hk=>by
  have:=ha.2 (by simpa using hk);simpa using this
 have FJ:v.t.size<=1024:=(by simpa using hl.1);by_cases h1:v.kind=1\/v.kind=4
 ·exact⟨by omega,ht,hs,fun h=>by omega,fun h=>by omega,fun h=>by omega,h4,FJ,Y3,he⟩
 ·rw[jJ5 h1]at hb;by_cases h2:v.kind=2
  ·rw[jJ6 h2]at hb;exact⟨by omega,ht,hs,fun _=>by simpa using hb,fun h=>by omega,fun h=>by omega,h4,FJ,Y3,he⟩
  ·rw[jJ5 h2]at hb;by_cases h3:v.kind=0\/v.kind=3
   ·rw[jJ6 h3]at hb;exact⟨by omega,ht,hs,fun h=>by omega,fun _=>by simpa using hb,fun h=>by omega,h4,FJ,Y3,he⟩
   ·rw[jJ5 h3]at hb;by_cases h5:v.kind=5
    ·rw[jJ6 h5,Bool.and_eq_true]at hb;exact⟨by omega,ht,hs,fun h=>by omega,fun _=>by simpa using hb.2,fun _=>hb.1,h4,FJ,Y3,he⟩
    ·rw[jJ5 h5]at hb;cases hb
theorem jGx{v:Val}(h:jS v=0):jS (cV v)=0:=by
 unfold cV;by_cases h1:v.kind=1
 ·rw[jJ6 h1];obtain⟨k,n,t,s⟩:=v;simp only at h1;subst h1
  revert h
  simp[jS,jQ,VW]
 ·rw[jJ5 h1];exact h
section
variable(pre post:LB)
theorem Xb(v:Val)(h:jS v=0):jc (pre++(yX v++post)) ⟨pre.length,0⟩=(cV v,⟨pre.length+(yX v).length,0⟩):=by
 have hc:=jGx h;obtain⟨hk,ht,hs,SU,hz,PF,htm,FJ,Y3,he⟩:=jIk h;have PV:v.kind.toNat<256^1:=(by omega);obtain⟨tail,GM⟩:∃tail,tail=(if v.kind=1\/v.kind=4 then be 8 (v.n% 18446744073709551616).toNat else if v.kind=2 then [if v.n=1 then 1 else 0]else if v.kind=3 then lp 2 (sb v.t)else if v.kind=5 then yM v.s else []):=⟨_,rfl⟩;have eB:yX v=be 1 v.kind.toNat++tail:=by rw[GM];rfl
 have e1:pre++(yX v++post)=pre++(be 1 v.kind.toNat++(tail++post)):=by rw[eB];simp
 have e2:pre++(yX v++post)=(pre++be 1 v.kind.toNat)++(tail++post):=by rw[e1];simp
 have hb:=qD pre (tail++post) 1 v.kind.toNat PV;rw[<-e1]at hb;have hlen:(pre++be 1 v.kind.toNat).length=pre.length+1:=(by simp[jC]);have hvl:(yX v).length=1+tail.length:=by rw[eB];simp[jC]
 have key:vF (pre++(yX v++post)) v.kind.toNat ⟨pre.length+1,0⟩=(cV v,⟨pre.length+(yX v).length,0⟩):=by
  rw[hvl];obtain⟨k,n,t,s⟩:=v;simp only at*;rcases hk with rfl|rfl|rfl|rfl|rfl|rfl
  ·obtain rfl:=ht (by decide);obtain rfl:=hs (by decide);obtain rfl:=hz (.inl rfl);simp only[GM];rfl
  ·obtain rfl:=ht (by decide);obtain rfl:=hs (by decide);rw[jJ6 (.inl rfl)]at GM;subst GM;have h8:=qD (pre++be 1 (1:Int).toNat) post 8 (n% 18446744073709551616).toNat (by rw[xp];omega);rw[<-e2,hlen]at h8;unfold vF;rw[jJ6 (.inl rfl),h8,jC];rfl
  ·obtain rfl:=ht (by decide);obtain rfl:=hs (by decide);rw[jJ5 (by decide),jJ6 rfl]at GM;have hq:∃b:Bool,n=if b=true then 1 else 0:=by
    rcases SU rfl with rfl|rfl
    ·exact⟨false,rfl⟩
    ·exact⟨true,rfl⟩
   obtain⟨b,rfl⟩:=hq;have htb:tail=[if b=true then 1 else 0]:=by rw[GM];cases b<;>rfl
   clear GM;subst htb;have h8:=Qq (pre++be 1 (2:Int).toNat) post b;rw[<-e2,hlen]at h8;unfold vF;rw[jJ5 (by decide),jJ6 (by decide),h8];rfl
  ·obtain rfl:=hs (by decide);obtain rfl:=hz (.inr (.inl rfl));rw[jJ5 (by decide),jJ5 (by decide),jJ6 rfl]at GM;subst GM;have h8:=jC6 (pre++be 1 (3:Int).toNat) post (sb t) 1024 (by rw[jH];omega) (by rw[jH];omega);rw[<-e2,hlen]at h8;unfold vF;rw[jJ5 (by decide),jJ5 (by decide),jJ6 (by decide),h8,qf,jV,Nat.add_assoc];rfl
  ·obtain rfl:=ht (by decide);obtain rfl:=hs (by decide);rw[jJ6 (.inr rfl)]at GM;subst GM;have h8:=qD (pre++be 1 (4:Int).toNat) post 8 (n% 18446744073709551616).toNat (by rw[xp];omega);rw[<-e2,hlen]at h8;unfold vF;rw[jJ6 (.inr rfl),h8,jC];simp only[show i64 (n% 18446744073709551616).toNat=n from jJB (htm rfl)];rfl
  ·obtain rfl:=ht (by decide);obtain rfl:=hz (.inr (.inr rfl));rw[jJ5 (by decide),jJ5 (by decide),jJ5 (by decide),jJ6 rfl]at GM;subst GM;have h8:=jA5 (pre++be 1 (5:Int).toNat) post s (PF rfl) Y3 he;rw[<-e2,hlen]at h8;unfold vF;rw[jJ5 (by decide),jJ5 (by decide),jJ5 (by decide),jJ6 (by decide),h8,Nat.add_assoc];rfl
 unfold jc;rw[hb];simp only;rw[key,Jw,jJ5 (by simp),jJ5 (by simp[hc])]
end
section
variable{bs:LB}{s:Rs}{l:Ls}
structure Both(bs:LB)(s:Rs)(d:Req×Bool×Rs)(x:Req×Ls):Prop where
 ag:Ag bs d.2.2 x.2
 eq_:d.2.2.why=0->d.1=x.1
 ok:d.2.2.why=0->d.2.1=true->∃e,jKM d.1=some e/\Con bs s d.2.2 e
 no:d.2.2.why=0->d.2.1=false->jKM d.1=none
end
def At(bs:LB)(p:Nat)(e:LB):Prop:=∃pre post,bs=pre++(e++post)/\pre.length=p
section
variable{bs:LB}{p:Nat}
theorem At.fst{a b:LB}(h:At bs p (a++b)):At bs p a:=by
 obtain⟨pre,post,rfl,rfl⟩:=h;exact⟨pre,b++post,by simp,rfl⟩
theorem At.snd{a b:LB}(h:At bs p (a++b)):At bs (p+a.length) b:=by
 obtain⟨pre,post,rfl,rfl⟩:=h;exact⟨pre++a,post,by simp,by simp⟩
theorem At.tk{k n:Nat}(h:At bs p (be k n))(hn:n<256^k):tkN bs k ⟨p,0⟩=(n,⟨p+k,0⟩):=by
 obtain⟨pre,post,rfl,rfl⟩:=h;exact qD pre post k n hn
theorem At.num{n:Int}(h:At bs p (be8 n)):yp bs ⟨p,0⟩=(c64 n,⟨p+8,0⟩):=by
 obtain⟨pre,post,rfl,rfl⟩:=h;exact jGF pre post n
theorem At.raw{l:LB}(h:At bs p l):vE bs (l.length:Int) ⟨p,0⟩=(l,⟨p+l.length,0⟩):=by
 obtain⟨pre,post,rfl,rfl⟩:=h;exact jAP pre post l
theorem At.dig{d:LB}(h:At bs p d)(hd:d.length=32):kq bs ⟨p,0⟩=(d,⟨p+32,0⟩):=by
 obtain⟨pre,post,rfl,rfl⟩:=h;exact jGn pre post d hd
theorem At.digs{ds:List LB}(h:At bs p ds.flatten)(hd:Dgs ds):yC bs (ds.length:Int) ⟨p,0⟩=(ds,⟨p+32*ds.length,0⟩):=by
 obtain⟨pre,post,rfl,rfl⟩:=h;exact jEd pre post ds hd
theorem At.flag{b:Bool}(h:At bs p [if b=true then 1 else 0]):jw bs ⟨p,0⟩=(b,⟨p+1,0⟩):=by
 obtain⟨pre,post,rfl,rfl⟩:=h;exact Qq pre post b
theorem At.bytes{l:LB}{most:Int}(h:At bs p (lp 4 l))(hm:(l.length:Int)<=most)(hl:l.length<=2147483647):jt bs most ⟨p,0⟩=(l,⟨p+(4+l.length),0⟩):=by
 obtain⟨pre,post,rfl,rfl⟩:=h;exact uJ pre post l most hm hl
theorem At.word{s:BA}(h:At bs p (lp 4 (sb s)))(hl:s.size<=4194304):js bs ⟨p,0⟩=(s,⟨p+(4+s.size),0⟩):=by
 obtain⟨pre,post,rfl,rfl⟩:=h;exact jCt pre post s hl
theorem At.val{v:Val}(h:At bs p (yX v))(hr:jS v=0):jc bs ⟨p,0⟩=(cV v,⟨p+(yX v).length,0⟩):=by
 obtain⟨pre,post,rfl,rfl⟩:=h;exact Xb pre post v hr
theorem At.snd'{a b:LB}{q:Nat}(h:At bs p (a++b))(hq:q=p+a.length):At bs q b:=hq▸h.snd
theorem KQ(s:BA):(lp 4 (sb s)).length=4+s.size:=by rw[jV,jH]
end
section
variable{bs:LB}
theorem Con.done{s:Rs}{e:LB}(h:Con bs ⟨0,0⟩ s e)(hd:vi bs s=0):bs=e:=by
 have hz:s.why=0/\bs.length<=s.at_:=by
  unfold vi at hd;split at hd
  ·cases hd
  ·rename_i hn;exact⟨hd,by by_cases h2:bs.length<=s.at_;exact h2;exact absurd ⟨hd,by omega⟩ hn⟩
 have h2:=(h hz.1).2.1;rw[List.drop_of_length_le (i:=s.at_) (by omega),List.append_nil,List.drop_zero]at h2;exact h2
theorem UV{s:Rs}(hd:vi bs s=0):s.why=0:=by
 unfold vi at hd;split at hd
 ·cases hd
 ·exact hd
theorem Zb(n:Int)(s:Rs):Con bs s (vE bs n s).2 (vE bs n s).1/\((vE bs n s).2.why=0->0<=n/\(vE bs n s).1.length=n.toNat):=by
 unfold vE;by_cases h1:s.why≠0
 ·rw[jJ6 h1];exact⟨vD h1,fun hz=>absurd hz h1⟩
 ·rw[jJ5 h1];by_cases h2:n<0\/((bs.length-s.at_:Nat):Int)<n
  ·rw[jJ6 h2];exact⟨vD (by simp),fun hz=>by simp at hz⟩
  ·rw[jJ5 h2];refine⟨fun _=>⟨by simpa using h1,kF bs _ _,fun _=>by simp only;omega⟩,fun _=>⟨by omega,?_⟩⟩;simp only[jK9,jK8];omega
theorem zN(s:Rs):Con bs s (kq bs s).2 (kq bs s).1:=by
 have h:=Zb (bs:=bs) 32 s;intro hz;have Pk:(vE bs 32 s).2.why=0:=hz;have h2:=(h.2 Pk).2;have e:(kq bs s).1=(vE bs 32 s).1:=by
  unfold kq;rw[jJ5 (by intro h0;rw[h0]at h2;simp at h2)]
 rw[e];exact h.1 Pk
theorem jEf(p:Nat):∀n,p+32*n<=bs.length->bs.drop p=(yv bs p n).flatten++bs.drop (p+32*n):=by
 intro n
 induction n with
 |zero=>intro _;simp[yv]
 |succ n ih=>
  intro h;have e:yv bs p (n+1)=yv bs p n++[KU bs p n]:=(by simp[yv,List.range_succ]);rw[e,List.flatten_append,jK1,ih (by omega)]
  congr 1
  rw[KU];simp only[List.flatten_cons,List.flatten_nil,List.append_nil];exact kF bs _ 32
theorem qq(n:Int)(s:Rs):Con bs s (yC bs n s).2 (yC bs n s).1.flatten/\((yC bs n s).2.why=0->0<=n/\(yC bs n s).1.length=n.toNat/\(s.at_ <=bs.length->Dgs (yC bs n s).1)):=by
 unfold yC;by_cases h1:s.why≠0
 ·rw[jJ6 h1];exact⟨vD h1,fun hz=>absurd hz h1⟩
 ·rw[jJ5 h1];by_cases h2:n<0\/(((bs.length-s.at_)/32:Nat):Int)<n
  ·rw[jJ6 h2];exact⟨vD (by simp),fun hz=>by simp at hz⟩
  ·rw[jJ5 h2];by_cases Fu:s.at_ <=bs.length
   ·exact⟨fun _=>⟨by simpa using h1,jEf s.at_ n.toNat (by omega),fun _=>by simp only;omega⟩,fun _=>⟨by omega,zf _ _ _,fun _=>YV (by omega)⟩⟩
   ·have h0:n.toNat=0:=(by omega);refine⟨fun _=>⟨by simpa using h1,?_,fun h=>absurd h Fu⟩,fun _=>⟨by omega,zf _ _ _,fun h=>absurd h Fu⟩⟩;simp only[h0,yv,List.range_zero,List.map_nil,List.flatten_nil,List.nil_append,Nat.mul_zero,Nat.add_zero]
theorem Zg(s:Rs):Con bs s (yp bs s).2 (be8 (yp bs s).1):=by
 unfold yp;simp only;rw[Um _ (by have:=ku bs 8 s;omega)];exact vG 8 s
theorem Kj(s:Rs):Con bs s (yy bs s).2.2 (be8 (yy bs s).1):=Zg s
theorem ZD{most kind:Nat}{s:Rs}(h:kH bs most kind=some s):Con bs ⟨0,0⟩ s (be 1 kind)/\s.why=0/\bs.length<=most:=by
 unfold kH at h;split at h
 ·cases h
 ·split at h
  ·rename_i hk;cases h;have:=vG (bs:=bs) 1 ⟨0,0⟩;rw[hk.1]at this;exact⟨this,hk.2,by omega⟩
  ·cases h
theorem Zy{kind most:Nat}{f:Int->Int->Option Nat}{x:Way}(h:(kH bs most kind).bind (XP bs f)=some x):jA2 kind (f x.a x.b) x.a x.b x.ds=some bs:=by
 cases hb:kH bs most kind with
 |none=>rw[hb]at h;cases h
 |some s=>
  rw[hb]at h;simp only[jL2]at h;obtain⟨hc,hw,_⟩:=ZD hb;unfold XP at h;split at h
  ·split at h
   ·cases h
   ·rename_i n hf;unfold xM at h;split at h
    ·cases h
    ·split at h
     ·rename_i hd;cases h;have h1:=Kj (bs:=bs) s;have h2:=Kj (bs:=bs) (yy bs s).2.2;have h3:=qq (bs:=bs) n (yy bs (yy bs s).2.2).2.2;have MU:=(hc.trans (h1.trans (h2.trans h3.1))).done hd;have hl:=(h3.2 (UV hd)).2.1;unfold jA2;simp only;rw[jJ6 (by rw[hf,hl,jL1]),<-MU]
     ·cases h
  ·cases h
theorem UZ{x:Way}(h:ve bs=some x):jAh x.a x.b x.ds=some bs:=Zy h
theorem Ua{x:Way}(h:vf bs=some x):jAr x.a x.b x.ds=some bs:=Zy h
theorem xn(s:Rs):Con bs s (zb bs s).2 (lp 1 (sb (zb bs s).1)):=by
 unfold zb;simp only;rw[jDE];have h1:=vG (bs:=bs) 1 s;have h2:=Zb (bs:=bs) (tkN bs 1 s).1 (tkN bs 1 s).2;intro hz;have hl:=(h2.2 hz).2;have:=(h1.trans h2.1) hz;rw[lp,hl,jL1];exact this
theorem qi{nm:BA}{f:Bool}{n:Int}{d:LB}{s:Rs}{x:Idx}{e:LB}(hc:Con bs ⟨0,0⟩ s e)(h:VI bs nm f n d s=some x):
  x.case_=nm/\x.found=f/\x.count=n/\x.chain=d/\Ji x=true/\bs=e++(x.bitmap++x.way.flatten):=by
 unfold VI at h;split at h
 ·rename_i hd;cases h;have h1:=zN (bs:=bs) s;have h2:=qq (bs:=bs) (vM (kq bs s).1) (kq bs s).2;exact⟨rfl,rfl,rfl,rfl,hd.2,(hc.trans (h1.trans h2.1)).done hd.1⟩
 ·cases h
theorem Vf{x:Idx}(h:kr bs=some x):qj x=some bs:=by
 unfold kr at h;cases hb:kH bs 9000 50 with
 |none=>rw[hb]at h;cases h
 |some s=>
  rw[hb]at h;simp only[jL2]at h;obtain⟨hc,hw,_⟩:=ZD hb;have h1:=hc.trans (xn (bs:=bs) s);have h2:=h1.trans (qm (bs:=bs) (zb bs s).2);unfold jH8 Qk at h;split at h
  ·rename_i hf;split at h
   ·have h3:=h2.trans ((Kj (bs:=bs) (jw bs (zb bs s).2).2).trans (zN _));obtain⟨e1,e2,e3,e4,Hu,Mz⟩:=qi h3 h;rw[qj,jJ6 Hu]
    conv=>rhs;rw[Mz]
    rw[vJ,e1,e2,e3,e4,hf];simp only[if_true,jK1]
   ·cases h
  ·rename_i hf;have My:(jw bs (zb bs s).2).1=false:=(by simpa using hf);obtain⟨e1,e2,e3,e4,Hu,Mz⟩:=qi h2 h;rw[qj,jJ6 Hu]
   conv=>rhs;rw[Mz]
   rw[vJ,e1,e2,My];simp only[Bool.false_eq_true,if_false,jK1,List.nil_append]
end
section
variable{bs:LB}
theorem uK(most:Int)(s:Rs):Con bs s (jt bs most s).2 (lp 4 (jt bs most s).1)/\((jt bs most s).2.why=0->((jt bs most s).1.length:Int)<=most):=by
 unfold jt;by_cases h1:s.why≠0
 ·rw[jJ6 h1];exact⟨vD h1,fun hz=>absurd hz h1⟩
 rw[jJ5 h1];by_cases h2:bs.length<s.at_ +4
 ·rw[jJ6 h2];exact⟨vD (by simp),fun hz=>by simp at hz⟩
 rw[jJ5 h2];by_cases h3:min most 2147483647<(jq ((bs.drop s.at_).take 4):Int)
 ·rw[jJ6 h3];exact⟨vD (by simp),fun hz=>by simp at hz⟩
 rw[jJ5 h3];by_cases h4:bs.length<s.at_ +4+jq ((bs.drop s.at_).take 4)
 ·rw[jJ6 h4];exact⟨vD (by simp),fun hz=>by simp at hz⟩
 rw[jJ5 h4];have e4:=ZE bs s.at_ 4 (by omega);generalize jq ((bs.drop s.at_).take 4)=n at*;have hl:((bs.drop (s.at_ +4)).take n).length=n:=by simp only[jK9,jK8];omega
 refine⟨fun _=>⟨by simpa using h1,?_,fun _=>by simp only;omega⟩,fun _=>by simp only;rw[hl];omega⟩;simp only;rw[lp,hl,e4,jK1,<-kF bs (s.at_ +4) n];exact kF bs s.at_ 4
theorem Vn(s:Rs):Con bs s (js bs s).2 (lp 4 (sb (js bs s).1))/\((js bs s).2.why=0->(js bs s).1.size<=4194304):=by
 have h:=uK (bs:=bs) 4194304 s;unfold js;simp only;rw[jDE];refine⟨h.1,fun hz=> ?_⟩;have:=h.2 hz;rw[<-jH,jDE];omega
theorem XY(n:Nat):∀(s:Rs) (acc:List BA),∃new,(ki bs n s acc).1=acc++new/\new.length=n/\Con bs s (ki bs n s acc).2 (YK new)/\((ki bs n s acc).2.why=0->okT new=true):=by
 induction n with
 |zero=>intro s acc;exact⟨[],by simp[ki],rfl,fun hz=>⟨hz,by simp[YK,ki],fun h=>h⟩,fun _=>rfl⟩
 |succ n ih=>
  intro s acc;obtain⟨new,h1,h2,h3,h4⟩:=ih (js bs s).2 (acc++[(js bs s).1]);have hv:=Vn (bs:=bs) s;refine⟨(js bs s).1::new,by rw[ki,h1];simp,by simp[h2],?_,fun hz=> ?_⟩
  ·rw[ki];have:=hv.1.trans h3;simpa [YK]using this
  ·rw[ki]at hz;have Ft:(js bs s).2.why=0:=(h3 hz).1;have Sm:=h4 hz;unfold okT at Sm⊢;rw[List.all_cons,Sm,jK5 (hv.2 Ft)];rfl
def KL(l:List BA):LB:=be 1 l.length++YK l
theorem VX(s:Rs):Con bs s (jr bs s).2 (KL (jr bs s).1)/\((jr bs s).2.why=0->kg (jr bs s).1=some (KL (jr bs s).1)):=by
 have h1:=vG (bs:=bs) 1 s;have hM:=ku bs 1 s;obtain⟨new,h2,h3,h4,h5⟩:=XY (bs:=bs) (tkN bs 1 s).1 (tkN bs 1 s).2 [];unfold jr;rw[h2,List.nil_append];refine⟨?_,fun hz=> ?_⟩
 ·rw[KL,h3];exact h1.trans h4
 ·rw[kg,jJ6 ⟨by omega,h5 hz⟩];rfl
theorem Uk(n:Nat):∀(s:Rs) (acc:List (BA×Val)),∃new,(kK bs n s acc).1=acc++new/\new.length=n/\Con bs s (kK bs n s acc).2 (new.flatMap vu)/\((kK bs n s acc).2.why=0->new.all zA=true):=by
 induction n with
 |zero=>intro s acc;exact⟨[],by simp[kK],rfl,fun hz=>⟨hz,by simp[kK],fun h=>h⟩,fun _=>rfl⟩
 |succ n ih=>
  intro s acc;obtain⟨new,h1,h2,h3,h4⟩:=ih (jc bs (js bs s).2).2 (acc++[((js bs s).1,(jc bs (js bs s).2).1)]);have hv:=Vn (bs:=bs) s;have ht:=zV (bs:=bs) (js bs s).2;refine⟨((js bs s).1,(jc bs (js bs s).2).1)::new,by rw[kK,h1];simp,by simp[h2],?_,fun hz=> ?_⟩
  ·rw[kK,jL9,vu];exact(hv.1.trans ht.1).trans h3
  ·rw[kK]at hz;have Ft:(jc bs (js bs s).2).2.why=0:=(h3 hz).1;have FC:(js bs s).2.why=0:=(ht.1 Ft).1;rw[List.all_cons,h4 hz,zA,jK5 ⟨hv.2 FC,ht.2 Ft⟩];rfl
theorem jB0(n:Nat):∀(s:Rs) (acc:List MHap),∃new,(vW bs n s acc).1=acc++new/\new.length=n/\Con bs s (vW bs n s acc).2 (new.flatMap zM)/\((vW bs n s acc).2.why=0->okH new=true):=by
 induction n with
 |zero=>intro s acc;exact⟨[],by simp[vW],rfl,fun hz=>⟨hz,by simp[vW],fun h=>h⟩,fun _=>rfl⟩
 |succ n ih=>
  intro s acc;obtain⟨new,h1,h2,h3,h4⟩:=ih (js bs (tkN bs 1 s).2).2 (acc++[⟨(tkN bs 1 s).1,(js bs (tkN bs 1 s).2).1⟩]);have hk:=vG (bs:=bs) 1 s;have hM:=ku bs 1 s;have hv:=Vn (bs:=bs) (tkN bs 1 s).2;refine⟨⟨(tkN bs 1 s).1,(js bs (tkN bs 1 s).2).1⟩::new,by rw[vW,h1];simp,by simp[h2],?_,fun hz=> ?_⟩
  ·rw[vW,jL9,zM];simp only[jL1];exact(hk.trans hv.1).trans h3
  ·rw[vW]at hz;have Ft:(js bs (tkN bs 1 s).2).2.why=0:=(h3 hz).1;have Sm:=h4 hz;unfold okH at Sm⊢;rw[List.all_cons,Sm,jK5 ⟨by simp only;omega,by simp only;omega,hv.2 Ft⟩];rfl
theorem jC0(s:Rs):∃e,Con bs s (Jy bs s).2 e/\((Jy bs s).2.why=0->YX (Jy bs s).1=some e):=by
 have h1:=Vn (bs:=bs) s;unfold Jy;generalize js bs s=t1 at*;have h2:=Zg (bs:=bs) t1.2;generalize yp bs t1.2=t2 at*;have h3:=zN (bs:=bs) t2.2;generalize kq bs t2.2=t3 at*;unfold qB;have h4:=vG (bs:=bs) 1 t3.2;have hM:=ku bs 1 t3.2;generalize tkN bs 1 t3.2=t4 at*;obtain⟨new,e5,l5,h5,k5⟩:=Uk (bs:=bs) t4.1 t4.2 [];generalize kK bs t4.1 t4.2 []=t5 at*;rw[List.nil_append]at e5;unfold qC;have h6:=VX (bs:=bs) t5.2;generalize jr bs t5.2=t6 at*;have h7:=VX (bs:=bs) t6.2;generalize jr bs t6.2=t7 at*;have h8:=VX (bs:=bs) t7.2;generalize jr bs t7.2=t8 at*;refine⟨_,h1.1.trans (h2.trans (h3.trans (h4.trans (h5.trans (h6.1.trans (h7.1.trans h8.1)))))),fun hz=> ?_⟩;have z7:=(h8.1 hz).1;have z6:=(h7.1 z7).1;have z5:=(h6.1 z6).1;have z4:=(h5 z5).1;have z3:=(h4 z4).1;have z2:=(h3 z3).1;have z1:=(h2 z2).1;rw[YX];simp only;rw[jJ6 ⟨h1.2 z1,by rw[e5,l5];omega,by rw[e5];exact k5 z5⟩,h6.2 z6,h7.2 z7,h8.2 hz,three];simp only[jL2,Option.map_some,vz,e5,l5,jK1]
theorem Xg(n:Nat):∀(s:Rs) (acc:List Sgn),∃new,(vg bs n s acc).1=acc++new/\new.length=n/\Con bs s (vg bs n s acc).2 (new.flatMap vY):=by
 induction n with
 |zero=>intro s acc;exact⟨[],by simp[vg],rfl,fun hz=>⟨hz,by simp[vg],fun h=>h⟩⟩
 |succ n ih=>
  intro s acc;obtain⟨new,h1,h2,h3⟩:=ih (XS bs s).2 (acc++[(XS bs s).1]);have ha:=zN (bs:=bs) s;have hb:=zN (bs:=bs) (kq bs s).2;refine⟨(XS bs s).1::new,by rw[vg,h1];simp,by simp[h2],?_⟩;rw[vg,jL9,vY];exact(ha.trans hb).trans h3
theorem jEw(n:Nat)(h:n<18446744073709551616):be8 (n:Int)=be 8 n:=by
 unfold be8;rw[show((n:Int)% 18446744073709551616).toNat=n by omega]
theorem jBx{s:Rs}{hd:Hd}(h:(JM bs s).1=some hd):Con bs s (JM bs s).2 (vh hd)/\vU hd=true:=by
 have h1:=vG (bs:=bs) 1 s;unfold JM at*;generalize tkN bs 1 s=t1 at*;unfold jHH at*;have h2:=zN (bs:=bs) t1.2;generalize kq bs t1.2=t2 at*;have h3:=vG (bs:=bs) 8 t2.2;generalize tkN bs 8 t2.2=t3 at*;have h4:=zN (bs:=bs) t3.2;generalize kq bs t3.2=t4 at*;have h5:=zN (bs:=bs) t4.2;generalize kq bs t4.2=t5 at*;have h6:=vG (bs:=bs) 8 t5.2;generalize tkN bs 8 t5.2=t6 at*;simp only at h⊢;split at h
 ·rename_i hc;cases h;refine⟨?_,jK5 ⟨by simp only;omega,by simp only;omega,by simp only;omega,by simp only;omega⟩⟩;have:=h1.trans (h2.trans (h3.trans (h4.trans (h5.trans h6))));rw[hc.2.1]at this;rw[vh];simp only;rw[jEw _ (by omega),jEw _ (by omega)];exact this
 ·cases h
theorem Ja{l:List Sgn}(h:vP (l.map (·.key))=true):zF l=l:=by
 have h1:=(KE l).1 h;exact(zE l (zF l) (zQ l).symm h1 (ZI l)).symm
theorem zu{x:Hd×List Sgn}(h:jn bs=some x):yU x.1 x.2=some bs:=by
 unfold jn at h;have h1:=vG (bs:=bs) 1 ⟨0,0⟩;generalize tkN bs 1 ⟨0,0⟩=t1 at*;have h2:=fun hd=>jBx (bs:=bs) (s:=t1.2) (hd:=hd);generalize JM bs t1.2=t2 at*;unfold UH at h;split at h
 ·cases h
 ·rename_i hd he;obtain⟨h3,Hu⟩:=h2 hd he;have h4:=vG (bs:=bs) 1 t2.2;generalize tkN bs 1 t2.2=t3 at*;split at h
  ·rename_i hc;unfold KK at h;obtain⟨new,e5,l5,h5⟩:=Xg (bs:=bs) t3.1 t3.2 [];generalize vg bs t3.1 t3.2 []=t4 at*;rw[List.nil_append]at e5;split at h
   ·rename_i hd5;cases h;rw[e5]at hd5⊢;have hs:=Ja hd5.2;have MU:=(h1.trans (h3.trans (h4.trans h5))).done hd5.1;rw[hc.1]at MU;rw[yU];simp only;rw[hs,jJ6 ⟨Hu,by omega,by omega,hd5.2⟩,l5,<-MU]
   ·cases h
  ·cases h
end
section
variable{bs:LB}
theorem jFw{size:Int}{s:Rs}{r:LB×Way×Rs}(h:jFx bs size s=some r):Con bs s r.2.2 (JS r.1 r.2.1)/\r.2.1.a=size:=by
 unfold jFx at h;have h1:=Kj (bs:=bs) s;split at h
 ·split at h
  ·cases h
  ·rename_i n hn;have h2:=uK (bs:=bs) 65536 (yy bs s).2.2;split at h
   ·cases h;have h3:=qq (bs:=bs) n (jt bs 65536 (yy bs s).2.2).2;exact⟨h1.trans (h2.1.trans h3.1),rfl⟩
   ·cases h
 ·cases h
theorem jBM{size:Int}:∀(k:Nat) (s:Rs) (es:List LB) (ps:List Way) (t:List LB×List Way×Rs),yj bs size k s es ps=some t->
  ∃ne np,t.1=es++ne/\t.2.1=ps++np/\ne.length=k/\np.length=k/\Con bs s t.2.2 (List.zipWith JS ne np).flatten/\∀p∈np,p.a=size:=by
 intro k
 induction k with
 |zero=>
  intro s es ps t h;rw[yj]at h;cases h;exact⟨[],[],by simp,by simp,rfl,rfl,fun hz=>⟨hz,by simp,fun h=>h⟩,fun p hp=>by cases hp⟩
 |succ k ih=>
  intro s es ps t h;rw[yj]at h;cases hr:jFx bs size s with
  |none=>rw[hr]at h;cases h
  |some r=>
   rw[hr]at h;simp only[jL2]at h;obtain⟨ne,np,a1,a2,a3,a4,a5,a6⟩:=ih _ _ _ _ h;obtain⟨b1,b2⟩:=jFw hr;refine⟨r.1::ne,r.2.1::np,by rw[a1];simp,by rw[a2];simp,by simp[a3],by simp[a4],?_,?_⟩
   ·rw[List.zipWith_cons_cons,List.flatten_cons];exact b1.trans a5
   ·intro p hp;rcases List.mem_cons.1 hp with rfl|hp
    ·exact b2
    ·exact a6 p hp
theorem Vd{x:Pie}(h:kX bs=some x):vR x=some bs:=by
 unfold kX at h;cases hb:kH bs 2097152 51 with
 |none=>rw[hb]at h;cases h
 |some s=>
  rw[hb]at h;simp only[jL2]at h;obtain⟨hc,hw,_⟩:=ZD hb;unfold jHv at h;have h1:=xn (bs:=bs) s;generalize zb bs s=t1 at*;unfold jD2 at h;have h2:=Kj (bs:=bs) t1.2;generalize yy bs t1.2=t2 at*;unfold jD1 at h;have h3:=zN (bs:=bs) t2.2.2;generalize kq bs t2.2.2=t3 at*;unfold jD0 at h;have h4:=Kj (bs:=bs) t3.2;generalize yy bs t3.2=t4 at*;have h5:=vG (bs:=bs) 4 t4.2.2;generalize tkN bs 4 t4.2.2=t5 at*;unfold Qc at h;split at h
  ·rename_i hcond;cases hr:yj bs t4.1 t5.1 t5.2 [] []with
   |none=>rw[hr]at h;cases h
   |some t=>
    rw[hr]at h;simp only[jL2]at h;obtain⟨ne,np,a1,a2,a3,a4,a5,a6⟩:=jBM _ _ _ _ _ hr;rw[List.nil_append]at a1 a2;unfold qX at h;split at h
    ·rename_i hd;cases h;have MU:=(hc.trans (h1.trans ((h2.trans h3).trans (h4.trans h5)))).trans a5;have Mz:=MU.done hd.1;have P0:kw t.2.1=t4.1:=by
      rw[a2];cases np with
      |nil=>simp at a4;omega
      |cons p np=>exact a6 p List.mem_cons_self
     have Hu:UE ⟨t1.1,t2.1,t3.1,t.1,t.2.1⟩=true:=jK5 ⟨by simp only;rw[a1,a3];omega,by simp only;rw[a1,a2,a3,a4],hd.2⟩;rw[vR,jJ6 Hu,yS];simp only;rw[P0,a1,a2,a3,<-Mz]
    ·cases h
  ·cases h
theorem JI(s:Rs)(hs:s.at_ <=bs.length):Con bs s (jv bs s).2 (jv bs s).1/\((jv bs s).2.why=0->vi bs (jv bs s).2=0):=by
 have h:=Zb (bs:=bs) ((bs.length-s.at_:Nat):Int) s;refine⟨h.1,fun hz=> ?_⟩;have Pk:(vE bs ((bs.length-s.at_:Nat):Int) s).2.why=0:=hz;have h0:=(h.1 Pk).1;unfold jv vE at*;rw[jJ5 (by omega),jJ5 (by omega)]at*;unfold vi;simp only[jL1];rw[jJ5 (by omega)]
theorem jCm(s:Rs):∃e,Con bs s (KZ bs s).2 e/\((KZ bs s).2.why=0->((zm (KZ bs s).1.hap).map fun x=>be8 (KZ bs s).1.number++x)=some e):=by
 unfold KZ;have h1:=Zg (bs:=bs) s;generalize yp bs s=t1 at*;have h2:=vG (bs:=bs) 2 t1.2;have hM:=ku bs 2 t1.2;generalize tkN bs 2 t1.2=t2 at*;obtain⟨new,e5,l5,h5,k5⟩:=jB0 (bs:=bs) t2.1 t2.2 [];generalize vW bs t2.1 t2.2 []=t5 at*;rw[List.nil_append]at e5;refine⟨_,h1.trans (h2.trans h5),fun hz=> ?_⟩;simp only at hz⊢;rw[e5,zm,jJ6 ⟨by omega,k5 hz⟩,l5];rfl
theorem XK{op:Nat}{s:Rs}{x:Rep×Rs}(h:zw bs op s=some x)(hz:x.2.why=0)(hs:s.at_ <=bs.length):x.1.err=0/\∃e,jCr op x.1=some e/\Con bs s x.2 e:=by
 unfold zw at h;unfold jCr;by_cases h1:op=1\/op=2
 ·rw[jJ6 h1]at h⊢;cases h;obtain⟨e,a,b⟩:=jCm (bs:=bs) s;exact⟨rfl,e,b hz,a⟩
 rw[jJ5 h1]at h⊢;by_cases h3:op=3
 ·rw[jJ6 h3]at h⊢;cases h;obtain⟨e,a,b⟩:=jC0 (bs:=bs) s;exact⟨rfl,e,b hz,a⟩
 rw[jJ5 h3]at h⊢;by_cases h4:op=4
 ·rw[jJ6 h4]at h⊢;cases h;exact⟨rfl,_,rfl,(JI s hs).1⟩
 rw[jJ5 h4]at h⊢;by_cases h5:op=5
 ·rw[jJ6 h5]at h⊢;cases h;exact⟨rfl,_,rfl,Zg s⟩
 rw[jJ5 h5]at h⊢;by_cases h6:op=6
 ·rw[jJ6 h6]at h⊢;cases hd:jn (jv bs s).1 with
  |none=>rw[hd]at h;cases h
  |some y=>
   rw[hd]at h;cases h;exact⟨rfl,_,zu hd,(JI s hs).1⟩
 rw[jJ5 h6]at h⊢;by_cases h7:op=7
 ·rw[jJ6 h7]at h⊢;have hf:=qm (bs:=bs) s;split at h
  ·rename_i hb;cases hd:jn (jv bs (jw bs s).2).1 with
   |none=>rw[hd]at h;cases h
   |some y=>
    rw[hd]at h;cases h;have Pk:(jv bs (jw bs s).2).2.why=0:=hz;have SW:=zu hd;have hr:=Zb (bs:=bs) ((bs.length-(jw bs s).2.at_:Nat):Int) (jw bs s).2;have NE:0<y.2.length:=by
     unfold yU at SW;split at SW
     ·omega
     ·cases SW
    refine⟨rfl,1::(jv bs (jw bs s).2).1,?_,?_⟩
    ·rw[jFD,jJ6 (.inl NE)];simp only;rw[SW];rfl
    ·rw[hb]at hf;have:=hf.trans hr.1;exact this
  ·rename_i hb;cases h;have Nj:(jw bs s).1=false:=(by simpa using hb);rw[Nj]at hf;exact⟨rfl,[0],by show jFD zeroRep.head zeroRep.signs=some [0];decide,hf⟩
 rw[jJ5 h7]at h⊢;by_cases h8:op=8
 ·rw[jJ6 h8]at h⊢;cases hd:ve (jv bs s).1 with
  |none=>rw[hd]at h;cases h
  |some y=>
   rw[hd]at h;cases h;exact⟨rfl,_,UZ hd,(JI s hs).1⟩
 rw[jJ5 h8]at h⊢;by_cases h9:op=9
 ·rw[jJ6 h9]at h⊢;cases hd:vf (jv bs s).1 with
  |none=>rw[hd]at h;cases h
  |some y=>
   rw[hd]at h;cases h;exact⟨rfl,_,Ua hd,(JI s hs).1⟩
 rw[jJ5 h9]at h⊢;by_cases NY:op=10
 ·rw[jJ6 NY]at h⊢;cases hd:kr (jv bs s).1 with
  |none=>rw[hd]at h;cases h
  |some y=>
   rw[hd]at h;cases h;exact⟨rfl,_,Vf hd,(JI s hs).1⟩
 rw[jJ5 NY]at h⊢;by_cases NX:op=11
 ·rw[jJ6 NX]at h⊢;cases hd:kX (jv bs s).1 with
  |none=>rw[hd]at h;cases h
  |some y=>
   rw[hd]at h;cases h;exact⟨rfl,_,Vd hd,(JI s hs).1⟩
 rw[jJ5 NX]at h⊢;cases h;exact⟨rfl,[],rfl,fun h=>⟨h,by simp,fun h=>h⟩⟩
theorem VR{p y:Rep}{s:Rs}(h:KG bs p s=some y):p=y/\vi bs s=0:=by
 unfold KG at h;split at h
 ·cases h;exact⟨rfl,by assumption⟩
 ·cases h
theorem qt{op:Int}{y:Rep}(h:yu op bs=some y):vr op y=some bs:=by
 unfold yu at h;split at h
 ·rename_i NS;have h1:=vG (bs:=bs) 2 ⟨0,0⟩;have hM:=ku bs 2 ⟨0,0⟩;generalize tkN bs 2 ⟨0,0⟩=t at*;have key:∀e,YZ op.toNat y=some e->be 2 y.err.toNat++e=bs->0<=y.err->y.err<=65535->vr op y=some bs:=by
   intro e he Mz ha hb;rw[vr,jJ6 ⟨NS.1,NS.2.1,ha,hb⟩,he];simp only[jL2];have:=congrArg List.length Mz;rw[jJ4,jC]at this;rw[jJ6 (by omega),Mz]
  unfold VE at h;split at h
  ·cases h
  ·rename_i hw;have hw' :t.2.why=0:=(by simpa using hw);have Fo:=(h1 hw').2.2 (Nat.zero_le _);split at h
   ·rename_i h0;cases hx:zw bs op.toNat t.2 with
    |none=>rw[hx]at h;cases h
    |some x=>
     rw[hx]at h;simp only[jL2]at h;obtain⟨rfl,hd⟩:=VR h;obtain⟨he,e,hB,hC⟩:=XK hx (UV hd) Fo;have Mz:=(h1.trans hC).done hd;rw[h0]at Mz;exact key e (by rw[YZ,jJ6 he];exact hB) (by rw[he];exact Mz.symm) (by omega) (by omega)
   ·rename_i h0;split at h
    ·rename_i MM;have h2:=vG (bs:=bs) 4 t.2;have l2:=ku bs 4 t.2;generalize tkN bs 4 t.2=a at*;have h3:=vG (bs:=bs) 4 a.2;have l3:=ku bs 4 a.2;generalize tkN bs 4 a.2=b at*;have h4:=vG (bs:=bs) 4 b.2;have l4:=ku bs 4 b.2;generalize tkN bs 4 b.2=c at*;obtain⟨rfl,hd⟩:=VR h;have Mz:=(h1.trans (h2.trans (h3.trans h4))).done hd;rw[Ju]at l2 l3 l4;refine key (be 4 a.1++(be 4 b.1++be 4 c.1)) ?_ Mz.symm (by simp only;omega) (by simp only;omega);rw[YZ];simp only;rw[jJ5 (by omega),jJ6 MM,yo,jJ6 (by simp;omega)];simp
    ·rename_i MM;obtain⟨rfl,hd⟩:=VR h;have Mz:=h1.done hd;refine key [] ?_ (by rw[List.append_nil];exact Mz.symm) (by simp only;omega) (by simp only;omega);rw[YZ];simp only;rw[jJ5 (by omega),jJ5 MM]
 ·cases h
end
theorem jEr(F:Nat):∀(k f T L n:Nat),L<F->F<=T->T-L<=2^k->T<18446744073709551616->(Jo F f T L n).1<=n+k:=by
 intro k
 induction k with
 |zero=>
  intro f T L n h1 h2 h3 _;rw[Nat.pow_zero]at h3;rw[XI F f T L n (by omega)];exact jL3 n
 |succ k ih=>
  intro f T L n h1 h2 h3 h4;cases f with
  |zero=>simp only[Jo];omega
  |succ f=>
   rw[Jo];split
   ·simp only;omega
   ·rename_i Ff;obtain⟨s1,s2,s3⟩:=Jn (T-L-1) (T-L-1) (jL3 _) (by omega) (by omega);obtain⟨b,hb⟩:∃b,Lib.bitLen (T-L-1)=b+1:=⟨Lib.bitLen (T-L-1)-1,by omega⟩;rw[hb,Nat.add_sub_cancel]at s2;rw[hb,Nat.pow_succ]at s3;rw[hb,Nat.add_sub_cancel];have hM:2^b<2^(k+1):=(by omega);have SW:b<k+1:=(Nat.pow_lt_pow_iff_right (by decide)).1 hM;have Fu:2^b<=2^k:=Nat.pow_le_pow_right (by decide) (by omega);have NE:0<2^b:=Nat.pow_pos (by decide);split
    ·have:=ih f (L+2^b) L (n+1) h1 (by omega) (by omega) (by omega);omega
    ·have:=ih f T (L+2^b) (n+1) (by omega) h2 (by omega) h4;omega
def jFB(f:Int->Int->Option Nat):Prop:=∀a b n,f a b=some n->(0<=a/\a<=1099511627776)/\(0<=b/\b<=1099511627776)/\n<=41
theorem yh:jFB yA:=by
 intro a b n h;unfold yA at h;split at h
 ·injection h with h;have:=Zs a.toNat b.toNat 41 0 0;omega
 ·cases h
theorem qJ:jFB JR:=by
 intro a b n h;unfold JR at h;split at h
 ·split at h
  ·injection h with h;omega
  ·injection h with h;have:=jEr a.toNat 40 b.toNat b.toNat 0 0 (by omega) (by omega) (by rw[show(2:Nat)^40=1099511627776 from by decide];omega) (by omega);unfold Ya at h;split at h<;>omega
 ·cases h
section
variable{bs:LB}{p:Nat}
theorem jAu{n:Int}(h:0<=n/\n<=9223372036854775807):be8 n=be 8 n.toNat:=by
 unfold be8;rw[show(n% 18446744073709551616).toNat=n.toNat by omega]
theorem At.tk8{n:Int}(h:At bs p (be8 n))(hn:0<=n/\n<=9223372036854775807):tkN bs 8 ⟨p,0⟩=(n.toNat,⟨p+8,0⟩):=by
 rw[jAu hn]at h;exact h.tk (by rw[xp];omega)
theorem At.ptk{n:Int}(h:At bs p (be8 n))(hn:0<=n/\n<=1099511627776):yy bs ⟨p,0⟩=(n,true,⟨p+8,0⟩):=by
 unfold yy;rw[h.tk8 (by omega)];simp only;rw[kW _ (by omega),jK5 (by omega),show((n.toNat:Nat):Int)=n by omega]
theorem At.begun{kind most:Nat}{e:LB}(h:At bs 0 (be 1 kind++e))(hk:kind<256)(hm:bs.length<=most):kH bs most kind=some ⟨1,0⟩:=by
 unfold kH;have h1:=h.fst.tk (by omega);rw[jJ5 (by omega),h1,jJ6 ⟨rfl,rfl⟩]
theorem Vb(h:p=bs.length):vi bs ⟨p,0⟩=0:=by
 subst h;simp[vi]
theorem At.all(e:LB):At e 0 e:=⟨[],[],by simp,rfl⟩
theorem uS{kind most:Nat}{f:Int->Int->Option Nat}{a b:Int}{ds:List LB}(hf:jFB f)(hk:kind<256)(hm:2000<=most)(hd:Dgs ds)(h:jA2 kind (f a b) a b ds=some bs):
  (kH bs most kind).bind (XP bs f)=some ⟨a,b,ds⟩:=by
 unfold jA2 at h;split at h
 ·rename_i hfs;injection h with h;obtain⟨ha,hb,hn⟩:=hf a b _ hfs;have hA:=At.all bs;rw[<-h]at hA;have hlen:bs.length=1+(8+(8+ds.length*32)):=by rw[<-h];simp only[jJ4,jC,jG,hd.flat]
  rw[h]at hA;have M3:At bs 0 (be 1 kind++(be8 a++(be8 b++ds.flatten))):=by rw[h];exact hA
  have h1:=M3.snd' (q:=1) (by rw[jC]);have h2:=h1.snd' (q:=1+8) (by rw[jG]);have h3:=h2.snd' (q:=1+8+8) (by rw[jG]);rw[M3.begun hk (by omega)];simp only[jL2];unfold XP;rw[h1.fst.ptk ha];simp only;rw[h2.fst.ptk hb];simp only;rw[jJ6 ⟨trivial,trivial⟩,hfs];simp only;unfold xM;rw[jJ5 (by simp),h3.digs hd];simp only;rw[jJ6 (Vb (by omega))]
 ·cases h
theorem uG{x:Way}(hd:Dgs x.ds)(h:jAh x.a x.b x.ds=some bs):ve bs=some x:=uS yh (by decide) (by decide) hd h
theorem uH{x:Way}(hd:Dgs x.ds)(h:jAr x.a x.b x.ds=some bs):vf bs=some x:=uS qJ (by decide) (by decide) hd h
theorem At.pname{s:BA}(h:At bs p (lp 1 (sb s)))(hs:s.size<=255):zb bs ⟨p,0⟩=(s,⟨p+(1+s.size),0⟩):=by
 unfold zb;have e:lp 1 (sb s)=be 1 s.size++sb s:=(by rw[lp,jH]);rw[e]at h;have h1:=h.fst.tk (by omega);have h2:=(h.snd' (q:=p+1) (by rw[jC])).raw;rw[jH]at h2;rw[h1];simp only;rw[h2];simp only[qf,Nat.add_assoc]
theorem Kr{x:Idx}(Hu:x.Ok)(h:qj x=some bs):kr bs=some x:=by
 unfold qj at h;split at h
 ·rename_i hi;have hA:=At.all bs;injection h with h;have M3:At bs 0 (be 1 50++(lp 1 (sb x.case_)++([if x.found=true then 1 else 0]++vJ x))):=by rw[h];exact hA
  have LQ:=hi;unfold Ji at LQ;simp only[Bool.and_eq_true,decide_eq_true_eq]at LQ;obtain⟨hE,hN,hO⟩:=LQ;have SL:x.case_.size<=64:=by
   unfold kT at hN;simp only[Bool.and_eq_true,decide_eq_true_eq]at hN;exact hN.1
  have Of:x.way.length<=256:=by
   rw[<-hO];have:=Jf x.bitmap;rw[Hu.bitmap]at this;omega
  have hlen:bs.length<=9000:=by
   rw[<-h];simp only[jJ4,jC,jV,jH,List.length_singleton,vJ,Hu.way.flat,Hu.bitmap];have:(if x.found=true then be8 x.count++x.chain else []).length<=40:=by
    split
    ·rw[jJ4,jG,Hu.chain];omega
    ·simp
   omega
  have h1:=M3.snd' (q:=1) (by rw[jC]);have h2:=h1.snd' (q:=1+(1+x.case_.size)) (by rw[jV,jH]);have h3:=h2.snd' (q:=1+(1+x.case_.size)+1) (by rfl);have Q0:∀q,At bs q (x.bitmap++x.way.flatten)->q+32+32*x.way.length=bs.length->VI bs x.case_ x.found x.count x.chain ⟨q,0⟩=some x:=by
   intro q hq S6;have d1:=hq.fst.dig Hu.bitmap;have d2:=(hq.snd' (q:=q+32) (by rw[Hu.bitmap])).digs Hu.way;unfold VI;rw[d1];simp only;rw[hO,d2];simp only;rw[jJ6 ⟨Vb S6,hi⟩]
  unfold kr;rw[M3.begun (by decide) hlen];simp only[jL2];unfold jH8;rw[h1.fst.pname (by omega)];simp only;rw[h2.fst.flag];unfold Qk;simp only;cases hf:x.found with
  |true=>
   have eT:vJ x=be8 x.count++(x.chain++(x.bitmap++x.way.flatten)):=by rw[vJ,hf];simp
   rw[jJ6 rfl];rw[eT]at h3;unfold ze at hE;rw[hf,jJ6 rfl,decide_eq_true_eq]at hE;have h4:=h3.snd' (q:=1+(1+x.case_.size)+1+8) (by rw[jG]);have h5:=h4.snd' (q:=1+(1+x.case_.size)+1+8+32) (by rw[Hu.chain]);rw[h3.fst.ptk (by omega)];simp only;rw[jJ6 trivial,h4.fst.dig Hu.chain];simp only;rw[<-hf];refine Q0 _ h5 ?_;rw[<-h,eT];simp only[jJ4,jC,jV,jH,List.length_singleton,Hu.way.flat,Hu.bitmap,Hu.chain,jG];omega
  |false=>
   have eT:vJ x=x.bitmap++x.way.flatten:=by rw[vJ,hf];simp
   rw[jJ5 (by decide)];rw[eT]at h3;unfold ze at hE;rw[hf,jJ5 (by decide),decide_eq_true_eq]at hE;have:=Q0 _ h3 (by
    rw[<-h,eT];simp only[jJ4,jC,jV,jH,List.length_singleton,Hu.way.flat,Hu.bitmap];omega)
   rw[hf,hE.1,hE.2]at this;exact this
 ·cases h
end
section
variable{bs:LB}{p:Nat}
theorem At.next{e:LB}{n:Nat}(h:At bs p e)(hn:e.length=n):jZ bs n ⟨p,false⟩=(e,⟨p+n,false⟩):=by
 subst hn;obtain⟨pre,post,rfl,rfl⟩:=h;rw[jZ,jJ5 (by simp)];simp
theorem At.lowL{k n:Nat}(h:At bs p (be k n))(hn:n<256^k):lowL bs k ⟨p,false⟩=(n,⟨p+k,false⟩):=by
 unfold Go.Proofs.YtnaolhjbapgjgaaGreat.lowL;rw[h.next (jC _ _),VT,Nat.mod_eq_of_lt hn]
theorem At.numL{k n:Nat}(h:At bs p (be k n))(hn:n<256^k)(hs:n<9223372036854775808):numL bs k ⟨p,false⟩=((n:Int),⟨p+k,false⟩):=by
 unfold Go.Proofs.YtnaolhjbapgjgaaGreat.numL;rw[h.next (jC _ _),VT,Nat.mod_eq_of_lt hn,kW _ hs]
theorem At.num8{n:Int}(h:At bs p (be8 n))(hn:0<=n/\n<=9223372036854775807):Go.Proofs.YtnaolhjbapgjgaaGreat.numL bs 8 ⟨p,false⟩=(n,⟨p+8,false⟩):=by
 rw[jAu hn]at h;rw[h.numL (by rw[xp];omega) (by omega),show((n.toNat:Nat):Int)=n by omega]
theorem At.digL{d:LB}(h:At bs p d)(hd:d.length=32):digL bs ⟨p,false⟩=(d,⟨p+32,false⟩):=by
 unfold Go.Proofs.YtnaolhjbapgjgaaGreat.digL;rw[h.next hd];simp only;rw[jJ5 (by rintro rfl;simp at hd)]
theorem At.wayL:∀{ds:List LB} {p:Nat} (acc:List LB),At bs p ds.flatten->Dgs ds->wayL bs ds.length ⟨p,false⟩ acc=(acc++ds,⟨p+32*ds.length,false⟩)
 |[],p,acc,_,_=>by simp[Go.Proofs.YtnaolhjbapgjgaaGreat.wayL]
 |d::ds,p,acc,h,hd=>by
  have Y4:=hd d List.mem_cons_self;rw[List.flatten_cons]at h;rw[jK6,Go.Proofs.YtnaolhjbapgjgaaGreat.wayL,jJ5 (by simp),h.fst.digL Y4];simp only;rw[At.wayL _ (h.snd' (by rw[Y4])) (fun x hx=>hd x (List.mem_cons_of_mem _ hx))];simp only[jK1,List.singleton_append,Prod.mk.injEq,Ls.mk.injEq,and_true,true_and];omega
end
theorem ZX(bs:LB):∀(n:Nat) (s:Ls) (acc:List LB),Dgs acc->Dgs (wayL bs n s acc).1
 |0,s,acc,h=>h
 |n+1,s,acc,h=>by
  rw[wayL];split
  ·exact h
  ·refine ZX bs n _ _ (fun x hx=> ?_);rcases List.mem_append.1 hx with h1|h1
   ·exact h x h1
   ·rw[List.mem_singleton.1 h1];exact vw _ _
def jFL(f:Int->Int->Option Nat)(bs:LB)(a b:Int)(s:Ls):Way:=⟨a,b,(wayL bs (jp (f a b)).toNat s []).1⟩
def uR(f:Int->Int->Option Nat)(bs:LB):Way:=
 jFL f bs (numL bs 8 (jZ bs 1 ⟨0,false⟩).2).1 (numL bs 8 (numL bs 8 (jZ bs 1 ⟨0,false⟩).2).2).1 (numL bs 8 (numL bs 8 (jZ bs 1 ⟨0,false⟩).2).2).2
def jCo(x:Way)(b:Option LB)(bs:LB):Option Way:=if b=some bs then some x else none
theorem jFK{kind:Nat}{f:Int->Int->Option Nat}{x:Way}{bs:LB}(hf:jFB f)(hd:Dgs x.ds)(h:jA2 kind (f x.a x.b) x.a x.b x.ds=some bs):uR f bs=x:=by
 unfold jA2 at h;split at h
 ·rename_i hfs;injection h with h;obtain⟨ha,hb,hn⟩:=hf x.a x.b _ hfs;have hA:At bs 0 (be 1 kind++(be8 x.a++(be8 x.b++x.ds.flatten))):=by rw[h];exact At.all bs
  have h1:=hA.snd' (q:=1) (by rw[jC]);have h2:=h1.snd' (q:=1+8) (by rw[jG]);have h3:=h2.snd' (q:=1+8+8) (by rw[jG]);unfold uR;rw[hA.fst.next (jC _ _)];simp only[Nat.zero_add];rw[h1.fst.num8 (by omega)];simp only;rw[h2.fst.num8 (by omega)];simp only;unfold jFL;rw[hfs];simp only[jp,jL1];rw[At.wayL [] h3 hd];simp
 ·cases h
theorem Ko(bs:LB)(n:Int)(s:Rs):Dgs (yC bs n s).1:=by
 unfold yC;split
 ·intro d hd;cases hd
 ·split
  ·intro d hd;cases hd
  ·by_cases h0:n.toNat=0
   ·rw[h0];intro d hd;simp[yv]at hd
   ·exact YV (by omega)
theorem uT{most kind:Nat}{f:Int->Int->Option Nat}{bs:LB}{y:Way}(h:(kH bs most kind).bind (XP bs f)=some y):Dgs y.ds:=by
 cases hb:kH bs most kind with
 |none=>rw[hb]at h;cases h
 |some s=>
  rw[hb]at h;simp only[jL2]at h;unfold XP at h;split at h
  ·split at h
   ·cases h
   ·unfold xM at h;split at h
    ·cases h
    ·split at h
     ·cases h;exact Ko _ _ _
     ·cases h
  ·cases h
theorem jCx{kind:Nat}{f:Int->Int->Option Nat}(hf:jFB f)(hk:kind<256)(bs:LB):jCo (uR f bs) (jA2 kind (f (uR f bs).a (uR f bs).b) (uR f bs).a (uR f bs).b (uR f bs).ds) bs=(kH bs 9000 kind).bind (XP bs f):=by
 have Pn:Dgs (uR f bs).ds:=ZX _ _ _ _ (fun _ h=>by cases h);unfold jCo;split
 ·rename_i h;exact(uS hf hk (by decide) Pn h).symm
 ·rename_i h;cases hd:(kH bs 9000 kind).bind (XP bs f)with
  |none=>rfl
  |some y=>
   have hb:=Zy hd;rw[jFK hf (uT hd) hb]at h;exact absurd hb h
end Go.Proofs.YtnaolhjbapgjgaaGreat

import Derived.Test.YtmmjcbbogokmfaaGreatDoorMb13
set_option maxRecDepth 100000
set_option maxHeartbeats 25600000
namespace Go.Proofs.YtmmjcbbogokmfaaGreatDoor
open Go.Proofs.Tryz
theorem UW:∀t:Fin 58,23<=t.val->jO t.val≠ []/\(jO t.val).all jS=true/\vH (jO t.val)=true/\jj (jO t.val)=t.val:=by decide+kernel
theorem vm{t:Nat}(h:4<=t/\t<58):Fine (t,jO t):=by
 rcases Nat.lt_or_ge t 23 with h1|h1
 ·exact .sign h.1 h1
 ·obtain⟨a,b,c,d⟩:=UW ⟨t,h.2⟩ h1;have:=Fine.word a b c;simp only at d
  rwa [d]at this
theorem ZI{w:LB}(h:jQ w=true):Fine (1,w):=by
 obtain⟨h0,hw⟩:=vu h;have hp:vH w=true:=by unfold vH;rw[h];simp
 have hn:jj w=1:=by
  unfold jQ jk at h;simp only[Bool.and_eq_true,decide_eq_true_eq]at h;unfold jj;rw[jJ5 (by rw[Qd h.1.1.2];decide),jJ6 h.2]
 have:=Fine.word h0 hw hp
 rwa [hn]at this
theorem jEc{x:Lt}(h:x.ok):Fine x.tok:=by
 cases x with
 |int v=>
  obtain⟨h1,h2,_⟩:=QR v h;have G9:=Kx 20 v;have hd:yd ((Yu (v:Int)).headD 0)=true:=by
   cases e:Yu (v:Int)with
   |nil=>exact absurd e h2
   |cons c l=>
    have h3:(Yu (v:Int)).all yd=true:=G9;rw[e,List.all_cons,Bool.and_eq_true]at h3;exact h3.1
  have hw:(Yu (v:Int)).all jS=true:=List.all_eq_true.2 fun c hc=>UJ (List.all_eq_true.1 G9 c hc);have hp:vH (Yu (v:Int))=true:=by unfold vH;rw[hd,h1];rfl
  have hn:jj (Yu (v:Int))=2:=by unfold jj;rw[jJ6 hd]
  have:=Fine.word h2 hw hp
  rwa [hn]at this
 |bool b=>cases b<;>exact vm (by decide)
 |text s=>exact .text
 |none_=>exact vm (by decide)
 |name w=>exact ZI h
theorem jDw:∀n:Fin 27,n.val≠16->vI (7+(n.val:Int))=(ke (7+(n.val:Int)),jO (ke (7+(n.val:Int))))/\4<=ke (7+(n.val:Int))/\ke (7+(n.val:Int))<58:=by decide+kernel
theorem Ql{op:Int}(h:7<=op/\op<=33/\op≠23):Fine (vI op):=by
 obtain⟨k,rfl⟩:∃k:Nat,op=7+(k:Int):=⟨(op-7).toNat,by omega⟩;obtain⟨h1,h2⟩:=jDw ⟨k,by omega⟩ (by simp only;omega);simp only at h1 h2;rw[h1];exact vm h2
def AF(X:List Tok):Prop:=∀k∈X,Fine k
theorem AF.nil:AF []:=fun k h=>by cases h
theorem AF.cons{k:Tok}{X:List Tok}(h:Fine k)(hX:AF X):AF (k::X):=fun x hx=>by
 rcases jN4 hx with rfl|hx
 ·exact h
 ·exact hX x hx
theorem AF.app{X Y:List Tok}(h:AF X)(hY:AF Y):AF (X++Y):=fun x hx=>by
 rcases jM6 hx with hx|hx
 ·exact h x hx
 ·exact hY x hx
theorem AF.wrap{b:Bool}{X:List Tok}(h:AF X):AF (JE b X):=by
 unfold JE;split
 ·exact .cons (vm (t:=6) (by decide)) (h.app (.cons (vm (t:=7) (by decide)) .nil))
 ·exact h
def jJu(e:Exp9):Prop:=∀L,AF (prt e L)
theorem UF:∀(l:Exp9),l.ok true->l.each jJu->∀i,AF (prt l i)
 | .nil,_,_,_=>.nil
 | .lit _,h,_,_=>by cases h.1
 | .node _ _ _,h,_,_=>by cases h.1
 | .cons e l,h,hf,i=>by
  rw[prt];refine AF.app ?_ ((hf.1 0).app (UF l h.2.2 hf.2 (i+1)));split
  ·exact .cons (vm (t:=8) (by decide)) .nil
  ·exact .nil
theorem xG:∀(e:Exp9),(e.ok false->jJu e)/\(e.ok true->e.each jJu)
 | .nil=>⟨fun h=>(by cases h),fun _=>trivial⟩
 | .cons e l=>⟨fun h=>(by cases h.1),fun h=>⟨(xG e).1 h.2.1,(xG l).2 h.2.2⟩⟩
 | .lit x=>⟨fun h L=>.cons (jEc h.2) .nil,fun h=>(by cases h.1)⟩
 | .node op nm ks=>⟨fun h L=>by
   have Gn:=(xG ks).2 h.2.1;have hl:=UF ks h.2.1 Gn 0;have h8:∀op,op=6\/(24<=op/\op<=33)->jD op=8:=fun op=>(Kh op).2.2.2.2.2.2.2.2;have call:24<=op/\op<=33->(nm=[]\/jQ nm=true)->AF (prt (.node op nm ks) L):=by
    intro ho hn;rw[yi (h8 op (.inr ho)) (by omega)];refine AF.wrap (.cons (Ql (by omega)) (.cons (vm (t:=6) (by decide)) (AF.app ?_ (hl.app (.cons (vm (t:=7) (by decide)) .nil)))));rcases hn with rfl|hn
    ·rw[jJ6 rfl];exact .nil
    ·rw[jJ5 (Ki hn)];exact .cons (ZI hn) .nil
   rcases h.2.2 with⟨rfl,rfl⟩|⟨ho,hn,hc⟩|⟨ho,rfl,hc⟩|⟨ho,rfl,hc⟩|⟨rfl,rfl,hc⟩|⟨ho,rfl,hc⟩
   ·rw[Xb];exact AF.wrap (.cons (vm (t:=4) (by decide)) (hl.app (.cons (vm (t:=5) (by decide)) .nil)))
   ·exact call (by omega) (.inr hn)
   ·exact call (by omega) (.inl rfl)
   ·obtain⟨a,rfl,ha⟩:=jES h.2.1 hc;by_cases WG:op=27
    ·exact call (by omega) (.inl rfl)
    ·rw[Xa (by rcases ho with rfl|rfl|rfl<;>first|exact .inl rfl|exact .inr rfl|exact absurd rfl WG) (by omega)];exact AF.wrap (.cons (Ql (by omega)) (Gn.1 _))
   ·obtain⟨a,c,d,rfl,_,_,_⟩:=jGy h.2.1 hc;rw[jBc];exact AF.wrap (.cons (vm (t:=40) (by decide)) ((Gn.1 0).app (.cons (vm (t:=41) (by decide)) ((Gn.2.1 0).app (.cons (vm (t:=42) (by decide)) (Gn.2.2.1 0))))))
   ·obtain⟨a,c,rfl,_,_⟩:=jER h.2.1 hc;by_cases hb:9<=op/\op<=22
    ·have Np:jD op<8/\¬(jD op=3\/jD op=7):=by
      have:∀n:Fin 14,jD (9+(n.val:Int))<8/\¬(jD (9+(n.val:Int))=3\/jD (9+(n.val:Int))=7):=(by decide+kernel);obtain⟨k,rfl⟩:∃k:Nat,op=9+(k:Int):=⟨(op-9).toNat,by omega⟩;exact this ⟨k,by omega⟩
     rw[KA Np.1 Np.2 (by omega)];exact AF.wrap ((Gn.1 _).app (.cons (Ql (by omega)) (Gn.2.1 _)))
    ·exact call (by omega) (.inl rfl),fun h=>(by cases h.1)⟩
structure PreT(I:List It):Prop where
 pit:∀ts J r,Pit ts J r->Pit (VS I++ts) (I++J) r
 fine:AF (VS I)
structure PreE(I:List It):Prop where
 pit:∀k ts J r,zi k.1<1->Pit (k::ts) J r->Pit (VS I++k::ts) (I++J) r
 fine:AF (VS I)
def St9(J:List It):Prop:=∃k J',J=.tok k::J' /\zi k.1<1
theorem PreT.nil:PreT []:=⟨fun _ _ _ h=>h,.nil⟩
theorem PreT.tok{k:Tok}{I:List It}(hk:Fine k)(h:PreT I):PreT (.tok k::I):=⟨fun ts J r hp=>.tok (h.pit ts J r hp),.cons hk h.fine⟩
theorem PreT.kw{t:Nat}{I:List It}(ht:4<=t/\t<58)(h:PreT I):PreT (kw t::I):=.tok (vm ht) h
theorem PreT.nm{w:LB}{I:List It}(hw:jQ w=true)(h:PreT I):PreT (nmI w::I):=.tok (ZI hw) h
theorem PreT.app{I J:List It}(h:PreT I)(k:PreT J):PreT (I++J):=by
 refine⟨fun ts K r hp=> ?_,by rw[vY];exact h.fine.app k.fine⟩;rw[vY,jK1,jK1];exact h.pit _ _ _ (k.pit _ _ _ hp)
theorem PreE.app{I J:List It}(h:PreE I)(k:PreT J)(hs:St9 J):PreT (I++J):=by
 refine⟨fun ts K r hp=> ?_,by rw[vY];exact h.fine.app k.fine⟩;have h1:=k.pit _ _ _ hp;obtain⟨q,J',rfl,hq⟩:=hs;rw[vY,jK1,jK1];exact h.pit q _ _ _ hq h1
theorem PreE.ex{e:Exp9}(h:e.ok false):PreE [.ex e]:=by
 refine⟨fun k ts J r hk hp=> ?_,by rw[kn,kQ,jN7];exact(xG e).1 h 0⟩;rw[kn,kQ,jN7];exact .ex ((((qV e).1 h 0 (.inl rfl)).1:P0 (prt e 0) e) k ts hk) hp
theorem PreE.tok{k:Tok}{I:List It}(hk:Fine k)(h:PreE I):PreE (.tok k::I):=⟨fun c ts J r hc hp=>.tok (h.pit c ts J r hc hp),.cons hk h.fine⟩
theorem PreE.of{I:List It}(h:PreT I):PreE I:=⟨fun _ _ J r _ hp=>h.pit _ J r hp,h.fine⟩
theorem jGJ{t:Nat}(ht:4<=t/\t<58){e:Exp9}(h:e.okO):PreE (gI t e):=by
 unfold gI;rcases h with rfl|h
 ·exact .of .nil
 ·rw[Ka h,jJ5 (by decide)];exact .tok (vm ht) (.ex h)
theorem jH8{t:Nat}(ht:4<=t/\t<58){e:Exp9}(h:e.okO):PreT (rI t e):=by
 unfold rI;rcases h with rfl|h
 ·exact .nil
 ·rw[Ka h,jJ5 (by decide)];exact .kw ht (.kw (by decide) ((PreE.ex h).app (.kw (by decide) .nil) ⟨_,_,rfl,by decide⟩))
theorem jBf{w:LB}(h:Ur w):PreT (inI w):=by
 unfold inI;rcases h with rfl|h
 ·exact .nil
 ·rw[jJ5 (Ki h)];exact .kw (by decide) (.nm h .nil)
theorem jFJ:∀(l:List (LB×Nat)) (i:Nat),(∀p∈l,jQ p.1=true/\JC p.2)->PreT (prI l i)
 |[],_,_=>.nil
 |p::l,i,h=>by
  have hp:=h p (List.mem_cons_self ..);have hk:=hp.2;unfold JC at hk;have h1:PreT (if 0<i then [kw 8]else []):=by
   split
   ·exact .kw (by decide) .nil
   ·exact .nil
  exact h1.app (.nm hp.1 (.kw (by decide) (.kw (by omega) (jFJ l (i+1) fun x hx=>h x (jN1 _ hx)))))
theorem jFK:∀(l:List (LB×Exp9)),(∀p∈l,jQ p.1=true/\p.2.okO)->PreT (efI l)
 |[],_=>.nil
 |p::l,h=>by
  have hp:=h p (List.mem_cons_self ..);refine PreT.app ?_ (jFK l fun x hx=>h x (jN1 _ hx));rcases hp.2 with e|ho
  ·rw[e,jJ6 (show Exp9.nil.isNil=true from rfl)];exact .kw (by decide) (.nm hp.1 (.kw (by decide) .nil))
  ·rw[Ka ho,jJ5 (by decide)];exact .nm hp.1 (.kw (by decide) ((PreE.ex ho).app (.kw (by decide) .nil) ⟨_,_,rfl,by decide⟩))
theorem jKH{e:Exp9}{J:List It}(h:St9 J):St9 (gI 32 e++J):=by
 unfold gI;split
 ·exact h
 ·exact⟨_,_,rfl,by decide⟩
theorem jGK{d:Dcl}(h:d.ok):PreT d.items:=by
 cases d with
 |attr nm opt kind d w=>
  obtain⟨FS,Nq,hd,hw⟩:=h;unfold JC at Nq;have h1:PreT (if opt=true then [kw 39]else []):=by
   split
   ·exact .kw (by decide) .nil
   ·exact .nil
  have h2:PreT (gI 32 w++[kw 9]):=(jGJ (by decide) hw).app (.kw (by decide) .nil) ⟨_,_,rfl,by decide⟩;exact .kw (by decide) (.nm FS (.kw (by decide) (h1.app (.kw (by omega) ((jGJ (by decide) hd).app h2 (jKH ⟨_,_,rfl,by decide⟩))))))
 |stage nm inn o c=>
  obtain⟨FS,FB,ho,hc⟩:=h;exact .kw (by decide) (.nm FS ((jBf FB).app (.kw (by decide) ((jH8 (by decide) ho).app ((jH8 (by decide) hc).app (.kw (by decide) .nil))))))
 |mile nm inn w=>
  obtain⟨FS,FB,hw⟩:=h;exact .kw (by decide) (.nm FS ((jBf FB).app (.kw (by decide) (.kw (by decide) ((PreE.ex hw).app (.kw (by decide) .nil) ⟨_,_,rfl,by decide⟩)))))
 |step nm ps inn w es=>
  obtain⟨FS,Wj,FB,hw,WE⟩:=h;have h2:PreT (kw 4::(efI es++[kw 5])):=.kw (by decide) ((jFK es WE).app (.kw (by decide) .nil));exact .kw (by decide) (.nm FS (.kw (by decide) ((jFJ ps 0 Wj).app (.kw (by decide) ((jBf FB).app ((jGJ (by decide) hw).app h2 ⟨_,_,rfl,by decide⟩))))))
theorem Xe:∀(D:List Dcl),(∀d∈D,d.ok)->PreT (D.flatMap Dcl.items)
 |[],_=>.nil
 |d::D,h=>by
  rw[jL9];exact(jGK (h d (List.mem_cons_self ..))).app (Xe D fun x hx=>h x (jN1 _ hx))
theorem jBe{nm:LB}{D:List Dcl}(FS:jQ nm=true)(ho:∀d∈D,d.ok):Pit (VS (JF nm D)) (JF nm D) []/\AF (VS (JF nm D)):=by
 have h:PreT (JF nm D):=.kw (by decide) (.nm FS (.kw (by decide) ((Xe D ho).app (.kw (by decide) .nil))));have h1:=h.pit [] [] [] .nil;rw[jN7,jN7]at h1;exact⟨h1,h.fine⟩
theorem Qj(w:LB):∀(l:List LB) (k:Nat),jl k w l≠0->k<=jl k w l/\l.getD (jl k w l-k) []=w
 |[],k,h=>by rw[jl]at h;exact absurd rfl h
 |a::l,k,h=>by
  rw[jl]at h⊢;split
  ·rename_i e;exact⟨jL3 _,by rw[Nat.sub_self];exact e⟩
  ·rename_i e;rw[jJ5 e]at h;obtain⟨h1,h2⟩:=Qj w l (k+1) h;refine⟨by omega,?_⟩;rw[show jl (k+1) w l-k=(jl (k+1) w l-(k+1))+1 by omega];exact h2
theorem Yx{w:LB}(h:4<=jj w):w=jO (jj w):=by
 unfold jj at h⊢;split at h
 ·omega
 ·rename_i hd;rw[jJ5 hd];split at h
  ·omega
  ·rename_i h0;rw[jJ5 h0];obtain⟨h1,h2⟩:=Qj w resL 23 h0;have h3:23<=yG w:=h1;unfold jO;rw[jJ5 (by omega)];exact h2.symm
theorem XQ{w:LB}(h:4<=jc w):w=jO (jc w):=by
 obtain⟨h1,h2⟩:=Qj w signL 4 (show jl 4 w signL≠0 by unfold jc at h;omega);have h3:jc w<23:=by
  have h5:∀r∈signL,jc r<23:=(by decide);exact h5 w (KI w signL 4 (by unfold jc at h;omega))
 unfold jO;rw[jJ6 h3];exact h2.symm
theorem jB5{l:LB}{x:Nat×Nat}(h:ZB l=some x)(h4:4<=x.2):l.take x.1=jO x.2:=by
 cases l with
 |nil=>cases h
 |cons c l=>
  rw[ZB]at h;split at h
  ·obtain rfl:=jL5 h;have Sk:(c::l).take ((c::l).takeWhile jS).length=(c::l).takeWhile jS:=(List.prefix_iff_eq_take.1 (List.takeWhile_prefix _)).symm;rw[Sk];exact Yx h4
  ·split at h
   ·obtain⟨k,_,rfl⟩:=jM4 h;simp only at h4;omega
   ·split at h
    ·rename_i Gm;obtain rfl:=jL5 h;cases l with
     |nil=>exact absurd Gm.1 (by decide)
     |cons d l=>
      have:d=61:=Gm.1;subst this;exact XQ h4
    ·obtain rfl:=jL5 h;exact XQ h4
theorem jAB{k:Tok}(h:Fine k){src:LB}{p:Nat}(hl:Ve src ⟨k.1,p,p+k.2.length⟩=k.2):us src ⟨k.1,p,p+k.2.length⟩/\(4<=k.1->k.2=jO k.1):=by
 unfold us;rw[hl];simp only;cases h with
 | @word w Fa G9 hp=>
  refine⟨⟨fun hlt=> ?_,fun e=>Yy e hp⟩,fun h4=> ?_⟩
  ·unfold jt;by_cases h2:jj w=2
   ·rw[jJ6 h2,jJ6 ⟨Zp (uE h2) hp,Fa⟩];exact⟨_,rfl⟩
   rw[jJ5 h2];by_cases h46:jj w=46\/jj w=47
   ·rw[jJ6 h46];exact⟨_,rfl⟩
   rw[jJ5 h46];by_cases h3:jj w=3
   ·exfalso;unfold jj at h3;split at h3
    ·cases h3
    ·split at h3
     ·cases h3
     ·have h4:∀r∈resL,yG r≠3:=(by decide);rename_i h5;exact h4 _ (KI _ resL 23 h5) h3
   rw[jJ5 h3];by_cases h1:jj w=1
   ·rw[jJ6 h1];exact⟨_,rfl⟩
   rw[jJ5 h1];exact⟨_,rfl⟩
  ·exact Yx h4
 | @sign t h4 GZ=>
  refine⟨⟨fun hlt=> ?_,fun e=>by omega⟩,fun _=>rfl⟩;have:=jM8 hlt;omega
 | @text s=>
  refine⟨⟨fun _=> ?_,fun e=>by cases e⟩,fun h4=>by omega⟩;obtain⟨_,h2⟩:=uH (.text s) trivial;exact⟨_,h2⟩
theorem jAa:∀(Q:List (Tok×LB)) (r0:LB) (src:LB) (p:Nat),p<=src.length->src.drop p=r0++sz Q->Row r0->(∀q∈Q,Fine q.1/\Jc q.2)->∃ts,Toks src p ts/\tks src ts=Q.map (·.1)
 |[],r0,src,p,hp,hd,hr,_=>by
  refine⟨[],.done ?_,rfl⟩;have hlen:=congrArg List.length hd;have h1:=hr.skips [];simp only[sz,List.flatMap_nil,jN7]at hd hlen h1;rw[hd,h1];rw[jK8]at hlen;omega
 |(k,r)::Q,r0,src,p,hp,hd,hr,hf=>by
  obtain⟨hk,GR⟩:=hf (k,r) (List.mem_cons_self ..);have hk:Fine k:=hk;have GR:Jc r:=GR;have hs:sz ((k,r)::Q)=k.2++(r++sz Q):=(by simp[sz]);rw[hs]at hd;obtain⟨l1,l2,l3⟩:=hk.lex GR (Y:=sz Q);have Rc:jN false (src.drop p)=r0.length:=(by rw[hd,hr.skips,l2,Nat.add_zero]);have hd2:src.drop (p+r0.length)=k.2++(r++sz Q):=(by rw[<-List.drop_drop,hd,List.drop_left]);have TG:src.drop (p+r0.length+k.2.length)=r++sz Q:=(by rw[<-List.drop_drop,hd2,List.drop_left]);have hlen:=congrArg List.length hd;rw[jK8,jJ4,jJ4]at hlen;obtain⟨ts,h1,h2⟩:=jAa Q r src (p+r0.length+k.2.length) (by omega) TG GR.1 (fun q hq=>hf q (jN1 _ hq));have Ck:Ve src ⟨k.1,p+r0.length,p+r0.length+k.2.length⟩=k.2:=by
   rw[zf hd2];exact List.take_left' rfl
  have N7:=(jAB hk Ck).1;refine⟨⟨k.1,p+r0.length,p+r0.length+k.2.length⟩::ts,Toks.more (x:=(k.2.length,k.1)) (by rw[Rc]) (by omega) (by rw[hd2];exact l1) N7 h1,?_⟩;show vD src _::tks src ts=_;rw[h2];unfold vD;rw[Ck];rfl
theorem jBF{r:LB}(h:Row r):∀(src Y:LB) (m:Mc),src.drop m.at_=r++Y->m.at_ <=src.length->∃n,n<=r.length/\∀f,Vs src (f+n) m=Vs src f {m with at_:=m.at_ +r.length}:=by
 induction h with
 |nil=>intro src Y m _ _;exact⟨0,jL3 _,fun f=>rfl⟩
 | @bl c r hc _ ih=>
  intro src Y m hd Fc;have hlen:=congrArg List.length hd;rw[jK8,jJ4,jK6]at hlen;have hd1:src.drop (m.at_ +1)=r++Y:=by rw[<-List.drop_drop,hd];rfl
  obtain⟨n,hn,hf⟩:=ih src Y {m with at_:=m.at_ +1} hd1 (by simp only;omega);refine⟨n+1,by rw[jK6];omega,fun f=> ?_⟩;rw[<-Nat.add_assoc,Vs,jJ5 (by omega),hd,jN6,vh,jJ6 hc];simp only;rw[hf f];simp only[jK6];rw[show m.at_ +1+r.length=m.at_ +(r.length+1)by omega]
 | @com c x r hc hx _ ih=>
  intro src Y m hd Fc;have hb:kL c=false:=by unfold kL;rw[jK3 (by omega)]
  have hlen:=congrArg List.length hd;rw[jK8,jJ4,jK6,jJ4,jK6]at hlen;have hd1:src.drop (m.at_ +(c::x).length)=10::r++Y:=by
   rw[<-List.drop_drop,hd];show((c::x)++(10::r)++Y).drop (c::x).length=_;rw[jK1,List.drop_left]
  have DB:(10::r).length=r.length+1:=rfl;obtain⟨n,hn,hf⟩:=ih src Y {m with at_:=m.at_ +(c::x).length} hd1 (by simp only[jK6];omega);have Dn:(c::(x++10::r)++Y).takeWhile (fun d=> !lfC d)=c::x:=by
   have DR:((c::x).all fun d=> !lfC d)=true:=by
    rw[List.all_cons,hx,Bool.and_true];unfold lfC;rw[jK3 (by omega)];rfl
   have gen:∀(a:LB) (Z:LB),(a.all fun d=> !lfC d)=true->(a++10::Z).takeWhile (fun d=> !lfC d)=a:=by
    intro a Z
    induction a with
    |nil=>intro _;rfl
    |cons b a ih2=>
     intro h;rw[List.all_cons,Bool.and_eq_true]at h;rw[jN6,List.takeWhile_cons,jJ6 h.1,ih2 h.2]
   have:=gen (c::x) (r++Y) DR;simpa using this
  refine⟨n+1,by simp only[jK6,jJ4]at hn⊢;omega,fun f=> ?_⟩;rw[<-Nat.add_assoc,Vs,jJ5 (by omega),hd];have F0:vh m (c::(x++10::r)++Y)=.ok {m with at_:=m.at_ +(c::x).length}:=by
   rw[jN6,vh,jJ5 (by rw[hb];decide),jJ6 hc];unfold vT;simp only;rw[<-jN6,Dn,jJ5 (by simp only[jK6,jJ4];omega)]
  rw[F0];simp only;rw[hf f];simp only[jK6,jJ4];rw[show m.at_ +(x.length+1)+(r.length+1)=m.at_ +(x.length+(r.length+1)+1)by omega]
theorem jFF(src:LB):∀(Q:List (Tok×LB)) (r0:LB) (m:Mc),m.at_ <=src.length->src.drop m.at_=r0++sz Q->Row r0->(∀q∈Q,Fine q.1/\Jc q.2)->Acc m.stack (sy (Q.map (·.1)))->∀f,src.length-m.at_ <=f->∃m',Vs src f m=.ok m' /\m'.stack=[]
 |[],r0,m,Fc,hd,hr,_,ha,f,hf=>by
  have Hm:m.stack=[]:=by
   generalize m.stack=st at ha;cases ha with
   |done=>rfl
  obtain⟨n,hn,Wi⟩:=jBF hr src (sz []) m hd Fc;have hlen:=congrArg List.length hd;simp only[sz,List.flatMap_nil,jN7,jK8]at hlen;obtain⟨g,rfl⟩:∃g,f=g+n:=⟨f-n,by omega⟩;refine⟨{m with at_:=m.at_ +r0.length},?_,Hm⟩;rw[Wi g];cases g with
  |zero=>rfl
  |succ g=>rw[Vs,jJ6 (by simp only;omega)]
 |(k,r)::Q,r0,m,Fc,hd,hr,P9,ha,f,hf=>by
  obtain⟨hk,GR⟩:=P9 (k,r) (List.mem_cons_self ..);have hk:Fine k:=hk;have GR:Jc r:=GR;have hs:sz ((k,r)::Q)=k.2++(r++sz Q):=(by simp[sz]);rw[hs]at hd;obtain⟨n,hn,Wi⟩:=jBF hr src _ m hd Fc;have hlen:=congrArg List.length hd;rw[jK8,jJ4,jJ4]at hlen;have Tp:=(hk.lex GR (Y:=sz Q)).2.2;obtain⟨g,rfl⟩:∃g,f=(g+1)+n:=⟨f-n-1,by omega⟩;rw[List.map_cons,uz]at ha;have hd2:src.drop (m.at_ +r0.length)=k.2++(r++sz Q):=(by rw[<-List.drop_drop,hd,List.drop_left]);have TG:src.drop (m.at_ +r0.length+k.2.length)=r++sz Q:=(by rw[<-List.drop_drop,hd2,List.drop_left]);generalize Hm:m.stack=st at ha;cases ha with
  | @tak _ g2 _ st' _ hJ hm ht ha=>
   obtain⟨m',e1,e2,e3⟩:=hk.step GR (Y:=sz Q) (m:={m with at_:=m.at_ +r0.length}) hJ (by simp only[Hm];exact hm) (by simp only[Hm];exact ht);simp only at e3;obtain⟨m2,h1,h2⟩:=jFF src Q r m' (by rw[e3];omega) (by rw[e3];exact TG) GR.1 (fun q hq=>P9 q (jN1 _ hq)) (by rw[e2];exact ha) g (by rw[e3];omega);refine⟨m2,?_,h2⟩;rw[Wi (g+1),Vs,jJ5 (by simp only;omega)];simp only[hd2,e1];exact h1
theorem ux{src:LB}:∀{p:Nat} {ts:List Tk},Toks src p ts->Al src ts
 |_,_,.done _=>fun k hk=>by cases hk
 |_,_,.more (k:=k) (x:=x) _ hlt hx hl ht=>fun q hq=>by
  rcases jN4 hq with rfl|hq
  ·refine jHs hl fun h4=> ?_;rw[zf rfl];exact jB5 hx h4
  ·exact ux ht q hq
theorem jAK{src:LB}{m:Mc}{r:Rdr}{f:Nat}(hb:ka src=.ok m)(h0:m.stack=[])(hr:yh src f=some r):
  ∃P,yV r.tree=some (bz P)/\jI7 P/\(∀p∈P,Fine p.1)/\∀Q:List (Tok×LB),Q.map (·.1)=P.map (·.1)->(∀q∈Q,Jc q.2)->
   (∃m',ka (sz Q)=.ok m' /\m'.stack=[])/\∀f' r',yh (sz Q) f' =some r' ->r'.tree.str=r.tree.str:=by
 obtain⟨ts,h1,h2,_⟩:=Vn hb h0;have N5:=ux h1;obtain⟨I,a1,a2,a3⟩:=VF _ ts _ (jL3 _) N5 h2;obtain⟨nm,D,rfl,FS,hD⟩:=jC7 a3 a1;have NJ:=VP h1 a2 hD hr;obtain⟨P,p1,p2,p3⟩:=QL FS hD NJ;obtain⟨w1,w2⟩:=jBe FS hD;refine⟨P,p1,p3,fun p hp=>w2 _ (by rw[<-p2];exact List.mem_map_of_mem hp),fun Q hQ DU=> ?_⟩;have P9:∀q∈Q,Fine q.1/\Jc q.2:=fun q hq=>⟨w2 _ (by rw[<-p2,<-hQ];exact List.mem_map_of_mem hq),DU q hq⟩;have TS:Acc [23,1,4,58,5] (sy (Q.map (·.1))):=by rw[hQ,p2];exact jE9 a1 w1
 refine⟨?_,fun f' r' Sq=> ?_⟩
 ·exact jFF (sz Q) Q [] startM (Nat.zero_le _) rfl .nil P9 TS _ (by have:startM.at_=0:=rfl;omega)
 ·obtain⟨ts',t1,t2⟩:=jAa Q [] (sz Q) 0 (Nat.zero_le _) rfl .nil P9;rw[VP t1 (by rw[t2,hQ,p2];exact w1) hD Sq,NJ]
def wtN(n:Nd):Nat:=80+2*n.kids.length+n.name.size+4*n.vt.size
def YH(ns:List Nd)(k:Nat):Nat:=((ns.take k).map wtN).sum
def yf(ns:List Nd):Nat:=(ns.map wtN).sum
theorem zb(n:Nd)(ns:List Nd)(k:Nat):YH (n::ns) (k+1)=wtN n+YH ns k:=by
 unfold YH;rw[List.take_succ_cons,List.map_cons,List.sum_cons]
theorem jAY(n:Nd)(ns:List Nd):yf (n::ns)=wtN n+yf ns:=by
 unfold yf;rw[List.map_cons,List.sum_cons]
theorem Yp:∀(ns:List Nd) (k:Nat),YH ns k<=yf ns
 |[],k=>by unfold YH yf;rw[List.take_nil];exact jL3 _
 |n::ns,0=>Nat.zero_le _
 |n::ns,k+1=>by
  rw[zb,jAY];have:=Yp ns k;omega
theorem xw:∀(ns:List Nd) (a b:Nat),a<=b->YH ns a<=YH ns b
 |[],a,b,_=>by unfold YH;rw[List.take_nil,List.take_nil];exact jL3 _
 |n::ns,0,b,_=>Nat.zero_le _
 |n::ns,a+1,0,h=>absurd h (Nat.not_succ_le_zero a)
 |n::ns,a+1,b+1,h=>by
  rw[zb,zb];have:=xw ns a b (by omega);omega
theorem xv:∀(ns:List Nd) (k:Nat) (n:Nd),ns[k]? =some n->YH ns (k+1)=YH ns k+wtN n
 |[],k,n,h=>by cases h
 |m::ns,0,n,h=>by
  injection h with h;rw[zb,h];exact Nat.add_comm _ _
 |m::ns,k+1,n,h=>by
  rw[zb,zb,xv ns k n h];omega
structure Bd9(ns:List Nd)(P L u c:Nat)(s:Wr9):Prop where
 yes:s.ok=true->s.b.length+YH ns u<=L+YH ns s.used+c
 no:s.ok=false->s.b.length+YH ns u<=L+yf ns+P+c
structure KidBd(ns:List Nd)(P:Nat)(g:Int->Nat->Wr9->Wr9):Prop where
 bd:∀k l u b,Bd9 ns P b.length u 0 (g k l ⟨true,u,b⟩)
 bad:∀k l s,s.ok=false->(g k l s).ok=false/\(g k l s).b=s.b
section
variable{ns:List Nd}{P L u c:Nat}{s:Wr9}{g:Int->Nat->Wr9->Wr9}
theorem Bd9.put(h:Bd9 ns P L u c s)(x:LB){d:Nat}(hd:c+1+x.length<=d):Bd9 ns P L u d (s.put x):=by
 have hx:=(jGE s.b x).2.2;refine⟨fun e=> ?_,fun e=> ?_⟩
 ·have:=h.yes e;show(jI s.b x).length+_ <=L+YH ns s.used+d;omega
 ·have:=h.no e;show(jI s.b x).length+_ <=_;omega
theorem Bd9.mono(h:Bd9 ns P L u c s){d:Nat}(hd:c<=d):Bd9 ns P L u d s:=
 ⟨fun e=>by have:=h.yes e;omega,fun e=>by have:=h.no e;omega⟩
theorem Bd9.bad(h:Bd9 ns P L u c s):Bd9 ns P L u c s.bad:=by
 refine⟨fun e=>(by cases e),fun _=> ?_⟩;show s.b.length+_ <=_;cases e:s.ok with
 |true=>
  have:=h.yes e;have:=Yp ns s.used;omega
 |false=>
  have:=h.no e;omega
theorem Bd9.nl(h:Bd9 ns P L u c s){d:Nat}(hd:c+1<=d):Bd9 ns P L u d s.nl:=by
 have hx:s.nl.b.length=s.b.length+1:=by unfold Wr9.nl;rw[jJ4];rfl
 refine⟨fun e=> ?_,fun e=> ?_⟩
 ·have:=h.yes e;rw[hx];show _ <=L+YH ns s.used+d;omega
 ·have:=h.no e;rw[hx];omega
theorem Bd9.kid(h:Bd9 ns P L u c s)(K:KidBd ns P g)(k:Int)(l:Nat):Bd9 ns P L u c (g k l s):=by
 cases e:s.ok with
 |false=>
  obtain⟨h1,h2⟩:=K.bad k l s e;refine⟨fun e2=>(by rw[h1]at e2;cases e2),fun _=> ?_⟩;rw[h2];exact h.no e
 |true=>
  have h1:=h.yes e;obtain⟨ok,u',b'⟩:=s;simp only at e h1;subst e;have h2:=K.bd k l u' b';refine⟨fun e2=> ?_,fun e2=> ?_⟩
  ·have:=h2.yes e2;omega
  ·have:=h2.no e2;omega
theorem Bd9.iff_{p:Prop}[Decidable p]{a b:Wr9}(h:Bd9 ns P L u c a)(k:Bd9 ns P L u c b):Bd9 ns P L u c (if p then a else b):=by
 split
 ·exact h
 ·exact k
theorem Bd9.list(K:KidBd ns P g):∀(l:List Int) (i:Nat) (c:Nat) (s:Wr9),Bd9 ns P L u c s->Bd9 ns P L u (c+2*l.length) (KH g l i s)
 |[],_,c,s,h=>h
 |k::l,i,c,s,h=>by
  rw[KH];by_cases e:s.ok=true
  ·rw[jJ6 e];have h1:Bd9 ns P L u (c+2) (if 0<i then s.put [44]else s):=Bd9.iff_ (h.put [44] (by simp)) (h.mono (by omega));have h2:=Bd9.list K l (i+1) (c+2) _ (h1.kid K k 0);refine h2.mono ?_;rw[jK6];omega
  ·rw[jJ5 e];exact h.mono (Nat.le_add_right _ _)
end
theorem UL:∀(f n:Nat),(ZN f n).length<=f
 |0,_=>jL3 _
 |f+1,n=>by
  rw[ZN];split
  ·simp
  ·have:=UL f (n/10);rw[jJ4,List.length_singleton];omega
theorem Yn:∀(s:LB),(s.flatMap jz).length<=4*s.length
 |[]=>jL3 _
 |c::s=>by
  rw[jL9,jJ4,jK6];have:=Yn s;have hq:(jz c).length<=4:=by
   unfold jz
   repeat' split
   all_goals simp
  omega
theorem qP(op:Int):(jA op).length<=8:=by
 unfold jA;have h1:∀k,(signL.getD k []).length<=8:=fun k=>by
  by_cases h:k<signL.length
  ·have:∀x∈signL,x.length<=8:=(by decide);rw[List.getD_eq_getElem?_getD,jJ9 h];exact this _ (jL6 h)
  ·rw[List.getD_eq_getElem?_getD,List.getElem?_eq_none (by omega)];exact Nat.zero_le _
 have h2:∀k,(resL.getD k []).length<=9:=fun k=>by
  by_cases h:k<resL.length
  ·have:∀x∈resL,x.length<=9:=(by decide);rw[List.getD_eq_getElem?_getD,jJ9 h];exact this _ (jL6 h)
  ·rw[List.getD_eq_getElem?_getD,List.getElem?_eq_none (by omega)];exact Nat.zero_le _
 by_cases c1:11<=op/\op<=16
 ·rw[jJ6 c1];exact h1 _
 rw[jJ5 c1];by_cases c2:20<=op/\op<=22
 ·rw[jJ6 c2];exact h1 _
 rw[jJ5 c2];by_cases c3:29<=op/\op<=33
 ·rw[jJ6 c3];rcases (show op=29\/op=30\/op=31\/op=32\/op=33 by omega)with e|e|e|e|e<;>(rw[e];decide)
 rw[jJ5 c3]
 repeat' split
 all_goals decide
theorem jCF(k:Int):(Vz k).length<=9:=by
 unfold Vz;by_cases h:k.toNat+10<resL.length
 ·have:∀x∈resL,x.length<=9:=(by decide);rw[List.getD_eq_getElem?_getD,jJ9 h];exact this _ (jL6 h)
 ·rw[List.getD_eq_getElem?_getD,List.getElem?_eq_none (by omega)];exact Nat.zero_le _
theorem jAc(x:BA):(tb x).length=x.size:=by
 unfold tb;rw[Array.length_toList];rfl
section
variable{ns:List Nd}{P L u c:Nat}{s:Wr9}{g:Int->Nat->Wr9->Wr9}
theorem Bd9.core(h:Bd9 ns P L u c s)(K:KidBd ns P g)(n:Nd):Bd9 ns P L u (c+70+2*n.kids.length+n.name.size+4*n.vt.size) (zC g n s):=by
 have hs:=qP n.op;have FS:=jAc n.name;unfold zC;by_cases c0:n.op=23
 ·rw[jJ6 c0];exact((((((h.put [105,102] (d:=c+3) (by simp)).kid K _ 0).put [116,104,101,110] (d:=c+8) (by simp)).kid K _ 0).put [101,108,115,101] (d:=c+13) (by simp)).kid K _ 0).mono (by omega)
 rw[jJ5 c0];by_cases c1:jD n.op=3\/jD n.op=7
 ·rw[jJ6 c1];exact((h.put (jA n.op) (d:=c+9) (by omega)).kid K _ _).mono (by omega)
 rw[jJ5 c1];by_cases c2:jD n.op<8
 ·rw[jJ6 c2];exact(((h.kid K _ _).put (jA n.op) (d:=c+9) (by omega)).kid K _ _).mono (by omega)
 rw[jJ5 c2];unfold jC3;by_cases o1:n.op=1
 ·rw[jJ6 o1];have:=UL 20 n.vn.toNat;exact h.put _ (by show c+1+(ZN 20 n.vn.toNat).length<=_;omega)
 rw[jJ5 o1];by_cases o2:n.op=2
 ·rw[jJ6 o2];refine h.put _ ?_;have:(if n.vn=1 then [116,114,117,101]else [102,97,108,115,101]:LB).length<=5:=by split<;>decide
  omega
 rw[jJ5 o2];by_cases o3:n.op=3
 ·rw[jJ6 o3];refine h.put _ ?_;have h1:=Yn (tb n.vt);rw[jAc]at h1;unfold ji;rw[jK6,jJ4,List.length_singleton];omega
 rw[jJ5 o3];by_cases o4:n.op=4
 ·rw[jJ6 o4];exact h.put _ (by simp;omega)
 rw[jJ5 o4];by_cases o5:n.op=5
 ·rw[jJ6 o5];exact h.put _ (by omega)
 rw[jJ5 o5];by_cases o6:n.op=6
 ·rw[jJ6 o6];have h1:=h.put [123] (d:=c+2) (by simp);have h2:Bd9 ns P L u (c+3+n.name.size) (if n.name.size=0 then s.put [123]else(s.put [123]).put (tb n.name)):=Bd9.iff_ (h1.mono (by omega)) (h1.put _ (by omega));exact(Bd9.list K n.kids 0 _ _ h2).put [125] (by simp;omega)
 rw[jJ5 o6];have h1:=(h.put (jA n.op) (d:=c+9) (by omega)).put [40] (d:=c+11) (by simp);have h2:Bd9 ns P L u (c+12+n.name.size) (if n.name.size=0 then(s.put (jA n.op)).put [40]else((s.put (jA n.op)).put [40]).put (tb n.name)):=Bd9.iff_ (h1.mono (by omega)) (h1.put _ (by omega));exact(Bd9.list K n.kids 0 _ _ h2).put [41] (by simp;omega)
end
theorem jBh(ns:List Nd):∀(f:Nat) (root below:Int) (least u:Nat) (b:LB) (P:Nat),YH ns below.toNat<=P->Bd9 ns P b.length u 0 (kz ns f root below least ⟨true,u,b⟩)
 |0,root,below,least,u,b,P,hP=>Bd9.bad (s:=⟨true,u,b⟩) ⟨fun _=>jL3 _,fun e=>by cases e⟩
 |f+1,root,below,least,u,b,P,hP=>by
  have h0:Bd9 ns P b.length u 0 ⟨true,u,b⟩:=⟨fun _=>jL3 _,fun e=>by cases e⟩;rw[kz];by_cases hg:(⟨true,u,b⟩:Wr9).ok=true/\0<=root/\root<below
  ·rw[jJ6 hg];cases hn:ns[root.toNat]? with
   |none=>exact h0.bad
   |some n=>
    simp only;by_cases hr:jR n=true
    ·rw[jJ6 hr];have K:KidBd ns (YH ns root.toNat) (fun k l s=>kz ns f k root l s):=⟨fun k l u b=>jBh ns f k root l u b _ (jL3 _),fun k l s h=>by
      cases f with
      |zero=>exact⟨rfl,rfl⟩
      |succ f=>rw[kz,jJ5 (fun e=>by rw[h]at e;cases e.1)];exact⟨rfl,rfl⟩⟩
     have hs:=xv ns root.toNat n hn;have Fc:YH ns (root.toNat+1)<=P:=jL4 (xw ns _ _ (by omega)) hP;have h1:Bd9 ns (YH ns root.toNat) b.length u 0 ⟨true,u,b⟩:=⟨fun _=>jL3 _,fun e=>by cases e⟩;unfold Uo;have h2:Bd9 ns (YH ns root.toNat) b.length u 2 (if jD n.op<least then(⟨true,u,b⟩:Wr9).put [40]else⟨true,u,b⟩):=Bd9.iff_ (h1.put [40] (by simp)) (h1.mono (by omega));have h3:=h2.core K n;have h4:Bd9 ns (YH ns root.toNat) b.length u (wtN n) (if jD n.op<least then(zC (fun k l s=>kz ns f k root l s) n (if jD n.op<least then(⟨true,u,b⟩:Wr9).put [40]else⟨true,u,b⟩)).put [41]else zC (fun k l s=>kz ns f k root l s) n (if jD n.op<least then(⟨true,u,b⟩:Wr9).put [40]else⟨true,u,b⟩)):=by
      refine Bd9.iff_ (h3.put [41] ?_) (h3.mono ?_)
      ·unfold wtN;rw[List.length_singleton];omega
      ·unfold wtN;omega
     simp only;generalize (if jD n.op<least then(zC (fun k l s=>kz ns f k root l s) n (if jD n.op<least then(⟨true,u,b⟩:Wr9).put [40]else⟨true,u,b⟩)).put [41]else zC (fun k l s=>kz ns f k root l s) n (if jD n.op<least then(⟨true,u,b⟩:Wr9).put [40]else⟨true,u,b⟩))=s2 at h4;refine⟨fun e=> ?_,fun e=> ?_⟩
     ·have e:(s2.ok&&decide (root=(s2.used:Int)))=true:=e;rw[Bool.and_eq_true,decide_eq_true_eq]at e;have h5:=h4.yes e.1;have e2:s2.used=root.toNat:=(by omega);show s2.b.length+YH ns u<=b.length+YH ns (s2.used+1)+0;rw[e2]at h5⊢;omega
     ·show s2.b.length+YH ns u<=b.length+yf ns+P+0;cases e1:s2.ok with
      |true=>
       have h5:=h4.yes e1;have:=Yp ns s2.used;omega
      |false=>
       have h5:=h4.no e1;omega
    ·rw[jJ5 hr];exact h0.bad
  ·rw[jJ5 hg];exact h0.bad
end Go.Proofs.YtmmjcbbogokmfaaGreatDoor

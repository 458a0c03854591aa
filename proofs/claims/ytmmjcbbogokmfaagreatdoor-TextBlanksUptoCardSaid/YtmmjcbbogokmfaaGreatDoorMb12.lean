import Derived.Test.YtmmjcbbogokmfaaGreatDoorMb11
set_option maxRecDepth 100000
set_option maxHeartbeats 25600000
namespace Go.Proofs.YtmmjcbbogokmfaaGreatDoor
open Go.Proofs.Tryz
theorem yQ(ns:List Nd)(root:Int){s:Wr9}(h:s.ok=false):(kr ns root s).ok=false:=Xh ns _ root _ 0 h
theorem Kd{s:Wr9}(x:BA)(h:s.ok=false):(s.named x).ok=false:=by
 unfold Wr9.named;split
 ·exact h
 ·rfl
theorem qz{s:Wr9}(x:BA)(h:s.ok=false):(s.inn x).ok=false:=by
 unfold Wr9.inn;split
 ·exact h
 ·exact Kd x h
theorem qw{s:Wr9}(k:Int)(h:s.ok=false):(s.kind k).ok=false:=by
 unfold Wr9.kind;split
 ·exact h
 ·rfl
theorem Kq{p:Prop}[Decidable p]{a b:Wr9}(h:a.ok=false)(k:b.ok=false):(if p then a else b).ok=false:=by
 split
 ·exact h
 ·exact k
theorem qS(ns:List Nd)(w:LB)(root:Int){s:Wr9}(h:s.ok=false):(VN ns w root s).ok=false:=by
 unfold VN;exact Kq h (yQ ns root h)
theorem YG:∀(l:List Prm) (i:Nat) {s:Wr9},s.ok=false->(Yo l i s).ok=false
 |[],_,_,h=>h
 |p::l,i,s,h=>by
  rw[Yo];exact YG l (i+1) (qw _ (Kd p.name (Kq (show(s.put [44]).ok=false from h) h)))
theorem Kv(ns:List Nd):∀(l:List Eff) {s:Wr9},s.ok=false->(Vj ns l s).ok=false
 |[],_,h=>h
 |e::l,s,h=>by
  rw[Vj];exact Kv ns l (show(if e.worth= -1 then(s.put [114,101,111,112,101,110]).named e.name else kr ns e.worth ((s.named e.name).put [58,61])).ok=false from Kq (Kd e.name h) (yQ ns e.worth (Kd e.name h)))
theorem yB{x:BA}(h:jb x=true)(u:Nat)(b:LB):(⟨true,u,b⟩:Wr9).named x=⟨true,u,jI b (tb x)⟩:=by
 unfold Wr9.named;rw[jJ6 h];rfl
theorem yk{x:BA}(h:¬jb x=true)(s:Wr9):(s.named x).ok=false:=by
 unfold Wr9.named;rw[jJ5 h];rfl
theorem Xt{k:Int}(h:vE k=true)(u:Nat)(b:LB):(⟨true,u,b⟩:Wr9).kind k=⟨true,u,jI b (Vz k)⟩:=by
 unfold Wr9.kind;rw[jJ6 h];rfl
theorem jCE{k:Int}(h:¬vE k=true)(s:Wr9):(s.kind k).ok=false:=by
 unfold Wr9.kind;rw[jJ5 h];rfl
theorem Qh{x:BA}(h:vX x=true)(u:Nat)(b:LB):(⟨true,u,b⟩:Wr9).inn x=⟨true,u,inP x b⟩:=by
 unfold vX at h;rw[Bool.or_eq_true,decide_eq_true_eq]at h;unfold Wr9.inn inP;by_cases h0:x.size=0
 ·rw[jJ6 h0,jJ6 h0]
 ·rw[jJ5 h0,jJ5 h0];exact yB (h.resolve_left h0) u _
theorem jCL{x:BA}(h:¬vX x=true)(s:Wr9):(s.inn x).ok=false:=by
 unfold vX at h;rw[Bool.or_eq_true,decide_eq_true_eq]at h;unfold Wr9.inn;rw[jJ5 (fun e=>h (.inl e))];exact yk (fun e=>h (.inr e)) _
theorem YV(ns:List Nd)(root:Int)(u:Nat)(b:LB):Met (kW ns (ns.length+1) root u) (exP ns root b) (kr ns root ⟨true,u,b⟩):=by
 have h:=Xg ns (ns.length+1) root ns.length 0 u b;by_cases hb:(ns.length:Int)<=root
 ·rw[jJ6 hb]at h;rw[kW,jJ6 (show root<0\/(ns.length:Int)<=root from .inr hb)];exact h
 ·rw[jJ5 hb]at h;exact h
theorem KO(ns:List Nd)(f:Nat){root:Int}(h:root<0)(u:Nat):kW ns f root u=none:=by
 cases f with
 |zero=>rfl
 |succ f=>rw[kW,jJ6 (show root<0\/(ns.length:Int)<=root from .inl h)]
theorem JN(ns:List Nd)(root:Int)(ws:List LB)(u:Nat)(b:LB):Met (jV ns root u) (vq ns root ws b) (if root= -1 then⟨true,u,b⟩else kr ns root ⟨true,u,jU b ws⟩):=by
 unfold jV vq;by_cases h1:root= -1
 ·rw[jJ6 h1,jJ6 h1,jJ5 (show¬0<=root by omega)];exact Met.yes u b
 ·rw[jJ5 h1,jJ5 h1];by_cases h0:0<=root
  ·rw[jJ6 h0];exact YV ns root u _
  ·have h:=YV ns root u (jU b ws);rw[KO ns _ (by omega)]at h⊢;exact Met.no (h.2 rfl)
theorem jDP(ns:List Nd)(root:Int)(ws:List LB)(u:Nat)(b:LB):Met (kW ns (ns.length+1) root u) (vq ns root ws b) (kr ns root ⟨true,u,jU b ws⟩):=by
 have h:=YV ns root u (jU b ws);unfold vq;by_cases h0:0<=root
 ·rw[jJ6 h0];exact h
 ·rw[KO ns _ (by omega)]at h⊢;exact Met.no (h.2 rfl)
theorem jE3(ns:List Nd)(a:Atr)(u:Nat)(b:LB):Met (KW ns a u) (ug ns a b) (jGC ns a ⟨true,u,b⟩):=by
 unfold KW ug jGC;simp only;have tail:∀s:Wr9,s.ok=false->(((if a.when_= -1 then(if a.dflt= -1 then s else kr ns a.dflt (s.put [61]))else kr ns a.when_ ((if a.dflt= -1 then s else kr ns a.dflt (s.put [61])).put [119,104,101,110])):Wr9).put [59]).ok=false:=fun s h=>by
  have h1:(if a.dflt= -1 then s else kr ns a.dflt (s.put [61])).ok=false:=Kq h (yQ _ _ h);exact Kq h1 (yQ ns a.when_ h1)
 by_cases hl:jb a.name=true
 ·rw[show(⟨true,u,b⟩:Wr9).put [97,116,116,114,105,98,117,116,101]=⟨true,u,jI b [97,116,116,114,105,98,117,116,101]⟩from rfl,yB hl];have e:(if a.opt=true then((⟨true,u,jI (jI b [97,116,116,114,105,98,117,116,101]) (tb a.name)⟩:Wr9).put [58]).put [111,112,116,105,111,110,97,108]else(⟨true,u,jI (jI b [97,116,116,114,105,98,117,116,101]) (tb a.name)⟩:Wr9).put [58])=⟨true,u,if a.opt=true then jI (jU b [[97,116,116,114,105,98,117,116,101],tb a.name,[58]]) [111,112,116,105,111,110,97,108]else jU b [[97,116,116,114,105,98,117,116,101],tb a.name,[58]]⟩:=by split<;>rfl
  rw[e];by_cases hk:vE a.kind=true
  ·rw[jJ6 ⟨hl,hk⟩,Xt hk];refine(JN ns a.dflt [[61]] u _).next (H:=fun s=>(if a.when_= -1 then s else kr ns a.when_ (s.put [119,104,101,110])).put [59]) (fun h=>Kq h (yQ ns a.when_ h)) (fun nx b1 _=> ?_);exact(JN ns a.when_ [[119,104,101,110]] nx b1).map (H:=fun s=>s.put [59]) (fun h=>h) (fun _ _ _=>rfl)
  ·rw[jJ5 (fun e=>hk e.2)];exact Met.no (tail _ (jCE hk _))
 ·rw[jJ5 (fun e=>hl e.1)];have h1:=yk hl ((⟨true,u,b⟩:Wr9).put [97,116,116,114,105,98,117,116,101]);exact Met.no (tail _ (qw _ (Kq (show((((⟨true,u,b⟩:Wr9).put [97,116,116,114,105,98,117,116,101]).named a.name).put [58]).ok=false from h1) h1)))
theorem XU(ns:List Nd)(w:LB)(root:Int)(u:Nat)(b:LB):Met (jV ns root u) (ZZ ns root w b) (VN ns w root ⟨true,u,b⟩):=by
 unfold ZZ VN;have h:=JN ns root [w,[119,104,101,110]] u b;by_cases h1:root= -1
 ·rw[jJ6 h1]at h;rw[jJ6 h1,jJ5 (show¬0<=root by omega)];unfold jV;rw[jJ6 h1];exact Met.yes u b
 ·rw[jJ5 h1]at h⊢;by_cases h0:0<=root
  ·rw[jJ6 h0];have h2:=h.map (jG9:=fun b1=>jI b1 [59]) (H:=fun s=>s.put [59]) (fun h=>h) (fun _ _ _=>rfl);exact h2
  ·unfold jV at h⊢;rw[jJ5 h1,KO ns _ (by omega)]at h⊢;exact Met.no (h.2 rfl)
theorem jAe(ns:List Nd)(a:Stg)(u:Nat)(b:LB):Met (Vt ns a u) (uf ns a b) (jGA ns a ⟨true,u,b⟩):=by
 unfold Vt uf jGA;have tail:∀s:Wr9,s.ok=false->((VN ns [99,108,111,115,101,115] a.closes (VN ns [111,112,101,110,115] a.opens (s.put [123]))).put [125]).ok=false:=fun s h=>qS ns _ _ (qS ns _ _ h);by_cases hl:jb a.name=true
 ·rw[show(⟨true,u,b⟩:Wr9).put [115,116,97,103,101]=⟨true,u,jI b [115,116,97,103,101]⟩from rfl,yB hl];by_cases hi:vX a.in_=true
  ·rw[jJ6 ⟨hl,hi⟩,Qh hi];refine(XU ns [111,112,101,110,115] a.opens u _).next (H:=fun s=>(VN ns [99,108,111,115,101,115] a.closes s).put [125]) (fun h=>qS ns _ _ h) (fun nx b1 _=> ?_);exact(XU ns [99,108,111,115,101,115] a.closes nx b1).map (H:=fun s=>s.put [125]) (fun h=>h) (fun _ _ _=>rfl)
  ·rw[jJ5 (fun e=>hi e.2)];exact Met.no (tail _ (jCL hi _))
 ·rw[jJ5 (fun e=>hl e.1)];exact Met.no (tail _ (qz _ (yk hl _)))
theorem jED(ns:List Nd)(a:Mil)(u:Nat)(b:LB):Met (Jw ns a u) (Zg ns a b) (jF9 ns a ⟨true,u,b⟩):=by
 unfold Jw Zg jF9;have tail:∀s:Wr9,s.ok=false->((kr ns a.when_ ((s.put [114,101,97,99,104,101,100]).put [119,104,101,110])).put [59]).ok=false:=fun s h=>yQ ns _ h;by_cases hl:jb a.name=true
 ·rw[show(⟨true,u,b⟩:Wr9).put [109,105,108,101,115,116,111,110,101]=⟨true,u,jI b [109,105,108,101,115,116,111,110,101]⟩from rfl,yB hl];by_cases hi:vX a.in_=true
  ·rw[jJ6 ⟨hl,hi⟩,Qh hi];exact(jDP ns a.when_ [[114,101,97,99,104,101,100],[119,104,101,110]] u _).map (H:=fun s=>s.put [59]) (fun h=>h) (fun _ _ _=>rfl)
  ·rw[jJ5 (fun e=>hi e.2)];exact Met.no (tail _ (jCL hi _))
 ·rw[jJ5 (fun e=>hl e.1)];exact Met.no (tail _ (qz _ (yk hl _)))
theorem Xd:∀(l:List Prm) (i u:Nat) (b:LB),(l.all (fun p=>jb p.name&&vE p.kind)=true->Yo l i ⟨true,u,b⟩=⟨true,u,vj l i b⟩)/\(¬l.all (fun p=>jb p.name&&vE p.kind)=true->(Yo l i ⟨true,u,b⟩).ok=false)
 |[],_,_,_=>⟨fun _=>rfl,fun h=>absurd rfl h⟩
 |p::l,i,u,b=>by
  rw[List.all_cons,Yo,vj];have e:(if 0<i then(⟨true,u,b⟩:Wr9).put [44]else⟨true,u,b⟩)=⟨true,u,if 0<i then jI b [44]else b⟩:=by split<;>rfl
  rw[e];by_cases hl:jb p.name=true
  ·rw[yB hl,show(⟨true,u,jI (if 0<i then jI b [44]else b) (tb p.name)⟩:Wr9).put [58]=⟨true,u,jI (jI (if 0<i then jI b [44]else b) (tb p.name)) [58]⟩from rfl];by_cases hk:vE p.kind=true
   ·rw[Xt hk,hl,hk,Bool.true_and,Bool.true_and];exact Xd l (i+1) u _
   ·rw[(Bool.not_eq_true _).mp hk,Bool.and_false,Bool.false_and];exact⟨fun h=>(by cases h),fun _=>YG l (i+1) (jCE hk _)⟩
  ·rw[(Bool.not_eq_true _).mp hl,Bool.false_and,Bool.false_and];exact⟨fun h=>(by cases h),fun _=>YG l (i+1) (qw _ (yk hl _))⟩
theorem UH(ns:List Nd):∀(l:List Eff) (u:Nat) (b:LB),Met (vM ns l u) (ve ns l b) (Vj ns l ⟨true,u,b⟩)
 |[],u,b=>Met.yes u b
 |e::l,u,b=>by
  rw[vM,ve,Vj];by_cases hl:jb e.name=true
  ·rw[jJ6 hl,show(⟨true,u,b⟩:Wr9).put [114,101,111,112,101,110]=⟨true,u,jI b [114,101,111,112,101,110]⟩from rfl,yB hl,yB hl];have h1:Met (jV ns e.worth u) (if e.worth<0 then some (jU b [[114,101,111,112,101,110],tb e.name])else vq ns e.worth [tb e.name,[58,61]] b) (if e.worth= -1 then⟨true,u,jI (jI b [114,101,111,112,101,110]) (tb e.name)⟩else kr ns e.worth ((⟨true,u,jI b (tb e.name)⟩:Wr9).put [58,61])):=by
    have h2:=JN ns e.worth [tb e.name,[58,61]] u b;by_cases hw:e.worth= -1
    ·rw[jJ6 hw,jJ6 (show e.worth<0 by omega)];unfold jV;rw[jJ6 hw];exact Met.yes _ _
    ·rw[jJ5 hw]at h2⊢;by_cases h0:e.worth<0
     ·unfold jV at h2⊢;rw[jJ5 hw,KO ns _ h0]at h2⊢;exact Met.no (h2.2 rfl)
     ·rw[jJ5 h0];exact h2
   exact h1.next (H:=fun s=>Vj ns l (s.put [59])) (fun h=>Kv ns l h) (fun nx b1 _=>UH ns l nx _)
  ·rw[jJ5 hl];exact Met.no (Kv ns l (show(if e.worth= -1 then _ else kr ns e.worth _:Wr9).ok=false from Kq (yk hl _) (yQ ns _ (yk hl _))))
theorem jDW(ns:List Nd)(a:Stp)(u:Nat)(b:LB):Met (Jv ns a u) (xM ns a b) (jF8 ns a ⟨true,u,b⟩):=by
 unfold Jv xM jF8;simp only;have tail:∀s:Wr9,s.ok=false->((Vj ns a.effects ((if a.when_= -1 then s else kr ns a.when_ (s.put [119,104,101,110])).put [123])).put [125]).ok=false:=fun s h=>Kv ns _ (show(if a.when_= -1 then s else kr ns a.when_ (s.put [119,104,101,110])).ok=false from Kq h (yQ ns _ h));by_cases hl:jb a.name=true
 ·rw[show(⟨true,u,b⟩:Wr9).put [115,116,101,112]=⟨true,u,jI b [115,116,101,112]⟩from rfl,yB hl,show(⟨true,u,jI (jI b [115,116,101,112]) (tb a.name)⟩:Wr9).put [40]=⟨true,u,jU b [[115,116,101,112],tb a.name,[40]]⟩from rfl];have hp:=Xd a.params 0 u (jU b [[115,116,101,112],tb a.name,[40]]);by_cases ha:a.params.all (fun p=>jb p.name&&vE p.kind)=true
  ·rw[hp.1 ha,show(⟨true,u,vj a.params 0 (jU b [[115,116,101,112],tb a.name,[40]])⟩:Wr9).put [41]=⟨true,u,jI (vj a.params 0 (jU b [[115,116,101,112],tb a.name,[40]])) [41]⟩from rfl];by_cases hi:vX a.in_=true
   ·rw[jJ6 ⟨hl,hi,ha⟩,Qh hi];refine(JN ns a.when_ [[119,104,101,110]] u _).next (H:=fun s=>(Vj ns a.effects (s.put [123])).put [125]) (fun h=>Kv ns _ h) (fun nx b1 _=> ?_);exact(UH ns a.effects nx _).map (H:=fun s=>s.put [125]) (fun h=>h) (fun _ _ _=>rfl)
   ·rw[jJ5 (fun e=>hi e.2.1)];exact Met.no (tail _ (jCL hi _))
  ·rw[jJ5 (fun e=>ha e.2.2)];exact Met.no (tail _ (qz _ (hp.2 ha)))
 ·rw[jJ5 (fun e=>hl e.1)];exact Met.no (tail _ (qz _ (YG _ _ (yk hl _))))
theorem jEl(t:Tre)(fam:Int)(k:Nat)(hk:(fam=1->k<t.attrs.length)/\(fam=2->k<t.stages.length)/\(fam=3->k<t.miles.length)/\(fam=4->k<t.steps.length))(hf:fam=1\/fam=2\/fam=3\/fam=4)(u:Nat)(b:LB):Met (km t (fam,(k:Int)) u) (Kw t (fam,(k:Int)) b) (jGB t (fam,k) ⟨true,u,b⟩).nl:=by
 have nl:∀{o:Option Nat} {ob:Option LB} {s:Wr9},Met o ob s->Met o (ob.map (· ++[10])) s.nl:=fun{o ob s} h=>h.map (H:=fun s=>s.nl) (fun h=>h) (fun _ _ _=>rfl);unfold km Kw jGB;simp only[jL1];rcases hf with rfl|rfl|rfl|rfl
 ·simp only[if_true];rw[jJ9 (hk.1 rfl)];exact nl (jE3 _ _ _ _)
 ·simp only[Int.reduceEq,if_true,if_false];rw[jJ9 (hk.2.1 rfl)];exact nl (jAe _ _ _ _)
 ·simp only[Int.reduceEq,if_true,if_false];rw[jJ9 (hk.2.2.1 rfl)];exact nl (jED _ _ _ _)
 ·simp only[Int.reduceEq,if_false];rw[jJ9 (hk.2.2.2 rfl)];exact nl (jDW _ _ _ _)
def VI(f:Int):Prop:=f=1\/f=2\/f=3\/f=4
def JD(t:Tre)(f:Int):List Int:=if f=1 then t.attrs.map Atr.order else if f=2 then t.stages.map Stg.order else if f=3 then t.miles.map Mil.order else t.steps.map Stp.order
def Mg9.at_(c:Mg9)(f:Int):Nat:=if f=1 then c.a else if f=2 then c.s else if f=3 then c.m else c.p
theorem Mg9.go_at(c:Mg9){f g:Int}(hf:VI f)(hg:VI g):(c.go f).at_ g=if g=f then c.at_ f+1 else c.at_ g:=by
 rcases hf with rfl|rfl|rfl|rfl<;>rcases hg with rfl|rfl|rfl|rfl<;>rfl
theorem Yw{t:Tre}{c:Mg9}{i:Nat}{d:Int×Nat}(h:VV t c i=some d):VI d.1/\d.2=c.at_ d.1/\(JD t d.1)[d.2]? =some (i:Int):=by
 unfold VV zd at h;by_cases h1:(t.attrs.map Atr.order)[c.a]? =some (i:Int)
 ·rw[jJ6 (jK5 h1)]at h;injection h with h;subst h;exact⟨.inl rfl,rfl,h1⟩
 rw[jJ5 (show¬decide _=true by rw[decide_eq_true_eq];exact h1)]at h;by_cases h2:(t.stages.map Stg.order)[c.s]? =some (i:Int)
 ·rw[jJ6 (jK5 h2)]at h;injection h with h;subst h;exact⟨.inr (.inl rfl),rfl,h2⟩
 rw[jJ5 (show¬decide _=true by rw[decide_eq_true_eq];exact h2)]at h;by_cases h3:(t.miles.map Mil.order)[c.m]? =some (i:Int)
 ·rw[jJ6 (jK5 h3)]at h;injection h with h;subst h;exact⟨.inr (.inr (.inl rfl)),rfl,h3⟩
 rw[jJ5 (show¬decide _=true by rw[decide_eq_true_eq];exact h3)]at h;by_cases h4:(t.steps.map Stp.order)[c.p]? =some (i:Int)
 ·rw[jJ6 (jK5 h4)]at h;injection h with h;subst h;exact⟨.inr (.inr (.inr rfl)),rfl,h4⟩
 rw[jJ5 (show¬decide _=true by rw[decide_eq_true_eq];exact h4)]at h;cases h
theorem jBr{t:Tre}{c:Mg9}{i:Nat}(h:VV t c i=none){f:Int}(hf:VI f):(JD t f)[c.at_ f]? ≠some (i:Int):=by
 intro e;unfold VV zd at h;rcases hf with rfl|rfl|rfl|rfl
 ·have e:(t.attrs.map Atr.order)[c.a]? =some (i:Int):=e;rw[jJ6 (jK5 e)]at h;cases h
 ·have e:(t.stages.map Stg.order)[c.s]? =some (i:Int):=e;split at h
  ·cases h
  rw[jJ6 (jK5 e)]at h;cases h
 ·have e:(t.miles.map Mil.order)[c.m]? =some (i:Int):=e;split at h
  ·cases h
  split at h
  ·cases h
  rw[jJ6 (jK5 e)]at h;cases h
 ·have e:(t.steps.map Stp.order)[c.p]? =some (i:Int):=e;split at h
  ·cases h
  split at h
  ·cases h
  split at h
  ·cases h
  rw[jJ6 (jK5 e)]at h;cases h
theorem jEP{fam:Int}{i:Nat}{o:Int}{s:LayP}(h:(Jp fam i o s).ok=true)(hl: -1<=s.last):∃n:Nat,o=(n:Int)/\(if i=0 then(-1:Int)else s.last)<o/\s.ok=true/\s.l[n]? =some (0,0)/\Jp fam i o s=⟨s.l.set n (fam,(i:Int)),o,true⟩:=by
 unfold Jp at h⊢;simp only at h⊢;have h0:(-1:Int)<=(if i=0 then-1 else s.last):=by split<;>omega
 generalize (if i=0 then(-1:Int)else s.last)=L at*;by_cases hc:o<=L\/(s.l.length:Int)<=o\/s.l.getD o.toNat (0,0)≠(0,0)
 ·rw[jJ6 hc]at h;cases h
 ·rw[jJ5 hc]at h⊢;have h1:¬(s.l.length:Int)<=o:=fun e=>hc (.inr (.inl e));have h2:s.l.getD o.toNat (0,0)=(0,0):=Classical.not_not.1 fun e=>hc (.inr (.inr e));have h3:¬o<=L:=fun e=>hc (.inl e);have hlt:o.toNat<s.l.length:=(by omega);rw[List.getD_eq_getElem?_getD,jJ9 hlt,Option.getD_some]at h2;exact⟨o.toNat,by omega,by omega,h,by rw[jJ9 hlt,h2],by rw[show s.ok=true from h]⟩
structure LayF(fam:Int)(os:List Int)(i:Nat)(s r:LayP):Prop where
 len:r.l.length=s.l.length
 at_:∀(j:Nat) (o:Int),os[j]? =some o->∃n:Nat,o=(n:Int)/\r.l[n]? =some (fam,((i+j:Nat):Int))
 keep:∀(n:Nat) (d:Int×Int),s.l[n]? =some d->d≠(0,0)->r.l[n]? =some d
 from_:∀(n:Nat) (d:Int×Int),r.l[n]? =some d->s.l[n]? =some d\/∃j,d=(fam,((i+j:Nat):Int))/\os[j]? =some (n:Int)
 inc:os.Pairwise (· < ·)
 low:∀o∈os,(if i=0 then(-1:Int)else s.last)<o
theorem yX{fam:Int}(hf:fam≠0):∀(os:List Int) (i:Nat) (s:LayP),-1<=s.last->(jY fam os i s).ok=true->LayF fam os i s (jY fam os i s)
 |[],i,s,_,_=>⟨rfl,fun j o h=>(by cases h),fun n d h _=>h,fun n d h=>.inl h,.nil,fun o h=>(by cases h)⟩
 |o::os,i,s,hl,h=>by
  have hk:=(yD hf os (i+1) _ (Kj hl) h).1;have F:=yX hf os (i+1) _ (Kj hl) h;obtain⟨n,rfl,hlt,Gk,hz,e⟩:=jEP hk hl;rw[show jY fam ((n:Int)::os) i s=jY fam os (i+1) (Jp fam i (n:Int) s)from rfl];rw[e]at F⊢;generalize jY fam os (i+1) ⟨s.l.set n (fam,(i:Int)),(n:Int),true⟩=r at*;have hn:=(jM5 hz).1;have P9:(fam,(i:Int))≠((0:Int),(0:Int)):=fun e=>hf (Prod.mk.inj e).1;have Mn:∀o∈os,(n:Int)<o:=fun o ho=>by
   have:=F.low o ho;rw[jJ5 (Nat.succ_ne_zero i)]at this;exact this
  refine⟨by rw[F.len,List.length_set],fun j o h=> ?_,fun m d h1 h2=> ?_,fun m d h1=> ?_,List.pairwise_cons.2 ⟨Mn,F.inc⟩,fun o ho=> ?_⟩
  ·cases j with
   |zero=>
    injection h with h;subst h;exact⟨n,rfl,F.keep n _ (by rw[List.getElem?_set_self hn];rfl) P9⟩
   |succ j=>
    obtain⟨m,e1,e2⟩:=F.at_ j o h;exact⟨m,e1,by rw[e2];congr 3;omega⟩
  ·refine F.keep m d ?_ h2;show(s.l.set n (fam,(i:Int)))[m]? =some d;rw[List.getElem?_set_ne (fun e=>by subst e;rw[hz]at h1;injection h1 with h1;exact h2 h1.symm)];exact h1
  ·rcases F.from_ m d h1 with h2|⟨j,e1,e2⟩
   ·have h2:(s.l.set n (fam,(i:Int)))[m]? =some d:=h2;by_cases hm:n=m
    ·subst hm;rw[List.getElem?_set_self hn]at h2;injection h2 with h2;exact .inr ⟨0,by rw[<-h2];rfl,rfl⟩
    ·rw[List.getElem?_set_ne hm]at h2;exact .inl h2
   ·exact .inr ⟨j+1,by rw[e1];congr 2;omega,e2⟩
  ·rcases jN4 ho with rfl|ho
   ·exact hlt
   ·have:=Mn o ho;omega
structure Laid9(t:Tre)(l:List (Int×Int)):Prop where
 len:l.length=t.count
 of:∀(i:Nat),i<t.count->∃(f:Int) (k:Nat),VI f/\l[i]? =some (f,(k:Int))/\(JD t f)[k]? =some (i:Int)
 at_:∀(f:Int) (k:Nat) (o:Int),VI f->(JD t f)[k]? =some o->∃i:Nat,o=(i:Int)/\l[i]? =some (f,(k:Int))
 inc:∀f,VI f->(JD t f).Pairwise (· < ·)
theorem Xs{t:Tre}(h:(jx t).ok=true):Laid9 t (jx t).l:=by
 have FB:=Xr h;unfold jx at h FB⊢;have l0:(-1:Int)<=(⟨List.replicate t.count (0,0),-1,true⟩:LayP).last:=Int.le_refl _;have hr:∀(n:Nat) (d:Int×Int),(⟨List.replicate t.count (0,0),-1,true⟩:LayP).l[n]? =some d->d=(0,0):=fun n d e=>by
  have:=List.mem_of_getElem? e;exact(List.mem_replicate.1 this).2
 have hlen:(⟨List.replicate t.count (0,0),-1,true⟩:LayP).l.length=t.count:=List.length_replicate;generalize (⟨List.replicate t.count (0,0),-1,true⟩:LayP)=s0 at*;have l1:=kf (fam:=1) (t.attrs.map Atr.order) 0 s0 l0;have l2:=kf (fam:=2) (t.stages.map Stg.order) 0 _ l1;have l3:=kf (fam:=3) (t.miles.map Mil.order) 0 _ l2;have h3:=(yD (by decide) _ _ _ l3 h).1;have h2:=(yD (by decide) _ _ _ l2 h3).1;have h1:=(yD (by decide) _ _ _ l1 h2).1;have F1:=yX (by decide) _ _ _ l0 h1;have F2:=yX (by decide) _ _ _ l1 h2;have F3:=yX (by decide) _ _ _ l2 h3;have F4:=yX (by decide) _ _ _ l3 h;generalize jY 1 (t.attrs.map Atr.order) 0 s0=r1 at*;generalize jY 2 (t.stages.map Stg.order) 0 r1=r2 at*;generalize jY 3 (t.miles.map Mil.order) 0 r2=r3 at*;generalize jY 4 (t.steps.map Stp.order) 0 r3=r4 at*;have nz:∀{f k:Int},f≠0->(f,k)≠((0:Int),(0:Int)):=fun{f k} h e=>h (Prod.mk.inj e).1;refine⟨by rw[F4.len,F3.len,F2.len,F1.len,hlen],fun i hi=> ?_,fun f k o hf ho=> ?_,fun f hf=> ?_⟩
 ·have hl:i<r4.l.length:=by rw[F4.len,F3.len,F2.len,F1.len,hlen];exact hi
  have hd:=jJ9 hl;have Fa:=(FB _ (jL6 hl)).1;generalize r4.l[i]=d at*;rcases F4.from_ i d hd with q|⟨j,e1,e2⟩
  ·rcases F3.from_ i d q with q|⟨j,e1,e2⟩
   ·rcases F2.from_ i d q with q|⟨j,e1,e2⟩
    ·rcases F1.from_ i d q with q|⟨j,e1,e2⟩
     ·have:=hr i d q;subst this;simp at Fa
     ·exact⟨1,j,.inl rfl,by rw[hd,e1,Nat.zero_add],e2⟩
    ·exact⟨2,j,.inr (.inl rfl),by rw[hd,e1,Nat.zero_add],e2⟩
   ·exact⟨3,j,.inr (.inr (.inl rfl)),by rw[hd,e1,Nat.zero_add],e2⟩
  ·exact⟨4,j,.inr (.inr (.inr rfl)),by rw[hd,e1,Nat.zero_add],e2⟩
 ·rcases hf with rfl|rfl|rfl|rfl
  ·obtain⟨n,e1,e2⟩:=F1.at_ k o ho;rw[Nat.zero_add]at e2;exact⟨n,e1,F4.keep n _ (F3.keep n _ (F2.keep n _ e2 (nz (by decide))) (nz (by decide))) (nz (by decide))⟩
  ·obtain⟨n,e1,e2⟩:=F2.at_ k o ho;rw[Nat.zero_add]at e2;exact⟨n,e1,F4.keep n _ (F3.keep n _ e2 (nz (by decide))) (nz (by decide))⟩
  ·obtain⟨n,e1,e2⟩:=F3.at_ k o ho;rw[Nat.zero_add]at e2;exact⟨n,e1,F4.keep n _ e2 (nz (by decide))⟩
  ·obtain⟨n,e1,e2⟩:=F4.at_ k o ho;rw[Nat.zero_add]at e2;exact⟨n,e1,e2⟩
 ·rcases hf with rfl|rfl|rfl|rfl
  ·exact F1.inc
  ·exact F2.inc
  ·exact F3.inc
  ·exact F4.inc
theorem vY(I J:List It):VS (I++J)=VS I++VS J:=jN5
theorem kn(i:It)(J:List It):VS (i::J)=i.pit++VS J:=jL9
theorem kQ:VS []=[]:=rfl
theorem JR(t:Nat):(kw t).pit=[(t,jO t)]:=rfl
theorem KY(w:LB):(nmI w).pit=[(1,w)]:=rfl
theorem Xf(e:Exp9):(It.ex e).pit=prt e 0:=rfl
theorem jD3:∀t:Fin 58,4<=t.val->jO t.val≠ []/\(jO t.val).getLastD 0≠10:=by decide+kernel
theorem jJd{t:Nat}(h:4<=t/\t<58):Nt (jO t):=jD3 ⟨t,h.2⟩ h.1
theorem jD5{w:LB}(h:jQ w=true):Nt w:=qm (vu h).1 (vu h).2
section
variable{T:List Tok}{u:Nat}{s:Wr9}{ns:List Nd}
theorem Ws.kw(h:Ws T u s)(t:Nat)(ht:4<=t/\t<58):Wx (T++[(t,jO t)]) u (s.put (jO t)):=h.put (t,jO t) (jJd ht)
theorem Ws.nm(h:Ws T u s){w:LB}(hw:jQ w=true):Wx (T++[(1,w)]) u (s.named ⟨w.toArray⟩):=by
 unfold Wr9.named;rw[jJ6 (show jb ⟨w.toArray⟩=true from hw)];exact h.put (1,w) (jD5 hw)
theorem Ws.kd(h:Ws T u s){k:Nat}(hk:JC k):Wx (T++[(33+k,jO (33+k))]) u (s.kind (k:Int)):=by
 unfold JC at hk;unfold Wr9.kind;rw[jJ6 (show vE (k:Int)=true from jK5 (by omega))];have e:Vz (k:Int)=jO (33+k):=by
  have:k=1\/k=2\/k=3\/k=4\/k=5:=(by omega);rcases this with rfl|rfl|rfl|rfl|rfl<;>rfl
 rw[e];exact h.kw _ (by omega)
theorem Ws.inn(h:Ws T u s){w:LB}(hw:Ur w):Ws (T++VS (inI w)) u (s.inn ⟨w.toArray⟩):=by
 unfold Wr9.inn inI;rw[ya];rcases hw with rfl|hw
 ·rw[jJ6 rfl,jJ6 (show([]:LB).length=0 from rfl),kQ,jN7];exact h
 ·rw[jJ5 (fun e=>Ki hw (List.length_eq_zero_iff.1 e)),jJ5 (Ki hw)];have:=((h.kw 28 (by decide)).ws.nm hw).ws;simp only[kn,JR,KY,kQ];simpa [jK1,jO,resL]using this
theorem Ws.ex(h:Ws T u s){e:Exp9}(ho:e.ok false)(hs:Sits ns e u):Wx (T++prt e 0) (u+e.size) (kr ns (e.root u) s):=by
 have hp:=Exp9.pos ho;have Ro:∃n,ns[u+(e.size-1)]? =some n:=by
  have hlt:e.size-1<(e.lay u).length:=by rw[Exp9.lay_len];omega
  exact⟨_,hs (e.size-1) _ (jJ9 hlt)⟩
 obtain⟨n,hn⟩:=Ro;have hlt:=(jM5 hn).1;exact(qX e).1 ho ns u hs (ns.length+1) (by omega) (ns.length:Int) (by unfold Exp9.root;omega) 0 (by decide) T s h
theorem jC5{e:Exp9}{b:Nat}(ho:e.okO):(e.isNil=true/\e.at_ b= -1/\e.size=0)\/(e.isNil=false/\e.at_ b=e.root b/\e.at_ b≠ -1/\e.ok false):=by
 rcases ho with rfl|ho
 ·exact .inl ⟨rfl,rfl,rfl⟩
 ·refine .inr ⟨Ka ho,?_,?_,ho⟩
  ·unfold Exp9.at_;rw[Ka ho];rfl
  ·unfold Exp9.at_ Exp9.root;rw[Ka ho,jJ5 (by decide)];omega
theorem Ws.g(h:Ws T u s)(t:Nat)(ht:4<=t/\t<58){e:Exp9}(ho:e.okO)(hs:Sits ns e u):Ws (T++VS (gI t e)) (u+e.size) (if e.at_ u= -1 then s else kr ns (e.at_ u) (s.put (jO t))):=by
 unfold gI;rcases jC5 (b:=u) ho with⟨h1,h2,h3⟩|⟨h1,h2,h3,h4⟩
 ·rw[jJ6 h1,jJ6 h2,h3,kQ,jN7];exact h
 ·rw[jJ5 (by rw[h1];decide),jJ5 h3,h2];have:=((h.kw t ht).ws.ex h4 hs).ws;simp only[kn,JR,Xf,kQ];simpa [jK1]using this
theorem Ws.r(h:Ws T u s)(t:Nat)(ht:4<=t/\t<58){e:Exp9}(ho:e.okO)(hs:Sits ns e u):Ws (T++VS (rI t e)) (u+e.size) (VN ns (jO t) (e.at_ u) s):=by
 unfold rI VN;rcases jC5 (b:=u) ho with⟨h1,h2,h3⟩|⟨h1,h2,h3,h4⟩
 ·rw[jJ6 h1,jJ6 h2,h3,kQ,jN7];exact h
 ·rw[jJ5 (by rw[h1];decide),jJ5 h3,h2];have:=((((h.kw t ht).ws.kw 32 (by decide)).ws.ex h4 hs).ws.kw 9 (by decide)).ws;have e9:jO 9=[59]:=rfl;have e32:jO 32=[119,104,101,110]:=rfl;rw[e9,e32]at this;simp only[kn,JR,Xf,kQ];simpa [e9,e32,jK1]using this
theorem Sits.of{X:List Nd}{e:Exp9}{Y:List Nd}(h:ns=X++(e.lay X.length++Y)):Sits ns e X.length:=fun i n hi=>by
 rw[h,List.getElem?_append_right (by omega),Nat.add_sub_cancel_left,List.getElem?_append_left (jM5 hi).1];exact hi
def Here(ns l:List Nd)(b:Nat):Prop:=∀i n,l[i]? =some n->ns[b+i]? =some n
theorem Here.app{l m:List Nd}{b:Nat}(h:Here ns (l++m) b):Here ns l b/\Here ns m (b+l.length):=by
 refine⟨fun i n hi=>h i n ?_,fun i n hi=> ?_⟩
 ·rw[List.getElem?_append_left (jM5 hi).1];exact hi
 ·have:=h (l.length+i) n (by rw[List.getElem?_append_right (by omega),Nat.add_sub_cancel_left];exact hi);rw[<-Nat.add_assoc]at this;exact this
theorem jID(h:Ws T u s){nm:LB}{opt:Bool}{kind:Nat}{d w:Exp9}(ho:(Dcl.attr nm opt kind d w).ok)(hs:Here ns ((Dcl.attr nm opt kind d w).nodes u) u){a:Atr}(h1:a.name=⟨nm.toArray⟩)(h2:a.opt=opt)(h3:a.kind=(kind:Int))(h4:a.dflt=d.at_ u)(h5:a.when_=w.at_ (u+d.size)):
  Wx (T++VS (Dcl.attr nm opt kind d w).items) (u+(d.size+w.size)) (jGC ns a s):=by
 obtain⟨FS,Nq,hd,hw⟩:=ho;obtain⟨s1,s2⟩:=Here.app hs;rw[Exp9.lay_len]at s2;have q1:=(((h.kw 24 (by decide)).ws.nm FS).ws.kw 10 (by decide)).ws;have q2:Ws (T++[(24,jO 24)]++[(1,nm)]++[(10,jO 10)]++VS (if opt=true then [kw 39]else [])) u (if opt=true then(((s.put (jO 24)).named ⟨nm.toArray⟩).put (jO 10)).put (jO 39)else((s.put (jO 24)).named ⟨nm.toArray⟩).put (jO 10)):=by
  cases opt with
  |true=>exact(q1.kw 39 (by decide)).ws
  |false=>rw[jJ5 (by decide),jJ5 (by decide),kQ,jN7];exact q1
 have q3:=((q2.kd Nq).ws.g 12 (by decide) hd s1).g 32 (by decide) hw s2;have q4:=q3.kw 9 (by decide);rw[<-Nat.add_assoc];unfold jGC;rw[h1,h2,h3,h4,h5];simp only[Dcl.items,kn,vY,JR,KY,kQ,jN7]at q4⊢;simpa [jK1,jO,resL,signL]using q4
theorem jGN(h:Ws T u s){nm inn:LB}{o c:Exp9}(ho:(Dcl.stage nm inn o c).ok)(hs:Here ns ((Dcl.stage nm inn o c).nodes u) u){a:Stg}(h1:a.name=⟨nm.toArray⟩)(h2:a.in_=⟨inn.toArray⟩)(h4:a.opens=o.at_ u)(h5:a.closes=c.at_ (u+o.size)):
  Wx (T++VS (Dcl.stage nm inn o c).items) (u+(o.size+c.size)) (jGA ns a s):=by
 obtain⟨FS,FB,hU,hc⟩:=ho;obtain⟨s1,s2⟩:=Here.app hs;rw[Exp9.lay_len]at s2;have q1:=((((((h.kw 25 (by decide)).ws.nm FS).ws.inn FB).kw 4 (by decide)).ws.r 29 (by decide) hU s1).r 30 (by decide) hc s2).kw 5 (by decide);rw[<-Nat.add_assoc];unfold jGA;rw[h1,h2,h4,h5];simp only[Dcl.items,kn,vY,JR,KY,kQ,jN7]at q1⊢;simpa [jK1,jO,resL,signL]using q1
theorem jIC(h:Ws T u s){nm inn:LB}{w:Exp9}(ho:(Dcl.mile nm inn w).ok)(hs:Here ns ((Dcl.mile nm inn w).nodes u) u){a:Mil}(h1:a.name=⟨nm.toArray⟩)(h2:a.in_=⟨inn.toArray⟩)(h4:a.when_=w.root u):
  Wx (T++VS (Dcl.mile nm inn w).items) (u+w.size) (jF9 ns a s):=by
 obtain⟨FS,FB,hw⟩:=ho;have q1:=((((((h.kw 26 (by decide)).ws.nm FS).ws.inn FB).kw 31 (by decide)).ws.kw 32 (by decide)).ws.ex hw hs).ws.kw 9 (by decide);unfold jF9;rw[h1,h2,h4];simp only[Dcl.items,kn,vY,JR,KY,Xf,kQ,jN7]at q1⊢;simpa [jK1,jO,resL,signL]using q1
theorem jFM:∀(l:List (LB×Nat)) (ps:List Prm) (i:Nat) (T:List Tok) (s:Wr9),(∀p∈l,jQ p.1=true/\JC p.2)->ps.map Prm.str=l.map jDs->Ws T u s->Ws (T++VS (prI l i)) u (Yo ps i s)
 |[],ps,i,T,s,_,e,h=>by
  obtain rfl:ps=[]:=List.map_eq_nil_iff.1 e;rw[prI,kQ,jN7];exact h
 |p::l,ps,i,T,s,ho,e,h=>by
  cases ps with
  |nil=>cases e
  |cons q ps=>
   rw[List.map_cons,List.map_cons]at e;injection e with e1 e2;have hp:=ho p (List.mem_cons_self ..);have hn:q.name=⟨p.1.toArray⟩:=congrArg Prm.name e1;have hk:q.kind=(p.2:Int):=congrArg Prm.kind e1;have h1:Ws (T++VS (if 0<i then [kw 8]else [])) u (if 0<i then s.put [44]else s):=by
    by_cases h0:0<i
    ·rw[jJ6 h0,jJ6 h0];exact(h.kw 8 (by decide)).ws
    ·rw[jJ5 h0,jJ5 h0,kQ,jN7];exact h
   have h2:=(((h1.nm hp.1).ws.kw 10 (by decide)).ws.kd hp.2).ws;have h3:=jFM l ps (i+1) _ _ (fun x hx=>ho x (jN1 _ hx)) e2 h2;rw[Yo,hn,hk];simp only[prI,kn,vY,JR,KY]at h3⊢;simpa [jK1,jO,signL]using h3
theorem jFN:∀(l:List (LB×Exp9)) (es:List Eff) (u:Nat) (T:List Tok) (s:Wr9),(∀p∈l,jQ p.1=true/\p.2.okO)->es.map Eff.str=efT l u->Here ns (efL l u) u->Ws T u s->Ws (T++VS (efI l)) (u+efZ l) (Vj ns es s)
 |[],es,u,T,s,_,e,_,h=>by
  obtain rfl:es=[]:=List.map_eq_nil_iff.1 e;rw[efI,kQ,jN7];exact h
 |p::l,es,u,T,s,ho,e,hs,h=>by
  cases es with
  |nil=>cases e
  |cons q es=>
   rw[List.map_cons,efT]at e;injection e with e1 e2;have hp:=ho p (List.mem_cons_self ..);have hn:q.name=⟨p.1.toArray⟩:=congrArg Eff.name e1;have hk:q.worth=p.2.at_ u:=congrArg Eff.worth e1;obtain⟨s1,s2⟩:=Here.app hs;rw[Exp9.lay_len]at s2;have h1:Ws (T++VS (if p.2.isNil=true then [kw 33,nmI p.1,kw 9]else [nmI p.1,kw 11,.ex p.2,kw 9])) (u+p.2.size) ((if q.worth= -1 then(s.put [114,101,111,112,101,110]).named q.name else kr ns q.worth ((s.named q.name).put [58,61])).put [59]):=by
    rw[hn,hk];rcases jC5 (b:=u) hp.2 with⟨h1,h2,h3⟩|⟨h1,h2,h3,h4⟩
    ·rw[jJ6 h1,jJ6 h2,h3];have q:=(((h.kw 33 (by decide)).ws.nm hp.1).ws.kw 9 (by decide)).ws;simp only[kn,JR,KY,kQ,jN7]at q⊢;simpa [jK1,jO,resL,signL]using q
    ·rw[jJ5 (by rw[h1];decide),jJ5 h3,h2];have q:=((((h.nm hp.1).ws.kw 11 (by decide)).ws.ex h4 s1).ws.kw 9 (by decide)).ws;simp only[kn,JR,KY,Xf,kQ,jN7]at q⊢;simpa [jK1,jO,resL,signL]using q
   have h3:=jFN l es (u+p.2.size) _ _ (fun x hx=>ho x (jN1 _ hx)) e2 s2 h1;rw[Vj,efI,efZ,<-Nat.add_assoc,vY,<-jK1];exact h3
theorem jIB(h:Ws T u s){nm:LB}{ps:List (LB×Nat)}{inn:LB}{w:Exp9}{es:List (LB×Exp9)}(ho:(Dcl.step nm ps inn w es).ok)(hs:Here ns ((Dcl.step nm ps inn w es).nodes u) u){a:Stp}(h1:a.name=⟨nm.toArray⟩)(h2:a.in_=⟨inn.toArray⟩)(h3:a.params.map Prm.str=ps.map jDs)(h4:a.when_=w.at_ u)(h5:a.effects.map Eff.str=efT es (u+w.size)):
  Wx (T++VS (Dcl.step nm ps inn w es).items) (u+(w.size+efZ es)) (jF8 ns a s):=by
 obtain⟨FS,Wj,FB,hw,WE⟩:=ho;obtain⟨s1,s2⟩:=Here.app hs;rw[Exp9.lay_len]at s2;have q1:=((jFM ps a.params 0 _ _ Wj h3 ((((h.kw 27 (by decide)).ws.nm FS).ws.kw 6 (by decide)).ws)).kw 7 (by decide)).ws.inn FB;have q2:=(jFN es a.effects _ _ _ WE h5 s2 ((q1.g 32 (by decide) hw s1).kw 4 (by decide)).ws).kw 5 (by decide);rw[<-Nat.add_assoc];unfold jF8;rw[h1,h2,h4];simp only[Dcl.items,kn,vY,JR,KY,kQ,jN7]at q2⊢;simpa [jK1,jO,resL,signL]using q2
end
end Go.Proofs.YtmmjcbbogokmfaaGreatDoor

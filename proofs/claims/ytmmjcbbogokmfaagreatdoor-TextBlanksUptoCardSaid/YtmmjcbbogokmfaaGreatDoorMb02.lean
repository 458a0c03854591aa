import Derived.Test.YtmmjcbbogokmfaaGreatDoorMb01
set_option maxRecDepth 100000
set_option maxHeartbeats 25600000
namespace Go.Proofs.YtmmjcbbogokmfaaGreatDoor
open Go.Proofs.Tryz
theorem Zk{t f g:Nat}{l k k' :List Nat}(h:kO t f l=some k)(h' :kO t g l=some k'):k=k' :=by
 have h1:=vp t f (max f g) l k (by omega) h;have h2:=vp t g (max f g) l k' (by omega) h';rw[h1]at h2;exact jL5 h2
def UC(n t:Nat):Bool:= !jE n t||(match kO t 30 [n]with|some k=>decide (k.length<=12)|none=>true)
theorem uT:∀n:Fin 85,∀t:Fin 58,UC n.val t.val=true:=by decide+kernel
theorem Yc(t:Nat)(ht:t<58):∀(st:List Nat) (f:Nat) (k:List Nat),(∀n∈st,n<85)->kI t st=true->kO t f st=some k->k.length<=st.length+12
 |[],f,k,_,h,_=>by cases h
 |n::l,f,k,h5,h,hk=>by
  rw[kI]at h;split at h
  ·rename_i hb;obtain⟨k0,L3⟩:=xE n t ht hb;have h1:=Ji t 30 [n] k0 l L3;obtain rfl:=Zk hk h1;have h2:=uT ⟨n,h5 n List.mem_cons_self⟩ ⟨t,ht⟩;simp only[UC,hb,Bool.not_true,Bool.false_or,L3]at h2;have h3:=jM8 h2;rw[jJ4,jK6];omega
  ·rename_i hb;split at h
   ·rename_i he;cases f with
    |zero=>cases hk
    |succ f=>
     rw[kO]at hk;have W5:=zx n he;rw[jJ5 (by omega),zW n t (by simpa using hb),jN8]at hk;have:=Yc t ht l f k (fun x hx=>h5 x (jN1 _ hx)) h hk;rw[jK6];omega
   ·cases h
theorem JI{t:Nat}(ht:t<58){m m' :Mc}{a k f:Nat}{fin:Nat}(h5:∀n∈m.stack,n<85)(hm:kI t m.stack=true)(h:vg t {at_:=a,stack:=m.stack,fin:=fin,from_:=f} k=.ok m'):m'.stack.length<=m.stack.length+12:=by
 unfold vg at h;split at h
 ·rename_i s hs;injection h with h;rw[<-h];exact Yc t ht m.stack _ s h5 hm hs
 ·cases h
def ltB:LB->LB->Bool
 |a::x,b::y=>if a=b then ltB x y else decide (a.toNat<b.toNat)
 |_,_=>false
def JB(x y:LB):Bool:=if x.length=y.length then ltB x y else decide (x.length<y.length)
def ZC(x y:LB):LB:=if JB y x=true then y else x
def ju(s:Nat):LB:=
 if s=1 then [97]else if s=2 then [48]else if s=3 then [34,34]else if s<23 then signL.getD (s-4) []else resL.getD (s-23) []
def qL(s:Nat):Bool:=decide (s<=2\/23<=s)
def zT(n:Nat)(e:LB×LB):LB×LB:=
 if kX n=true then e
 else if n=60 then(9::(ju 34++e.1),ju 34++e.1)
 else if 58<=n then(ZC (9::48::e.1) (34::34::e.2),ZC (48::e.1) (34::34::e.2))
 else if qL n=true then(9::(ju n++e.1),ju n++e.1)
 else(ju n++e.2,ju n++e.2)
def kY(st:List Nat):LB×LB:=st.foldr zT ([],[])
def kq(t:Nat)(st:List Nat):List Nat:=(kO t (st.length+100) st).getD []
def xW(st:List Nat)(best:LB)(t:Nat)(more:LB):LB:=
 if kI t st=true then
  (let r:=more++(kY (kq t st)).1
   if best=[]\/JB r best=true then r else best)
 else best
def JG(st:List Nat)(w:LB):List LB->Nat->LB->LB
 |[],_,best=>best
 |r::l,i,best=>JG st w l (i+1) (if w.isPrefixOf r=true then xW st best (23+i) (r.drop w.length)else best)
def Jx(st:List Nat)(w:LB):LB:=
 let best:=JG st w resL 0 []
 if yd (w.headD 0)=true then xW st best 2 []
 else if jQ w=true then xW st best 1 []
 else if w.length<64/\jk w=true then xW st best 1 [48]
 else best
def Ku(src:LB)(m:Mc):LB:=
 if m.fin=1 then(let e:=(kY m.stack).2;if e=[]then []else 10::e)
 else if m.fin=2 then Jx m.stack (src.drop m.from_)
 else if m.fin=3 then 61::(kY (kq (jc (src.drop m.from_ ++[61])) m.stack)).2
 else if m.fin=4 then 34::(kY (kq 3 m.stack)).2
 else if m.fin=5 then 34::34::(kY (kq 3 m.stack)).2
 else if m.fin=6 then 48::48::34::(kY (kq 3 m.stack)).2
 else if m.fin=7 then 48::34::(kY (kq 3 m.stack)).2
 else(kY m.stack).2
def Vi(src:LB):Option LB:=if src.length<=60000 then(match ka src with
 | .error _=>none
 | .ok m=>some (Ku src m))else none
structure Nd where
 op:Int
 name:BA
 vk:Int
 vn:Int
 vt:BA
 vs:List BA
 kids:List Int
structure Atr where
 name:BA
 at_:Int
 order:Int
 opt:Bool
 kind:Int
 dflt:Int
 when_:Int
structure Stg where
 name:BA
 at_:Int
 order:Int
 in_:BA
 inAt:Int
 opens:Int
 closes:Int
structure Mil where
 name:BA
 at_:Int
 order:Int
 in_:BA
 inAt:Int
 when_:Int
structure Prm where
 name:BA
 at_:Int
 kind:Int
structure Eff where
 name:BA
 at_:Int
 worth:Int
structure Stp where
 name:BA
 at_:Int
 order:Int
 params:List Prm
 in_:BA
 inAt:Int
 when_:Int
 effects:List Eff
structure Tre where
 name:BA
 at_:Int
 ats:List Int
 nodes:List Nd
 steps:List Stp
 attrs:List Atr
 stages:List Stg
 miles:List Mil
def Tre.none_:Tre:=⟨⟨#[]⟩,0,[],[],[],[],[],[]⟩
structure Rdr where
 at_:Nat
 from_:Nat
 t:Nat
 order:Nat
 tree:Tre
def jN:Bool->LB->Nat
 |_,[]=>0
 |true,c::l=>if lfC c=true then jN false l+1 else jN true l+1
 |false,c::l=>if kL c=true then jN false l+1 else if c.toNat=35 then jN true l+1 else 0
def strLen:LB->Option Nat
 |[]=>none
 |c::l=>if c.toNat=34 then some 1 else if c.toNat=92 then(match l with
  |[]=>none
  |_::l' =>(strLen l').map (· +2))else(strLen l).map (· +1)
def ZB:LB->Option (Nat×Nat)
 |[]=>none
 |c::l=>
  if jS c=true then(let w:=(c::l).takeWhile jS;some (w.length,jj w))
  else if c.toNat=34 then(strLen l).map fun k=>(k+1,3)
  else if l.headD 0=61/\jc [c,61]≠0 then some (2,jc [c,61])
  else some (1,jc [c])
def jw(src:LB)(r:Rdr):Option Rdr:=
 let k:=r.at_ +jN false (src.drop r.at_)
 if src.length<=k then some {r with at_:=k,from_:=k}
 else(ZB (src.drop k)).map fun x=>{r with at_:=k+x.1,from_:=k,t:=x.2}
def kC(src:LB)(r:Rdr):LB:=(src.take r.at_).drop r.from_
def jn(src:LB)(t:Nat)(r:Rdr):Option (Bool×Rdr):=if r.t=t then(jw src r).map fun r=>(true,r)else some (false,r)
def ze(src:LB)(r:Rdr):Option (BA×Int×Rdr):=(jw src r).map fun r' =>(⟨(kC src r).toArray⟩,(r.from_:Int),r')
def yA(n:Nd)(at_:Nat)(r:Rdr):Option (Int×Rdr):=if r.tree.nodes.length<1000000/\r.tree.ats.length<1000000 then some ((r.tree.nodes.length:Int),{r with tree:={r.tree with nodes:=r.tree.nodes++[n],ats:=r.tree.ats++[(at_:Int)]}})else none
def kg(op:Int)(kids:List Int):Nd:=⟨op,⟨#[]⟩,0,0,⟨#[]⟩,[],kids⟩
def yL(t:Nat):Int:=if t=49 then 24 else if t=52 then 25 else if t=31 then 26 else if t=50 then 27 else if t=51 then 28 else 29+((t:Int)-53)
def YM(c:UInt8):Nat:=if yd c=true then c.toNat-48 else c.toNat-87
def meantN:Nat->LB->Option LB
 |0,_=>none
 |_ +1,[]=>some []
 |f+1,c::l=>
  if c.toNat=92 then(match l with
   |[]=>none
   |d::l' =>if d.toNat=110 then(meantN f l').map (10:: ·)else if d.toNat=116 then(meantN f l').map (9:: ·)
    else if d.toNat=120 then(match l' with
     |a::b::l2=>if xC a=true/\xC b=true then(meantN f l2).map (UInt8.ofNat (16*YM a+YM b):: ·)else none
     |_=>none)
    else(meantN f l').map (d:: ·))
  else(meantN f l).map (c:: ·)
def zy:LB->Nat->Nat
 |[],n=>n
 |c::l,n=>zy l (10*n+(c.toNat-48))
def jt(t:Nat)(w:LB):Option Nd:=
 if t=2 then(if jo w=true/\w≠ []then some ⟨1,⟨#[]⟩,1,(zy w 0:Int),⟨#[]⟩,[],[]⟩else none)
 else if t=46\/t=47 then some ⟨2,⟨#[]⟩,2,47-(t:Int),⟨#[]⟩,[],[]⟩
 else if t=3 then(if 2<=w.length then(meantN (w.length+1) ((w.drop 1).take (w.length-2))).map fun v=>⟨3,⟨#[]⟩,3,0,⟨v.toArray⟩,[],[]⟩else none)
 else if t=1 then some ⟨5,⟨w.toArray⟩,0,0,⟨#[]⟩,[],[]⟩
 else some (kg 4 [])
inductive Job where
 |expr
 |row (level:Nat)
 |more (level:Nat) (root:Int)
 |two (op:Int) (root:Int) (level:Nat)
 |unary
 |list (last:Nat) (kids:List Int)
def Uw(t:Nat):Bool:=decide (t=2\/t=46\/t=47\/t=3\/t=48\/t=1)
def kJ(level t:Nat):Int:=
 if level=43 then(if t=43 then 10 else 0)
 else if level=44 then(if t=44 then 9 else 0)
 else if level=18 then(if t=18\/t=19 then 18+((t:Int)-18)else 0)
 else(if 20<=t/\t<=22 then 20+((t:Int)-20)else 0)
def zS(level:Nat):Nat:=if level=43 then 44 else if level=44 then 45 else if level=18 then 20 else 19
def exN(src:LB):Nat->Job->Rdr->Option (Int×List Int×Rdr)
 |0,_,_=>none
 |f+1,.expr,r=>
  if r.t≠40 then exN src f (.row 43) r
  else(jw src r).bind fun r1=>(exN src f .expr r1).bind fun c=>(jw src c.2.2).bind fun r2=>(exN src f .expr r2).bind fun a=>(jw src a.2.2).bind fun r3=>
   (exN src f .expr r3).bind fun b=>(yA (kg 23 [c.1,a.1,b.1]) r.from_ b.2.2).map fun x=>(x.1,[],x.2)
 |f+1,.row level,r=>
  if level=45 then
   (if r.t=45 then(jw src r).bind fun r1=>(exN src f (.row 45) r1).bind fun k=>(yA (kg 8 [k.1]) r.from_ k.2.2).map fun x=>(x.1,[],x.2)
    else(exN src f (.row 18) r).bind fun k=>
    if 12<=k.2.2.t/\k.2.2.t<=17 then exN src f (.two (11+((k.2.2.t:Int)-12)) k.1 18) k.2.2
    else if k.2.2.t=28 then exN src f (.two 17 k.1 18) k.2.2 else some k)
  else if level=43\/level=44\/level=18\/level=20 then(exN src f (.row (zS level)) r).bind fun k=>exN src f (.more level k.1) k.2.2
  else exN src f .unary r
 |f+1,.more level root,r=>
  if kJ level r.t=0 then some (root,[],r)
  else(exN src f (.two (kJ level r.t) root (zS level)) r).bind fun k=>exN src f (.more level k.1) k.2.2
 |f+1,.two op root level,r=>(jw src r).bind fun r1=>(exN src f (.row level) r1).bind fun q=>(yA (kg op [root,q.1]) r.from_ q.2.2).map fun x=>(x.1,[],x.2)
 |f+1,.unary,r=>
  if r.t=19 then(jw src r).bind fun r1=>(exN src f .unary r1).bind fun k=>(yA (kg 7 [k.1]) r.from_ k.2.2).map fun x=>(x.1,[],x.2)
  else if Uw r.t=true then(jt r.t (kC src r)).bind fun n=>(jw src r).bind fun r1=>(yA n r.from_ r1).map fun x=>(x.1,[],x.2)
  else if r.t=6 then(jw src r).bind fun r1=>(exN src f .expr r1).bind fun k=>(jw src k.2.2).bind fun r2=>some (k.1,[],r2)
  else if r.t=4 then(jw src r).bind fun r1=>(exN src f (.list 5 []) r1).bind fun k=>(yA (kg 6 k.2.1) r.from_ k.2.2).map fun x=>(x.1,[],x.2)
  else if¬(r.t=31\/(49<=r.t/\r.t<=57))then none
  else(jw src r).bind fun r1=>(jw src r1).bind fun r2=>
   if r.t=49\/r.t=52\/r.t=31 then(ze src r2).bind fun w=>(jw src w.2.2).bind fun r3=>(yA ⟨yL r.t,w.1,0,0,⟨#[]⟩,[],[]⟩ r.from_ r3).map fun x=>(x.1,[],x.2)
   else(exN src f (.list 7 []) r2).bind fun k=>(yA (kg (yL r.t) k.2.1) r.from_ k.2.2).map fun x=>(x.1,[],x.2)
 |f+1,.list last kids,r=>
  if r.t=last then(jw src r).bind fun r1=>some (0,kids,r1)
  else if kids.length<1000000 then(jn src 8 r).bind fun s=>(exN src f .expr s.2).bind fun k=>exN src f (.list last (kids++[k.1])) k.2.2 else none
def ud(src:LB)(f:Nat)(r:Rdr):Option (Int×Rdr):=(exN src f .expr r).map fun k=>(k.1,k.2.2)
def vQ(src:LB)(f:Nat)(first:Nat)(r:Rdr):Option (Int×Rdr):=
 if r.t≠first then some (-1,r)
 else(jw src r).bind fun r1=>if first=32\/first=12 then ud src f r1 else(jw src r1).bind fun r2=>ud src f r2
def yU(src:LB)(f:Nat)(first:Nat)(r:Rdr):Option (Int×Rdr):=
 (vQ src f first r).bind fun k=>if 0<=k.1 then(jw src k.2).bind fun r1=>some (k.1,r1)else some k
def Zf(src:LB)(r:Rdr):Option (BA×Int×Int×Rdr):=
 (jw src r).bind fun r1=>(ze src r1).bind fun w=>if w.2.2.order<1000000 then some (w.1,w.2.1,(w.2.2.order:Int),{w.2.2 with order:=w.2.2.order+1})else none
def inN(src:LB)(r:Rdr):Option (BA×Int×Rdr):=if r.t=28 then(jw src r).bind fun r1=>ze src r1 else some (⟨#[]⟩,0,r)
def qx(src:LB)(r:Rdr):Option (Int×Rdr):=if 34<=r.t/\r.t<=38 then(jw src r).bind fun r1=>some ((r.t:Int)-33,r1)else none
def Qx(src:LB)(f:Nat)(r:Rdr):Option Rdr:=
 (Zf src r).bind fun d=>(jw src d.2.2.2).bind fun r1=>(jn src 39 r1).bind fun o=>(qx src o.2).bind fun k=>(vQ src f 12 k.2).bind fun a=>(vQ src f 32 a.2).bind fun b=>(jw src b.2).bind fun r2=>
  if r2.tree.attrs.length<1000000 then some {r2 with tree:={r2.tree with attrs:=r2.tree.attrs++[⟨d.1,d.2.1,d.2.2.1,o.1,k.1,a.1,b.1⟩]}}else none
def Ye(src:LB)(f:Nat)(r:Rdr):Option Rdr:=
 (Zf src r).bind fun d=>(inN src d.2.2.2).bind fun i=>(jw src i.2.2).bind fun r1=>(yU src f 29 r1).bind fun a=>(yU src f 30 a.2).bind fun b=>(jw src b.2).bind fun r2=>
  if r2.tree.stages.length<1000000 then some {r2 with tree:={r2.tree with stages:=r2.tree.stages++[⟨d.1,d.2.1,d.2.2.1,i.1,i.2.1,a.1,b.1⟩]}}else none
def QW(src:LB)(f:Nat)(r:Rdr):Option Rdr:=
 (Zf src r).bind fun d=>(inN src d.2.2.2).bind fun i=>(yU src f 31 i.2.2).bind fun a=>
  if a.2.tree.miles.length<1000000 then some {a.2 with tree:={a.2.tree with miles:=a.2.tree.miles++[⟨d.1,d.2.1,d.2.2.1,i.1,i.2.1,a.1⟩]}}else none
def yc(src:LB):Nat->List Prm->Rdr->Option (List Prm×Rdr)
 |0,_,_=>none
 |f+1,ps,r=>if r.t=7 then some (ps,r)
  else if ps.length<1000000 then(jn src 8 r).bind fun s=>(ze src s.2).bind fun w=>(jw src w.2.2).bind fun r1=>(qx src r1).bind fun k=>yc src f (ps++[⟨w.1,w.2.1,k.1⟩]) k.2 else none
def vf(src:LB):Nat->List Eff->Rdr->Option (List Eff×Rdr)
 |0,_,_=>none
 |f+1,es,r=>if r.t=5 then some (es,r)
  else if es.length<1000000 then(jn src 33 r).bind fun s=>(ze src s.2).bind fun w=>
   (if s.1=true then some (-1,w.2.2)else(jw src w.2.2).bind fun r1=>ud src f r1).bind fun x=>(jw src x.2).bind fun r2=>vf src f (es++[⟨w.1,w.2.1,x.1⟩]) r2 else none
def QB(src:LB)(f:Nat)(r:Rdr):Option Rdr:=
 (Zf src r).bind fun d=>(jw src d.2.2.2).bind fun r1=>(yc src f [] r1).bind fun p=>(jw src p.2).bind fun r2=>(inN src r2).bind fun i=>(vQ src f 32 i.2.2).bind fun g=>(jw src g.2).bind fun r3=>
  (vf src f [] r3).bind fun e=>(jw src e.2).bind fun r4=>
   if r4.tree.steps.length<1000000 then some {r4 with tree:={r4.tree with steps:=r4.tree.steps++[⟨d.1,d.2.1,d.2.2.1,p.1,i.1,i.2.1,g.1,e.1⟩]}}else none
def yy(src:LB):Nat->Rdr->Option Rdr
 |0,_=>none
 |f+1,r=>
  if r.t=24 then(Qx src f r).bind (yy src f)
  else if r.t=25 then(Ye src f r).bind (yy src f)
  else if r.t=26 then(QW src f r).bind (yy src f)
  else if r.t=27 then(QB src f r).bind (yy src f)
  else some r
def yh(src:LB)(f:Nat):Option Rdr:=
 (jw src ⟨0,0,0,0,Tre.none_⟩).bind fun r1=>(jw src r1).bind fun r2=>(ze src r2).bind fun w=>(jw src w.2.2).bind fun r3=>
  yy src f {r3 with tree:={r3.tree with name:=w.1,at_:=w.2.1}}
structure Tk where
 t:Nat
 a:Nat
 b:Nat
inductive Acc:List Nat->List Tk->Prop
 |done:Acc [] []
 |tak {k:Tk} {f:Nat} {st st' :List Nat} {ts:List Tk}:k.t<58->kI k.t st=true->kO k.t f st=some st' ->Acc st' ts->Acc st (k::ts)
theorem ZQ{n t:Nat}(ht:t<58)(h:jE n t=true):n<85:=by
 rcases Nat.lt_or_ge n 85 with hn|hn
 ·exact hn
 exfalso;unfold jE vG at h;simp only[show¬n=58 by omega,show¬n=59 by omega,show¬n=60 by omega,show¬n=61 by omega,show¬n=62 by omega,show¬n=63 by omega,show¬n=64 by omega,show¬n=65 by omega,show¬n=66 by omega,show¬(n=67\/n=84)by omega,show¬n=68 by omega,
  show¬(n=83\/n=69)by omega,show¬(n=70\/n=72\/n=74)by omega,show¬(n=75\/n=77\/n=79\/n=81)by omega,show¬n=82 by omega,show¬n=71 by omega,show¬n=73 by omega,show¬n=76 by omega,show¬n=78 by omega,show¬n=80 by omega,show¬n=t by omega,
  if_false,decide_false,Bool.false_or,Bool.and_false]at h
 cases h
theorem yz{n t:Nat}(hn:n<58)(h:jE n t=true):n=t:=by
 unfold jE at h;simp only[show¬n=58 by omega,show¬n=59 by omega,show¬n=60 by omega,show¬n=61 by omega,show¬n=62 by omega,show¬n=63 by omega,show¬n=64 by omega,show¬n=65 by omega,show¬n=66 by omega,show¬(n=67\/n=84)by omega,show¬n=68 by omega,show¬69<=n by omega,
  if_false,decide_false,Bool.false_and,Bool.or_false]at h
 exact jM8 h
theorem ZP:∀n:Fin 85,∀t:Fin 58,(!jE n.val t.val||(decide (n.val=t.val)||kI t.val (jK n.val t.val)))=true:=by decide+kernel
theorem xR{n:Nat}{st:List Nat}{ts:List Tk}(h:Acc (n::st) ts):∃k ts',ts=k::ts' /\k.t<58/\((n=k.t/\Acc st ts')\/(n≠k.t/\jE n k.t=true/\Acc (jK n k.t++st) (k::ts'))\/(jE n k.t=false/\kX n=true/\Acc st (k::ts'))):=by
 cases h with
 | @tak k f _ st' ts' hJ hm ht ha=>
  refine⟨k,ts',rfl,hJ,?_⟩;cases f with
  |zero=>cases ht
  |succ f=>
   rw[kO]at ht;by_cases hn:n=k.t
   ·rw[jJ6 hn]at ht;obtain rfl:=jL5 ht;exact .inl ⟨hn,ha⟩
   rw[jJ5 hn]at ht;rw[kI]at hm;by_cases hb:jE n k.t=true
   ·refine .inr (.inl ⟨hn,hb,.tak hJ ?_ ht ha⟩);have h1:=ZP ⟨n,ZQ hJ hb⟩ ⟨k.t,hJ⟩;simp only[hb,Bool.not_true,Bool.false_or,jK3 hn]at h1;exact ZA k.t _ st h1
   ·have Gs:jE n k.t=false:=(by simpa using hb);rw[jJ5 hb]at hm;split at hm
    ·rename_i he;rw[zW n k.t Gs,jN8]at ht;exact .inr (.inr ⟨Gs,he,.tak hJ hm ht ha⟩)
    ·cases hm
theorem jP{n:Nat}{st:List Nat}{ts:List Tk}(hn:n<58)(h:Acc (n::st) ts):∃k ts',ts=k::ts' /\k.t=n/\Acc st ts' :=by
 obtain⟨k,ts',e,hJ,⟨e2,ha⟩|⟨Fa,hb,_⟩|⟨_,he,_⟩⟩:=xR h
 ·exact⟨k,ts',e,e2.symm,ha⟩
 ·exact absurd (yz hn hb) Fa
 ·have:=zx n he;omega
theorem jL{n:Nat}{st:List Nat}{k:Tk}{ts:List Tk}(hn:n<58)(h:Acc (n::st) (k::ts)):k.t=n/\Acc st ts:=by
 obtain⟨k2,ts',e,h2,ha⟩:=jP hn h;injection e with e1 e2;subst e1 e2;exact⟨h2,ha⟩
theorem ki{n:Nat}{st:List Nat}{ts:List Tk}(hn:58<=n)(he:kX n=false)(h:Acc (n::st) ts):∃k ts',ts=k::ts' /\k.t<58/\jE n k.t=true/\Acc (jK n k.t++st) (k::ts'):=by
 obtain⟨k,ts',e,hJ,⟨e2,ha⟩|⟨Fa,hb,ha⟩|⟨_,MV,_⟩⟩:=xR h
 ·omega
 ·exact⟨k,ts',e,hJ,hb,ha⟩
 ·rw[he]at MV;cases MV
theorem kM{n:Nat}{st:List Nat}{ts:List Tk}(hn:58<=n)(h:Acc (n::st) ts):∃k ts',ts=k::ts' /\k.t<58/\((jE n k.t=true/\Acc (jK n k.t++st) (k::ts'))\/(jE n k.t=false/\Acc st (k::ts'))):=by
 obtain⟨k,ts',e,hJ,⟨e2,ha⟩|⟨Fa,hb,ha⟩|⟨hb,MV,ha⟩⟩:=xR h
 ·omega
 ·exact⟨k,ts',e,hJ,.inl ⟨hb,ha⟩⟩
 ·exact⟨k,ts',e,hJ,.inr ⟨hb,ha⟩⟩
def Ve(src:LB)(k:Tk):LB:=(src.take k.b).drop k.a
def us(src:LB)(k:Tk):Prop:=(Uw k.t=true->∃n,jt k.t (Ve src k)=some n)/\(k.t=1->jQ (Ve src k)=true)
inductive Toks (src:LB):Nat->List Tk->Prop
 |done {p:Nat}:src.length<=p+jN false (src.drop p)->Toks src p []
 |more {p k:Nat} {x:Nat×Nat} {ts:List Tk}:k=p+jN false (src.drop p)->k<src.length->ZB (src.drop k)=some x->us src ⟨x.2,k,k+x.1⟩->Toks src (k+x.1) ts->Toks src p (⟨x.2,k,k+x.1⟩::ts)
def Look(src:LB)(r:Rdr):List Tk->Prop
 |[]=>True
 |k::ts=>r.t=k.t/\r.from_=k.a/\r.at_=k.b/\us src k/\Toks src k.b ts
def big(r:Rdr):Nat:=r.tree.nodes.length+r.tree.ats.length+r.tree.attrs.length+r.tree.stages.length+r.tree.miles.length+r.tree.steps.length+r.order
theorem Yv{src:LB}{r:Rdr}{ts:List Tk}(h:Toks src r.at_ ts):∃r',jw src r=some r' /\big r' =big r/\r'.tree=r.tree/\r'.order=r.order/\Look src r' ts:=by
 unfold jw;cases h with
 |done h1=>exact⟨_,jJ6 h1,rfl,rfl,rfl,trivial⟩
 | @more _ k x ts hk hlt hx hl ht=>
  subst hk;simp only;rw[jJ5 (by omega),hx];exact⟨_,rfl,rfl,rfl,rfl,rfl,rfl,rfl,hl,ht⟩
theorem jG{src:LB}{r:Rdr}{k:Tk}{ts:List Tk}(h:Look src r (k::ts)):∃r',jw src r=some r' /\big r' =big r/\r'.tree=r.tree/\r'.order=r.order/\Look src r' ts:=
 Yv (by rw[h.2.2.1];exact h.2.2.2.2)
theorem Look.lit{src:LB}{r:Rdr}{k:Tk}{ts:List Tk}(h:Look src r (k::ts))(hl:Uw k.t=true):∃n,jt r.t (kC src r)=some n:=by
 obtain⟨n,hn⟩:=h.2.2.2.1.1 hl;refine⟨n,?_⟩;unfold kC;rw[h.1,h.2.1,h.2.2.1];exact hn
theorem yW{src:LB}{r:Rdr}{ts:List Tk}(n:Nd)(at_:Nat)(h:Look src r ts)(hb:big r<=900000):∃x r',yA n at_ r=some (x,r')/\0<=x/\big r' =big r+2/\Look src r' ts:=by
 unfold big at hb;refine⟨_,_,by unfold yA;exact jJ6 ⟨by omega,by omega⟩,by omega,?_,?_⟩
 ·unfold big;simp only[jJ4,jK6,jN2];omega
 ·cases ts with
  |nil=>trivial
  |cons k ts=>exact h
def JP:List (Nat×Nat×Nat):=[(43,70,7),(44,72,6),(45,74,5),(18,77,4),(20,79,3),(19,81,2)]
def Vu:List (Nat×Nat×Nat×Nat):=[(43,71,44,72),(44,73,45,74),(18,78,20,79),(20,80,19,81)]
inductive LstSt:Nat->List Nat->Prop
 |shut (n:Nat):LstSt n [n]
 |ex {n:Nat} {M:List Nat}:LstSt n M->LstSt n (69::M)
 |comma {n:Nat} {M:List Nat}:LstSt n M->LstSt n (8::69::M)
 |set:LstSt 5 [83,5]
 |more:LstSt 5 [84,5]
structure Got(src:LB)(st:List Nat)(r:Rdr)(ts:List Tk)(r' :Rdr)(ts' :List Tk):Prop where
 look:Look src r' ts'
 acc:Acc st ts'
 len:ts'.length<ts.length
 big:big r' +2*ts'.length<=big r+2*ts.length
structure Got0(src:LB)(st:List Nat)(r:Rdr)(ts:List Tk)(r' :Rdr)(ts' :List Tk):Prop where
 look:Look src r' ts'
 acc:Acc st ts'
 len:ts'.length<=ts.length
 big:Go.Proofs.YtmmjcbbogokmfaaGreatDoor.big r' +2*ts'.length<=Go.Proofs.YtmmjcbbogokmfaaGreatDoor.big r+2*ts.length
def vC:Nat:=900000
structure AllOk(src:LB)(f:Nat):Prop where
 ex:∀(r:Rdr) (ts:List Tk) (st:List Nat),Look src r ts->big r+2*ts.length<=vC->10*ts.length+8<=f->Acc (69::st) ts->∃x r' ts',exN src f .expr r=some (x,[],r')/\0<=x/\Got src st r ts r' ts'
 row:∀(l s k:Nat),(l,s,k)∈JP->∀(r:Rdr) (ts:List Tk) (st:List Nat),Look src r ts->big r+2*ts.length<=vC->10*ts.length+k<=f->Acc (s::st) ts->∃x r' ts',exN src f (.row l) r=some (x,[],r')/\0<=x/\Got src st r ts r' ts'
 more:∀(l s b u:Nat),(l,s,b,u)∈Vu->∀(root:Int) (r:Rdr) (ts:List Tk) (st:List Nat),0<=root->Look src r ts->big r+2*ts.length<=vC->10*ts.length+9<=f->Acc (s::st) ts->∃x r' ts',exN src f (.more l root) r=some (x,[],r')/\0<=x/\Got0 src st r ts r' ts'
 two:∀(l s k:Nat),(l,s,k)∈JP->∀(op root:Int) (r:Rdr) (c:Tk) (ts:List Tk) (st:List Nat),Look src r (c::ts)->big r+2*(c::ts).length<=vC->10*(c::ts).length<=f->Acc (s::st) ts->∃x r' ts',exN src f (.two op root l) r=some (x,[],r')/\0<=x/\Got src st r (c::ts) r' ts'
 un:∀(r:Rdr) (ts:List Tk) (st:List Nat),Look src r ts->big r+2*ts.length<=vC->10*ts.length+1<=f->Acc (81::st) ts->∃x r' ts',exN src f .unary r=some (x,[],r')/\0<=x/\Got src st r ts r' ts'
 ls:∀(last:Nat) (L:List Nat) (kids:List Int) (r:Rdr) (ts:List Tk) (st:List Nat),(last=5\/last=7)->LstSt last L->kids.length+ts.length<=900000->Look src r ts->big r+2*ts.length<=vC->10*ts.length+9<=f->Acc (L++st) ts->∃ks r' ts',exN src f (.list last kids) r=some (0,ks,r')/\Got src st r ts r' ts'
theorem jIm(t:Nat)(hb:jE 69 t=true)(h:t≠40):jK 69 t=[70]:=by
 unfold jK;rw[jJ5 (by rw[hb];decide),jJ5 (by decide),jJ5 (by decide),jJ5 (by decide),jJ5 (by decide),jJ5 (by decide),jJ5 (by decide),jJ5 (by decide),jJ5 (by decide),jJ5 (by decide),jJ5 (by decide),jJ5 (by decide)];unfold kZ;rw[jJ6 rfl,jJ5 h]
section
variable{src:LB}{f:Nat}
theorem jJb(IH:AllOk src f)(r:Rdr)(ts:List Tk)(st:List Nat)(hl:Look src r ts)(hb:big r+2*ts.length<=vC)(hf:10*ts.length+8<=f+1)(ha:Acc (69::st) ts):∃x r' ts',exN src (f+1) .expr r=some (x,[],r')/\0<=x/\Got src st r ts r' ts' :=by
 obtain⟨k,ts2,rfl,hJ,FI,ha⟩:=ki (by decide) (by decide) ha;unfold vC at hb;rw[jK6]at hb hf;by_cases NQ:k.t=40
 ·rw[show jK 69 k.t=[40,69,41,69,42,69]by rw[NQ];rfl]at ha;obtain⟨-,a1⟩:=jL (by decide) ha;obtain⟨r1,e1,b1,-,-,l1⟩:=jG hl;obtain⟨x2,r2,t2,e2,p2,l2,a2,n2,b2⟩:=IH.ex r1 ts2 _ l1 (by unfold vC;omega) (by omega) a1;obtain⟨k3,t3,rfl,-,a3⟩:=jP (by decide) a2;rw[jK6]at n2 b2;obtain⟨r3,e3,b3,-,-,l3⟩:=jG l2;obtain⟨x4,r4,t4,e4,p4,l4,a4,n4,b4⟩:=IH.ex r3 t3 _ l3 (by unfold vC;omega) (by omega) a3;obtain⟨k5,t5,rfl,-,a5⟩:=jP (by decide) a4;rw[jK6]at n4 b4;obtain⟨r5,e5,b5,-,-,l5⟩:=jG l4;obtain⟨x6,r6,t6,e6,p6,l6,a6,n6,b6⟩:=IH.ex r5 t5 _ l5 (by unfold vC;omega) (by omega) a5;obtain⟨x,r',en,px,bn,ln⟩:=yW (kg 23 [x2,x4,x6]) r.from_ l6 (by omega);refine⟨x,r',t6,?_,px,ln,a6,by rw[jK6];omega,by rw[jK6];omega⟩;rw[exN,jJ5 (by rw[hl.1,NQ];decide)];simp only[e1,e2,e3,e4,e5,e6,en,jL2,Option.map_some]
 ·rw[jIm k.t FI NQ]at ha;obtain⟨x,r',ts',e,p,g⟩:=IH.row 43 70 7 (by decide) r (k::ts2) st hl (by unfold vC;rw[jK6];omega) (by rw[jK6];omega) ha;refine⟨x,r',ts',?_,p,g⟩;rw[exN,jJ6 (by rw[hl.1];exact NQ)];exact e
theorem jIH(IH:AllOk src f)(l s k:Nat)(hm:(l,s,k)∈JP)(op root:Int)(r:Rdr)(c:Tk)(ts:List Tk)(st:List Nat)(hl:Look src r (c::ts))(hb:big r+2*(c::ts).length<=vC)(hf:10*(c::ts).length<=f+1)(ha:Acc (s::st) ts):∃x r' ts',exN src (f+1) (.two op root l) r=some (x,[],r')/\0<=x/\Got src st r (c::ts) r' ts' :=by
 unfold vC at hb;rw[jK6]at hb hf;have hk:k<=7:=by
  simp only[JP,List.mem_cons,Prod.mk.injEq,List.not_mem_nil,or_false]at hm;omega
 obtain⟨r1,e1,b1,-,-,l1⟩:=jG hl;obtain⟨x2,r2,t2,e2,p2,l2,a2,n2,b2⟩:=IH.row l s k hm r1 ts _ l1 (by unfold vC;omega) (by omega) ha;obtain⟨x,r',en,px,bn,ln⟩:=yW (kg op [root,x2]) r.from_ l2 (by omega);refine⟨x,r',t2,?_,px,ln,a2,by rw[jK6];omega,by rw[jK6];omega⟩;rw[exN];simp only[e1,e2,en,jL2,Option.map_some]
theorem Kf(l s b u:Nat)(h:(l,s,b,u)∈Vu):58<=s/\zS l=b/\(b,u,if b=44 then 6 else if b=45 then 5 else if b=20 then 3 else 2)∈JP/\∀t,t<58->(jE s t=true->kJ l t≠0/\jK s t=[t,u,s])/\(jE s t=false->kJ l t=0):=by
 simp only[Vu,List.mem_cons,Prod.mk.injEq,List.not_mem_nil,or_false]at h;rcases h with⟨rfl,rfl,rfl,rfl⟩|⟨rfl,rfl,rfl,rfl⟩|⟨rfl,rfl,rfl,rfl⟩|⟨rfl,rfl,rfl,rfl⟩
 ·refine⟨by decide,by decide,by decide,fun t hJ=>⟨fun hb=> ?_,fun hb=> ?_⟩⟩
  ·have ht:t=43:=by
    have h2:71=t\/t=43:=(by simpa [jE,vG]using hb);omega
   subst ht;exact⟨by decide,rfl⟩
  ·have ht:t≠43:=fun e=>by subst e;cases hb
   simp[kJ,ht]
 ·refine⟨by decide,by decide,by decide,fun t hJ=>⟨fun hb=> ?_,fun hb=> ?_⟩⟩
  ·have ht:t=44:=by
    have h2:73=t\/t=44:=(by simpa [jE,vG]using hb);omega
   subst ht;exact⟨by decide,rfl⟩
  ·have ht:t≠44:=fun e=>by subst e;cases hb
   simp[kJ,ht]
 ·refine⟨by decide,by decide,by decide,fun t hJ=>⟨fun hb=> ?_,fun hb=> ?_⟩⟩
  ·have ht:t=18\/t=19:=by
    have h2:78=t\/t=18\/t=19:=(by simpa [jE,vG]using hb);omega
   rcases ht with rfl|rfl<;>exact⟨by decide,rfl⟩
  ·have ht:¬(t=18\/t=19):=fun e=>by rcases e with rfl|rfl<;>cases hb
   simp[kJ,ht]
 ·refine⟨by decide,by decide,by decide,fun t hJ=>⟨fun hb=> ?_,fun hb=> ?_⟩⟩
  ·have ht:t=20\/t=21\/t=22:=by
    have h2:80=t\/(20<=t/\t<=22):=(by simpa [jE,vG]using hb);omega
   rcases ht with rfl|rfl|rfl<;>exact⟨by decide,rfl⟩
  ·have ht:¬(20<=t/\t<=22):=fun e=>by
    have:t=20\/t=21\/t=22:=(by omega);rcases this with rfl|rfl|rfl<;>cases hb
   simp[kJ,ht]
theorem jGV(IH:AllOk src f)(l s b u:Nat)(hm:(l,s,b,u)∈Vu)(root:Int)(r:Rdr)(ts:List Tk)(st:List Nat)(h0:0<=root)(hl:Look src r ts)(hb:big r+2*ts.length<=vC)(hf:10*ts.length+9<=f+1)(ha:Acc (s::st) ts):∃x r' ts',exN src (f+1) (.more l root) r=some (x,[],r')/\0<=x/\Got0 src st r ts r' ts' :=by
 obtain⟨hJ,Mv,To,V7⟩:=Kf l s b u hm;obtain⟨k,ts2,rfl,Wn,⟨FI,ha⟩|⟨FI,ha⟩⟩:=kM hJ ha
 ·obtain⟨h1,h2⟩:=(V7 k.t Wn).1 FI;rw[h2]at ha;obtain⟨-,a1⟩:=jL (n:=k.t) Wn ha;obtain⟨x2,r2,t2,e2,p2,l2,a2,n2,b2⟩:=IH.two b u _ To (kJ l r.t) root r k ts2 (s::st) hl hb (by rw[jK6]at hf⊢;omega) a1;unfold vC at hb;rw[jK6]at n2 b2 hf hb;obtain⟨x3,r3,t3,e3,p3,l3,a3,n3,b3⟩:=IH.more l s b u hm x2 r2 t2 st p2 l2 (by unfold vC;omega) (by omega) a2;refine⟨x3,r3,t3,?_,p3,l3,a3,by rw[jK6];omega,by rw[jK6];omega⟩;rw[exN,jJ5 (by rw[hl.1];exact h1),Mv];simp only[e2,e3,jL2]
 ·refine⟨root,r,k::ts2,?_,h0,hl,ha,jL3 _,jL3 _⟩;rw[exN,jJ6 (by rw[hl.1];exact(V7 k.t Wn).2 FI)]
theorem qh(IH:AllOk src f)(l s k m b u j:Nat)(Mp:l=43\/l=44\/l=18\/l=20)(hm:(l,m,b,u)∈Vu)(hr:(b,u,j)∈JP)(hj:j+1<=k)(V7:∀t,jE s t=true->jK s t=[u,m])(hs:58<=s)(Tn:kX s=false)
  (r:Rdr) (ts:List Tk) (st:List Nat) (hl:Look src r ts) (hb:big r+2*ts.length<=vC) (hf:10*ts.length+k<=f+1) (ha:Acc (s::st) ts):∃x r' ts',exN src (f+1) (.row l) r=some (x,[],r')/\0<=x/\Got src st r ts r' ts' :=by
 obtain⟨k0,ts2,rfl,-,FI,ha⟩:=ki hs Tn ha;rw[V7 _ FI]at ha;obtain⟨x2,r2,t2,e2,p2,l2,a2,n2,b2⟩:=IH.row b u j hr r _ (m::st) hl hb (by omega) ha;unfold vC at hb;obtain⟨x3,r3,t3,e3,p3,l3,a3,n3,b3⟩:=IH.more l m b u hm x2 r2 t2 st p2 l2 (by unfold vC;omega) (by
  have:j<=7:=by
   simp only[JP,List.mem_cons,Prod.mk.injEq,List.not_mem_nil,or_false]at hr;omega
  omega) a2
 refine⟨x3,r3,t3,?_,p3,l3,a3,by omega,by omega⟩;have Mv:=(Kf l m b u hm).2.1;rw[exN,jJ5 (by omega),jJ6 Mp,Mv];simp only[e2,e3,jL2]
theorem JX(s u m t:Nat)(h:(s,u,m)∈ [(70,72,71),(72,74,73),(77,79,78),(79,81,80)])(hb:jE s t=true):jK s t=[u,m]:=by
 simp only[List.mem_cons,Prod.mk.injEq,List.not_mem_nil,or_false]at h;unfold jK;rw[jJ5 (by rw[hb];decide)];rcases h with⟨rfl,rfl,rfl⟩|⟨rfl,rfl,rfl⟩|⟨rfl,rfl,rfl⟩|⟨rfl,rfl,rfl⟩<;>rfl
theorem jIl(t:Nat)(hb:jE 74 t=true):jK 74 t=if t=45 then [t,74]else [75]:=by
 unfold jK;rw[jJ5 (by rw[hb];decide)];rfl
theorem jIk(t:Nat)(hb:jE 75 t=true):jK 75 t=[77,76]:=by
 unfold jK;rw[jJ5 (by rw[hb];decide)];rfl
theorem jIj(t:Nat)(hb:jE 76 t=true):jK 76 t=[t,77]:=by
 unfold jK;rw[jJ5 (by rw[hb];decide)];rfl
theorem jIi(t:Nat)(hb:jE 81 t=true):jK 81 t=if t=19 then [t,81]else [82]:=by
 unfold jK;rw[jJ5 (by rw[hb];decide)];rfl
theorem jIh(t:Nat)(hb:jE 82 t=true):jK 82 t=zU t:=by
 unfold jK;rw[jJ5 (by rw[hb];decide)];rfl
theorem jD2(IH:AllOk src f)(r:Rdr)(ts:List Tk)(st:List Nat)(hl:Look src r ts)(hb:big r+2*ts.length<=vC)(hf:10*ts.length+5<=f+1)(ha:Acc (74::st) ts):∃x r' ts',exN src (f+1) (.row 45) r=some (x,[],r')/\0<=x/\Got src st r ts r' ts' :=by
 obtain⟨k,ts2,rfl,hJ,FI,ha⟩:=ki (by decide) (by decide) ha;rw[jIl _ FI]at ha;by_cases Gv:k.t=45
 ·rw[jJ6 Gv,Gv]at ha;obtain⟨-,a1⟩:=jL (by decide) ha;unfold vC at hb;rw[jK6]at hb hf;obtain⟨r1,e1,b1,-,-,l1⟩:=jG hl;obtain⟨x2,r2,t2,e2,p2,l2,a2,n2,b2⟩:=IH.row 45 74 5 (by decide) r1 ts2 _ l1 (by unfold vC;omega) (by omega) a1;obtain⟨x,r',en,px,bn,ln⟩:=yW (kg 8 [x2]) r.from_ l2 (by omega);refine⟨x,r',t2,?_,px,ln,a2,by rw[jK6];omega,by rw[jK6];omega⟩;rw[exN,jJ6 rfl,jJ6 (by rw[hl.1];exact Gv)];simp only[e1,e2,en,jL2,Option.map_some]
 ·rw[jJ5 Gv]at ha;obtain⟨k',ts2',e',-,NP,ha⟩:=ki (by decide) (by decide) ha;injection e' with e1 e2;subst e1 e2;rw[jIk _ NP]at ha;obtain⟨x2,r2,t2,e2,p2,l2,a2,n2,b2⟩:=IH.row 18 77 4 (by decide) r _ (76::st) hl hb (by omega) ha;obtain⟨k3,t3,rfl,TX,⟨N8,a3⟩|⟨N8,a3⟩⟩:=kM (by decide) a2
  ·rw[jIj _ N8]at a3;have h3:(12<=k3.t/\k3.t<=17)\/k3.t=28:=by
    have h2:76=k3.t\/(12<=k3.t/\k3.t<=17)\/k3.t=28:=(by simpa [jE,vG]using N8);omega
   obtain⟨-,a4⟩:=jL (n:=k3.t) (by omega) a3;unfold vC at hb;have HT:=fun op=>IH.two 18 77 4 (by decide) op x2 r2 k3 t3 st l2 (by unfold vC;omega) (by omega) a4;by_cases hc:12<=k3.t/\k3.t<=17
   ·obtain⟨x,r',ts',e,p,l,a,n,b⟩:=HT (11+((r2.t:Int)-12));refine⟨x,r',ts',?_,p,l,a,by omega,by omega⟩;rw[exN,jJ6 rfl,jJ5 (by rw[hl.1];exact Gv)];simp only[e2,jL2];rw[jJ6 (by rw[l2.1];exact hc)];exact e
   ·obtain⟨x,r',ts',e,p,l,a,n,b⟩:=HT 17;refine⟨x,r',ts',?_,p,l,a,by omega,by omega⟩;rw[exN,jJ6 rfl,jJ5 (by rw[hl.1];exact Gv)];simp only[e2,jL2];rw[jJ5 (by rw[l2.1];exact hc),jJ6 (by rw[l2.1];omega)];exact e
  ·refine⟨x2,r2,_,?_,p2,l2,a3,n2,b2⟩;have h3:¬(12<=k3.t/\k3.t<=17)/\k3.t≠28:=by
    have h2:¬(76=k3.t\/(12<=k3.t/\k3.t<=17)\/k3.t=28):=fun e=>by
     have:jE 76 k3.t=true:=by
      rcases e with e|e
      ·simp[jE,<-e]
      ·simp[jE,vG,e]
     rw[this]at N8;cases N8
    omega
   rw[exN,jJ6 rfl,jJ5 (by rw[hl.1];exact Gv)];simp only[e2,jL2];rw[jJ5 (by rw[l2.1];exact h3.1),jJ5 (by rw[l2.1];exact h3.2)]
theorem jII(IH:AllOk src f)(l s k:Nat)(hm:(l,s,k)∈JP)(r:Rdr)(ts:List Tk)(st:List Nat)(hl:Look src r ts)(hb:big r+2*ts.length<=vC)(hf:10*ts.length+k<=f+1)(ha:Acc (s::st) ts):∃x r' ts',exN src (f+1) (.row l) r=some (x,[],r')/\0<=x/\Got src st r ts r' ts' :=by
 simp only[JP,List.mem_cons,Prod.mk.injEq,List.not_mem_nil,or_false]at hm;rcases hm with⟨rfl,rfl,rfl⟩|⟨rfl,rfl,rfl⟩|⟨rfl,rfl,rfl⟩|⟨rfl,rfl,rfl⟩|⟨rfl,rfl,rfl⟩|⟨rfl,rfl,rfl⟩
 ·exact qh IH 43 70 7 71 44 72 6 (by decide) (by decide) (by decide) (by decide) (fun t h=>JX 70 72 71 t (by decide) h) (by decide) (by decide) r ts st hl hb hf ha
 ·exact qh IH 44 72 6 73 45 74 5 (by decide) (by decide) (by decide) (by decide) (fun t h=>JX 72 74 73 t (by decide) h) (by decide) (by decide) r ts st hl hb hf ha
 ·exact jD2 IH r ts st hl hb hf ha
 ·exact qh IH 18 77 4 78 20 79 3 (by decide) (by decide) (by decide) (by decide) (fun t h=>JX 77 79 78 t (by decide) h) (by decide) (by decide) r ts st hl hb hf ha
 ·exact qh IH 20 79 3 80 19 81 2 (by decide) (by decide) (by decide) (by decide) (fun t h=>JX 79 81 80 t (by decide) h) (by decide) (by decide) r ts st hl hb hf ha
 ·obtain⟨x,r',ts',e,p,g⟩:=IH.un r ts st hl hb (by omega) ha;refine⟨x,r',ts',?_,p,g⟩;rw[exN,jJ5 (by decide),jJ5 (by decide)];exact e
end
end Go.Proofs.YtmmjcbbogokmfaaGreatDoor

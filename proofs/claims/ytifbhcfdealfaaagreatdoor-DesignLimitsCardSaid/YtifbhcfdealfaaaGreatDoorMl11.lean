import Derived.Test.YtifbhcfdealfaaaGreatDoorMl09
set_option maxRecDepth 100000
set_option maxHeartbeats 25600000
namespace Go.Proofs.YtifbhcfdealfaaaGreatDoor
open Go.Proofs.Tryz
def tb(s:BA):LB:=s.data.toList
def zh(s:BA):Bool:=kY (tb s)
def js(n:Nd):Bool:=
 if n.op=1 then decide (n.vk=1/\0<=n.vn)&&decide (n.vt.size=0)&&decide (n.vs=[])&&decide (n.kids.length=0)&&decide (n.name.size=0)
 else if n.op=2 then decide (n.vk=2/\(n.vn=0\/n.vn=1))&&decide (n.vt.size=0)&&decide (n.vs=[])&&decide (n.kids.length=0)&&decide (n.name.size=0)
 else if n.op=3 then decide (n.vk=3/\n.vn=0)&&decide (n.vs=[])&&decide (n.kids.length=0)&&decide (n.name.size=0)
 else decide (n.vk=0/\n.vn=0)&&decide (n.vt.size=0)&&decide (n.vs=[])&&
  (if n.op=4\/n.op=29\/n.op=30 then decide (n.kids.length=0)&&decide (n.name.size=0)
   else if n.op=5\/n.op=24\/n.op=25\/n.op=26 then decide (n.kids.length=0)&&zh n.name
   else if n.op=6 then decide (n.name.size=0)
   else if n.op=7\/n.op=8\/n.op=27 then decide (n.kids.length=1)&&decide (n.name.size=0)
   else if n.op=23 then decide (n.kids.length=3)&&decide (n.name.size=0)
   else decide (1<=n.op/\n.op<34)&&decide (n.kids.length=2)&&decide (n.name.size=0))
structure LayP where
 l:List (Int×Int)
 last:Int
 ok:Bool
def jGx(fam:Int)(i:Nat)(order:Int)(s:LayP):LayP:=
 let last:=if i=0 then-1 else s.last
 if order<=last\/(s.l.length:Int)<=order\/s.l.getD order.toNat (0,0)≠(0,0)then⟨s.l,last,false⟩
 else⟨s.l.set order.toNat (fam,(i:Int)),order,s.ok⟩
def ZN(fam:Int):List Int->Nat->LayP->LayP
 |[],_,s=>s
 |o::l,i,s=>ZN fam l (i+1) (jGx fam i o s)
def Tre.count(t:Tre):Nat:=t.attrs.length+t.stages.length+t.miles.length+t.steps.length
def jDI(t:Tre):LayP:=
 ZN 4 (t.steps.map Stp.order) 0 (ZN 3 (t.miles.map Mil.order) 0 (ZN 2 (t.stages.map Stg.order) 0 (ZN 1 (t.attrs.map Atr.order) 0 ⟨List.replicate t.count (0,0),-1,true⟩)))
def jCP(nodes:List Nd):Nat->Int->Nat->Option Nat
 |0,_,_=>none
 |f+1,root,next=>
  if root<0\/(nodes.length:Int)<=root then none
  else match nodes[root.toNat]? with
   |none=>none
   |some n=>if js n=false then none
    else(n.kids.foldl (fun(s:Option Nat) k=>s.bind fun nx=>if root<=k then none else jCP nodes f k nx) (some next)).bind fun nx=>if root=(nx:Int)then some (nx+1)else none
def zg(b w:LB):LB:=(if b=[]\/b.getLastD 0=10 then b else b++[32])++w
def Vz(b:LB)(ws:List LB):LB:=ws.foldl zg b
def jEq(op:Int):Nat:=
 if op=23 then 0 else if op=10 then 1 else if op=9 then 2 else if op=8 then 3 else if 11<=op/\op<=17 then 4 else if op=18\/op=19 then 5 else if 20<=op/\op<=22 then 6 else if op=7 then 7 else 8
def JB(op:Int):LB:=
 if 11<=op/\op<=16 then signL.getD (op.toNat-3) []
 else if 20<=op/\op<=22 then signL.getD (op.toNat-4) []
 else if 29<=op/\op<=33 then resL.getD (op.toNat+1) []
 else if op=8 then [110,111,116]else if op=9 then [97,110,100]else if op=10 then [111,114]else if op=17 then [105,110]else if op=18 then [43]else if op=7\/op=19 then [45]
 else if op=24 then [104,97,115]else if op=25 then [111,112,101,110]else if op=26 then [114,101,97,99,104,101,100]else if op=27 then [115,105,122,101]else [106,111,105,110]
def jGf(n:Nat):UInt8:=UInt8.ofNat (if n<10 then 48+n else 87+n)
def jEX(c:UInt8):LB:=
 if c.toNat=34\/c.toNat=92 then [92,c]else if c.toNat=10 then [92,110]else if c.toNat=9 then [92,116]
 else if c.toNat<32\/126<c.toNat then [92,120,jGf (c.toNat/16),jGf (c.toNat% 16)]else [c]
def jCi(s:LB):LB:=34::(s.flatMap jEX++[34])
def jGh:Nat->Nat->LB
 |0,_=>[]
 |f+1,n=>if n<10 then [UInt8.ofNat (48+n)]else jGh f (n/10)++[UInt8.ofNat (48+n% 10)]
def jGr(n:Int):LB:=jGh 20 n.toNat
def opens(own least:Nat)(b:LB):LB:=if own<least then zg b [40]else b
def jFZ(own least:Nat)(b:LB):LB:=if own<least then zg b [41]else b
def YQ(nodes:List Nd):Nat->Int->Nat->LB->Option LB
 |0,_,_,_=>none
 |f+1,root,least,b=>
  if root<0 then none
  else match nodes[root.toNat]? with
   |none=>none
   |some n=>
    let own:=jEq n.op
    let b0:=opens own least b
    let two (l r:Nat) (w:LB):Option LB:=match n.kids with
     |k::q::_=>(YQ nodes f k l b0).bind fun b1=>YQ nodes f q r (zg b1 w)
     |_=>none
    let one:Option LB:=match n.kids with
     |k::_=>YQ nodes f k own (zg b0 (JB n.op))
     |_=>none
    (if own=0 then(match n.kids with
      |a::c::d::_=>(YQ nodes f a 0 (zg b0 [105,102])).bind fun b1=>(YQ nodes f c 0 (zg b1 [116,104,101,110])).bind fun b2=>YQ nodes f d 0 (zg b2 [101,108,115,101])
      |_=>none)
     else if own=1\/own=2\/own=5\/own=6 then two own (own+1) (JB n.op)
     else if own=3\/own=7 then one
     else if own=4 then two 5 5 (JB n.op)
     else if n.op=1 then some (zg b0 (jGr n.vn))
     else if n.op=2 then some (zg b0 (if n.vn=1 then [116,114,117,101]else [102,97,108,115,101]))
     else if n.op=3 then some (zg b0 (jCi (tb n.vt)))
     else if n.op=5 then some (zg b0 (tb n.name))
     else if n.op=4 then some (zg b0 [110,111,116,104,105,110,103])
     else if n.op=6 then(listP (YQ nodes f) n.kids 0 (zg b0 [123])).map fun b1=>zg b1 [125]
     else(listP (YQ nodes f) n.kids 0 (let b1:=zg (zg b0 (JB n.op)) [40];if n.name.size=0 then b1 else zg b1 (tb n.name))).map fun b1=>zg b1 [41]).map (jFZ own least)
where
 listP (g:Int->Nat->LB->Option LB):List Int->Nat->LB->Option LB
  |[],_,b=>some b
  |k::l,i,b=>(g k 0 (if 0<i then zg b [44]else b)).bind fun b1=>listP g l (i+1) b1
def zR(nodes:List Nd)(root:Int)(next:Nat):Option Nat:=if root= -1 then some next else jCP nodes (nodes.length+1) root next
def Xw(s:BA):Bool:=decide (s.size=0)||zh s
def jCB(k:Int):Bool:=decide (1<=k/\k<=5)
def jEW(ns:List Nd)(a:Atr)(nx:Nat):Option Nat:=if zh a.name=true/\jCB a.kind=true then(zR ns a.dflt nx).bind (zR ns a.when_)else none
def jEU(ns:List Nd)(s:Stg)(nx:Nat):Option Nat:=if zh s.name=true/\Xw s.in_=true then(zR ns s.opens nx).bind (zR ns s.closes)else none
def jET(ns:List Nd)(m:Mil)(nx:Nat):Option Nat:=if zh m.name=true/\Xw m.in_=true then jCP ns (ns.length+1) m.when_ nx else none
def jBo(ns:List Nd):List Eff->Nat->Option Nat
 |[],nx=>some nx
 |e::l,nx=>if zh e.name=true then(zR ns e.worth nx).bind (jBo ns l)else none
def jES(ns:List Nd)(s:Stp)(nx:Nat):Option Nat:=
 if zh s.name=true/\Xw s.in_=true/\s.params.all (fun p=>zh p.name&&jCB p.kind)=true then(zR ns s.when_ nx).bind (jBo ns s.effects)else none
def jEV(t:Tre)(d:Int×Int)(nx:Nat):Option Nat:=
 if d.1=1 then(t.attrs[d.2.toNat]?).bind fun a=>jEW t.nodes a nx
 else if d.1=2 then(t.stages[d.2.toNat]?).bind fun a=>jEU t.nodes a nx
 else if d.1=3 then(t.miles[d.2.toNat]?).bind fun a=>jET t.nodes a nx
 else(t.steps[d.2.toNat]?).bind fun a=>jES t.nodes a nx
def xI(t:Tre):List (Int×Int)->Nat->Option Nat
 |[],nx=>some nx
 |d::l,nx=>(jEV t d nx).bind (xI t l)
def jEs(k:Int):LB:=resL.getD (k.toNat+10) []
def exP(ns:List Nd)(root:Int)(b:LB):Option LB:=YQ ns (ns.length+1) root 0 b
def Va(ns:List Nd)(root:Int)(ws:List LB)(b:LB):Option LB:=if 0<=root then exP ns root (Vz b ws)else some b
def inP(s:BA)(b:LB):LB:=if s.size=0 then b else Vz b [[105,110],tb s]
def jGL(ns:List Nd)(a:Atr)(b:LB):Option LB:=
 let b1:=Vz b [[97,116,116,114,105,98,117,116,101],tb a.name,[58]]
 let b2:=if a.opt=true then zg b1 [111,112,116,105,111,110,97,108]else b1
 (Va ns a.dflt [[61]] (zg b2 (jEs a.kind))).bind fun b3=>(Va ns a.when_ [[119,104,101,110]] b3).map fun b4=>zg b4 [59]
def jEK(ns:List Nd)(root:Int)(w:LB)(b:LB):Option LB:=if 0<=root then(Va ns root [w,[119,104,101,110]] b).map fun b1=>zg b1 [59]else some b
def jGK(ns:List Nd)(s:Stg)(b:LB):Option LB:=
 (jEK ns s.opens [111,112,101,110,115] (zg (inP s.in_ (Vz b [[115,116,97,103,101],tb s.name])) [123])).bind fun b1=>(jEK ns s.closes [99,108,111,115,101,115] b1).map fun b2=>zg b2 [125]
def jGJ(ns:List Nd)(m:Mil)(b:LB):Option LB:=
 (Va ns m.when_ [[114,101,97,99,104,101,100],[119,104,101,110]] (inP m.in_ (Vz b [[109,105,108,101,115,116,111,110,101],tb m.name]))).map fun b1=>zg b1 [59]
def Qx:List Prm->Nat->LB->LB
 |[],_,b=>b
 |p::l,i,b=>Qx l (i+1) (Vz (if 0<i then zg b [44]else b) [tb p.name,[58],jEs p.kind])
def xi(ns:List Nd):List Eff->LB->Option LB
 |[],b=>some b
 |e::l,b=>(if e.worth<0 then some (Vz b [[114,101,111,112,101,110],tb e.name])else Va ns e.worth [tb e.name,[58,61]] b).bind fun b1=>xi ns l (zg b1 [59])
def jGH(ns:List Nd)(s:Stp)(b:LB):Option LB:=
 (Va ns s.when_ [[119,104,101,110]] (inP s.in_ (zg (Qx s.params 0 (Vz b [[115,116,101,112],tb s.name,[40]])) [41]))).bind fun b1=>(xi ns s.effects (zg b1 [123])).map fun b2=>zg b2 [125]
def jGI(t:Tre)(d:Int×Int)(b:LB):Option LB:=
 (if d.1=1 then(t.attrs[d.2.toNat]?).bind fun a=>jGL t.nodes a b
 else if d.1=2 then(t.stages[d.2.toNat]?).bind fun a=>jGK t.nodes a b
 else if d.1=3 then(t.miles[d.2.toNat]?).bind fun a=>jGJ t.nodes a b
 else(t.steps[d.2.toNat]?).bind fun a=>jGH t.nodes a b).map (· ++[10])
def jB7(t:Tre):List (Int×Int)->LB->Option LB
 |[],b=>some b
 |d::l,b=>(jGI t d b).bind (jB7 t l)
def jG5(t:Tre):Bool:=(jDI t).ok&&zh t.name&&decide (xI t (jDI t).l 0=some t.nodes.length)
def jFD(t:Tre):Option LB:=(jB7 t (jDI t).l (Vz [] [[116,121,112,101],tb t.name,[123]]++[10])).map (· ++[125,10])
def jGX(t:Tre):Option LB:=if jG5 t=true then jFD t else none
open Go.RowKit
theorem jGU{s:BA}(h:s.toList=[]):s=⟨#[]⟩:=by
 rw[ByteArray.toList_eq]at h;exact jBj (show sb s=[]from h)
theorem zM(s:BA):s.toList.isEmpty=decide (s.size=0):=by
 rw[ByteArray.toList_eq,<-jB];unfold sb;cases s.data.toList<;>rfl
theorem tl_size{s:BA}:s.toList=[]↔s.size=0:=by
 rw[ByteArray.toList_eq,<-jB];exact List.length_eq_zero_iff.symm
theorem stages(P:Prop)(Q:Prop)(vt:BA)(vs:List BA)(kids:List Int)(k:Int):
  ¬P\/(P/\¬Q)\/(P/\Q/\¬vt.toList=[])\/(P/\Q/\vt.toList=[]/\0<vs.length)\/(P/\Q/\vt.toList=[]/\vs=[]/\((kids.length:Int) !=k)=true)\/(P/\Q/\vt.toList=[]/\vs=[]/\((kids.length:Int) !=k)=false):=by
 by_cases h1:P
 ·by_cases h2:Q
  ·by_cases h3:vt.toList=[]
   ·by_cases h4:vs=[]
    ·cases h5:((kids.length:Int) !=k)
     ·exact .inr (.inr (.inr (.inr (.inr ⟨h1,h2,h3,h4,rfl⟩))))
     ·exact .inr (.inr (.inr (.inr (.inl ⟨h1,h2,h3,h4,rfl⟩))))
    ·exact .inr (.inr (.inr (.inl ⟨h1,h2,h3,List.length_pos_iff.2 h4⟩)))
   ·exact .inr (.inr (.inl ⟨h1,h2,h3⟩))
  ·exact .inr (.inl ⟨h1,h2⟩)
 ·exact .inl h1
theorem bnf{a b:Int}(h:a=b):(a !=b)=false:=by rw[bne,beq_iff_eq.2 h];rfl
theorem bnt{a b:Int}(h:a≠b):(a !=b)=true:=by rw[bne,jM3 h];rfl
theorem qt(E:Int):bits BinOp.and IntKind.i64 E 1=E% 2:=by
 have hb:(2:Int)^IntKind.i64.bits=18446744073709551616:=rfl;have h1:(1% 2^IntKind.i64.bits:Nat)=1:=(by decide);unfold bits;simp;rw[h1,Nat.and_one_is_mod,hb,jQ3 _ (by omega)];omega
def jHZ(op vn:Int)(vt:BA)(n:Nat)(K k:Int)(kN:Nat)(Q:Prop)(vt' :BA):Prop:=
 (0=K/\(vn=0)=Q/\vt=vt' /\((op=4\/op=29\/op=30\/op=5\/op=24\/op=25\/op=26)/\0=k/\0=kN\/(op=7\/op=8\/op=27)/\1=k/\1=kN\/op=23/\3=k/\3=kN\/op=6/\(n:Int)=k/\n=kN\/
  ((op==1)=false/\(op==2)=false/\(op==3)=false/\(op==4)=false/\(op==29)=false/\(op==30)=false/\(op==5)=false/\(op==24)=false/\(op==25)=false/\(op==26)=false/\(op==6)=false/\(op==7)=false/\(op==8)=false/\(op==27)=false/\(op==23)=false)/\2=k/\2=kN))\/
 op=1/\1=K/\(0<=vn)=Q/\vt=vt' /\0=k/\0=kN\/op=2/\2=K/\(vn% 2=vn)=Q/\vt=vt' /\0=k/\0=kN\/op=3/\3=K/\(vn=0)=Q/\⟨#[]⟩=vt' /\0=k/\0=kN
theorem jHB(op vn:Int)(vt:BA)(n:Nat):∃K k kN Q vt',jHZ op vn vt n K k kN Q vt' :=by
 by_cases h1:op=1
 ·exact⟨_,_,_,_,_,.inr (.inl ⟨h1,rfl,rfl,rfl,rfl,rfl⟩)⟩
 by_cases h2:op=2
 ·exact⟨_,_,_,_,_,.inr (.inr (.inl ⟨h2,rfl,rfl,rfl,rfl,rfl⟩))⟩
 by_cases h3:op=3
 ·exact⟨_,_,_,_,_,.inr (.inr (.inr ⟨h3,rfl,rfl,rfl,rfl,rfl⟩))⟩
 by_cases h4:op=4\/op=29\/op=30\/op=5\/op=24\/op=25\/op=26
 ·exact⟨_,_,_,_,_,.inl ⟨rfl,rfl,rfl,.inl ⟨h4,rfl,rfl⟩⟩⟩
 by_cases h5:op=7\/op=8\/op=27
 ·exact⟨_,_,_,_,_,.inl ⟨rfl,rfl,rfl,.inr (.inl ⟨h5,rfl,rfl⟩)⟩⟩
 by_cases h6:op=23
 ·exact⟨_,_,_,_,_,.inl ⟨rfl,rfl,rfl,.inr (.inr (.inl ⟨h6,rfl,rfl⟩))⟩⟩
 by_cases h7:op=6
 ·exact⟨_,_,_,_,_,.inl ⟨rfl,rfl,rfl,.inr (.inr (.inr (.inl ⟨h7,rfl,rfl⟩)))⟩⟩
 exact⟨_,_,_,_,_,.inl ⟨rfl,rfl,rfl,.inr (.inr (.inr (.inr ⟨by simp only[beq_eq_false_iff_ne];omega,rfl,rfl⟩)))⟩⟩
def lfs(l:LB):Nat:=(l.filter fun c=>decide (c=10)).length
def kX:LB->Int
 |[]=> -1
 |c::l=>if lfs l=0 then(if c=10 then 0 else-1)else kX l+1
theorem xX(l:LB)(c:UInt8):lfs (l++[c])=lfs l+(if c=10 then 1 else 0):=by
 unfold lfs;rw[List.filter_append,jJ4];by_cases h:c=10
 ·rw[jJ6 h,List.filter_cons,jJ6 (jK5 h)];rfl
 ·rw[jJ5 h,List.filter_cons,jJ5 (by simpa using h)];rfl
theorem zk:∀(l:LB) (c:UInt8),kX (l++[c])=if c=10 then(l.length:Int)else kX l
 |[],c=>by
  show(if lfs []=0 then(if c=10 then(0:Int)else-1)else kX []+1)=_;rw[jJ6 (show lfs []=0 from rfl)];rfl
 |d::l,c=>by
  show(if lfs (l++[c])=0 then(if d=10 then(0:Int)else-1)else kX (l++[c])+1)=_;rw[xX,zk l c];by_cases h:c=10
  ·rw[jJ6 h,jJ6 h,jJ6 h,jJ5 (by omega),jK6];omega
  ·rw[jJ5 h,jJ5 h,jJ5 h];rfl
def kK(l:LB)(at_:Nat):Int:=1+(lfs (l.take at_):Int)
def vz(l:LB)(at_:Nat):Int:=(at_:Int)-kX (l.take at_)
theorem Xd(l:LB):kK l 0=1/\vz l 0=1:=by
 unfold kK vz;rw[List.take_zero];exact⟨rfl,rfl⟩
theorem Xe{l:LB}{i:Nat}(h:i<l.length):kK l (i+1)=kK l i+(if l[i]=10 then 1 else 0)/\vz l (i+1)=(if l[i]=10 then 0 else vz l i)+1:=by
 unfold kK vz;rw[jK2 h,xX,zk,jK9,Nat.min_eq_left (Nat.le_of_lt h)];by_cases e:l[i]=10
 ·simp only[jJ6 e];exact⟨by omega,by omega⟩
 ·simp only[jJ5 e];exact⟨by omega,by omega⟩
theorem Ku:∀(l:LB),-1<=kX l/\kX l<(l.length:Int)
 |[]=>by decide
 |c::l=>by
  have:=Ku l;unfold kX;rw[jK6];split
  ·split<;>omega
  ·omega
theorem jB1(l:LB):lfs l<=l.length:=List.length_filter_le _ _
end Go.Proofs.YtifbhcfdealfaaaGreatDoor

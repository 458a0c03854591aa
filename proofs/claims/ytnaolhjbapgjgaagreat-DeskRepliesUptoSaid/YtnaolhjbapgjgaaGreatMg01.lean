import Derived.WalkKit
import Derived.WalkSpells
import Derived.WalkLawsBesides
import Derived.Maps.AppendAt
import Derived.Deep.AppendLies
import Derived.Deep.Draws
import Derived.Deep.RegionHeld3
import Derived.Deep.DrawnRows
import Derived.Deep.QuietTactic
import Derived.BigQuiet
import Derived.Lib.Hide
import Derived.Lib.AppendStr
import Derived.Lib.ConvBytes
import Derived.Laws.IdiomStrings
import Derived.Deep.RegionLaw
import Derived.IntWalk
import Derived.Test.YtnaolhjbapgjgaaGreatRows
set_option maxRecDepth 100000
set_option maxHeartbeats 6400000
namespace Go.Proofs.YtnaolhjbapgjgaaGreat
theorem G {p : Prop} (h : p) : RowKit.Hid p := Lib.hid h
abbrev LB := List UInt8
abbrev OA := Option Addr
abbrev BA := ByteArray
theorem jJ1 {A : Type} {l : List A} {i : Nat} {a : A} : l.toArray.setIfInBounds i a = (l.set i a).toArray := List.setIfInBounds_toArray ..
theorem jJ2 {A : Type} {x : A} {l : List A} {a : A} : (x :: l).set 0 a = a :: l := rfl
theorem jJ3 {A : Type} {x : A} {l : List A} {a : A} {n : Nat} : (x :: l).set (n + 1) a = x :: l.set n a := rfl
theorem jJ4 {A : Type} {l m : List A} : (l ++ m).length = l.length + m.length := List.length_append
theorem jJ5 {c : Prop} {i : Decidable c} (h : ¬c) {A : Sort _} {t e : A} : ite c t e = e := if_neg h
theorem jJ6 {c : Prop} {i : Decidable c} (h : c) {A : Sort _} {t e : A} : ite c t e = t := if_pos h
theorem jJ7 {A : Type} {l : List A} {i : Nat} : l.toArray[i]? = l[i]? := List.getElem?_toArray
theorem jJ8 {A : Type} {l : List A} : l.toArray.size = l.length := List.size_toArray
theorem jJ9 {A : Type} {l : List A} {i : Nat} (h : i < l.length) : l[i]? = some l[i] := List.getElem?_eq_getElem h
theorem jK1 {A : Type} (l m n : List A) : l ++ m ++ n = l ++ (m ++ n) := List.append_assoc l m n
theorem jK2 {A : Type} {l : List A} {i : Nat} (h : i < l.length) : l.take (i + 1) = l.take i ++ [l[i]] := List.take_succ_eq_append_getElem h
theorem jK3 {p : Prop} {i : Decidable p} (h : ¬p) : decide p = false := decide_eq_false h
theorem jK4 {A : Type} {i : Nat} {l : List A} (h : l.length <= i) : l.take i = l := List.take_of_length_le h
theorem jK6 {A : Type} {x : A} {l : List A} : (x :: l).length = l.length + 1 := List.length_cons
theorem jK7 {A B : Type} {l : List A} (f : A -> B) : (l.map f).length = l.length := List.length_map f
theorem jK8 {A : Type} {i : Nat} {l : List A} : (l.drop i).length = l.length - i := List.length_drop
theorem jK9 {A : Type} {i : Nat} {l : List A} : (l.take i).length = min i l.length := List.length_take
theorem jL1 (n : Nat) : (n : Int).toNat = n := Int.toNat_natCast n
theorem jL2 {A B : Type} (a : A) (f : A -> Option B) : (some a).bind f = f a := Option.bind_some a f
theorem jL3 (n : Nat) : n <= n := Nat.le_refl n
theorem jL4 {n m k : Nat} : n <= m -> m <= k -> n <= k := Nat.le_trans
theorem jL5 {A : Type} {a b : A} : some a = some b -> a = b := Option.some.inj
theorem jL6 {A : Type} {l : List A} {n : Nat} (h : n < l.length) : l[n] ∈ l := List.getElem_mem h
theorem jL7 {A : Type} {a b : A} : a ∈ [b] ↔ a = b := List.mem_singleton
theorem jL8 {n m k : Nat} : n < m -> m <= k -> n < k := Nat.lt_of_lt_of_le
theorem jL9 {A B : Type} {f : A -> List B} {a : A} {l : List A} : (a :: l).flatMap f = f a ++ l.flatMap f := List.flatMap_cons
theorem jM1 {A B : Type} {f : A -> B} {l : List A} {i : Nat} : (l.map f)[i]? = Option.map f l[i]? := List.getElem?_map
theorem jK5 {p : Prop} {i : Decidable p} (h : p) : decide p = true := decide_eq_true h
open Go.Proofs.Tryz
open Go.RowKit
def bv(b:UInt8):Value:=.int .u8 (b.toNat:Int)
def sv(s:BA):Value:=.string s
theorem ZS(a:Addr)(n:Nat):(a.add n).block=a.block:=by unfold Addr.add;split<;>rfl
theorem jCp(a:Addr)(i j:Nat):(a.add i).add j=a.add (i+j):=by
 unfold Addr.add;by_cases hi:i=0<;>by_cases hj:j=0<;>simp[hi,hj,Nat.add_assoc]
structure Kp(X:Nat->Prop)(w w' :World):Prop where
 os:w'.os=w.os
 tape:w'.tape=w.tape
 output:w'.output=w.output
 size:w.heap.size<=w'.heap.size
 block:∀k,k<w.heap.size->¬X k->w'.heap[k]? =w.heap[k]?
def NoX:Nat->Prop:=fun _=>False
abbrev Old(w w' :World):Prop:=Kp NoX w w'
namespace Kp
variable{X Y:Nat->Prop}{w w1 w2:World}
theorem refl(X:Nat->Prop)(w:World):Kp X w w:=⟨rfl,rfl,rfl,jL3 _,fun _ _ _=>rfl⟩
theorem trans(h:Kp X w w1)(k:Kp Y w1 w2)(AV:∀b,b<w.heap.size->Y b->X b):Kp X w w2:=
 ⟨k.os.trans h.os,k.tape.trans h.tape,k.output.trans h.output,jL4 h.size k.size,
  fun b hb hx=>(k.block b (jL8 hb h.size) (fun hy=>hx (AV b hb hy))).trans (h.block b hb hx)⟩
theorem old(h:Kp X w w1)(k:Old w1 w2):Kp X w w2:=h.trans k (fun _ _ hf=>hf.elim)
theorem mono(h:Kp X w w1)(AV:∀b,b<w.heap.size->X b->Y b):Kp Y w w1:=
 ⟨h.os,h.tape,h.output,h.size,fun b hb hy=>h.block b hb (fun hx=>hy (AV b hb hx))⟩
theorem drew(h:Kp X w w1):Kp X w w1.drew:=⟨h.os,h.tape,h.output,h.size,h.block⟩
theorem drewN(h:Kp X w w1)(n:Nat):Kp X w (w1.drewN n):=⟨h.os,h.tape,h.output,h.size,h.block⟩
theorem alloc(h:Kp X w w1)(o:Obj):Kp X w (w1.alloc o):=
 ⟨h.os,h.tape,h.output,jL4 h.size (by simp),fun b hb hx=>(Below.heap_alloc w1 o b (jL8 hb h.size)).trans (h.block b hb hx)⟩
theorem setCell(h:Kp X w w1){p:Addr}(hp:p.block<w.heap.size->X p.block)(u:Value):Kp X w (w1.setCell p u):=
 ⟨h.os,h.tape,h.output,by simpa [World.setCell]using h.size,fun b hb hx=>(Below.heap_setCell w1 p u b (by
  rintro rfl;exact hx (hp hb))).trans (h.block b hb hx)⟩
theorem grown(h:Kp X w w1){row:Option Nat}(hg:w1.grownBy w2 row)(hr:∀k,row=some k->k<w.heap.size->X k):Kp X w w2:=
 ⟨hg.os.trans h.os,hg.tape.trans h.tape,hg.output.trans h.output,jL4 h.size hg.size,
  fun b hb hx=>(hg.block b (jL8 hb h.size) (fun e=>hx (hr b e.symm hb))).trans (h.block b hb hx)⟩
theorem below(h:Old w w1):Below w.heap.size w w1:=⟨h.os,h.tape,h.output,h.size,fun k hk=>h.block k hk (fun hf=>hf)⟩
theorem jJV(h:Below w.heap.size w w1):Kp X w w1:=⟨h.os,h.tape,h.output,h.size,fun k hk _=>h.block k hk⟩
theorem head(h:Below w.heap.size w w1)(k:Kp X w1 w2):Kp X w w2:=
 ⟨k.os.trans h.os,k.tape.trans h.tape,k.output.trans h.output,jL4 h.size k.size,
  fun b hb hx=>(k.block b (jL8 hb h.size) hx).trans (h.block b hb)⟩
end Kp
theorem jQ0(X:Nat->Prop)(w:World):Kp X w w:=Kp.refl X w
theorem Jm{w:World}{p:Addr}{v:Value}(h:w.cell? p=some v):p.block<w.heap.size:=World.block_lt_of_cell? w p h
def Rd(w:World)(size:Nat)(A:OA)(n:Nat)(xs:List Value):Prop:=
 xs.length=n*size/\(0<n->∃b o,A=some ⟨b,o,none⟩/\∀j u,xs[j]? =some u->w.cell? ⟨b,o+j,none⟩=some u)
def Av(X:Nat->Prop)(n:Nat)(A:OA):Prop:=0<n->∀ad,A=some ad->¬X ad.block
section
variable{w w' :World}{X:Nat->Prop}{size n:Nat}{A:OA}{xs:List Value}
theorem Av.no(n:Nat)(A:OA):Av NoX n A:=fun _ _ _ h=>h
theorem Rd.none_:Rd w size A 0 []:=⟨by simp,fun h=>absurd h (by omega)⟩
theorem Rd.at_{k:Nat}(h:Rd w 1 A n xs)(hk:k<n):∃b o u,A=some ⟨b,o,none⟩/\xs[k]? =some u/\w.cell? ⟨b,o+k,none⟩=some u:=by
 obtain⟨b,o,e,hc⟩:=h.2 (by omega);have hl:k<xs.length:=by have:=h.1;omega
 exact⟨b,o,xs[k],e,jJ9 hl,hc k _ (jJ9 hl)⟩
theorem Rd.keep(h:Rd w size A n xs)(hk:0<n->∀p v,w.cell? p=some v->A.map (·.block)=some p.block->w'.cell? p=some v):Rd w' size A n xs:=
 ⟨h.1,fun hn=>by
  obtain⟨b,o,e,hc⟩:=h.2 hn;exact⟨b,o,e,fun j u hu=>hk hn _ _ (hc j u hu) (by rw[e];rfl)⟩⟩
theorem Rd.kp(h:Rd w size A n xs)(hk:Kp X w w')(ha:Av X n A):Rd w' size A n xs:=
 h.keep fun hn p v hp hA=>by
  rw[World.cell?_of_block (hk.block p.block (Jm hp) ?_)]
  ·exact hp
  ·intro hx;cases A with
   |none=>simp at hA
   |some ad=>simp at hA;exact ha hn ad rfl (by rw[hA];exact hx)
theorem Rd.old(h:Rd w size A n xs)(hk:Old w w'):Rd w' size A n xs:=h.kp hk (Av.no n A)
theorem Rd.alloc(h:Rd w size A n xs)(o:Obj):Rd (w.alloc o) size A n xs:=h.old ((Kp.refl _ _).alloc o)
theorem Rd.cut(h:Rd w size A n xs){k cap:Nat}(hk:k<=n)(hc:n<=cap):
  Rd w size (if cap=k then A else A.map (·.add (k*size))) (n-k) (xs.drop (k*size)):=by
 refine⟨by rw[jK8,h.1,Nat.sub_mul],fun hn=> ?_⟩;obtain⟨b,o,rfl,Fw⟩:=h.2 (by omega);rw[jJ5 (by omega)];refine⟨b,o+k*size,by rw[Option.map_some,Addr.add_lit],fun j u hu=> ?_⟩;rw[Nat.add_assoc];exact Fw _ u (by rw[<-hu,List.getElem?_drop])
theorem Rd.take_(h:Rd w size A n xs){k:Nat}(hk:k<=n):Rd w size A k (xs.take (k*size)):=by
 refine⟨by rw[jK9,h.1];exact Nat.min_eq_left (Nat.mul_le_mul_right _ hk),fun hn=> ?_⟩;obtain⟨b,o,rfl,Fw⟩:=h.2 (by omega);refine⟨b,o,rfl,fun j u hu=>Fw j u ?_⟩;rw[List.getElem?_take]at hu;split at hu
 ·exact hu
 ·cases hu
theorem Rd.of_own{base:Nat}{e:TypeId}{c:Nat}(h:w.ownsRow base e size (.slice A n c) n xs):Rd w size A n xs:=by
 refine⟨h.1,fun hn=> ?_⟩;obtain⟨g,cap,hv,_,hM⟩:=h.form hn;have hA:A=some ⟨g,0,none⟩:=(by injection hv);subst hA;refine⟨g,0,rfl,fun j u hu=> ?_⟩;have:=h.cells (g:=g) rfl j u hu
 rwa [Addr.add_lit]at this
theorem Rd.lt(h:Rd w size A n xs)(hs:0<size)(hn:0<n){ad:Addr}(e:A=some ad):ad.block<w.heap.size:=by
 obtain⟨b,o,e',hc⟩:=h.2 hn;have h0:0<xs.length:=by rw[h.1];exact Nat.mul_pos hn hs
 have:=Jm (hc 0 xs[0] (jJ9 h0));rw[e']at e;injection e with e;subst e;exact this
theorem Rd.of_add{ad:Addr}(hl:xs.length=n*size)(hs:0<size)(hc:∀j u,xs[j]? =some u->w.cell? (ad.add j)=some u):Rd w size (some ad) n xs:=by
 refine⟨hl,fun hn=> ?_⟩;have h0:0<xs.length:=by rw[hl];exact Nat.mul_pos hn hs
 have h1:=hc 0 xs[0] (jJ9 h0);obtain⟨b,o,sp⟩:=ad;cases sp with
 |none=>exact⟨b,o,rfl,fun j u hu=>by have:=hc j u hu;rwa [Addr.add_lit]at this⟩
 |some sp=>simp[Addr.add,World.cell?]at h1;split at h1<;>cases h1
end
theorem jAS{w:World}{base:Nat}{e:TypeId}{size:Nat}{v:Value}{n:Nat}{xs:List Value}(h:w.ownsRow base e size v n xs):
  ∃A c,v=.slice A n c/\v.ownBlock=A.map (·.block):=by
 rcases h.2 with⟨rfl,rfl⟩|⟨g,cap,cur,rfl,_⟩
 ·exact⟨none,0,rfl,rfl⟩
 ·exact⟨_,_,rfl,rfl⟩
def Blk(w:World)(g:Nat)(t:TypeId)(cs:Array Value):Prop:=w.heap[g]? =some (.cells cs t (0,0))
section
variable{w w' :World}{X:Nat->Prop}{g:Nat}{t:TypeId}{cs:Array Value}
theorem Blk.lt(h:Blk w g t cs):g<w.heap.size:=by
 rcases Nat.lt_or_ge g w.heap.size with hM|N0
 ·exact hM
 ·unfold Blk at h;rw[Array.getElem?_eq_none N0]at h;cases h
theorem Blk.cell(h:Blk w g t cs)(i:Nat):w.cell? ⟨g,i,none⟩=cs[i]? :=cell_of_row w g i cs t (0,0) h
theorem Blk.at_(h:Blk w g t cs)(i:Nat){v:Value}(e:cs[i]? =some v):w.cell? ⟨g,i,none⟩=some v:=(h.cell i).trans e
theorem Blk.frozen(h:Blk w g t cs)(i:Nat):w.frozen? ⟨g,i,none⟩=false:=by
 unfold Blk at h;simp[World.frozen?,h]
theorem Blk.new(w:World)(t:TypeId)(cs:Array Value):Blk (w.alloc (.cells cs t)) w.heap.size t cs:=heap_alloc_new w _
theorem Blk.drew(h:Blk w g t cs):Blk w.drew g t cs:=h
theorem Blk.drewN(h:Blk w g t cs)(n:Nat):Blk (w.drewN n) g t cs:=h
theorem Blk.alloc(h:Blk w g t cs)(o:Obj):Blk (w.alloc o) g t cs:=(Below.heap_alloc w o g h.lt).trans h
theorem Blk.set_(h:Blk w g t cs)(i:Nat)(u:Value):Blk (w.setCell ⟨g,i,none⟩ u) g t (cs.setIfInBounds i u):=by
 unfold Blk at h⊢;simp[World.setCell,Array.getElem?_modify,h]
theorem Blk.kp(h:Blk w g t cs)(hb:Kp X w w')(hg:¬X g):Blk w' g t cs:=(hb.block g h.lt hg).trans h
theorem Blk.old(h:Blk w g t cs)(hb:Old w w'):Blk w' g t cs:=h.kp hb (fun hf=>hf)
theorem Blk.grown{row:Option Nat}(h:Blk w g t cs)(hb:w.grownBy w' row)(hg:some g≠row):Blk w' g t cs:=(hb.block g h.lt hg).trans h
theorem Blk.ne_{g' :Nat}{t' :TypeId}{cs' :Array Value}(h:Blk w g t cs)(h' :Blk w g' t' cs')(Ff:t≠t'):g≠g' :=by
 rintro rfl;unfold Blk at h h';rw[h]at h';injection h' with h';injection h' with _ ht;exact Ff ht
theorem kx{base:Nat}{e:TypeId}{size n:Nat}{v:Value}{xs:List Value}(h:w.ownsRow base e size v n xs)(hg:Blk w g t cs)(Ff:e≠t):v.ownBlock≠some g:=by
 rcases h.2 with⟨rfl,_⟩|⟨g',cap,cur,rfl,_,hh,_⟩
 ·simp[Value.ownBlock]
 ·intro he;have:g' =g:=(by simpa [Value.ownBlock]using he);subst this;exact Blk.ne_ (t:=e) hh hg Ff rfl
end
theorem kG{X:Nat->Prop}{w w' :World}{base:Nat}{e:TypeId}{size:Nat}{v:Value}{n:Nat}{xs:List Value}(h:w.ownsRow base e size v n xs)(hk:Kp X w w')
  (hv:∀k,v.ownBlock=some k->¬X k):w'.ownsRow base e size v n xs:=by
 refine⟨h.1,?_⟩;rcases h.2 with hn|⟨g,cap,cur,rfl,hb,Ab,rest⟩
 ·exact .inl hn
 ·refine .inr ⟨g,cap,cur,rfl,hb,?_,rest⟩;rw[hk.block g (Array.getElem?_eq_some_iff.1 Ab).1 (hv g rfl)];exact Ab
section
variable{P:Program}(w:World)
theorem Yn(base:Nat)(t ty e:TypeId)(i:TypeInfo)(size:Nat)(ht:P.underlying t=some (.slice e))(hi:P.info? e=some i)
  (v:Value) (n:Nat) (xs:List Value) (Hi:w.ownsRow base e size v n xs) (c:Nat):(Builtin.append_ #[t,t] ty #[v,.slice none 0 c]).run P w=.ok v w:=by
 rcases Hi.2 with⟨rfl,rfl⟩|⟨g,cap,cur,rfl,_,_,TB,_⟩
 ·simp[Builtin.append_,run_underlying ht,sizeOf,typeInfo,hi,Builtin.lenOf,Builtin.firstCells]
 ·simp[Builtin.append_,run_underlying ht,sizeOf,typeInfo,hi,Builtin.lenOf,Builtin.firstCells,TB,storeCells]
theorem xA(base:Nat)(t ty e:TypeId)(i:TypeInfo)(z:Value)(size bytes:Nat)(ht:P.underlying t=some (.slice e))(hi:P.info? e=some i)(hz:i.zero=some z)
  (hsize:i.size=size) (M0:i.bytes=bytes) (Ms:z.cells.size=size) (FJ:0<size)
  (v:Value) (n:Nat) (xs:List Value) (Hi:w.ownsRow base e size v n xs)
  (A:OA) (m c:Nat) (news:List Value) (hr:Rd w size A m news) (h1:∀u∈news,u.oneCell' =true)
  (Ps:n+m<=maxLen) (Gs:(n+m)*bytes<=140737488355328) (Gx:base<=w.heap.size):
  ∃v' w',(Builtin.append_ #[t,t] ty #[v,.slice A m c]).run P w=.ok v' w' /\w'.ownsRow base e size v' (n+m) (xs++news)/\w.grownBy w' v.ownBlock/\
   (v'.ownBlock=v.ownBlock\/v'.ownBlock=some w.heap.size):=by
 rcases A with _ |ad
 ·have hm:m=0:=by
   rcases Nat.eq_zero_or_pos m with h0|h0
   ·exact h0
   ·obtain⟨b,o,h,_⟩:=hr.2 h0;cases h
  subst hm;have hn:news=[]:=List.eq_nil_of_length_eq_zero (by simpa using hr.1);subst hn;exact⟨v,w,Yn w base t ty e i size ht hi v n xs Hi c,by simpa using Hi,World.grownBy.refl w _,.inl rfl⟩
 ·have X1:∀j u,news[j]? =some u->w.cell? (ad.add j)=some u:=by
   intro j u hu;rcases Nat.eq_zero_or_pos m with h0|h0
   ·subst h0;have hn:news=[]:=List.eq_nil_of_length_eq_zero (by simpa using hr.1);subst hn;simp at hu
   ·obtain⟨b,o,h,hc⟩:=hr.2 h0;injection h with h;subst h;rw[Addr.add_lit];exact hc j u hu
  obtain⟨v',w',PO,h2,h3,_,h5⟩:=run_append_own_at (P:=P) w base t ty e i z size bytes ht hi hz hsize M0 Ms FJ v n xs Hi ad m c news hr.1 X1 h1 Ps Gs Gx;exact⟨v',w',PO,h2,h3,h5⟩
theorem Vm{o:Oper}{a:Act}{K:Act->World->Prop}{Q:Exit->Act->World->Prop}(s x:Operand)(t:TypeId)
  (ho:o.op=.call {callee:=.builtin .append,args:= #[s,x],argTypes:= #[t,t]})
  (base:Nat) (e:TypeId) (i:TypeInfo) (z:Value) (size bytes:Nat) (ht:P.underlying t=some (.slice e)) (hi:P.info? e=some i) (hz:i.zero=some z)
  (hsize:i.size=size) (M0:i.bytes=bytes) (Ms:z.cells.size=size) (FJ:0<size)
  (v:Value) (n:Nat) (xs:List Value) (hs:a.eval s=v) (Hi:w.ownsRow base e size v n xs)
  (A:OA) (m c:Nat) (news:List Value) (hx:a.eval x=.slice A m c) (hr:Rd w size A m news) (h1:∀u∈news,u.oneCell' =true)
  (Ps:n+m<=maxLen) (Gs:(n+m)*bytes<=140737488355328) (Gx:base<=w.heap.size)
  (h:∀A' c' w',w'.ownsRow base e size (.slice A' (n+m) c') (n+m) (xs++news)->w.grownBy w' v.ownBlock->(A'.map (·.block)=v.ownBlock\/A'.map (·.block)=some w.heap.size)->K (a.put o.dst (.slice A' (n+m) c')) w'):o.wp P a w K Q:=by
 obtain⟨v',w',PO,h2,h3,h4⟩:=xA (P:=P) w base t o.type e i z size bytes ht hi hz hsize M0 Ms FJ v n xs Hi A m c news hr h1 Ps Gs Gx;obtain⟨A',c',rfl,hA⟩:=jAS h2;unfold Oper.wp execOp;simp only[ho,resolve,invoke,builtin,Sem.run_bind,Sem.run_pure,Result.andThen_ok,List.map_toArray,List.map_cons,List.map_nil,hs,hx,PO];exact h A' c' w' h2 h3 (by rw[<-hA];exact h4)
theorem jJ{ops:Array Oper}{rest:List Oper}{o:Oper}{a:Act}{Q:Exit->Act->World->Prop}(WY:o.guard=none)(s x:Operand)(t:TypeId)
  (ho:o.op=.call {callee:=.builtin .append,args:= #[s,x],argTypes:= #[t,t]})
  (base:Nat) (e:TypeId) (i:TypeInfo) (z:Value) (size bytes:Nat) (ht:P.underlying t=some (.slice e)) (hi:P.info? e=some i) (hz:i.zero=some z)
  (hsize:i.size=size) (M0:i.bytes=bytes) (Ms:z.cells.size=size) (FJ:0<size)
  (v:Value) (n:Nat) (xs:List Value) (hs:a.eval s=v) (Hi:w.ownsRow base e size v n xs)
  (A:OA) (m c:Nat) (news:List Value) (hx:a.eval x=.slice A m c) (hr:Rd w size A m news) (h1:∀u∈news,u.oneCell' =true)
  (Ps:n+m<=maxLen) (Gs:(n+m)*bytes<=140737488355328) (Gx:base<=w.heap.size)
  (h:∀A' c' w',w'.ownsRow base e size (.slice A' (n+m) c') (n+m) (xs++news)->w.grownBy w' v.ownBlock->(A'.map (·.block)=v.ownBlock\/A'.map (·.block)=some w.heap.size)->wpList P ops Q rest (a.put o.dst (.slice A' (n+m) c')) w'):wpList P ops Q (o::rest) a w:=
 wpList_plain WY fun _ hK=>Vm w s x t ho base e i z size bytes ht hi hz hsize M0 Ms FJ v n xs hs Hi A m c news hx hr h1 Ps Gs Gx fun A' c' w' h2 h3 h4=>hK _ _ (h A' c' w' h2 h3 h4)
theorem jg{ops:Array Oper}{o:Oper}{a:Act}{K:Act->World->Prop}{Q:Exit->Act->World->Prop}{E:Prop}(WY:o.guard=none)(s x:Operand)(t:TypeId)
  (ho:o.op=.call {callee:=.builtin .append,args:= #[s,x],argTypes:= #[t,t]})
  (base:Nat) (e:TypeId) (i:TypeInfo) (z:Value) (size bytes:Nat) (ht:P.underlying t=some (.slice e)) (hi:P.info? e=some i) (hz:i.zero=some z)
  (hsize:i.size=size) (M0:i.bytes=bytes) (Ms:z.cells.size=size) (FJ:0<size)
  (v:Value) (n:Nat) (xs:List Value) (hs:a.eval s=v) (Hi:w.ownsRow base e size v n xs)
  (A:OA) (m c:Nat) (news:List Value) (hx:a.eval x=.slice A m c) (hr:Rd w size A m news) (h1:∀u∈news,u.oneCell' =true)
  (Ps:n+m<=maxLen) (Gs:(n+m)*bytes<=140737488355328) (Gx:base<=w.heap.size)
  (h:∀A' c' w',w'.ownsRow base e size (.slice A' (n+m) c') (n+m) (xs++news)->w.grownBy w' v.ownBlock->(A'.map (·.block)=v.ownBlock\/A'.map (·.block)=some w.heap.size)->K (a.put o.dst (.slice A' (n+m) c')) w'):
  if Region.wanted o (yielded ops a.tmps)=true then Oper.wp P o a w K Q else E:=by
 have hw:Region.wanted o (yielded ops a.tmps)=true:=(by simp[Region.wanted,WY]);rw[jJ6 hw];exact Vm w s x t ho base e i z size bytes ht hi hz hsize M0 Ms FJ v n xs hs Hi A m c news hx hr h1 Ps Gs Gx h
end
theorem Rd.one_new(w:World)(t:TypeId)(u:Value):Rd (w.alloc (.cells #[u] t)) 1 (some ⟨w.heap.size,0,none⟩) 1 [u]:=by
 refine⟨rfl,fun _=>⟨_,_,rfl,fun j v hv=> ?_⟩⟩
 match j,hv with
 |0,hv=>
  simp at hv;subst hv;simp
 |j+1,hv=>simp at hv
theorem jE(A:OA)(n c:Nat):(Value.slice A n c).ownBlock=A.map (·.block):=by cases A<;>rfl
theorem ky(v:Value)(h:v.oneCell' =true):∀u∈ [v],u.oneCell' =true:=by
 intro u hu;simp at hu;subst hu;exact h
theorem jf(l:LB):∀u∈l.map bv,u.oneCell' =true:=by
 intro u hu;obtain⟨b,_,rfl⟩:=List.mem_map.1 hu;rfl
def sb(s:BA):LB:=s.data.toList
theorem jH(s:BA):(sb s).length=s.size:=by
 unfold sb;rw[Array.length_toList];rfl
theorem Xd(s:BA):Lib.strCells s=(sb s).map bv:=rfl
theorem jDE(l:LB):sb ⟨l.toArray⟩=l:=rfl
theorem qf(s:BA):(⟨(sb s).toArray⟩:BA)=s:=by
 unfold sb;simp
theorem jIg{s t:BA}(h:sb s=sb t):s=t:=by rw[<-qf s,<-qf t,h]
section
variable{P:Program}(w:World)
theorem qy(base:Nat)(t u ty e:TypeId)(i:TypeInfo)(ht:P.underlying t=some (.slice e))(hu:P.underlying u=some .string)(hi:P.info? e=some i)(hz:i.zero=some (.int .u8 0))
  (hsize:i.size=1) (M0:i.bytes=1)
  (v:Value) (n:Nat) (xs:List Value) (Hi:w.ownsRow base e 1 v n xs) (s:BA)
  (Ps:n+s.size<=maxLen) (Gs:n+s.size<=140737488355328) (Gx:base<=w.heap.size):
  ∃v' w',(Builtin.append_ #[t,u] ty #[v,.string s]).run P w=.ok v' w' /\w'.ownsRow base e 1 v' (n+s.size) (xs++(sb s).map bv)/\w.grownBy w' v.ownBlock/\
   (v'.ownBlock=v.ownBlock\/v'.ownBlock=some w.heap.size):=by
 obtain⟨v',w',hr,h2,h3,h4⟩:=Lib.run_append_own_string (P:=P) w base t u ty e i ht hu hi hz hsize M0 v n xs Hi s Ps Gs Gx;rw[Xd]at h2;refine⟨v',w',hr,h2,h3,?_⟩;have B8:n+s.size<=9223372036854775807:=by simp only[maxLen]at Ps;omega
 rcases Hi.2 with⟨rfl,rfl⟩|⟨g,cap,cur,rfl,M1,hg,TB,hcm,FO,O7⟩
 ·by_cases hm:s.size=0
  ·rw[h4.2 ⟨rfl,hm⟩];exact .inl rfl
  ·have Fb:=run_append_nil_string (P:=P) w t u ty e i (.int .u8 0) ht hu hi hz s (by omega) (by omega) (by rw[M0];omega);rw[hr]at Fb;injection Fb with hv _;rw[hv];exact .inr rfl
 ·by_cases hroom:n+s.size<=cap
  ·have Fb:=Lib.run_append_room_string (P:=P) w t u ty e i ht hu hi hsize g n cap cur hg s hroom (by omega);rw[hr]at Fb;injection Fb with hv _;rw[hv];exact .inl rfl
  ·have Cp:xs.length=n:=(by simpa using Hi.1);have holds:∀j u,xs[j]? =some u->w.cell? ((⟨g,0,none⟩:Addr).add j)=some u:=Hi.cells (g:=g) rfl;have Fb:=Lib.run_append_grow_string (P:=P) w t u ty e i (.int .u8 0) ht hu hi hz ⟨g,0,none⟩ n cap xs (by rw[hsize];simpa using Cp) holds s (by omega) (by omega) (by rw[M0];exact growslice_fits (by omega) (by omega));rw[hr]at Fb;injection Fb with hv _;rw[hv];exact .inr rfl
theorem yW{ops:Array Oper}{rest:List Oper}{o:Oper}{a:Act}{Q:Exit->Act->World->Prop}(WY:o.guard=none)(sl x:Operand)(t u:TypeId)
  (ho:o.op=.call {callee:=.builtin .append,args:= #[sl,x],argTypes:= #[t,u]})
  (base:Nat) (e:TypeId) (i:TypeInfo) (ht:P.underlying t=some (.slice e)) (hu:P.underlying u=some .string) (hi:P.info? e=some i) (hz:i.zero=some (.int .u8 0))
  (hsize:i.size=1) (M0:i.bytes=1)
  (v:Value) (n:Nat) (xs:List Value) (hs:a.eval sl=v) (Hi:w.ownsRow base e 1 v n xs) (s:BA) (hx:a.eval x=.string s)
  (Ps:n+s.size<=maxLen) (Gs:n+s.size<=140737488355328) (Gx:base<=w.heap.size)
  (h:∀A' c' w',w'.ownsRow base e 1 (.slice A' (n+s.size) c') (n+s.size) (xs++(sb s).map bv)->w.grownBy w' v.ownBlock->(A'.map (·.block)=v.ownBlock\/A'.map (·.block)=some w.heap.size)->wpList P ops Q rest (a.put o.dst (.slice A' (n+s.size) c')) w'):wpList P ops Q (o::rest) a w:=by
 refine wpList_plain WY fun K hK=> ?_;obtain⟨v',w',hr,h2,h3,h4⟩:=qy (P:=P) w base t u o.type e i ht hu hi hz hsize M0 v n xs Hi s Ps Gs Gx;obtain⟨A',c',rfl,hA⟩:=jAS h2;unfold Oper.wp execOp;simp only[ho,resolve,invoke,builtin,Sem.run_bind,Sem.run_pure,Result.andThen_ok,List.map_toArray,List.map_cons,List.map_nil,hs,hx,hr];exact hK _ _ (h A' c' w' h2 h3 (by rw[<-hA];exact h4))
theorem VC{ops:Array Oper}{rest:List Oper}{d:Option Tmp}{ty:TypeId}{pos:String}{after:Array Edge}{x:Operand}{a:Act}{Q:Exit->Act->World->Prop}{src dst e:TypeId}
  (hs:P.underlying src=some .string) (hd:P.underlying dst=some (.slice e)) (he:P.underlying e=some (.int .u8)) (s:BA) (hx:a.eval x=.string s)
  (h:∀A c w',Rd w' 1 A s.size ((sb s).map bv)->Old w w' ->Av (fun k=>k<w.heap.size) s.size A->wpList P ops Q rest (a.put d (.slice A s.size c)) w'):
  wpList P ops Q (⟨d,.convert src dst x,ty,pos,after,none⟩::rest) a w:=by
 refine wpList_plain rfl fun K hK=> ?_;have hr:=Lib.run_convert_string_bytes (P:=P) w src dst e s hs hd he;unfold Oper.wp execOp;simp only[hx,hr,Sem.run_bind,Sem.run_pure,Result.andThen_ok];refine hK _ _ (h _ _ _ ⟨?_,fun _=>⟨_,_,rfl,fun j u hu=> ?_⟩⟩ ?_ ?_)
 ·rw[jK7,jH,Nat.mul_one]
 ·rw[jM1]at hu;obtain⟨b,hb,rfl⟩:=Option.map_eq_some_iff.1 hu;have hj:j<s.size:=by
   rw[<-jH];exact(List.getElem?_eq_some_iff.1 hb).1
  simp only[Nat.zero_add];rw[Lib.bytesWorld_cell w e s j hj];unfold sb at hb;simp[bv,List.getD,hb]
 ·exact⟨by simp[Lib.bytesWorld,World.freeze,World.alloc,World.drew,-World.alloc_eq,-World.drew_eq],by simp[Lib.bytesWorld,World.freeze,World.alloc,World.drew,-World.alloc_eq,-World.drew_eq],
   by simp[Lib.bytesWorld,World.freeze,World.alloc,World.drew,-World.alloc_eq,-World.drew_eq],by rw[Lib.bytesWorld_size];omega,fun k hk _=>Lib.bytesWorld_at_old w e s k hk⟩
 ·intro _ ad hA hM;injection hA with hA;subst hA;exact Nat.lt_irrefl _ hM
theorem vO{src dst e:TypeId}(hs:P.underlying src=some (.slice e))(he:P.underlying e=some (.int .u8))(hd:P.underlying dst=some .string)
  (A:OA) (n c:Nat) (l:LB) (hr:Rd w 1 A n (l.map bv)):
  (convert src dst (.slice A n c)).run P w=.ok (.string ⟨l.toArray⟩) w:=by
 have hl:l.length=n:=(by simpa using hr.1);cases A with
 |none=>
  have h0:n=0:=by
   rcases Nat.eq_zero_or_pos n with h|h
   ·exact h
   ·obtain⟨b,o,h',_⟩:=hr.2 h;cases h'
  have:l=[]:=List.eq_nil_of_length_eq_zero (by omega);subst this;rw[run_convert_bytes_string w src dst e none n c hs he hd];rfl
 |some ad=>
  subst hl;refine run_convert_bytes_back w src dst e ad c l hs he hd (fun j hj=> ?_);obtain⟨b,o,h',hc⟩:=hr.2 (by omega);injection h' with h';subst h';rw[Addr.add_lit];exact hc j _ (by rw[jM1,jJ9 hj];rfl)
end
theorem jIX{P:Program}{ops:Array Oper}{rest:List Oper}{d:Option Tmp}{ty:TypeId}{pos:String}{after:Array Edge}{gd:Option (Nat×Bool)}{x:Operand}{a:Act}{w:World}{Q:Exit->Act->World->Prop}(src dst:TypeId)
  (h:wpList P ops Q (⟨d,.convert src dst x,ty,pos,after,gd⟩::rest) a w):wpList P ops Q (⟨d,.convert src dst x,ty,pos,after,gd⟩::rest) a w:=h
theorem jQ2(w:World)(t:TypeId)(cs:Array Value):Blk (w.alloc (.cells cs t)) w.heap.size t cs:=Blk.new w t cs
abbrev jQ3:= @IntWalk.i64_in
def be:Nat->Nat->LB
 |0,_=>[]
 |k+1,n=>UInt8.ofNat (n/256^k)::be k n
theorem jC(k n:Nat):(be k n).length=k:=by
 induction k with
 |zero=>rfl
 |succ k ih=>simp[be,ih]
theorem jEv(k n i:Nat)(h:i<k):(be k n)[i]? =some (UInt8.ofNat (n/256^(k-1-i))):=by
 induction k generalizing i with
 |zero=>omega
 |succ k ih=>
  cases i with
  |zero=>simp[be]
  |succ i=>
   simp only[be,List.getElem?_cons_succ];rw[ih i (by omega)]
   congr 4
   omega
theorem zv(k n m:Nat)(h:m<k):(be k n).take (k-m)=(be k n).take (k-(m+1))++[UInt8.ofNat (n/256^m)]:=by
 have h1:k-m=(k-(m+1))+1:=(by omega);rw[h1,List.take_add_one,jEv k n _ (by omega)]
 congr 5
 simp only[Option.toList]
 congr 3
 congr 1
 omega
def lp(k:Nat)(l:LB):LB:=be k l.length++l
theorem jV(k:Nat)(l:LB):(lp k l).length=k+l.length:=by rw[lp,jJ4,jC]
theorem zO(n:Nat):bv (UInt8.ofNat n)=.int .u8 ((n% 256:Nat):Int):=by
 simp[bv]
attribute [local go_sem↓] Go.wp_at_zero Go.wp_at_succ
theorem kc:(prog.info? 5).map (fun i=>(i.zero,i.size,i.bytes))=some (some (.int .u8 0),1,1):=by kernel_rfl
def Wr(w:World)(g:Nat)(r:Option Nat)(bs:LB):Prop:=
 ∃A c,Blk w g 132 #[.slice A bs.length c]/\w.ownsRow 0 5 1 (.slice A bs.length c) bs.length (bs.map bv)/\A.map (·.block)=r
def WX(g:Nat)(r:Option Nat):Nat->Prop:=fun k=>k=g\/some k=r
def Fr(w:World)(r r' :Option Nat):Prop:=r' =r\/∃k,r' =some k/\w.heap.size<=k
def WStep(w:World)(g:Nat)(r:Option Nat)(w' :World)(bs' :LB):Prop:=
 ∃r',Wr w' g r' bs' /\Kp (WX g r) w w' /\Fr w r r'
theorem Wr.lt{w:World}{g:Nat}{r:Option Nat}{bs:LB}(h:Wr w g r bs):g<w.heap.size/\∀k,r=some k->k<w.heap.size:=by
 obtain⟨A,c,hb,ho,rfl⟩:=h;exact⟨hb.lt,fun k hk=>(ho.lt k (by rw[jE];exact hk)).2⟩
theorem Wr.step{w:World}{g:Nat}{r:Option Nat}{bs:LB}(h:Wr w g r bs):WStep w g r w bs:=⟨r,h,jQ0 _ _,.inl rfl⟩
theorem WStep.trans{w w1 w2:World}{g:Nat}{r r1:Option Nat}{bs:LB}(hk:Kp (WX g r) w w1)(hf:Fr w r r1)(h:WStep w1 g r1 w2 bs):WStep w g r w2 bs:=by
 obtain⟨r2,hw,hZ,Wy⟩:=h;refine⟨r2,hw,hk.trans hZ (fun b hb hx=> ?_),?_⟩
 ·rcases hx with rfl|hx
  ·exact .inl rfl
  ·rcases hf with rfl|⟨k,rfl,Fu⟩
   ·exact .inr hx
   ·injection hx with hx;omega
 ·rcases Wy with rfl|⟨k,rfl,Fu⟩
  ·exact hf
  ·exact .inr ⟨k,rfl,jL4 hk.size Fu⟩
theorem Wr.kp{X:Nat->Prop}{w w1:World}{g:Nat}{r:Option Nat}{bs:LB}(h:Wr w g r bs)(hk:Kp X w w1)(hg:¬X g)(hr:∀k,r=some k->¬X k):Wr w1 g r bs:=by
 obtain⟨A,c,hb,ho,rfl⟩:=h;exact⟨A,c,hb.kp hk hg,kG ho hk (fun k e=>hr k (by rw[<-jE A bs.length c];exact e)),rfl⟩
theorem Wr.old{w w1:World}{g:Nat}{r:Option Nat}{bs:LB}(h:Wr w g r bs)(hk:Old w w1):Wr w1 g r bs:=h.kp hk (fun f=>f) (fun _ _ f=>f)
theorem Av.fresh{w:World}{g n size:Nat}{r r' :Option Nat}{A:OA}{xs:List Value}(ha:Av (WX g r) n A)(hf:Fr w r r')(hr:Rd w size A n xs)(hs:0<size):Av (WX g r') n A:=by
 intro hn ad e hx;rcases hx with hx|hx
 ·exact ha hn ad e (.inl hx)
 ·rcases hf with rfl|⟨k,rfl,Fu⟩
  ·exact ha hn ad e (.inr hx)
  ·injection hx with hx;have:=hr.lt hs hn e;omega
theorem Wr.put{wr wx w1:World}{g:Nat}{A A' :OA}{c c' :Nat}{cs news:LB}{m:Nat}
  (hb:Blk wr g 132 #[.slice A cs.length c]) (ho:wr.ownsRow 0 5 1 (.slice A cs.length c) cs.length (cs.map bv))
  (hx:Old wr wx) (hm:news.length=m) {xs:List Value} (Tt:xs=news.map bv)
  (Hi:w1.ownsRow 0 5 1 (.slice A' (cs.length+m) c') (cs.length+m) (cs.map bv++xs)) (hg:wx.grownBy w1 (Value.slice A cs.length c).ownBlock)
  (Fo:A'.map (·.block)=(Value.slice A cs.length c).ownBlock\/A'.map (·.block)=some wx.heap.size):
  WStep wr g (A.map (·.block)) (w1.setCell ⟨g,0,none⟩ (.slice A' (cs.length+m) c')) (cs++news):=by
 subst hm;subst Tt;rw[jE]at Fo hg;have Ff:=kx ho hb (by decide);rw[jE]at Ff;have GC:Blk w1 g 132 #[.slice A cs.length c]:=(hb.old hx).grown hg (fun e=>Ff e.symm);have FG:=GC.set_ 0 (.slice A' (cs.length+news.length) c');have hl:(cs++news).length=cs.length+news.length:=jJ4;have NV:=hb.lt;refine⟨A'.map (·.block),⟨A',c',?_,?_,rfl⟩,?_,?_⟩
 ·rw[hl];simpa using FG
 ·rw[hl,List.map_append];refine kG Hi ((jQ0 (fun k=>k=g) _).setCell (p:=⟨g,0,none⟩) (fun _=>rfl) _) ?_;rw[jE];rintro k e rfl;rcases Fo with h|h
  ·rw[h]at e;exact Ff e
  ·rw[h]at e;injection e with e;have:=hx.size;omega
 ·refine Kp.setCell (Kp.grown (hx.mono (Y:=WX g (A.map (·.block))) (fun _ _ f=>f.elim)) hg (fun k e _=>.inr e.symm)) (p:=⟨g,0,none⟩) (fun _=>.inl rfl) _
 ·rcases Fo with h|h
  ·exact .inl h
  ·exact .inr ⟨_,h,hx.size⟩
theorem YO(j k:Nat)(h:k<j):((2:Int)^(j-k)-1)/2=2^(j-(k+1))-1:=by
 have e:j-k=(j-(k+1))+1:=(by omega);rw[e,Int.pow_succ];omega
theorem uh(k:Nat)(h:0<k):((2:Int)^k-1 !=0)=true:=by
 obtain⟨j,rfl⟩:∃j,k=j+1:=⟨k-1,by omega⟩;have hp:(0:Int)<2^j:=Int.pow_pos (by decide);rw[bne_iff_ne,Int.pow_succ];omega
theorem vT{k:IntKind}{a b:Int}(h:a=b):Value.int k a=Value.int k b:=by rw[h]
theorem jG5:bits BinOp.xor IntKind.u8 IntKind.u8.max 0=2^8-1:=by decide+kernel
theorem Yg(w:World):
  Calls prog 49 #[] w fun e w' =>e=.returned (.int .i64 1)/\w=w' :=by
 go_enter func49,ntmps49;go_wp2;rw[jG5];go_loop [1,2] (fun n m=>∃j:Nat,j<=1/\n=.int .i64 j/\m=.int .u8 (2^(8*(1-j))-1)) (fun n _=>1-(intOf n).toNat)
 case atStart=>exact⟨0,by omega,rfl,rfl⟩
 case round=>
  obtain⟨j,hj,rfl,rfl⟩:=hrel;by_cases h0:j<1
  ·have Ff:=uh (8*(1-j)) (by omega);go_wp2;clear Ff;go_loop [9,2] (fun i m=>∃k:Nat,k<=8/\i=.int .i64 k/\m=.int .u8 (2^(8*(1-j)-k)-1)) (fun i _=>8-(intOf i).toNat)
   case atStart=>exact⟨0,by omega,rfl,rfl⟩
   case round=>
    obtain⟨k,hk,rfl,rfl⟩:=hrel;by_cases h1:k<8
    ·go_wp2;exact⟨⟨k+1,by omega,by go_num,vT (YO _ _ (by omega))⟩,by simp[intOf];omega⟩
    ·obtain rfl:k=8:=(by omega);go_wp2;go_round
     case rel=>exact⟨j+1,by omega,by go_num,by rw[show 8*(1-j)-8=8*(1-(j+1))by omega]⟩
     case measure=>simp[intOf];omega
  ·obtain rfl:j=1:=(by omega);go_wp2;go_ret;exact⟨rfl,rfl⟩
theorem jE8:bits BinOp.xor IntKind.u16 IntKind.u16.max 0=2^16-1:=by decide+kernel
theorem VO(w:World):
  Calls prog 53 #[] w fun e w' =>e=.returned (.int .i64 2)/\w=w' :=by
 go_enter func53,ntmps53;go_wp2;rw[jE8];go_loop [1,2] (fun n m=>∃j:Nat,j<=2/\n=.int .i64 j/\m=.int .u16 (2^(8*(2-j))-1)) (fun n _=>2-(intOf n).toNat)
 case atStart=>exact⟨0,by omega,rfl,rfl⟩
 case round=>
  obtain⟨j,hj,rfl,rfl⟩:=hrel;by_cases h0:j<2
  ·have Ff:=uh (8*(2-j)) (by omega);go_wp2;clear Ff;go_loop [9,2] (fun i m=>∃k:Nat,k<=8/\i=.int .i64 k/\m=.int .u16 (2^(8*(2-j)-k)-1)) (fun i _=>8-(intOf i).toNat)
   case atStart=>exact⟨0,by omega,rfl,rfl⟩
   case round=>
    obtain⟨k,hk,rfl,rfl⟩:=hrel;by_cases h1:k<8
    ·go_wp2;exact⟨⟨k+1,by omega,by go_num,vT (YO _ _ (by omega))⟩,by simp[intOf];omega⟩
    ·obtain rfl:k=8:=(by omega);go_wp2;go_round
     case rel=>exact⟨j+1,by omega,by go_num,by rw[show 8*(2-j)-8=8*(2-(j+1))by omega]⟩
     case measure=>simp[intOf];omega
  ·obtain rfl:j=2:=(by omega);go_wp2;go_ret;exact⟨rfl,rfl⟩
theorem jE7:bits BinOp.xor IntKind.u32 IntKind.u32.max 0=2^32-1:=by decide+kernel
theorem VN(w:World):
  Calls prog 115 #[] w fun e w' =>e=.returned (.int .i64 4)/\w=w' :=by
 go_enter func115,ntmps115;go_wp2;rw[jE7];go_loop [1,2] (fun n m=>∃j:Nat,j<=4/\n=.int .i64 j/\m=.int .u32 (2^(8*(4-j))-1)) (fun n _=>4-(intOf n).toNat)
 case atStart=>exact⟨0,by omega,rfl,rfl⟩
 case round=>
  obtain⟨j,hj,rfl,rfl⟩:=hrel;by_cases h0:j<4
  ·have Ff:=uh (8*(4-j)) (by omega);go_wp2;clear Ff;go_loop [9,2] (fun i m=>∃k:Nat,k<=8/\i=.int .i64 k/\m=.int .u32 (2^(8*(4-j)-k)-1)) (fun i _=>8-(intOf i).toNat)
   case atStart=>exact⟨0,by omega,rfl,rfl⟩
   case round=>
    obtain⟨k,hk,rfl,rfl⟩:=hrel;by_cases h1:k<8
    ·go_wp2;exact⟨⟨k+1,by omega,by go_num,vT (YO _ _ (by omega))⟩,by simp[intOf];omega⟩
    ·obtain rfl:k=8:=(by omega);go_wp2;go_round
     case rel=>exact⟨j+1,by omega,by go_num,by rw[show 8*(4-j)-8=8*(4-(j+1))by omega]⟩
     case measure=>simp[intOf];omega
  ·obtain rfl:j=4:=(by omega);go_wp2;go_ret;exact⟨rfl,rfl⟩
theorem jE6:bits BinOp.xor IntKind.u64 IntKind.u64.max 0=2^64-1:=by decide+kernel
theorem VM(w:World):
  Calls prog 102 #[] w fun e w' =>e=.returned (.int .i64 8)/\w=w' :=by
 go_enter func102,ntmps102;go_wp2;rw[jE6];go_loop [1,2] (fun n m=>∃j:Nat,j<=8/\n=.int .i64 j/\m=.int .u64 (2^(8*(8-j))-1)) (fun n _=>8-(intOf n).toNat)
 case atStart=>exact⟨0,by omega,rfl,rfl⟩
 case round=>
  obtain⟨j,hj,rfl,rfl⟩:=hrel;by_cases h0:j<8
  ·have Ff:=uh (8*(8-j)) (by omega);go_wp2;clear Ff;go_loop [9,2] (fun i m=>∃k:Nat,k<=8/\i=.int .i64 k/\m=.int .u64 (2^(8*(8-j)-k)-1)) (fun i _=>8-(intOf i).toNat)
   case atStart=>exact⟨0,by omega,rfl,rfl⟩
   case round=>
    obtain⟨k,hk,rfl,rfl⟩:=hrel;by_cases h1:k<8
    ·go_wp2;exact⟨⟨k+1,by omega,by go_num,vT (YO _ _ (by omega))⟩,by simp[intOf];omega⟩
    ·obtain rfl:k=8:=(by omega);go_wp2;go_round
     case rel=>exact⟨j+1,by omega,by go_num,by rw[show 8*(8-j)-8=8*(8-(j+1))by omega]⟩
     case measure=>simp[intOf];omega
  ·obtain rfl:j=8:=(by omega);go_wp2;go_ret;exact⟨rfl,rfl⟩
attribute [local go_sem↓] Go.wp_at_zero Go.wp_at_succ
theorem Vz(x:Nat)(k:Nat):Value.int .u8 (IntKind.u8.wrap ((x:Int)/2^(8*k)))=bv (UInt8.ofNat (x/256^k)):=by
 have e:((2:Int)^(8*k))=((256^k:Nat):Int):=by
  rw[Int.pow_mul];simp
 rw[e,zO,IntKind.wrap_u8,<-Int.natCast_ediv];rfl
theorem Vw(k n:Nat):(be k n).take (k-0)=be k n:=by
 rw[jK4 (by rw[jC];omega)]
theorem jF5(w:World)(g:Nat)(r:Option Nat)(bs:LB)(x:Nat)(hx:(x:Int)<=255)(hW:Wr w g r bs)(hl:bs.length<=1099511627776):
  Calls prog 19 #[.pointer (some ⟨g,0,none⟩),.int .u8 (x:Int)] w fun e w' =>e=.returned (.tuple #[])/\WStep w g r w' (bs++be 1 x):=by
 obtain⟨i0,hi,Fz,Ft,FC⟩:=info_parts kc;have Hl:=G hl;have Hx:=G hx;clear hl hx;go_enter func19,ntmps19;go_wp2_with (go_at_call 49;refine(Yg _).mono ?_;rintro e w' ⟨rfl,rfl⟩);go_loopw [4] (fun i wr=>∃m:Nat,m<=1/\i=.int .i64 ((m:Int)-1)/\WStep w g r wr (bs++(be 1 x).take (1-m))) (fun i _=>(intOf i+1).toNat)
 case atStart=>exact⟨1,by omega,rfl,by simpa using hW.step⟩
 case round=>
  obtain⟨m,hm,rfl,Nv⟩:=hrel;by_cases h0:0<m
  ·obtain⟨k,rfl⟩:∃k,m=k+1:=⟨m-1,by omega⟩;have Gk:(bs++(be 1 x).take (1-(k+1))).length<=bs.length+1:=by rw[jJ4,jK9,jC];omega
   generalize FO:bs++(be 1 x).take (1-(k+1))=cs at Nv Gk;have Ng:=G FO;have FU:=G (show cs.length+1<=maxLen by have:=Hl.out;unfold maxLen;omega);have FV:=G (show(cs.length+1)*1<=140737488355328 by have:=Hl.out;omega);clear FO Gk;obtain⟨r',⟨A,c,hb,ho,Mi⟩,FQ,Nb⟩:=Nv;have Z8:=G Mi;clear Mi;have hc:=hb.cell 0;have hz:=hb.frozen 0;have hM:=hb.lt;simp only[jJ7,List.getElem?_cons_zero]at hc;rw[show((k+1:Nat):Int)-1=(k:Int)by omega];have e1:IntKind.u64.wrap (x:Int)=x:=IntWalk.u64_in _ (by have:=Hx.out;omega);have e2:IntKind.i64.wrap (8*(k:Int))=8*(k:Int):=jQ3 _ (by omega);have e3:(0:Int)<=8*(k:Int):=(by omega);have e4:8*(k:Int)<=64:=(by omega);have e5:(8*(k:Int)).toNat=8*k:=(by omega);have Ff:some g≠(Value.slice A cs.length c).ownBlock:=by
    have:=kx ho hb (by decide);exact fun h=>this h.symm
   go_wp2;go_region_law ((refine jg _ rfl (.tmp 17) (.tmp 24) 22 rfl 0 5 i0 (.int .u8 0) 1 1 underlying22 hi Fz Ft FC rfl (by decide) (.slice A cs.length c) cs.length (cs.map bv) rfl (ho.alloc _) (some ⟨wr.heap.size,0,none⟩) 1 1 _ rfl (Rd.one_new _ _ _) (ky _ rfl) FU.out FV.out (Nat.zero_le _) ?_;intro A' c' w1 Hi hgrow Fo;have FS:=hgrow.cell (a:=⟨g,0,none⟩) (v:=.slice A cs.length c) (by simp[hc,World.cell?_alloc_lt,hb.lt]) Ff;have Ft:w1.frozen? ⟨g,0,none⟩=false:=(World.frozen?_of_block (hgrow.block g (by simp;have:=hb.lt;omega) Ff)).trans (by simp[hz,World.frozen?_alloc_past,hb.lt])))
   all_goals
    have HU:=Wr.put hb ho ((jQ0 _ _).alloc _).drew (news:=[UInt8.ofNat (x/256^k)]) (m:=1) rfl (by rw[Vz];rfl) Hi hgrow Fo;have Fq:=G (WStep.trans FQ (Z8.out▸Nb) HU);clear HU Hi hgrow Fo hc hz FS Ft hb ho Ff;go_wp2;go_roundw
    case rel=>
     refine⟨k,by omega,by go_num,?_⟩;have Lv:cs++[UInt8.ofNat (x/256^k)]=bs++(be 1 x).take (1-k):=by
      rw[<-Ng.out,jK1,<-zv _ _ _ (by omega)]
     exact Lv▸Fq.out
    case measure=>simp[intOf]
  ·obtain rfl:m=0:=(by omega);rw[Vw]at Nv;go_wp2;go_end0;exact⟨rfl,Nv⟩
theorem kY(w:World)(g:Nat)(r:Option Nat)(bs:LB)(n:Int)(h0:0<=n)(h1:n<=255)(hW:Wr w g r bs)(hl:bs.length<=1099511627776):
  Calls prog 19 #[.pointer (some ⟨g,0,none⟩),.int .u8 n] w fun e w' =>e=.returned (.tuple #[])/\WStep w g r w' (bs++be 1 n.toNat):=by
 obtain⟨x,rfl⟩:=Int.eq_ofNat_of_zero_le h0;rw[jL1];exact jF5 w g r bs x h1 hW hl
theorem jDy(w:World)(g:Nat)(r:Option Nat)(bs:LB)(x:Nat)(hx:(x:Int)<=65535)(hW:Wr w g r bs)(hl:bs.length<=1099511627776):
  Calls prog 25 #[.pointer (some ⟨g,0,none⟩),.int .u16 (x:Int)] w fun e w' =>e=.returned (.tuple #[])/\WStep w g r w' (bs++be 2 x):=by
 obtain⟨i0,hi,Fz,Ft,FC⟩:=info_parts kc;have Hl:=G hl;have Hx:=G hx;clear hl hx;go_enter func25,ntmps25;go_wp2_with (go_at_call 53;refine(VO _).mono ?_;rintro e w' ⟨rfl,rfl⟩);go_loopw [4] (fun i wr=>∃m:Nat,m<=2/\i=.int .i64 ((m:Int)-1)/\WStep w g r wr (bs++(be 2 x).take (2-m))) (fun i _=>(intOf i+1).toNat)
 case atStart=>exact⟨2,by omega,rfl,by simpa using hW.step⟩
 case round=>
  obtain⟨m,hm,rfl,Nv⟩:=hrel;by_cases h0:0<m
  ·obtain⟨k,rfl⟩:∃k,m=k+1:=⟨m-1,by omega⟩;have Gk:(bs++(be 2 x).take (2-(k+1))).length<=bs.length+2:=by rw[jJ4,jK9,jC];omega
   generalize FO:bs++(be 2 x).take (2-(k+1))=cs at Nv Gk;have Ng:=G FO;have FU:=G (show cs.length+1<=maxLen by have:=Hl.out;unfold maxLen;omega);have FV:=G (show(cs.length+1)*1<=140737488355328 by have:=Hl.out;omega);clear FO Gk;obtain⟨r',⟨A,c,hb,ho,Mi⟩,FQ,Nb⟩:=Nv;have Z8:=G Mi;clear Mi;have hc:=hb.cell 0;have hz:=hb.frozen 0;have hM:=hb.lt;simp only[jJ7,List.getElem?_cons_zero]at hc;rw[show((k+1:Nat):Int)-1=(k:Int)by omega];have e1:IntKind.u64.wrap (x:Int)=x:=IntWalk.u64_in _ (by have:=Hx.out;omega);have e2:IntKind.i64.wrap (8*(k:Int))=8*(k:Int):=jQ3 _ (by omega);have e3:(0:Int)<=8*(k:Int):=(by omega);have e4:8*(k:Int)<=64:=(by omega);have e5:(8*(k:Int)).toNat=8*k:=(by omega);have Ff:some g≠(Value.slice A cs.length c).ownBlock:=by
    have:=kx ho hb (by decide);exact fun h=>this h.symm
   go_wp2;go_region_law ((refine jg _ rfl (.tmp 17) (.tmp 24) 22 rfl 0 5 i0 (.int .u8 0) 1 1 underlying22 hi Fz Ft FC rfl (by decide) (.slice A cs.length c) cs.length (cs.map bv) rfl (ho.alloc _) (some ⟨wr.heap.size,0,none⟩) 1 1 _ rfl (Rd.one_new _ _ _) (ky _ rfl) FU.out FV.out (Nat.zero_le _) ?_;intro A' c' w1 Hi hgrow Fo;have FS:=hgrow.cell (a:=⟨g,0,none⟩) (v:=.slice A cs.length c) (by simp[hc,World.cell?_alloc_lt,hb.lt]) Ff;have Ft:w1.frozen? ⟨g,0,none⟩=false:=(World.frozen?_of_block (hgrow.block g (by simp;have:=hb.lt;omega) Ff)).trans (by simp[hz,World.frozen?_alloc_past,hb.lt])))
   all_goals
    have HU:=Wr.put hb ho ((jQ0 _ _).alloc _).drew (news:=[UInt8.ofNat (x/256^k)]) (m:=1) rfl (by rw[Vz];rfl) Hi hgrow Fo;have Fq:=G (WStep.trans FQ (Z8.out▸Nb) HU);clear HU Hi hgrow Fo hc hz FS Ft hb ho Ff;go_wp2;go_roundw
    case rel=>
     refine⟨k,by omega,by go_num,?_⟩;have Lv:cs++[UInt8.ofNat (x/256^k)]=bs++(be 2 x).take (2-k):=by
      rw[<-Ng.out,jK1,<-zv _ _ _ (by omega)]
     exact Lv▸Fq.out
    case measure=>simp[intOf]
  ·obtain rfl:m=0:=(by omega);rw[Vw]at Nv;go_wp2;go_end0;exact⟨rfl,Nv⟩
theorem YE(w:World)(g:Nat)(r:Option Nat)(bs:LB)(n:Int)(h0:0<=n)(h1:n<=65535)(hW:Wr w g r bs)(hl:bs.length<=1099511627776):
  Calls prog 25 #[.pointer (some ⟨g,0,none⟩),.int .u16 n] w fun e w' =>e=.returned (.tuple #[])/\WStep w g r w' (bs++be 2 n.toNat):=by
 obtain⟨x,rfl⟩:=Int.eq_ofNat_of_zero_le h0;rw[jL1];exact jDy w g r bs x h1 hW hl
theorem jDx(w:World)(g:Nat)(r:Option Nat)(bs:LB)(x:Nat)(hx:(x:Int)<=4294967295)(hW:Wr w g r bs)(hl:bs.length<=1099511627776):
  Calls prog 63 #[.pointer (some ⟨g,0,none⟩),.int .u32 (x:Int)] w fun e w' =>e=.returned (.tuple #[])/\WStep w g r w' (bs++be 4 x):=by
 obtain⟨i0,hi,Fz,Ft,FC⟩:=info_parts kc;have Hl:=G hl;have Hx:=G hx;clear hl hx;go_enter func63,ntmps63;go_wp2_with (go_at_call 115;refine(VN _).mono ?_;rintro e w' ⟨rfl,rfl⟩);go_loopw [4] (fun i wr=>∃m:Nat,m<=4/\i=.int .i64 ((m:Int)-1)/\WStep w g r wr (bs++(be 4 x).take (4-m))) (fun i _=>(intOf i+1).toNat)
 case atStart=>exact⟨4,by omega,rfl,by simpa using hW.step⟩
 case round=>
  obtain⟨m,hm,rfl,Nv⟩:=hrel;by_cases h0:0<m
  ·obtain⟨k,rfl⟩:∃k,m=k+1:=⟨m-1,by omega⟩;have Gk:(bs++(be 4 x).take (4-(k+1))).length<=bs.length+4:=by rw[jJ4,jK9,jC];omega
   generalize FO:bs++(be 4 x).take (4-(k+1))=cs at Nv Gk;have Ng:=G FO;have FU:=G (show cs.length+1<=maxLen by have:=Hl.out;unfold maxLen;omega);have FV:=G (show(cs.length+1)*1<=140737488355328 by have:=Hl.out;omega);clear FO Gk;obtain⟨r',⟨A,c,hb,ho,Mi⟩,FQ,Nb⟩:=Nv;have Z8:=G Mi;clear Mi;have hc:=hb.cell 0;have hz:=hb.frozen 0;have hM:=hb.lt;simp only[jJ7,List.getElem?_cons_zero]at hc;rw[show((k+1:Nat):Int)-1=(k:Int)by omega];have e1:IntKind.u64.wrap (x:Int)=x:=IntWalk.u64_in _ (by have:=Hx.out;omega);have e2:IntKind.i64.wrap (8*(k:Int))=8*(k:Int):=jQ3 _ (by omega);have e3:(0:Int)<=8*(k:Int):=(by omega);have e4:8*(k:Int)<=64:=(by omega);have e5:(8*(k:Int)).toNat=8*k:=(by omega);have Ff:some g≠(Value.slice A cs.length c).ownBlock:=by
    have:=kx ho hb (by decide);exact fun h=>this h.symm
   go_wp2;go_region_law ((refine jg _ rfl (.tmp 17) (.tmp 24) 22 rfl 0 5 i0 (.int .u8 0) 1 1 underlying22 hi Fz Ft FC rfl (by decide) (.slice A cs.length c) cs.length (cs.map bv) rfl (ho.alloc _) (some ⟨wr.heap.size,0,none⟩) 1 1 _ rfl (Rd.one_new _ _ _) (ky _ rfl) FU.out FV.out (Nat.zero_le _) ?_;intro A' c' w1 Hi hgrow Fo;have FS:=hgrow.cell (a:=⟨g,0,none⟩) (v:=.slice A cs.length c) (by simp[hc,World.cell?_alloc_lt,hb.lt]) Ff;have Ft:w1.frozen? ⟨g,0,none⟩=false:=(World.frozen?_of_block (hgrow.block g (by simp;have:=hb.lt;omega) Ff)).trans (by simp[hz,World.frozen?_alloc_past,hb.lt])))
   all_goals
    have HU:=Wr.put hb ho ((jQ0 _ _).alloc _).drew (news:=[UInt8.ofNat (x/256^k)]) (m:=1) rfl (by rw[Vz];rfl) Hi hgrow Fo;have Fq:=G (WStep.trans FQ (Z8.out▸Nb) HU);clear HU Hi hgrow Fo hc hz FS Ft hb ho Ff;go_wp2;go_roundw
    case rel=>
     refine⟨k,by omega,by go_num,?_⟩;have Lv:cs++[UInt8.ofNat (x/256^k)]=bs++(be 4 x).take (4-k):=by
      rw[<-Ng.out,jK1,<-zv _ _ _ (by omega)]
     exact Lv▸Fq.out
    case measure=>simp[intOf]
  ·obtain rfl:m=0:=(by omega);rw[Vw]at Nv;go_wp2;go_end0;exact⟨rfl,Nv⟩
theorem qW(w:World)(g:Nat)(r:Option Nat)(bs:LB)(n:Int)(h0:0<=n)(h1:n<=4294967295)(hW:Wr w g r bs)(hl:bs.length<=1099511627776):
  Calls prog 63 #[.pointer (some ⟨g,0,none⟩),.int .u32 n] w fun e w' =>e=.returned (.tuple #[])/\WStep w g r w' (bs++be 4 n.toNat):=by
 obtain⟨x,rfl⟩:=Int.eq_ofNat_of_zero_le h0;rw[jL1];exact jDx w g r bs x h1 hW hl
theorem jDw(w:World)(g:Nat)(r:Option Nat)(bs:LB)(x:Nat)(hx:(x:Int)<=18446744073709551615)(hW:Wr w g r bs)(hl:bs.length<=1099511627776):
  Calls prog 52 #[.pointer (some ⟨g,0,none⟩),.int .u64 (x:Int)] w fun e w' =>e=.returned (.tuple #[])/\WStep w g r w' (bs++be 8 x):=by
 obtain⟨i0,hi,Fz,Ft,FC⟩:=info_parts kc;have Hl:=G hl;have Hx:=G hx;clear hl hx;go_enter func52,ntmps52;go_wp2_with (go_at_call 102;refine(VM _).mono ?_;rintro e w' ⟨rfl,rfl⟩);go_loopw [4] (fun i wr=>∃m:Nat,m<=8/\i=.int .i64 ((m:Int)-1)/\WStep w g r wr (bs++(be 8 x).take (8-m))) (fun i _=>(intOf i+1).toNat)
 case atStart=>exact⟨8,by omega,rfl,by simpa using hW.step⟩
 case round=>
  obtain⟨m,hm,rfl,Nv⟩:=hrel;by_cases h0:0<m
  ·obtain⟨k,rfl⟩:∃k,m=k+1:=⟨m-1,by omega⟩;have Gk:(bs++(be 8 x).take (8-(k+1))).length<=bs.length+8:=by rw[jJ4,jK9,jC];omega
   generalize FO:bs++(be 8 x).take (8-(k+1))=cs at Nv Gk;have Ng:=G FO;have FU:=G (show cs.length+1<=maxLen by have:=Hl.out;unfold maxLen;omega);have FV:=G (show(cs.length+1)*1<=140737488355328 by have:=Hl.out;omega);clear FO Gk;obtain⟨r',⟨A,c,hb,ho,Mi⟩,FQ,Nb⟩:=Nv;have Z8:=G Mi;clear Mi;have hc:=hb.cell 0;have hz:=hb.frozen 0;have hM:=hb.lt;simp only[jJ7,List.getElem?_cons_zero]at hc;rw[show((k+1:Nat):Int)-1=(k:Int)by omega];have e1:IntKind.u64.wrap (x:Int)=x:=IntWalk.u64_in _ (by have:=Hx.out;omega);have e2:IntKind.i64.wrap (8*(k:Int))=8*(k:Int):=jQ3 _ (by omega);have e3:(0:Int)<=8*(k:Int):=(by omega);have e4:8*(k:Int)<=64:=(by omega);have e5:(8*(k:Int)).toNat=8*k:=(by omega);have Ff:some g≠(Value.slice A cs.length c).ownBlock:=by
    have:=kx ho hb (by decide);exact fun h=>this h.symm
   go_wp2;go_region_law ((refine jg _ rfl (.tmp 17) (.tmp 23) 22 rfl 0 5 i0 (.int .u8 0) 1 1 underlying22 hi Fz Ft FC rfl (by decide) (.slice A cs.length c) cs.length (cs.map bv) rfl (ho.alloc _) (some ⟨wr.heap.size,0,none⟩) 1 1 _ rfl (Rd.one_new _ _ _) (ky _ rfl) FU.out FV.out (Nat.zero_le _) ?_;intro A' c' w1 Hi hgrow Fo;have FS:=hgrow.cell (a:=⟨g,0,none⟩) (v:=.slice A cs.length c) (by simp[hc,World.cell?_alloc_lt,hb.lt]) Ff;have Ft:w1.frozen? ⟨g,0,none⟩=false:=(World.frozen?_of_block (hgrow.block g (by simp;have:=hb.lt;omega) Ff)).trans (by simp[hz,World.frozen?_alloc_past,hb.lt])))
   all_goals
    have HU:=Wr.put hb ho ((jQ0 _ _).alloc _).drew (news:=[UInt8.ofNat (x/256^k)]) (m:=1) rfl (by rw[Vz];rfl) Hi hgrow Fo;have Fq:=G (WStep.trans FQ (Z8.out▸Nb) HU);clear HU Hi hgrow Fo hc hz FS Ft hb ho Ff;go_wp2;go_roundw
    case rel=>
     refine⟨k,by omega,by go_num,?_⟩;have Lv:cs++[UInt8.ofNat (x/256^k)]=bs++(be 8 x).take (8-k):=by
      rw[<-Ng.out,jK1,<-zv _ _ _ (by omega)]
     exact Lv▸Fq.out
    case measure=>simp[intOf]
  ·obtain rfl:m=0:=(by omega);rw[Vw]at Nv;go_wp2;go_end0;exact⟨rfl,Nv⟩
theorem JJ(w:World)(g:Nat)(r:Option Nat)(bs:LB)(n:Int)(h0:0<=n)(h1:n<=18446744073709551615)(hW:Wr w g r bs)(hl:bs.length<=1099511627776):
  Calls prog 52 #[.pointer (some ⟨g,0,none⟩),.int .u64 n] w fun e w' =>e=.returned (.tuple #[])/\WStep w g r w' (bs++be 8 n.toNat):=by
 obtain⟨x,rfl⟩:=Int.eq_ofNat_of_zero_le h0;rw[jL1];exact jDw w g r bs x h1 hW hl
attribute [local go_sem↓] Go.wp_at_zero Go.wp_at_succ
theorem kL{a b:Value}(h:a=b):Ending.returned a=.returned b:=by rw[h]
theorem Yu(w:World):
  Calls prog 18 #[] w fun e w' =>e=.returned (.pointer (some ⟨w.heap.size,0,none⟩))/\Wr w' w.heap.size none []/\Old w w' :=by
 go_enter func18,ntmps18;go_wp2;go_ret;refine⟨rfl,⟨none,0,jQ2 _ _ _,World.ownsRow_nil _ _ _ _,rfl⟩,(jQ0 _ _).alloc _⟩
theorem kn(most own:Int)(w:World)(h0:0<=most):
  Calls prog 101 #[.int .i64 most,.int .i64 own] w fun e w' =>e=.returned (.int .i64 (min most own))/\w=w' :=by
 go_enter func101,ntmps101;go_wp2
 all_goals
  go_ret;exact⟨kL (vT (by omega)),rfl⟩
theorem ul(w:World)(g:Nat)(r:Option Nat)(bs:LB)(hW:Wr w g r bs):
  Calls prog 23 #[.pointer (some ⟨g,0,none⟩)] w fun e w' =>e=.returned (.int .i64 bs.length)/\w=w' :=by
 obtain⟨A,c,hb,ho,hr⟩:=hW;have hc:=hb.cell 0;simp only[jJ7,List.getElem?_cons_zero]at hc;clear hr;go_enter func23,ntmps23;go_wp2;go_ret;exact⟨rfl,rfl⟩
theorem JE(w:World)(g:Nat)(r:Option Nat)(bs:LB)(hW:Wr w g r bs)(hl:bs.length<=1099511627776):
  Calls prog 24 #[.pointer (some ⟨g,0,none⟩)] w fun e w' =>
   ∃A c,e=.returned (.slice A bs.length c)/\w'.ownsRow w.heap.size 5 1 (.slice A bs.length c) bs.length (bs.map bv)/\Old w w' :=by
 obtain⟨A,c,hb,ho,hr⟩:=hW;have hc:=hb.cell 0;simp only[jJ7,List.getElem?_cons_zero]at hc;have Fa:Rd w 1 A bs.length (bs.map bv):=Rd.of_own ho;have FU:=G (show 0+bs.length<=maxLen by unfold maxLen;omega);have FV:=G (show(0+bs.length)*1<=140737488355328 by omega);clear hr hl;obtain⟨i0,hi,Fz,Ft,FC⟩:=info_parts kc;go_enter func24,ntmps24;go_wp2_with (at_builtin;refine jJ _ rfl (.const (.slice none 0 0)) (.tmp 6) 22 rfl w.heap.size 5 i0 (.int .u8 0) 1 1 underlying22 hi Fz Ft FC rfl (by decide) (.slice none 0 0) 0 [] rfl (World.ownsRow_nil _ _ _ _) A bs.length c (bs.map bv) rfl Fa (jf _) FU.out FV.out (jL3 _) ?_;intro A' c' w1 Hi hgrow Fo);go_ret;refine⟨A',c',?_,?_,?_⟩
 ·rfl
 ·simpa using Hi
 ·exact(jQ0 _ _).grown hgrow (fun k e=>by simp[Value.ownBlock]at e)
theorem YQ(w:World)(g:Nat)(r:Option Nat)(bs:LB)(b:Bool)(hW:Wr w g r bs)(hl:bs.length<=1099511627776):
  Calls prog 57 #[.pointer (some ⟨g,0,none⟩),.bool b] w fun e w' =>e=.returned (.tuple #[])/\WStep w g r w' (bs++[if b then 1 else 0]):=by
 have Hl:=G hl;clear hl;cases b
 ·go_enter func57,ntmps57;go_wp2_with (go_at_call 19;refine(kY _ g r bs _ (by omega) (by omega) hW Hl.out).mono ?_;rintro e w' ⟨rfl,hw⟩);go_end0;exact⟨rfl,hw⟩
 ·go_enter func57,ntmps57;go_wp2_with (go_at_call 19;refine(kY _ g r bs _ (by omega) (by omega) hW Hl.out).mono ?_;rintro e w' ⟨rfl,hw⟩);go_end0;exact⟨rfl,hw⟩
theorem jAs(w:World)(g:Nat)(r:Option Nat)(bs:LB)(A:OA)(n c:Nat)(l:LB)(most:Int)(hW:Wr w g r bs)(hl:bs.length<=1000000000000)
  (Fa:Rd w 1 A n (l.map bv)) (FA:Av (WX g r) n A) (hm:(n:Int)<=most) (hn:n<=2147483647):
  Calls prog 51 #[.pointer (some ⟨g,0,none⟩),.slice A n c,.int .i64 most] w fun e w' =>e=.returned (.int .i64 0)/\WStep w g r w' (bs++lp 4 l):=by
 have Hl:=G hl;have Hm:=G (show¬(min most 2147483647<(n:Int))by omega);have H0:=G (show 0<=most by omega);have EX:l.length=n:=(by simpa using Fa.1);have Nl:=G EX;clear hl hm EX;have e32:IntKind.u32.wrap (n:Int)=n:=IntWalk.u32_in _ (by omega);obtain⟨i0,hi,Fz,Ft,FC⟩:=info_parts kc;have BJ:=Hm.out;go_enter func51,ntmps51;go_wp2_with fail;refine(kn _ _ _ H0.out).mono ?_;rintro e w' ⟨rfl,rfl⟩;go_wp2_with fail;refine(qW _ g r bs _ (by omega) (by omega) hW (jL4 Hl.out (by decide))).mono ?_;rintro e w1 ⟨rfl,hw⟩;clear BJ;obtain⟨r1,⟨A1,c1,hb,ho,Fd⟩,FQ,Nb⟩:=hw;have PR:=Fa.kp FQ FA;have WH:=G Fd;clear Fd;have hc:=hb.cell 0;have hz:=hb.frozen 0;have hM:=hb.lt;simp only[jJ7,List.getElem?_cons_zero]at hc;rw[jL1]at*;generalize FO:bs++be 4 n=cs at*;have Gk:cs.length=bs.length+4:=(by rw[<-FO,jJ4,jC]);have FU:=G (show cs.length+n<=maxLen by have:=Hl.out;unfold maxLen;omega);have FV:=G (show(cs.length+n)*1<=140737488355328 by have:=Hl.out;omega);have Ng:=G FO;clear FO Gk;have Ff:some g≠(Value.slice A1 cs.length c1).ownBlock:=by
  have:=kx ho hb (by decide);exact fun h=>this h.symm
 go_wp2_with (at_builtin;refine jJ _ rfl (.tmp 21) (.tmp 22) 22 rfl 0 5 i0 (.int .u8 0) 1 1 underlying22 hi Fz Ft FC rfl (by decide) (.slice A1 cs.length c1) cs.length (cs.map bv) rfl ho A n c (l.map bv) rfl PR (jf _) FU.out FV.out (Nat.zero_le _) ?_;intro A' c' w2 Hi hgrow Fo;have FS:=hgrow.cell (a:=⟨g,0,none⟩) hc Ff;have Ft:w2.frozen? ⟨g,0,none⟩=false:=(World.frozen?_of_block (hgrow.block g hM Ff)).trans hz);go_ret;refine⟨rfl,WStep.trans FQ (WH.out▸Nb) ?_⟩;have HU:=Wr.put hb ho (jQ0 _ _) (news:=l) Nl.out rfl Hi hgrow Fo;rw[lp,Nl.out,<-jK1,Ng.out];exact HU
theorem jCV(w:World)(g:Nat)(A:OA)(n c:Nat)(most:Int)(h0:0<=most)(hm:min most 2147483647<(n:Int)):
  Calls prog 51 #[.pointer (some ⟨g,0,none⟩),.slice A n c,.int .i64 most] w fun e w' =>e=.returned (.int .i64 6)/\w=w' :=by
 have H0:=G h0;clear h0;go_enter func51,ntmps51;go_wp2_with (go_at_call 101;refine(kn _ _ _ H0.out).mono ?_;rintro e w' ⟨rfl,rfl⟩);go_ret;exact⟨rfl,rfl⟩
theorem jC3(w:World)(g:Nat)(r:Option Nat)(bs:LB)(s:BA)(most:Int)(hW:Wr w g r bs)(hl:bs.length<=1000000000000)
  (hm:(s.size:Int)<=most) (hn:s.size<=65535):
  Calls prog 99 #[.pointer (some ⟨g,0,none⟩),.string s,.int .i64 most] w fun e w' =>e=.returned (.int .i64 0)/\WStep w g r w' (bs++lp 2 (sb s)):=by
 have Hl:=G hl;have Hm:=G (show¬(min most 65535<(s.size:Int))by omega);have H0:=G (show 0<=most by omega);clear hl hm;have e16:IntKind.u16.wrap (s.size:Int)=s.size:=IntWalk.u16_in _ (by omega);obtain⟨i0,hi,Fz,Ft,FC⟩:=info_parts kc;have BJ:=Hm.out;go_enter func99,ntmps99;go_wp2_with fail;refine(kn _ _ _ H0.out).mono ?_;rintro e w' ⟨rfl,rfl⟩;go_wp2_with fail;refine(YE _ g r bs _ (by omega) (by omega) hW (jL4 Hl.out (by decide))).mono ?_;rintro e w1 ⟨rfl,hw⟩;clear BJ;obtain⟨r1,⟨A1,c1,hb,ho,Fd⟩,FQ,Nb⟩:=hw;have WH:=G Fd;clear Fd;have hc:=hb.cell 0;have hz:=hb.frozen 0;have hM:=hb.lt;simp only[jJ7,List.getElem?_cons_zero]at hc;rw[jL1]at*;generalize FO:bs++be 2 s.size=cs at*;have Gk:cs.length=bs.length+2:=(by rw[<-FO,jJ4,jC]);have FU:=G (show cs.length+s.size<=maxLen by have:=Hl.out;unfold maxLen;omega);have FV:=G (show cs.length+s.size<=140737488355328 by have:=Hl.out;omega);have Ng:=G FO;clear FO Gk;have Ff:some g≠(Value.slice A1 cs.length c1).ownBlock:=by
  have:=kx ho hb (by decide);exact fun h=>this h.symm
 go_wp2_with (at_builtin;refine yW _ rfl (.tmp 21) (.tmp 22) 22 9 rfl 0 5 i0 underlying22 underlying9 hi Fz Ft FC (.slice A1 cs.length c1) cs.length (cs.map bv) rfl ho s rfl FU.out FV.out (Nat.zero_le _) ?_;intro A' c' w2 Hi hgrow Fo;have FS:=hgrow.cell (a:=⟨g,0,none⟩) hc Ff;have Ft:w2.frozen? ⟨g,0,none⟩=false:=(World.frozen?_of_block (hgrow.block g hM Ff)).trans hz);go_ret;refine⟨rfl,WStep.trans FQ (WH.out▸Nb) ?_⟩;have HU:=Wr.put hb ho (jQ0 _ _) (news:=sb s) (jH s) rfl Hi hgrow Fo;rw[lp,jH,<-jK1,Ng.out];exact HU
end Go.Proofs.YtnaolhjbapgjgaaGreat

import Derived.WalkKit
import Derived.WalkSpells
import Derived.WalkLawsBesides
import Derived.Maps.AppendAt
import Derived.Deep.AppendLies
import Derived.Deep.Draws
import Derived.Deep.RegionHeld3
import Derived.Deep.DrawnRows
import Derived.Deep.QuietTactic
import Derived.BigQuiet
import Derived.Lib.Hide
import Derived.Lib.AppendStr
import Derived.Lib.ConvBytes
import Derived.Laws.IdiomStrings
import Derived.Deep.RegionLaw
import Derived.IntWalk
set_option maxRecDepth 100000
set_option maxHeartbeats 25600000
namespace Go.Proofs.Tryz
end Go.Proofs.Tryz
namespace Go.Proofs.YtmmjcbbogokmfaaGreatDoor
theorem G {p : Prop} (h : p) : RowKit.Hid p := Lib.hid h
abbrev LB := List UInt8
abbrev OA := Option Addr
abbrev BA := ByteArray
theorem jJ1 {A : Type} {l : List A} {i : Nat} {a : A} : l.toArray.setIfInBounds i a = (l.set i a).toArray := List.setIfInBounds_toArray ..
theorem jJ2 {A : Type} {x : A} {l : List A} {a : A} : (x :: l).set 0 a = a :: l := rfl
theorem jJ3 {A : Type} {x : A} {l : List A} {a : A} {n : Nat} : (x :: l).set (n + 1) a = x :: l.set n a := rfl
theorem jJ4 {A : Type} {l m : List A} : (l ++ m).length = l.length + m.length := List.length_append
theorem jJ5 {c : Prop} {i : Decidable c} (h : ¬c) {A : Sort _} {t e : A} : ite c t e = e := if_neg h
theorem jJ6 {c : Prop} {i : Decidable c} (h : c) {A : Sort _} {t e : A} : ite c t e = t := if_pos h
theorem jJ7 {A : Type} {l : List A} {i : Nat} : l.toArray[i]? = l[i]? := List.getElem?_toArray
theorem jJ8 {A : Type} {l : List A} : l.toArray.size = l.length := List.size_toArray
theorem jJ9 {A : Type} {l : List A} {i : Nat} (h : i < l.length) : l[i]? = some l[i] := List.getElem?_eq_getElem h
theorem jK1 {A : Type} (l m n : List A) : l ++ m ++ n = l ++ (m ++ n) := List.append_assoc l m n
theorem jK2 {A : Type} {l : List A} {i : Nat} (h : i < l.length) : l.take (i + 1) = l.take i ++ [l[i]] := List.take_succ_eq_append_getElem h
theorem jK3 {p : Prop} {i : Decidable p} (h : ¬p) : decide p = false := decide_eq_false h
theorem jK4 {A : Type} {i : Nat} {l : List A} (h : l.length <= i) : l.take i = l := List.take_of_length_le h
theorem jK6 {A : Type} {x : A} {l : List A} : (x :: l).length = l.length + 1 := List.length_cons
theorem jK7 {A B : Type} {l : List A} (f : A -> B) : (l.map f).length = l.length := List.length_map f
theorem jK8 {A : Type} {i : Nat} {l : List A} : (l.drop i).length = l.length - i := List.length_drop
theorem jK9 {A : Type} {i : Nat} {l : List A} : (l.take i).length = min i l.length := List.length_take
theorem jL1 (n : Nat) : (n : Int).toNat = n := Int.toNat_natCast n
theorem jL2 {A B : Type} (a : A) (f : A -> Option B) : (some a).bind f = f a := Option.bind_some a f
theorem jL3 (n : Nat) : n <= n := Nat.le_refl n
theorem jL4 {n m k : Nat} : n <= m -> m <= k -> n <= k := Nat.le_trans
theorem jL5 {A : Type} {a b : A} : some a = some b -> a = b := Option.some.inj
theorem jL6 {A : Type} {l : List A} {n : Nat} (h : n < l.length) : l[n] ∈ l := List.getElem_mem h
theorem jL7 {A : Type} {a b : A} : a ∈ [b] ↔ a = b := List.mem_singleton
theorem jL8 {n m k : Nat} : n < m -> m <= k -> n < k := Nat.lt_of_lt_of_le
theorem jL9 {A B : Type} {f : A -> List B} {a : A} {l : List A} : (a :: l).flatMap f = f a ++ l.flatMap f := List.flatMap_cons
theorem jM1 {A B : Type} {f : A -> B} {l : List A} {i : Nat} : (l.map f)[i]? = Option.map f l[i]? := List.getElem?_map
theorem jM2 {A B : Type} {b : B} {x : Option A} {f : A -> Option B} (h : x.bind f = some b) : ∃ a, x = some a /\ f a = some b := Option.bind_eq_some_iff.1 h
theorem jM3 {A : Type} [BEq A] [LawfulBEq A] {a b : A} (h : a ≠ b) : (a == b) = false := beq_eq_false_iff_ne.2 h
theorem jM4 {A B : Type} {b : B} {x : Option A} {f : A -> B} (h : Option.map f x = some b) : ∃ a, x = some a /\ f a = b := Option.map_eq_some_iff.1 h
theorem jM5 {A : Type} {i : Nat} {a : A} {l : List A} (h : l[i]? = some a) : ∃ h : i < l.length, l[i] = a := List.getElem?_eq_some_iff.1 h
theorem jM6 {A : Type} {a : A} {s t : List A} (h : a ∈ s ++ t) : a ∈ s \/ a ∈ t := List.mem_append.1 h
theorem jM7 {A : Type} {a b : A} (h : a ∈ [b]) : a = b := List.mem_singleton.1 h
theorem jM8 {p : Prop} {i : Decidable p} (h : decide p = true) : p := of_decide_eq_true h
theorem jM9 {A : Type} {i : Nat} {l : List A} (h : i < l.length) : l.drop i = l[i] :: l.drop (i + 1) := List.drop_eq_getElem_cons h
theorem jN1 {A : Type} (y : A) {a : A} {l : List A} (h : a ∈ l) : a ∈ y :: l := List.mem_cons_of_mem y h
theorem jN2 {A : Type} : ([] : List A).length = 0 := rfl
theorem jN3 {A B : Type} {f : A -> B} {l₁ l₂ : List A} : List.map f (l₁ ++ l₂) = List.map f l₁ ++ List.map f l₂ := List.map_append
theorem jN4 {A : Type} {a b : A} {l : List A} (h : a ∈ b :: l) : a = b \/ a ∈ l := List.mem_cons.1 h
theorem jN5 {A B : Type} {f : A -> List B} {l m : List A} : (l ++ m).flatMap f = l.flatMap f ++ m.flatMap f := List.flatMap_append
theorem jN6 {A : Type} {a : A} {l m : List A} : a :: l ++ m = a :: (l ++ m) := List.cons_append
theorem jN7 {A : Type} (l : List A) : l ++ [] = l := List.append_nil l
theorem jN8 {A : Type} (l : List A) : [] ++ l = l := List.nil_append l
theorem jK5 {p : Prop} {i : Decidable p} (h : p) : decide p = true := decide_eq_true h
open Go.Proofs.Tryz
open Go.RowKit
def bv(b:UInt8):Value:=.int .u8 (b.toNat:Int)
def sv(s:BA):Value:=.string s
structure Kp(X:Nat->Prop)(w w' :World):Prop where
 os:w'.os=w.os
 tape:w'.tape=w.tape
 output:w'.output=w.output
 size:w.heap.size<=w'.heap.size
 block:∀k,k<w.heap.size->¬X k->w'.heap[k]? =w.heap[k]?
def NoX:Nat->Prop:=fun _=>False
abbrev Old(w w' :World):Prop:=Kp NoX w w'
namespace Kp
variable{X Y:Nat->Prop}{w w1 w2:World}
theorem refl(X:Nat->Prop)(w:World):Kp X w w:=⟨rfl,rfl,rfl,jL3 _,fun _ _ _=>rfl⟩
theorem trans(h:Kp X w w1)(k:Kp Y w1 w2)(Tc:∀b,b<w.heap.size->Y b->X b):Kp X w w2:=
 ⟨k.os.trans h.os,k.tape.trans h.tape,k.output.trans h.output,jL4 h.size k.size,
  fun b hb hx=>(k.block b (jL8 hb h.size) (fun hy=>hx (Tc b hb hy))).trans (h.block b hb hx)⟩
theorem old(h:Kp X w w1)(k:Old w1 w2):Kp X w w2:=h.trans k (fun _ _ hf=>hf.elim)
theorem mono(h:Kp X w w1)(Tc:∀b,b<w.heap.size->X b->Y b):Kp Y w w1:=
 ⟨h.os,h.tape,h.output,h.size,fun b hb hy=>h.block b hb (fun hx=>hy (Tc b hb hx))⟩
theorem drew(h:Kp X w w1):Kp X w w1.drew:=⟨h.os,h.tape,h.output,h.size,h.block⟩
theorem drewN(h:Kp X w w1)(n:Nat):Kp X w (w1.drewN n):=⟨h.os,h.tape,h.output,h.size,h.block⟩
theorem alloc(h:Kp X w w1)(o:Obj):Kp X w (w1.alloc o):=
 ⟨h.os,h.tape,h.output,jL4 h.size (by simp),fun b hb hx=>(Below.heap_alloc w1 o b (jL8 hb h.size)).trans (h.block b hb hx)⟩
theorem setCell(h:Kp X w w1){p:Addr}(hp:p.block<w.heap.size->X p.block)(u:Value):Kp X w (w1.setCell p u):=
 ⟨h.os,h.tape,h.output,by simpa [World.setCell]using h.size,fun b hb hx=>(Below.heap_setCell w1 p u b (by
  rintro rfl;exact hx (hp hb))).trans (h.block b hb hx)⟩
theorem grown(h:Kp X w w1){row:Option Nat}(hg:w1.grownBy w2 row)(hr:∀k,row=some k->k<w.heap.size->X k):Kp X w w2:=
 ⟨hg.os.trans h.os,hg.tape.trans h.tape,hg.output.trans h.output,jL4 h.size hg.size,
  fun b hb hx=>(hg.block b (jL8 hb h.size) (fun e=>hx (hr b e.symm hb))).trans (h.block b hb hx)⟩
theorem below(h:Old w w1):Below w.heap.size w w1:=⟨h.os,h.tape,h.output,h.size,fun k hk=>h.block k hk (fun hf=>hf)⟩
theorem of_below(h:Below w.heap.size w w1):Kp X w w1:=⟨h.os,h.tape,h.output,h.size,fun k hk _=>h.block k hk⟩
theorem head(h:Below w.heap.size w w1)(k:Kp X w1 w2):Kp X w w2:=
 ⟨k.os.trans h.os,k.tape.trans h.tape,k.output.trans h.output,jL4 h.size k.size,
  fun b hb hx=>(k.block b (jL8 hb h.size) hx).trans (h.block b hb)⟩
end Kp
theorem jQ0(X:Nat->Prop)(w:World):Kp X w w:=Kp.refl X w
theorem jg{w:World}{p:Addr}{v:Value}(h:w.cell? p=some v):p.block<w.heap.size:=World.block_lt_of_cell? w p h
def Rd(w:World)(size:Nat)(A:OA)(n:Nat)(xs:List Value):Prop:=
 xs.length=n*size/\(0<n->∃b o,A=some ⟨b,o,none⟩/\∀j u,xs[j]? =some u->w.cell? ⟨b,o+j,none⟩=some u)
def Av(X:Nat->Prop)(n:Nat)(A:OA):Prop:=0<n->∀ad,A=some ad->¬X ad.block
section
variable{w w' :World}{X:Nat->Prop}{size n:Nat}{A:OA}{xs:List Value}
theorem Av.no(n:Nat)(A:OA):Av NoX n A:=fun _ _ _ h=>h
theorem Rd.none_:Rd w size A 0 []:=⟨by simp,fun h=>absurd h (by omega)⟩
theorem Rd.len(h:Rd w 1 A n xs):xs.length=n:=by have:=h.1;omega
theorem Rd.at_{k:Nat}(h:Rd w 1 A n xs)(hk:k<n):∃b o u,A=some ⟨b,o,none⟩/\xs[k]? =some u/\w.cell? ⟨b,o+k,none⟩=some u:=by
 obtain⟨b,o,e,hc⟩:=h.2 (by omega);have hl:k<xs.length:=by have:=h.1;omega
 exact⟨b,o,xs[k],e,jJ9 hl,hc k _ (jJ9 hl)⟩
theorem Rd.keep(h:Rd w size A n xs)(hk:0<n->∀p v,w.cell? p=some v->A.map (·.block)=some p.block->w'.cell? p=some v):Rd w' size A n xs:=
 ⟨h.1,fun hn=>by
  obtain⟨b,o,e,hc⟩:=h.2 hn;exact⟨b,o,e,fun j u hu=>hk hn _ _ (hc j u hu) (by rw[e];rfl)⟩⟩
theorem Rd.kp(h:Rd w size A n xs)(hk:Kp X w w')(ha:Av X n A):Rd w' size A n xs:=
 h.keep fun hn p v hp hA=>by
  rw[World.cell?_of_block (hk.block p.block (jg hp) ?_)]
  ·exact hp
  ·intro hx;cases A with
   |none=>simp at hA
   |some ad=>simp at hA;exact ha hn ad rfl (by rw[hA];exact hx)
theorem Rd.old(h:Rd w size A n xs)(hk:Old w w'):Rd w' size A n xs:=h.kp hk (Av.no n A)
theorem Rd.drew(h:Rd w size A n xs):Rd w.drew size A n xs:=h
theorem Rd.drewN(h:Rd w size A n xs)(k:Nat):Rd (w.drewN k) size A n xs:=h
theorem Rd.alloc(h:Rd w size A n xs)(o:Obj):Rd (w.alloc o) size A n xs:=h.old ((Kp.refl _ _).alloc o)
theorem Rd.below(h:Rd w size A n xs)(hb:Below w.heap.size w w'):Rd w' size A n xs:=h.old (Kp.of_below hb)
theorem Rd.of_own{base:Nat}{e:TypeId}{c:Nat}(h:w.ownsRow base e size (.slice A n c) n xs):Rd w size A n xs:=by
 refine⟨h.1,fun hn=> ?_⟩;obtain⟨g,cap,hv,_,hlt⟩:=h.form hn;have hA:A=some ⟨g,0,none⟩:=(by injection hv);subst hA;refine⟨g,0,rfl,fun j u hu=> ?_⟩;have:=h.cells (g:=g) rfl j u hu
 rwa [Addr.add_lit]at this
theorem Rd.lt(h:Rd w size A n xs)(hs:0<size)(hn:0<n){ad:Addr}(e:A=some ad):ad.block<w.heap.size:=by
 obtain⟨b,o,e',hc⟩:=h.2 hn;have h0:0<xs.length:=by rw[h.1];exact Nat.mul_pos hn hs
 have:=jg (hc 0 xs[0] (jJ9 h0));rw[e']at e;injection e with e;subst e;exact this
theorem Rd.of_add{ad:Addr}(hl:xs.length=n*size)(hs:0<size)(hc:∀j u,xs[j]? =some u->w.cell? (ad.add j)=some u):Rd w size (some ad) n xs:=by
 refine⟨hl,fun hn=> ?_⟩;have h0:0<xs.length:=by rw[hl];exact Nat.mul_pos hn hs
 have h1:=hc 0 xs[0] (jJ9 h0);obtain⟨b,o,sp⟩:=ad;cases sp with
 |none=>exact⟨b,o,rfl,fun j u hu=>by have:=hc j u hu;rwa [Addr.add_lit]at this⟩
 |some sp=>simp[Addr.add,World.cell?]at h1;split at h1<;>cases h1
end
theorem Xi{w:World}{base:Nat}{e:TypeId}{size:Nat}{v:Value}{n:Nat}{xs:List Value}(h:w.ownsRow base e size v n xs):
  ∃A c,v=.slice A n c/\v.ownBlock=A.map (·.block):=by
 rcases h.2 with⟨rfl,rfl⟩|⟨g,cap,cur,rfl,_⟩
 ·exact⟨none,0,rfl,rfl⟩
 ·exact⟨_,_,rfl,rfl⟩
def Blk(w:World)(g:Nat)(t:TypeId)(cs:Array Value):Prop:=w.heap[g]? =some (.cells cs t (0,0))
section
variable{w w' :World}{X:Nat->Prop}{g:Nat}{t:TypeId}{cs:Array Value}
theorem Blk.lt(h:Blk w g t cs):g<w.heap.size:=by
 rcases Nat.lt_or_ge g w.heap.size with hlt|W5
 ·exact hlt
 ·unfold Blk at h;rw[Array.getElem?_eq_none W5]at h;cases h
theorem Blk.cell(h:Blk w g t cs)(i:Nat):w.cell? ⟨g,i,none⟩=cs[i]? :=cell_of_row w g i cs t (0,0) h
theorem Blk.at_(h:Blk w g t cs)(i:Nat){v:Value}(e:cs[i]? =some v):w.cell? ⟨g,i,none⟩=some v:=(h.cell i).trans e
theorem Blk.frozen(h:Blk w g t cs)(i:Nat):w.frozen? ⟨g,i,none⟩=false:=by
 unfold Blk at h;simp[World.frozen?,h]
theorem Blk.new(w:World)(t:TypeId)(cs:Array Value):Blk (w.alloc (.cells cs t)) w.heap.size t cs:=heap_alloc_new w _
theorem Blk.drew(h:Blk w g t cs):Blk w.drew g t cs:=h
theorem Blk.drewN(h:Blk w g t cs)(n:Nat):Blk (w.drewN n) g t cs:=h
theorem Blk.alloc(h:Blk w g t cs)(o:Obj):Blk (w.alloc o) g t cs:=(Below.heap_alloc w o g h.lt).trans h
theorem Blk.set_(h:Blk w g t cs)(i:Nat)(u:Value):Blk (w.setCell ⟨g,i,none⟩ u) g t (cs.setIfInBounds i u):=by
 unfold Blk at h⊢;simp[World.setCell,Array.getElem?_modify,h]
theorem Blk.far(h:Blk w g t cs){p:Addr}(hp:g≠p.block)(u:Value):Blk (w.setCell p u) g t cs:=(Below.heap_setCell w p u g hp).trans h
theorem Blk.kp(h:Blk w g t cs)(hb:Kp X w w')(hg:¬X g):Blk w' g t cs:=(hb.block g h.lt hg).trans h
theorem Blk.old(h:Blk w g t cs)(hb:Old w w'):Blk w' g t cs:=h.kp hb (fun hf=>hf)
theorem Blk.grown{row:Option Nat}(h:Blk w g t cs)(hb:w.grownBy w' row)(hg:some g≠row):Blk w' g t cs:=(hb.block g h.lt hg).trans h
theorem Blk.ne_{g' :Nat}{t' :TypeId}{cs' :Array Value}(h:Blk w g t cs)(h' :Blk w g' t' cs')(Fa:t≠t'):g≠g' :=by
 rintro rfl;unfold Blk at h h';rw[h]at h';injection h' with h';injection h' with _ ht;exact Fa ht
theorem ja{base:Nat}{e:TypeId}{size n:Nat}{v:Value}{xs:List Value}(h:w.ownsRow base e size v n xs)(hg:Blk w g t cs)(Fa:e≠t):v.ownBlock≠some g:=by
 rcases h.2 with⟨rfl,_⟩|⟨g',cap,cur,rfl,_,hh,_⟩
 ·simp[Value.ownBlock]
 ·intro he;have:g' =g:=(by simpa [Value.ownBlock]using he);subst this;exact Blk.ne_ (t:=e) hh hg Fa rfl
end
theorem jW{X:Nat->Prop}{w w' :World}{base:Nat}{e:TypeId}{size:Nat}{v:Value}{n:Nat}{xs:List Value}(h:w.ownsRow base e size v n xs)(hk:Kp X w w')
  (hv:∀k,v.ownBlock=some k->¬X k):w'.ownsRow base e size v n xs:=by
 refine⟨h.1,?_⟩;rcases h.2 with hn|⟨g,cap,cur,rfl,hb,Sy,rest⟩
 ·exact .inl hn
 ·refine .inr ⟨g,cap,cur,rfl,hb,?_,rest⟩;rw[hk.block g (Array.getElem?_eq_some_iff.1 Sy).1 (hv g rfl)];exact Sy
section
variable{P:Program}(w:World)
theorem VM(base:Nat)(t ty e:TypeId)(i:TypeInfo)(size:Nat)(ht:P.underlying t=some (.slice e))(hi:P.info? e=some i)
  (v:Value) (n:Nat) (xs:List Value) (Hh:w.ownsRow base e size v n xs) (c:Nat):(Builtin.append_ #[t,t] ty #[v,.slice none 0 c]).run P w=.ok v w:=by
 rcases Hh.2 with⟨rfl,rfl⟩|⟨g,cap,cur,rfl,_,_,Ci,_⟩
 ·simp[Builtin.append_,run_underlying ht,sizeOf,typeInfo,hi,Builtin.lenOf,Builtin.firstCells]
 ·simp[Builtin.append_,run_underlying ht,sizeOf,typeInfo,hi,Builtin.lenOf,Builtin.firstCells,Ci,storeCells]
theorem ZY(base:Nat)(t ty e:TypeId)(i:TypeInfo)(z:Value)(size bytes:Nat)(ht:P.underlying t=some (.slice e))(hi:P.info? e=some i)(hz:i.zero=some z)
  (Ge:i.size=size) (NE:i.bytes=bytes) (LP:z.cells.size=size) (G6:0<size)
  (v:Value) (n:Nat) (xs:List Value) (Hh:w.ownsRow base e size v n xs)
  (A:OA) (m c:Nat) (news:List Value) (hr:Rd w size A m news) (h1:∀u∈news,u.oneCell' =true)
  (WZ:n+m<=maxLen) (FC:(n+m)*bytes<=140737488355328) (FN:base<=w.heap.size):
  ∃v' w',(Builtin.append_ #[t,t] ty #[v,.slice A m c]).run P w=.ok v' w' /\w'.ownsRow base e size v' (n+m) (xs++news)/\w.grownBy w' v.ownBlock/\
   (v'.ownBlock=v.ownBlock\/v'.ownBlock=some w.heap.size):=by
 rcases A with _ |ad
 ·have hm:m=0:=by
   rcases Nat.eq_zero_or_pos m with h0|h0
   ·exact h0
   ·obtain⟨b,o,h,_⟩:=hr.2 h0;cases h
  subst hm;have hn:news=[]:=List.eq_nil_of_length_eq_zero (by simpa using hr.1);subst hn;exact⟨v,w,VM w base t ty e i size ht hi v n xs Hh c,by simpa using Hh,World.grownBy.refl w _,.inl rfl⟩
 ·have GE:∀j u,news[j]? =some u->w.cell? (ad.add j)=some u:=by
   intro j u hu;rcases Nat.eq_zero_or_pos m with h0|h0
   ·subst h0;have hn:news=[]:=List.eq_nil_of_length_eq_zero (by simpa using hr.1);subst hn;simp at hu
   ·obtain⟨b,o,h,hc⟩:=hr.2 h0;injection h with h;subst h;rw[Addr.add_lit];exact hc j u hu
  obtain⟨v',w',Wi,h2,h3,_,h5⟩:=run_append_own_at (P:=P) w base t ty e i z size bytes ht hi hz Ge NE LP G6 v n xs Hh ad m c news hr.1 GE h1 WZ FC FN;exact⟨v',w',Wi,h2,h3,h5⟩
theorem KN{o:Oper}{a:Act}{K:Act->World->Prop}{Q:Exit->Act->World->Prop}(s x:Operand)(t:TypeId)
  (ho:o.op=.call {callee:=.builtin .append,args:= #[s,x],argTypes:= #[t,t]})
  (base:Nat) (e:TypeId) (i:TypeInfo) (z:Value) (size bytes:Nat) (ht:P.underlying t=some (.slice e)) (hi:P.info? e=some i) (hz:i.zero=some z)
  (Ge:i.size=size) (NE:i.bytes=bytes) (LP:z.cells.size=size) (G6:0<size)
  (v:Value) (n:Nat) (xs:List Value) (hs:a.eval s=v) (Hh:w.ownsRow base e size v n xs)
  (A:OA) (m c:Nat) (news:List Value) (hx:a.eval x=.slice A m c) (hr:Rd w size A m news) (h1:∀u∈news,u.oneCell' =true)
  (WZ:n+m<=maxLen) (FC:(n+m)*bytes<=140737488355328) (FN:base<=w.heap.size)
  (h:∀A' c' w',w'.ownsRow base e size (.slice A' (n+m) c') (n+m) (xs++news)->w.grownBy w' v.ownBlock->(A'.map (·.block)=v.ownBlock\/A'.map (·.block)=some w.heap.size)->K (a.put o.dst (.slice A' (n+m) c')) w'):o.wp P a w K Q:=by
 obtain⟨v',w',Wi,h2,h3,h4⟩:=ZY (P:=P) w base t o.type e i z size bytes ht hi hz Ge NE LP G6 v n xs Hh A m c news hr h1 WZ FC FN;obtain⟨A',c',rfl,hA⟩:=Xi h2;unfold Oper.wp execOp;simp only[ho,resolve,invoke,builtin,Sem.run_bind,Sem.run_pure,Result.andThen_ok,List.map_toArray,List.map_cons,List.map_nil,hs,hx,Wi];exact h A' c' w' h2 h3 (by rw[<-hA];exact h4)
theorem jF{ops:Array Oper}{rest:List Oper}{o:Oper}{a:Act}{Q:Exit->Act->World->Prop}(Wp:o.guard=none)(s x:Operand)(t:TypeId)
  (ho:o.op=.call {callee:=.builtin .append,args:= #[s,x],argTypes:= #[t,t]})
  (base:Nat) (e:TypeId) (i:TypeInfo) (z:Value) (size bytes:Nat) (ht:P.underlying t=some (.slice e)) (hi:P.info? e=some i) (hz:i.zero=some z)
  (Ge:i.size=size) (NE:i.bytes=bytes) (LP:z.cells.size=size) (G6:0<size)
  (v:Value) (n:Nat) (xs:List Value) (hs:a.eval s=v) (Hh:w.ownsRow base e size v n xs)
  (A:OA) (m c:Nat) (news:List Value) (hx:a.eval x=.slice A m c) (hr:Rd w size A m news) (h1:∀u∈news,u.oneCell' =true)
  (WZ:n+m<=maxLen) (FC:(n+m)*bytes<=140737488355328) (FN:base<=w.heap.size)
  (h:∀A' c' w',w'.ownsRow base e size (.slice A' (n+m) c') (n+m) (xs++news)->w.grownBy w' v.ownBlock->(A'.map (·.block)=v.ownBlock\/A'.map (·.block)=some w.heap.size)->wpList P ops Q rest (a.put o.dst (.slice A' (n+m) c')) w'):wpList P ops Q (o::rest) a w:=
 wpList_plain Wp fun _ hK=>KN w s x t ho base e i z size bytes ht hi hz Ge NE LP G6 v n xs hs Hh A m c news hx hr h1 WZ FC FN fun A' c' w' h2 h3 h4=>hK _ _ (h A' c' w' h2 h3 h4)
theorem kR{ops:Array Oper}{o:Oper}{a:Act}{K:Act->World->Prop}{Q:Exit->Act->World->Prop}{E:Prop}(Wp:o.guard=none)(s x:Operand)(t:TypeId)
  (ho:o.op=.call {callee:=.builtin .append,args:= #[s,x],argTypes:= #[t,t]})
  (base:Nat) (e:TypeId) (i:TypeInfo) (z:Value) (size bytes:Nat) (ht:P.underlying t=some (.slice e)) (hi:P.info? e=some i) (hz:i.zero=some z)
  (Ge:i.size=size) (NE:i.bytes=bytes) (LP:z.cells.size=size) (G6:0<size)
  (v:Value) (n:Nat) (xs:List Value) (hs:a.eval s=v) (Hh:w.ownsRow base e size v n xs)
  (A:OA) (m c:Nat) (news:List Value) (hx:a.eval x=.slice A m c) (hr:Rd w size A m news) (h1:∀u∈news,u.oneCell' =true)
  (WZ:n+m<=maxLen) (FC:(n+m)*bytes<=140737488355328) (FN:base<=w.heap.size)
  (h:∀A' c' w',w'.ownsRow base e size (.slice A' (n+m) c') (n+m) (xs++news)->w.grownBy w' v.ownBlock->(A'.map (·.block)=v.ownBlock\/A'.map (·.block)=some w.heap.size)->K (a.put o.dst (.slice A' (n+m) c')) w'):
  if Region.wanted o (yielded ops a.tmps)=true then Oper.wp P o a w K Q else E:=by
 have hw:Region.wanted o (yielded ops a.tmps)=true:=(by simp[Region.wanted,Wp]);rw[jJ6 hw];exact KN w s x t ho base e i z size bytes ht hi hz Ge NE LP G6 v n xs hs Hh A m c news hx hr h1 WZ FC FN h
end
theorem Rd.one_new(w:World)(t:TypeId)(u:Value):Rd (w.alloc (.cells #[u] t)) 1 (some ⟨w.heap.size,0,none⟩) 1 [u]:=by
 refine⟨rfl,fun _=>⟨_,_,rfl,fun j v hv=> ?_⟩⟩
 match j,hv with
 |0,hv=>
  simp at hv;subst hv;simp
 |j+1,hv=>simp at hv
theorem jC(A:OA)(n c:Nat):(Value.slice A n c).ownBlock=A.map (·.block):=by cases A<;>rfl
theorem kK(v:Value)(h:v.oneCell' =true):∀u∈ [v],u.oneCell' =true:=by
 intro u hu;simp at hu;subst hu;exact h
theorem Ys(l:LB):∀u∈l.map bv,u.oneCell' =true:=by
 intro u hu;obtain⟨b,_,rfl⟩:=List.mem_map.1 hu;rfl
def sb(s:BA):LB:=s.data.toList
theorem jB(s:BA):(sb s).length=s.size:=by
 unfold sb;rw[Array.length_toList];rfl
theorem QA(s:BA):Lib.strCells s=(sb s).map bv:=rfl
theorem yS(l:LB):sb ⟨l.toArray⟩=l:=rfl
theorem jBu(s:BA):(⟨(sb s).toArray⟩:BA)=s:=by
 unfold sb;simp
theorem jFE{s t:BA}(h:sb s=sb t):s=t:=by rw[<-jBu s,<-jBu t,h]
section
variable{P:Program}(w:World)
theorem ZX(base:Nat)(t u ty e:TypeId)(i:TypeInfo)(ht:P.underlying t=some (.slice e))(hu:P.underlying u=some .string)(hi:P.info? e=some i)(hz:i.zero=some (.int .u8 0))
  (Ge:i.size=1) (NE:i.bytes=1)
  (v:Value) (n:Nat) (xs:List Value) (Hh:w.ownsRow base e 1 v n xs) (s:BA)
  (WZ:n+s.size<=maxLen) (FC:n+s.size<=140737488355328) (FN:base<=w.heap.size):
  ∃v' w',(Builtin.append_ #[t,u] ty #[v,.string s]).run P w=.ok v' w' /\w'.ownsRow base e 1 v' (n+s.size) (xs++(sb s).map bv)/\w.grownBy w' v.ownBlock/\
   (v'.ownBlock=v.ownBlock\/v'.ownBlock=some w.heap.size):=by
 obtain⟨v',w',hr,h2,h3,h4⟩:=Lib.run_append_own_string (P:=P) w base t u ty e i ht hu hi hz Ge NE v n xs Hh s WZ FC FN;rw[QA]at h2;refine⟨v',w',hr,h2,h3,?_⟩;have Tl:n+s.size<=9223372036854775807:=by simp only[maxLen]at WZ;omega
 rcases Hh.2 with⟨rfl,rfl⟩|⟨g,cap,cur,rfl,FI,hg,Ci,TH,WY,Cc⟩
 ·by_cases hm:s.size=0
  ·rw[h4.2 ⟨rfl,hm⟩];exact .inl rfl
  ·have FT:=run_append_nil_string (P:=P) w t u ty e i (.int .u8 0) ht hu hi hz s (by omega) (by omega) (by rw[NE];omega);rw[hr]at FT;injection FT with hv _;rw[hv];exact .inr rfl
 ·by_cases hroom:n+s.size<=cap
  ·have FT:=Lib.run_append_room_string (P:=P) w t u ty e i ht hu hi Ge g n cap cur hg s hroom (by omega);rw[hr]at FT;injection FT with hv _;rw[hv];exact .inl rfl
  ·have Td:xs.length=n:=(by simpa using Hh.1);have Rl:∀j u,xs[j]? =some u->w.cell? ((⟨g,0,none⟩:Addr).add j)=some u:=Hh.cells (g:=g) rfl;have FT:=Lib.run_append_grow_string (P:=P) w t u ty e i (.int .u8 0) ht hu hi hz ⟨g,0,none⟩ n cap xs (by rw[Ge];simpa using Td) Rl s (by omega) (by omega) (by rw[NE];exact growslice_fits (by omega) (by omega));rw[hr]at FT;injection FT with hv _;rw[hv];exact .inr rfl
theorem jq{ops:Array Oper}{rest:List Oper}{o:Oper}{a:Act}{Q:Exit->Act->World->Prop}(Wp:o.guard=none)(sl x:Operand)(t u:TypeId)
  (ho:o.op=.call {callee:=.builtin .append,args:= #[sl,x],argTypes:= #[t,u]})
  (base:Nat) (e:TypeId) (i:TypeInfo) (ht:P.underlying t=some (.slice e)) (hu:P.underlying u=some .string) (hi:P.info? e=some i) (hz:i.zero=some (.int .u8 0))
  (Ge:i.size=1) (NE:i.bytes=1)
  (v:Value) (n:Nat) (xs:List Value) (hs:a.eval sl=v) (Hh:w.ownsRow base e 1 v n xs) (s:BA) (hx:a.eval x=.string s)
  (WZ:n+s.size<=maxLen) (FC:n+s.size<=140737488355328) (FN:base<=w.heap.size)
  (h:∀A' c' w',w'.ownsRow base e 1 (.slice A' (n+s.size) c') (n+s.size) (xs++(sb s).map bv)->w.grownBy w' v.ownBlock->(A'.map (·.block)=v.ownBlock\/A'.map (·.block)=some w.heap.size)->wpList P ops Q rest (a.put o.dst (.slice A' (n+s.size) c')) w'):wpList P ops Q (o::rest) a w:=by
 refine wpList_plain Wp fun K hK=> ?_;obtain⟨v',w',hr,h2,h3,h4⟩:=ZX (P:=P) w base t u o.type e i ht hu hi hz Ge NE v n xs Hh s WZ FC FN;obtain⟨A',c',rfl,hA⟩:=Xi h2;unfold Oper.wp execOp;simp only[ho,resolve,invoke,builtin,Sem.run_bind,Sem.run_pure,Result.andThen_ok,List.map_toArray,List.map_cons,List.map_nil,hs,hx,hr];exact hK _ _ (h A' c' w' h2 h3 (by rw[<-hA];exact h4))
theorem ZW{ops:Array Oper}{rest:List Oper}{d:Option Tmp}{ty:TypeId}{pos:String}{after:Array Edge}{x:Operand}{a:Act}{Q:Exit->Act->World->Prop}{src dst e:TypeId}
  (hs:P.underlying src=some .string) (hd:P.underlying dst=some (.slice e)) (he:P.underlying e=some (.int .u8)) (s:BA) (hx:a.eval x=.string s)
  (h:∀A c w',Rd w' 1 A s.size ((sb s).map bv)->Old w w' ->Av (fun k=>k<w.heap.size) s.size A->wpList P ops Q rest (a.put d (.slice A s.size c)) w'):
  wpList P ops Q (⟨d,.convert src dst x,ty,pos,after,none⟩::rest) a w:=by
 refine wpList_plain rfl fun K hK=> ?_;have hr:=Lib.run_convert_string_bytes (P:=P) w src dst e s hs hd he;unfold Oper.wp execOp;simp only[hx,hr,Sem.run_bind,Sem.run_pure,Result.andThen_ok];refine hK _ _ (h _ _ _ ⟨?_,fun _=>⟨_,_,rfl,fun j u hu=> ?_⟩⟩ ?_ ?_)
 ·rw[jK7,jB,Nat.mul_one]
 ·rw[jM1]at hu;obtain⟨b,hb,rfl⟩:=jM4 hu;have hj:j<s.size:=by
   rw[<-jB];exact(jM5 hb).1
  simp only[Nat.zero_add];rw[Lib.bytesWorld_cell w e s j hj];unfold sb at hb;simp[bv,List.getD,hb]
 ·exact⟨by simp[Lib.bytesWorld,World.freeze,World.alloc,World.drew,-World.alloc_eq,-World.drew_eq],by simp[Lib.bytesWorld,World.freeze,World.alloc,World.drew,-World.alloc_eq,-World.drew_eq],
   by simp[Lib.bytesWorld,World.freeze,World.alloc,World.drew,-World.alloc_eq,-World.drew_eq],by rw[Lib.bytesWorld_size];omega,fun k hk _=>Lib.bytesWorld_at_old w e s k hk⟩
 ·intro _ ad hA hlt;injection hA with hA;subst hA;exact Nat.lt_irrefl _ hlt
theorem yJ{src dst e:TypeId}(hs:P.underlying src=some (.slice e))(he:P.underlying e=some (.int .u8))(hd:P.underlying dst=some .string)
  (A:OA) (n c:Nat) (l:LB) (hr:Rd w 1 A n (l.map bv)):
  (convert src dst (.slice A n c)).run P w=.ok (.string ⟨l.toArray⟩) w:=by
 have hl:l.length=n:=(by simpa using hr.1);cases A with
 |none=>
  have h0:n=0:=by
   rcases Nat.eq_zero_or_pos n with h|h
   ·exact h
   ·obtain⟨b,o,h',_⟩:=hr.2 h;cases h'
  have:l=[]:=List.eq_nil_of_length_eq_zero (by omega);subst this;rw[run_convert_bytes_string w src dst e none n c hs he hd];rfl
 |some ad=>
  subst hl;refine run_convert_bytes_back w src dst e ad c l hs he hd (fun j hj=> ?_);obtain⟨b,o,h',hc⟩:=hr.2 (by omega);injection h' with h';subst h';rw[Addr.add_lit];exact hc j _ (by rw[jM1,jJ9 hj];rfl)
end
theorem jHa{P:Program}{ops:Array Oper}{rest:List Oper}{d:Option Tmp}{ty:TypeId}{pos:String}{after:Array Edge}{gd:Option (Nat×Bool)}{x:Operand}{a:Act}{w:World}{Q:Exit->Act->World->Prop}(src dst:TypeId)
  (h:wpList P ops Q (⟨d,.convert src dst x,ty,pos,after,gd⟩::rest) a w):wpList P ops Q (⟨d,.convert src dst x,ty,pos,after,gd⟩::rest) a w:=h
theorem jQ2(w:World)(t:TypeId)(cs:Array Value):Blk (w.alloc (.cells cs t)) w.heap.size t cs:=Blk.new w t cs
abbrev jQ3:= @IntWalk.i64_in
def Qe(c:UInt8):Bool:=decide (97<=c.toNat/\c.toNat<=122)
def yd(c:UInt8):Bool:=decide (48<=c.toNat/\c.toNat<=57)
def jS(c:UInt8):Bool:=Qe c||yd c||decide (c.toNat=95)
def resL:List LB:=[
 [116,121,112,101],[97,116,116,114,105,98,117,116,101],[115,116,97,103,101],[109,105,108,101,115,116,111,110,101],[115,116,101,112],[105,110],[111,112,101,110,115],[99,108,111,115,101,115],[114,101,97,99,104,101,100],[119,104,101,110],[114,101,111,112,101,110],
 [105,110,116],[98,111,111,108],[116,101,120,116],[116,105,109,101],[115,101,116],[111,112,116,105,111,110,97,108],[105,102],[116,104,101,110],[101,108,115,101],[111,114],[97,110,100],[110,111,116],[116,114,117,101],[102,97,108,115,101],[110,111,116,104,105,110,103],
 [104,97,115],[115,105,122,101],[106,111,105,110],[111,112,101,110],[99,108,111,99,107],[115,116,101,112,115],[109,105,110],[109,97,120],[100,101,102,97,117,108,116]]
def signL:List LB:=[[123],[125],[40],[41],[44],[59],[58],[58,61],[61],[33,61],[60],[60,61],[62],[62,61],[43],[45],[42],[47],[37]]
def jl(k:Nat)(w:LB):List LB->Nat
 |[]=>0
 |r::l=>if r=w then k else jl (k+1) w l
def yG(w:LB):Nat:=jl 23 w resL
def jc(w:LB):Nat:=jl 4 w signL
def jk(w:LB):Bool:=decide (0<w.length/\w.length<=64)&&Qe (w.headD 0)&&w.all jS
def jQ(w:LB):Bool:=jk w&&decide (yG w=0)
def yl:LB->LB
 |a::b::l=>if a=48 then yl (b::l)else a::b::l
 |l=>l
def leB:LB->LB->Bool
 |[],_=>true
 |_::_,[]=>false
 |a::x,b::y=>if a.toNat<b.toNat then true else if b.toNat<a.toNat then false else leB x y
def greatest:LB:=[57,50,50,51,51,55,50,48,51,54,56,53,52,55,55,53,56,48,55]
def jo(w:LB):Bool:=
 w.all yd&&(let v:=yl w;decide (v.length<19)||(decide (v.length=19)&&leB v greatest))
def vW(t:Nat):Bool:=decide (t=2\/t=46\/t=47\/t=3\/t=48\/t=1\/t=6\/t=4\/t=31\/(49<=t/\t<=57))
def vG(n t:Nat):Bool:=
 if n=83\/n=69 then decide (t=40\/t=45\/t=19)||vW t
 else if n=70\/n=72\/n=74 then decide (t=45\/t=19)||vW t
 else if n=75\/n=77\/n=79\/n=81 then decide (t=19)||vW t
 else if n=82 then vW t
 else if n=71 then decide (t=43)
 else if n=73 then decide (t=44)
 else if n=76 then decide ((12<=t/\t<=17)\/t=28)
 else if n=78 then decide (t=18\/t=19)
 else if n=80 then decide (20<=t/\t<=22)
 else false
def jE(n t:Nat):Bool:=
 if n=58 then decide (24<=t/\t<=27)
 else if n=59 then decide (t=39)
 else if n=60 then decide (34<=t/\t<=38)
 else if n=61 then decide (t=12)
 else if n=62 then decide (t=32)
 else if n=63 then decide (t=28)
 else if n=64 then decide (t=29)
 else if n=65 then decide (t=30)
 else if n=66 then decide (t=1)
 else if n=67\/n=84 then decide (t=8)
 else if n=68 then decide (t=1\/t=33)
 else decide (n=t)||(decide (69<=n)&&vG n t)
def kX(n:Nat):Bool:=decide (n=58\/n=59\/n=61\/n=62\/n=63\/n=64\/n=65\/n=66\/n=67\/n=68\/n=71\/n=73\/n=76\/n=78\/n=80\/n=83\/n=84)
def yE(t:Nat):List Nat:=
 if t=24 then [t,1,10,59,60,61,62,9,58]
 else if t=25 then [t,1,63,4,64,65,5,58]
 else if t=26 then [t,1,63,31,32,69,9,58]
 else if t=27 then [t,1,6,66,7,63,62,4,68,5,58]
 else []
def zU(t:Nat):List Nat:=
 if t=2\/t=46\/t=47\/t=3\/t=48\/t=1 then [t]
 else if t=6 then [t,69,7]
 else if t=4 then [t,83,5]
 else if t=49\/t=52\/t=31 then [t,6,1,7]
 else if t=53\/t=54 then [t,6,7]
 else if t=50 then [t,6,69,7]
 else if t=51\/t=55\/t=56\/t=57 then [t,6,69,8,69,7]
 else []
def kZ(n t:Nat):List Nat:=
 if n=69 then(if t=40 then [t,69,41,69,42,69]else [70])
 else if n=70 then [72,71]
 else if n=71 then [t,72,71]
 else if n=72 then [74,73]
 else if n=73 then [t,74,73]
 else if n=74 then(if t=45 then [t,74]else [75])
 else if n=75 then [77,76]
 else if n=76 then [t,77]
 else if n=77 then [79,78]
 else if n=78 then [t,79,78]
 else if n=79 then [81,80]
 else if n=80 then [t,81,80]
 else if n=81 then(if t=19 then [t,81]else [82])
 else []
def jK(n t:Nat):List Nat:=
 if jE n t=false then []
 else if n=58 then yE t
 else if n=59\/n=60 then [t]
 else if n=61\/n=62 then [t,69]
 else if n=63 then [t,1]
 else if n=64\/n=65 then [t,32,69,9]
 else if n=66 then [t,10,60,67]
 else if n=67 then [t,1,10,60,67]
 else if n=68 then(if t=33 then [t,1,9,68]else [t,11,69,9,68])
 else if n=83 then [69,84]
 else if n=84 then [t,69,84]
 else if n=82 then zU t
 else kZ n t
def kI(t:Nat):List Nat->Bool
 |[]=>false
 |n::l=>if jE n t=true then true else if kX n=true then kI t l else false
def kO(t:Nat):Nat->List Nat->Option (List Nat)
 |0,_=>none
 |_ +1,[]=>none
 |f+1,n::l=>if n=t then some l else kO t f (jK n t++l)
structure Mc where
 at_:Nat
 stack:List Nat
 fin:Nat
 from_:Nat
inductive TxR where
 |wrong (k:Nat)
 |shut (k:Nat)
 |ends (e:Nat)
def xC(c:UInt8):Bool:=yd c||decide (97<=c.toNat/\c.toNat<=102)
def jr:LB->Nat->Nat->TxR
 |[],_,e=>.ends e
 |c::l,k,e=>
  if e=4 then
   (if c.toNat=34 then .shut (k+1)else if c.toNat=92 then jr l (k+1) 5 else if c.toNat<32\/126<c.toNat then .wrong k else jr l (k+1) 4)
  else if e=5 then
   (if c.toNat=120 then jr l (k+1) 6 else if c.toNat=34\/c.toNat=92\/c.toNat=110\/c.toNat=116 then jr l (k+1) 4 else .wrong k)
  else(if xC c=false then .wrong k else jr l (k+1) (if e=7 then 4 else e+1))
def zV(st:List Nat):List LB->Nat->List LB
 |[],_=>[]
 |r::l,i=>if kI (23+i) st=true then r::zV st l (i+1)else zV st l (i+1)
def jEa(name int:Bool)(ws:List LB)(w:LB):Bool:=(name&&jk w)||(int&&jo w)||ws.any (fun r=>w.isPrefixOf r)
def zP(name int:Bool)(ws:List LB):LB->LB->Nat->Option Nat
 |_,[],_=>none
 |w,c::l,k=>if jS c=false then some k else if jEa name int ws (w++[c])=true then zP name int ws (w++[c]) l (k+1)else some k
def jj(w:LB):Nat:=if yd (w.headD 0)=true then 2 else if yG w=0 then 1 else yG w
def vH(w:LB):Bool:=(yd (w.headD 0)&&jo w)||decide (yG w≠0)||jQ w
def lfC(c:UInt8):Bool:=decide (c.toNat=10)
def kL(c:UInt8):Bool:=decide (c.toNat=32\/c.toNat=9\/c.toNat=10\/c.toNat=13)
abbrev Out:=Except Nat Mc
def vg(t:Nat)(m:Mc)(k:Nat):Out:=match kO t (m.stack.length+100) m.stack with
 |some s=>.ok {m with at_:=k,stack:=s}
 |none=>.error 1000000
def vT(m:Mc)(l:LB):Out:=
 let r:=l.takeWhile (fun c=> !lfC c)
 .ok (if r.length=l.length then{m with at_:=m.at_ +l.length,fin:=1}else{m with at_:=m.at_ +r.length})
def yR(m:Mc)(l:LB):Out:=
 match zP (kI 1 m.stack) (kI 2 m.stack) (zV m.stack resL 0) [] l m.at_ with
 |some k=>.error k
 |none=>.ok {m with at_:=m.at_ +l.length,fin:=2}
def vS(m:Mc)(l:LB):Out:=
 let w:=l.takeWhile jS
 let m1:={m with from_:=m.at_}
 if w.length<l.length/\vH w=true/\kI (jj w) m.stack=true then vg (jj w) m1 (m.at_ +w.length)else yR m1 l
def vJ(m:Mc)(l:LB):Out:=
 if kI 3 m.stack=false then .error m.at_
 else match jr (l.drop 1) (m.at_ +1) 4 with
  | .wrong k=>.error k
  | .shut k=>vg 3 {m with from_:=m.at_,fin:=0} k
  | .ends e=>.ok {m with from_:=m.at_,at_:=m.at_ +l.length,fin:=e}
def vK(m:Mc)(c:UInt8)(l:LB):Out:=
 let one:=jc [c]
 let two:=jc [c,61]
 let m1:={m with from_:=m.at_}
 if one≠0/\kI one m.stack=true then
  (if two≠0/\kI two m.stack=true/\l.headD 0=61 then vg two m1 (m.at_ +2)else vg one m1 (m.at_ +1))
 else if two=0\/kI two m.stack=false then .error m.at_
 else if l=[]then .ok {m1 with at_:=m.at_ +1,fin:=3}
 else if l.headD 0≠61 then .error (m.at_ +1)
 else vg two m1 (m.at_ +2)
def vh(m:Mc):LB->Out
 |[]=>.ok m
 |c::l=>
  if kL c=true then .ok {m with at_:=m.at_ +1}
  else if c.toNat=35 then vT m (c::l)
  else if c.toNat=34 then vJ m (c::l)
  else if jS c=true then vS m (c::l)
  else vK m c l
def Vs(src:LB):Nat->Mc->Out
 |0,m=>.ok m
 |f+1,m=>if src.length<=m.at_ then .ok m else match vh m (src.drop m.at_)with
  | .error k=>.error k
  | .ok m' =>Vs src f m'
def startM:Mc:=⟨0,[23,1,4,58,5],0,0⟩
def ka(src:LB):Out:=Vs src (src.length+1) startM
def qZ(src:LB):Option Nat:=match ka src with
 | .error k=>some k
 | .ok m=>if m.stack=[]then none else some src.length
theorem Js(w:LB):∀(l:List LB) (k:Nat),jl k w l<k+l.length+1
 |[],k=>by rw[jl];omega
 |r::l,k=>by
  rw[jl,jK6];split
  ·omega
  ·have:=Js w l (k+1);omega
theorem ku(w:LB):jc w<58:=by
 have:=Js w signL 4;have e:signL.length=19:=rfl;unfold jc;omega
theorem jDJ(w:LB):yG w<59:=by
 have:=Js w resL 23;have e:resL.length=35:=rfl;unfold yG;omega
theorem JS(w:LB):jj w<58:=by
 have:=jDJ w;unfold jj;have hJ:yG w<58:=by
  have h:=Js w resL 23;unfold yG;have e:resL.length=35:=rfl;rcases Nat.lt_or_ge (jl 23 w resL) 58 with h1|h1
  ·exact h1
  ·exfalso;have:∀(l:List LB) (k:Nat),jl k w l≠0->jl k w l<k+l.length:=by
    intro l
    induction l with
    |nil=>intro k h;rw[jl]at h;exact absurd rfl h
    |cons a l ih=>
     intro k h;rw[jl]at h⊢;rw[jK6];split
     ·omega
     ·rename_i Fa;rw[jJ5 Fa]at h;have:=ih (k+1) h;omega
   have:=this resL 23 (by omega);omega
 split
 ·omega
 ·split<;>omega
theorem Ji(t:Nat):∀(f:Nat) (l k m:List Nat),kO t f l=some k->kO t f (l++m)=some (k++m)
 |0,l,k,m,h=>by cases h
 |f+1,[],k,m,h=>by cases h
 |f+1,n::l,k,m,h=>by
  rw[jN6];rw[kO]at h⊢;split at h
  ·rename_i hn;rw[jJ6 hn];obtain rfl:=jL5 h;rfl
  ·rename_i hn;rw[jJ5 hn,<-jK1];exact Ji t f _ k m h
theorem vp(t:Nat):∀(f g:Nat) (l k:List Nat),f<=g->kO t f l=some k->kO t g l=some k
 |0,g,l,k,hg,h=>by cases h
 |f+1,0,l,k,hg,h=>by omega
 |f+1,g+1,[],k,hg,h=>by cases h
 |f+1,g+1,n::l,k,hg,h=>by
  rw[kO]at h⊢;split at h
  ·rename_i hn;rw[jJ6 hn];exact h
  ·rename_i hn;rw[jJ5 hn];exact vp t f g _ k (by omega) h
def jHG(n t:Nat):Bool:= !jE n t||(kO t 30 [n]).isSome
theorem jCQ:∀n:Fin 85,∀t:Fin 58,jHG n.val t.val=true:=by decide+kernel
theorem xE(n t:Nat)(ht:t<58)(h:jE n t=true):∃k,kO t 30 [n]=some k:=by
 by_cases hn:n<85
 ·have h1:=jCQ ⟨n,hn⟩ ⟨t,ht⟩;simp only[jHG,h,Bool.not_true,Bool.false_or]at h1;exact Option.isSome_iff_exists.1 h1
 ·exfalso;unfold jE vG at h;simp only[show¬n=58 by omega,show¬n=59 by omega,show¬n=60 by omega,show¬n=61 by omega,show¬n=62 by omega,show¬n=63 by omega,show¬n=64 by omega,show¬n=65 by omega,show¬n=66 by omega,show¬(n=67\/n=84)by omega,show¬n=68 by omega,
   show¬(n=83\/n=69)by omega,show¬(n=70\/n=72\/n=74)by omega,show¬(n=75\/n=77\/n=79\/n=81)by omega,show¬n=82 by omega,show¬n=71 by omega,show¬n=73 by omega,show¬n=76 by omega,show¬n=78 by omega,show¬n=80 by omega,show¬n=t by omega,
   if_false,decide_false,Bool.false_or,Bool.and_false]at h
  cases h
theorem zW(n t:Nat)(h:jE n t=false):jK n t=[]:=by
 rw[jK,jJ6 h]
theorem zx(n:Nat)(h:kX n=true):58<=n:=by
 have:=jM8 h;omega
theorem Ya(t:Nat)(ht:t<58):∀(st:List Nat),kI t st=true->∃k,kO t (st.length+30) st=some k
 |[],h=>by cases h
 |n::l,h=>by
  rw[kI]at h;split at h
  ·rename_i hb;obtain⟨k,hk⟩:=xE n t ht hb;have h1:=Ji t 30 [n] k l hk;exact⟨k++l,vp t 30 _ _ _ (by simp) h1⟩
  ·rename_i hb;split at h
   ·rename_i he;obtain⟨k,hk⟩:=Ya t ht l h;refine⟨k,?_⟩;rw[jK6,show l.length+1+30=(l.length+30)+1 by omega,kO];have W5:=zx n he;rw[jJ5 (by omega),zW n t (by simpa using hb),jN8];exact hk
   ·cases h
theorem KQ(t:Nat)(ht:t<58)(m:Mc)(k:Nat)(h:kI t m.stack=true):∃s,kO t (m.stack.length+100) m.stack=some s/\vg t m k=.ok {m with at_:=k,stack:=s}:=by
 obtain⟨s,hs⟩:=Ya t ht m.stack h;have h1:=vp t _ (m.stack.length+100) _ _ (by omega) hs;refine⟨s,h1,?_⟩;unfold vg;rw[h1]
theorem YX:∀(l:LB) (k e j:Nat),jr l k e=.shut j->k<j/\j<=k+l.length
 |[],k,e,j,h=>by rw[jr]at h;cases h
 |c::l,k,e,j,h=>by
  rw[jr]at h;rw[jK6];have ih:=fun e' =>YX l (k+1) e' j;split at h
  ·split at h
   ·injection h with h;omega
   ·split at h
    ·have:=ih _ h;omega
    ·split at h
     ·cases h
     ·have:=ih _ h;omega
  ·split at h
   ·split at h
    ·have:=ih _ h;omega
    ·split at h
     ·have:=ih _ h;omega
     ·cases h
   ·split at h
    ·cases h
    ·have:=ih _ h;omega
theorem KR{t:Nat}{m m' :Mc}{k:Nat}(h:vg t m k=.ok m'):m'.at_=k:=by
 unfold vg at h;split at h
 ·injection h with h;rw[<-h]
 ·cases h
theorem vo(p:UInt8->Bool)(l:LB):(l.takeWhile p).length<=l.length:=(List.takeWhile_sublist p).length_le
theorem kt(p:UInt8->Bool)(c:UInt8)(l:LB)(h:p c=true):0<((c::l).takeWhile p).length:=by
 rw[List.takeWhile_cons,jJ6 h];simp
theorem YE{m m' :Mc}{c:UInt8}{l:LB}(h:vh m (c::l)=.ok m'):m.at_ <m'.at_ /\m'.at_ <=m.at_ +(c::l).length:=by
 have hl:(c::l).length=l.length+1:=jK6;rw[vh]at h;split at h
 ·injection h with h;rw[<-h];simp only;omega
 ·split at h
  ·rename_i hc;unfold vT at h;simp only at h;injection h with h;have h1:=vo (fun c=> !lfC c) (c::l);have h2:=kt (fun c=> !lfC c) c l (by simp only[lfC];rw[jK3 (by omega)];rfl);split at h
   ·rw[<-h];simp only;omega
   ·rw[<-h];simp only;omega
  ·split at h
   ·unfold vJ at h;split at h
    ·cases h
    ·split at h
     ·cases h
     ·rename_i j hj;have h1:=KR h;have h2:=YX _ _ _ _ hj;rw[List.drop_one,List.tail_cons]at h2;omega
     ·injection h with h;rw[<-h];simp only;omega
   ·split at h
    ·rename_i hw;have h1:=vo jS (c::l);have h2:=kt jS c l hw;unfold vS at h;simp only at h;split at h
     ·have h3:=KR h;omega
     ·unfold yR at h;split at h
      ·cases h
      ·injection h with h;rw[<-h];simp only;omega
    ·unfold vK at h;simp only at h;split at h
     ·split at h
      ·rename_i hh;have h3:=KR h;have:l≠ []:=fun e=>by rw[e]at hh;exact absurd hh.2.2 (by decide)
       have:=List.length_pos_iff.2 this;omega
      ·have h3:=KR h;omega
     ·split at h
      ·cases h
      ·split at h
       ·injection h with h;rw[<-h];simp only;omega
       ·rename_i Fa;have:=List.length_pos_iff.2 Fa;split at h
        ·cases h
        ·have h3:=KR h;omega
inductive Goes:Mc->LB->Mc->LB->Prop
 |refl (m:Mc) (l:LB):Goes m l m l
 |step {m m1 m' :Mc} {c:UInt8} {l l' :LB}:vh m (c::l)=.ok m1->Goes m1 ((c::l).drop (m1.at_ -m.at_)) m' l' ->Goes m (c::l) m' l'
theorem Goes.trans{m m1 m2:Mc}{l l1 l2:LB}(h:Goes m l m1 l1)(k:Goes m1 l1 m2 l2):Goes m l m2 l2:=by
 induction h with
 |refl=>exact k
 |step h1 _ ih=>exact .step h1 (ih k)
theorem ZA(t:Nat):∀(l m:List Nat),kI t l=true->kI t (l++m)=true
 |[],m,h=>by cases h
 |n::l,m,h=>by
  rw[jN6,kI];rw[kI]at h;split at h
  ·rename_i hb;rw[jJ6 hb]
  ·rename_i hb;rw[jJ5 hb];split at h
   ·rename_i he;rw[jJ6 he];exact ZA t l m h
   ·cases h
theorem Kg(t n:Nat)(l:List Nat)(h:jE n t=false)(k:kX n=false):kI t (n::l)=false:=by
 rw[kI,jJ5 (by rw[h];decide),jJ5 (by rw[k];decide)]
theorem UZ(m:Mc)(c:UInt8)(l:LB)(t:Nat)(hb:kL c=false)(h5:¬c.toNat=35)(h4:¬c.toNat=34)(hw:jS c=false)(h1:jc [c]=t)(h2:jc [c,61]=0)(hm:kI t m.stack=false):vh m (c::l)=.error m.at_:=by
 rw[vh,jJ5 (by rw[hb];decide),jJ5 h5,jJ5 h4,jJ5 (by rw[hw];decide)];unfold vK;simp only[h1,h2];rw[jJ5 (fun e=>by rw[hm]at e;exact absurd e.2 (by decide)),jJ6 (.inl trivial)]
theorem Goes.one{m m1 m' :Mc}{l0 l l' :LB}(n:Nat)(h:vh m l0=.ok m1)(hn:m1.at_=m.at_ +n)(h0:l0≠ [])(hl:l0.drop n=l)(k:Goes m1 l m' l'):Goes m l0 m' l' :=by
 cases l0 with
 |nil=>exact absurd rfl h0
 |cons c l1=>exact .step h (by rw[hn,Nat.add_sub_cancel_left,hl];exact k)
end Go.Proofs.YtmmjcbbogokmfaaGreatDoor

import Derived.WalkKit
import Derived.WalkSpells
import Derived.WalkLawsBesides
import Derived.Maps.AppendAt
import Derived.Deep.AppendLies
import Derived.Deep.Draws
import Derived.Deep.RegionHeld3
import Derived.Deep.DrawnRows
import Derived.Deep.QuietTactic
import Derived.BigQuiet
import Derived.Lib.Hide
import Derived.Lib.AppendStr
import Derived.Lib.ConvBytes
import Derived.Laws.IdiomStrings
import Derived.Deep.RegionLaw
import Derived.IntWalk
set_option maxRecDepth 100000
set_option maxHeartbeats 25600000
namespace Go.Proofs.Tryz
end Go.Proofs.Tryz
namespace Go.Proofs.YtifbhcfdealfaaaGreatDoor
theorem G {p : Prop} (h : p) : RowKit.Hid p := Lib.hid h
abbrev LB := List UInt8
abbrev OA := Option Addr
abbrev BA := ByteArray
theorem jJ1 {A : Type} {l : List A} {i : Nat} {a : A} : l.toArray.setIfInBounds i a = (l.set i a).toArray := List.setIfInBounds_toArray ..
theorem jJ2 {A : Type} {x : A} {l : List A} {a : A} : (x :: l).set 0 a = a :: l := rfl
theorem jJ3 {A : Type} {x : A} {l : List A} {a : A} {n : Nat} : (x :: l).set (n + 1) a = x :: l.set n a := rfl
theorem jJ4 {A : Type} {l m : List A} : (l ++ m).length = l.length + m.length := List.length_append
theorem jJ5 {c : Prop} {i : Decidable c} (h : ¬c) {A : Sort _} {t e : A} : ite c t e = e := if_neg h
theorem jJ6 {c : Prop} {i : Decidable c} (h : c) {A : Sort _} {t e : A} : ite c t e = t := if_pos h
theorem jJ7 {A : Type} {l : List A} {i : Nat} : l.toArray[i]? = l[i]? := List.getElem?_toArray
theorem jJ8 {A : Type} {l : List A} : l.toArray.size = l.length := List.size_toArray
theorem jJ9 {A : Type} {l : List A} {i : Nat} (h : i < l.length) : l[i]? = some l[i] := List.getElem?_eq_getElem h
theorem jK1 {A : Type} (l m n : List A) : l ++ m ++ n = l ++ (m ++ n) := List.append_assoc l m n
theorem jK2 {A : Type} {l : List A} {i : Nat} (h : i < l.length) : l.take (i + 1) = l.take i ++ [l[i]] := List.take_succ_eq_append_getElem h
theorem jK3 {p : Prop} {i : Decidable p} (h : ¬p) : decide p = false := decide_eq_false h
theorem jK4 {A : Type} {i : Nat} {l : List A} (h : l.length <= i) : l.take i = l := List.take_of_length_le h
theorem jK6 {A : Type} {x : A} {l : List A} : (x :: l).length = l.length + 1 := List.length_cons
theorem jK7 {A B : Type} {l : List A} (f : A -> B) : (l.map f).length = l.length := List.length_map f
theorem jK8 {A : Type} {i : Nat} {l : List A} : (l.drop i).length = l.length - i := List.length_drop
theorem jK9 {A : Type} {i : Nat} {l : List A} : (l.take i).length = min i l.length := List.length_take
theorem jL1 (n : Nat) : (n : Int).toNat = n := Int.toNat_natCast n
theorem jL2 {A B : Type} (a : A) (f : A -> Option B) : (some a).bind f = f a := Option.bind_some a f
theorem jL3 (n : Nat) : n <= n := Nat.le_refl n
theorem jL4 {n m k : Nat} : n <= m -> m <= k -> n <= k := Nat.le_trans
theorem jL5 {A : Type} {a b : A} : some a = some b -> a = b := Option.some.inj
theorem jL6 {A : Type} {l : List A} {n : Nat} (h : n < l.length) : l[n] ∈ l := List.getElem_mem h
theorem jL7 {A : Type} {a b : A} : a ∈ [b] ↔ a = b := List.mem_singleton
theorem jL8 {n m k : Nat} : n < m -> m <= k -> n < k := Nat.lt_of_lt_of_le
theorem jL9 {A B : Type} {f : A -> List B} {a : A} {l : List A} : (a :: l).flatMap f = f a ++ l.flatMap f := List.flatMap_cons
theorem jM1 {A B : Type} {f : A -> B} {l : List A} {i : Nat} : (l.map f)[i]? = Option.map f l[i]? := List.getElem?_map
theorem jM2 {A B : Type} {b : B} {x : Option A} {f : A -> Option B} (h : x.bind f = some b) : ∃ a, x = some a /\ f a = some b := Option.bind_eq_some_iff.1 h
theorem jM3 {A : Type} [BEq A] [LawfulBEq A] {a b : A} (h : a ≠ b) : (a == b) = false := beq_eq_false_iff_ne.2 h
theorem jM4 {A B : Type} {b : B} {x : Option A} {f : A -> B} (h : Option.map f x = some b) : ∃ a, x = some a /\ f a = b := Option.map_eq_some_iff.1 h
theorem jM5 {A : Type} {i : Nat} {a : A} {l : List A} (h : l[i]? = some a) : ∃ h : i < l.length, l[i] = a := List.getElem?_eq_some_iff.1 h
theorem jM6 {A : Type} {a : A} {s t : List A} (h : a ∈ s ++ t) : a ∈ s \/ a ∈ t := List.mem_append.1 h
theorem jM7 {A : Type} {a b : A} (h : a ∈ [b]) : a = b := List.mem_singleton.1 h
theorem jM8 {p : Prop} [Decidable p] (h : decide p = true) : p := of_decide_eq_true h
theorem jM9 {A : Type} {i : Nat} {l : List A} (h : i < l.length) : l.drop i = l[i] :: l.drop (i + 1) := List.drop_eq_getElem_cons h
theorem jN1 {A : Type} (y : A) {a : A} {l : List A} (h : a ∈ l) : a ∈ y :: l := List.mem_cons_of_mem y h
theorem jN2 {A : Type} : ([] : List A).length = 0 := rfl
theorem jN3 {A B : Type} {f : A -> B} {l₁ l₂ : List A} : List.map f (l₁ ++ l₂) = List.map f l₁ ++ List.map f l₂ := List.map_append
theorem jN4 {A : Type} {a b : A} {l : List A} (h : a ∈ b :: l) : a = b \/ a ∈ l := List.mem_cons.1 h
theorem jN5 {A B : Type} {f : A -> List B} {l m : List A} : (l ++ m).flatMap f = l.flatMap f ++ m.flatMap f := List.flatMap_append
theorem jN6 {A : Type} {a : A} {l m : List A} : a :: l ++ m = a :: (l ++ m) := List.cons_append
theorem jN7 {A : Type} (l : List A) : l ++ [] = l := List.append_nil l
theorem jN8 {A : Type} (l : List A) : [] ++ l = l := List.nil_append l
theorem jK5 {p : Prop} {i : Decidable p} (h : p) : decide p = true := decide_eq_true h
open Go.Proofs.Tryz
open Go.RowKit
def bv(b:UInt8):Value:=.int .u8 (b.toNat:Int)
def sv(s:BA):Value:=.string s
theorem jB9(a:Addr)(n:Nat):(a.add n).block=a.block:=by unfold Addr.add;split<;>rfl
theorem jDy(a:Addr)(i j:Nat):(a.add i).add j=a.add (i+j):=by
 unfold Addr.add;by_cases hi:i=0<;>by_cases hj:j=0<;>simp[hi,hj,Nat.add_assoc]
structure Kp(X:Nat->Prop)(w w' :World):Prop where
 os:w'.os=w.os
 tape:w'.tape=w.tape
 output:w'.output=w.output
 size:w.heap.size<=w'.heap.size
 block:∀k,k<w.heap.size->¬X k->w'.heap[k]? =w.heap[k]?
def NoX:Nat->Prop:=fun _=>False
abbrev Old(w w' :World):Prop:=Kp NoX w w'
namespace Kp
variable{X Y:Nat->Prop}{w w1 w2:World}
theorem refl(X:Nat->Prop)(w:World):Kp X w w:=⟨rfl,rfl,rfl,jL3 _,fun _ _ _=>rfl⟩
theorem trans(h:Kp X w w1)(k:Kp Y w1 w2)(TK:∀b,b<w.heap.size->Y b->X b):Kp X w w2:=
 ⟨k.os.trans h.os,k.tape.trans h.tape,k.output.trans h.output,jL4 h.size k.size,
  fun b hb hx=>(k.block b (jL8 hb h.size) (fun hy=>hx (TK b hb hy))).trans (h.block b hb hx)⟩
theorem old(h:Kp X w w1)(k:Old w1 w2):Kp X w w2:=h.trans k (fun _ _ hf=>hf.elim)
theorem mono(h:Kp X w w1)(TK:∀b,b<w.heap.size->X b->Y b):Kp Y w w1:=
 ⟨h.os,h.tape,h.output,h.size,fun b hb hy=>h.block b hb (fun hx=>hy (TK b hb hx))⟩
theorem drew(h:Kp X w w1):Kp X w w1.drew:=⟨h.os,h.tape,h.output,h.size,h.block⟩
theorem drewN(h:Kp X w w1)(n:Nat):Kp X w (w1.drewN n):=⟨h.os,h.tape,h.output,h.size,h.block⟩
theorem alloc(h:Kp X w w1)(o:Obj):Kp X w (w1.alloc o):=
 ⟨h.os,h.tape,h.output,jL4 h.size (by simp),fun b hb hx=>(Below.heap_alloc w1 o b (jL8 hb h.size)).trans (h.block b hb hx)⟩
theorem setCell(h:Kp X w w1){p:Addr}(hp:p.block<w.heap.size->X p.block)(u:Value):Kp X w (w1.setCell p u):=
 ⟨h.os,h.tape,h.output,by simpa [World.setCell]using h.size,fun b hb hx=>(Below.heap_setCell w1 p u b (by
  rintro rfl;exact hx (hp hb))).trans (h.block b hb hx)⟩
theorem grown(h:Kp X w w1){row:Option Nat}(hg:w1.grownBy w2 row)(hr:∀k,row=some k->k<w.heap.size->X k):Kp X w w2:=
 ⟨hg.os.trans h.os,hg.tape.trans h.tape,hg.output.trans h.output,jL4 h.size hg.size,
  fun b hb hx=>(hg.block b (jL8 hb h.size) (fun e=>hx (hr b e.symm hb))).trans (h.block b hb hx)⟩
theorem below(h:Old w w1):Below w.heap.size w w1:=⟨h.os,h.tape,h.output,h.size,fun k hk=>h.block k hk (fun hf=>hf)⟩
theorem of_below(h:Below w.heap.size w w1):Kp X w w1:=⟨h.os,h.tape,h.output,h.size,fun k hk _=>h.block k hk⟩
theorem head(h:Below w.heap.size w w1)(k:Kp X w1 w2):Kp X w w2:=
 ⟨k.os.trans h.os,k.tape.trans h.tape,k.output.trans h.output,jL4 h.size k.size,
  fun b hb hx=>(k.block b (jL8 hb h.size) hx).trans (h.block b hb)⟩
end Kp
theorem jQ0(X:Nat->Prop)(w:World):Kp X w w:=Kp.refl X w
theorem jU{w:World}{p:Addr}{v:Value}(h:w.cell? p=some v):p.block<w.heap.size:=World.block_lt_of_cell? w p h
def Rd(w:World)(size:Nat)(A:OA)(n:Nat)(xs:List Value):Prop:=
 xs.length=n*size/\(0<n->∃b o,A=some ⟨b,o,none⟩/\∀j u,xs[j]? =some u->w.cell? ⟨b,o+j,none⟩=some u)
def Av(X:Nat->Prop)(n:Nat)(A:OA):Prop:=0<n->∀ad,A=some ad->¬X ad.block
section
variable{w w' :World}{X:Nat->Prop}{size n:Nat}{A:OA}{xs:List Value}
theorem Av.no(n:Nat)(A:OA):Av NoX n A:=fun _ _ _ h=>h
theorem Rd.none_:Rd w size A 0 []:=⟨by simp,fun h=>absurd h (by omega)⟩
theorem Rd.len(h:Rd w 1 A n xs):xs.length=n:=by have:=h.1;omega
theorem Rd.at_{k:Nat}(h:Rd w 1 A n xs)(hk:k<n):∃b o u,A=some ⟨b,o,none⟩/\xs[k]? =some u/\w.cell? ⟨b,o+k,none⟩=some u:=by
 obtain⟨b,o,e,hc⟩:=h.2 (by omega);have hl:k<xs.length:=by have:=h.1;omega
 exact⟨b,o,xs[k],e,jJ9 hl,hc k _ (jJ9 hl)⟩
theorem Rd.keep(h:Rd w size A n xs)(hk:0<n->∀p v,w.cell? p=some v->A.map (·.block)=some p.block->w'.cell? p=some v):Rd w' size A n xs:=
 ⟨h.1,fun hn=>by
  obtain⟨b,o,e,hc⟩:=h.2 hn;exact⟨b,o,e,fun j u hu=>hk hn _ _ (hc j u hu) (by rw[e];rfl)⟩⟩
theorem Rd.kp(h:Rd w size A n xs)(hk:Kp X w w')(ha:Av X n A):Rd w' size A n xs:=
 h.keep fun hn p v hp hA=>by
  rw[World.cell?_of_block (hk.block p.block (jU hp) ?_)]
  ·exact hp
  ·intro hx;cases A with
   |none=>simp at hA
   |some ad=>simp at hA;exact ha hn ad rfl (by rw[hA];exact hx)
theorem Rd.old(h:Rd w size A n xs)(hk:Old w w'):Rd w' size A n xs:=h.kp hk (Av.no n A)
theorem Rd.drew(h:Rd w size A n xs):Rd w.drew size A n xs:=h
theorem Rd.drewN(h:Rd w size A n xs)(k:Nat):Rd (w.drewN k) size A n xs:=h
theorem Rd.alloc(h:Rd w size A n xs)(o:Obj):Rd (w.alloc o) size A n xs:=h.old ((Kp.refl _ _).alloc o)
theorem Rd.below(h:Rd w size A n xs)(hb:Below w.heap.size w w'):Rd w' size A n xs:=h.old (Kp.of_below hb)
theorem Rd.cut(h:Rd w size A n xs){k cap:Nat}(hk:k<=n)(hc:n<=cap):
  Rd w size (if cap=k then A else A.map (·.add (k*size))) (n-k) (xs.drop (k*size)):=by
 refine⟨by rw[jK8,h.1,Nat.sub_mul],fun hn=> ?_⟩;obtain⟨b,o,rfl,Ff⟩:=h.2 (by omega);rw[jJ5 (by omega)];refine⟨b,o+k*size,by rw[Option.map_some,Addr.add_lit],fun j u hu=> ?_⟩;rw[Nat.add_assoc];exact Ff _ u (by rw[<-hu,List.getElem?_drop])
theorem Rd.take_(h:Rd w size A n xs){k:Nat}(hk:k<=n):Rd w size A k (xs.take (k*size)):=by
 refine⟨by rw[jK9,h.1];exact Nat.min_eq_left (Nat.mul_le_mul_right _ hk),fun hn=> ?_⟩;obtain⟨b,o,rfl,Ff⟩:=h.2 (by omega);refine⟨b,o,rfl,fun j u hu=>Ff j u ?_⟩;rw[List.getElem?_take]at hu;split at hu
 ·exact hu
 ·cases hu
theorem Rd.of_own{base:Nat}{e:TypeId}{c:Nat}(h:w.ownsRow base e size (.slice A n c) n xs):Rd w size A n xs:=by
 refine⟨h.1,fun hn=> ?_⟩;obtain⟨g,cap,hv,_,hlt⟩:=h.form hn;have hA:A=some ⟨g,0,none⟩:=(by injection hv);subst hA;refine⟨g,0,rfl,fun j u hu=> ?_⟩;have:=h.cells (g:=g) rfl j u hu
 rwa [Addr.add_lit]at this
theorem Rd.lt(h:Rd w size A n xs)(hs:0<size)(hn:0<n){ad:Addr}(e:A=some ad):ad.block<w.heap.size:=by
 obtain⟨b,o,e',hc⟩:=h.2 hn;have h0:0<xs.length:=by rw[h.1];exact Nat.mul_pos hn hs
 have:=jU (hc 0 xs[0] (jJ9 h0));rw[e']at e;injection e with e;subst e;exact this
theorem Rd.of_add{ad:Addr}(hl:xs.length=n*size)(hs:0<size)(hc:∀j u,xs[j]? =some u->w.cell? (ad.add j)=some u):Rd w size (some ad) n xs:=by
 refine⟨hl,fun hn=> ?_⟩;have h0:0<xs.length:=by rw[hl];exact Nat.mul_pos hn hs
 have h1:=hc 0 xs[0] (jJ9 h0);obtain⟨b,o,sp⟩:=ad;cases sp with
 |none=>exact⟨b,o,rfl,fun j u hu=>by have:=hc j u hu;rwa [Addr.add_lit]at this⟩
 |some sp=>simp[Addr.add,World.cell?]at h1;split at h1<;>cases h1
end
theorem xQ{w:World}{base:Nat}{e:TypeId}{size:Nat}{v:Value}{n:Nat}{xs:List Value}(h:w.ownsRow base e size v n xs):
  ∃A c,v=.slice A n c/\v.ownBlock=A.map (·.block):=by
 rcases h.2 with⟨rfl,rfl⟩|⟨g,cap,cur,rfl,_⟩
 ·exact⟨none,0,rfl,rfl⟩
 ·exact⟨_,_,rfl,rfl⟩
def Blk(w:World)(g:Nat)(t:TypeId)(cs:Array Value):Prop:=w.heap[g]? =some (.cells cs t (0,0))
section
variable{w w' :World}{X:Nat->Prop}{g:Nat}{t:TypeId}{cs:Array Value}
theorem Blk.lt(h:Blk w g t cs):g<w.heap.size:=by
 rcases Nat.lt_or_ge g w.heap.size with hlt|NB
 ·exact hlt
 ·unfold Blk at h;rw[Array.getElem?_eq_none NB]at h;cases h
theorem Blk.cell(h:Blk w g t cs)(i:Nat):w.cell? ⟨g,i,none⟩=cs[i]? :=cell_of_row w g i cs t (0,0) h
theorem Blk.at_(h:Blk w g t cs)(i:Nat){v:Value}(e:cs[i]? =some v):w.cell? ⟨g,i,none⟩=some v:=(h.cell i).trans e
theorem Blk.frozen(h:Blk w g t cs)(i:Nat):w.frozen? ⟨g,i,none⟩=false:=by
 unfold Blk at h;simp[World.frozen?,h]
theorem Blk.new(w:World)(t:TypeId)(cs:Array Value):Blk (w.alloc (.cells cs t)) w.heap.size t cs:=heap_alloc_new w _
theorem Blk.drew(h:Blk w g t cs):Blk w.drew g t cs:=h
theorem Blk.drewN(h:Blk w g t cs)(n:Nat):Blk (w.drewN n) g t cs:=h
theorem Blk.alloc(h:Blk w g t cs)(o:Obj):Blk (w.alloc o) g t cs:=(Below.heap_alloc w o g h.lt).trans h
theorem Blk.set_(h:Blk w g t cs)(i:Nat)(u:Value):Blk (w.setCell ⟨g,i,none⟩ u) g t (cs.setIfInBounds i u):=by
 unfold Blk at h⊢;simp[World.setCell,Array.getElem?_modify,h]
theorem Blk.far(h:Blk w g t cs){p:Addr}(hp:g≠p.block)(u:Value):Blk (w.setCell p u) g t cs:=(Below.heap_setCell w p u g hp).trans h
theorem Blk.kp(h:Blk w g t cs)(hb:Kp X w w')(hg:¬X g):Blk w' g t cs:=(hb.block g h.lt hg).trans h
theorem Blk.old(h:Blk w g t cs)(hb:Old w w'):Blk w' g t cs:=h.kp hb (fun hf=>hf)
theorem Blk.grown{row:Option Nat}(h:Blk w g t cs)(hb:w.grownBy w' row)(hg:some g≠row):Blk w' g t cs:=(hb.block g h.lt hg).trans h
theorem Blk.ne_{g' :Nat}{t' :TypeId}{cs' :Array Value}(h:Blk w g t cs)(h' :Blk w g' t' cs')(Fe:t≠t'):g≠g' :=by
 rintro rfl;unfold Blk at h h';rw[h]at h';injection h' with h';injection h' with _ ht;exact Fe ht
theorem jH{base:Nat}{e:TypeId}{size n:Nat}{v:Value}{xs:List Value}(h:w.ownsRow base e size v n xs)(hg:Blk w g t cs)(Fe:e≠t):v.ownBlock≠some g:=by
 rcases h.2 with⟨rfl,_⟩|⟨g',cap,cur,rfl,_,hh,_⟩
 ·simp[Value.ownBlock]
 ·intro he;have:g' =g:=(by simpa [Value.ownBlock]using he);subst this;exact Blk.ne_ (t:=e) hh hg Fe rfl
end
theorem jJ{X:Nat->Prop}{w w' :World}{base:Nat}{e:TypeId}{size:Nat}{v:Value}{n:Nat}{xs:List Value}(h:w.ownsRow base e size v n xs)(hk:Kp X w w')
  (hv:∀k,v.ownBlock=some k->¬X k):w'.ownsRow base e size v n xs:=by
 refine⟨h.1,?_⟩;rcases h.2 with hn|⟨g,cap,cur,rfl,hb,PE,rest⟩
 ·exact .inl hn
 ·refine .inr ⟨g,cap,cur,rfl,hb,?_,rest⟩;rw[hk.block g (Array.getElem?_eq_some_iff.1 PE).1 (hv g rfl)];exact PE
theorem jFJ{w:World}{base:Nat}{e:TypeId}{size:Nat}{v:Value}{n:Nat}{xs:List Value}(h:w.ownsRow base e size v n xs):w.ownsRow 0 e size v n xs:=by
 refine⟨h.1,?_⟩;rcases h.2 with hn|⟨g,cap,cur,rfl,hb,PE,rest⟩
 ·exact .inl hn
 ·exact .inr ⟨g,cap,cur,rfl,Nat.zero_le _,PE,rest⟩
section
variable{P:Program}(w:World)
theorem Ja(base:Nat)(t ty e:TypeId)(i:TypeInfo)(size:Nat)(ht:P.underlying t=some (.slice e))(hi:P.info? e=some i)
  (v:Value) (n:Nat) (xs:List Value) (hI:w.ownsRow base e size v n xs) (c:Nat):(Builtin.append_ #[t,t] ty #[v,.slice none 0 c]).run P w=.ok v w:=by
 rcases hI.2 with⟨rfl,rfl⟩|⟨g,cap,cur,rfl,_,_,NQ,_⟩
 ·simp[Builtin.append_,run_underlying ht,sizeOf,typeInfo,hi,Builtin.lenOf,Builtin.firstCells]
 ·simp[Builtin.append_,run_underlying ht,sizeOf,typeInfo,hi,Builtin.lenOf,Builtin.firstCells,NQ,storeCells]
theorem VM(base:Nat)(t ty e:TypeId)(i:TypeInfo)(z:Value)(size bytes:Nat)(ht:P.underlying t=some (.slice e))(hi:P.info? e=some i)(hz:i.zero=some z)
  (FT:i.size=size) (Wk:i.bytes=bytes) (LD:z.cells.size=size) (FK:0<size)
  (v:Value) (n:Nat) (xs:List Value) (hI:w.ownsRow base e size v n xs)
  (A:OA) (m c:Nat) (news:List Value) (hr:Rd w size A m news) (h1:∀u∈news,u.oneCell' =true)
  (Wz:n+m<=maxLen) (FE:(n+m)*bytes<=140737488355328) (G5:base<=w.heap.size):
  ∃v' w',(Builtin.append_ #[t,t] ty #[v,.slice A m c]).run P w=.ok v' w' /\w'.ownsRow base e size v' (n+m) (xs++news)/\w.grownBy w' v.ownBlock/\
   (v'.ownBlock=v.ownBlock\/v'.ownBlock=some w.heap.size):=by
 rcases A with _ |ad
 ·have hm:m=0:=by
   rcases Nat.eq_zero_or_pos m with h0|h0
   ·exact h0
   ·obtain⟨b,o,h,_⟩:=hr.2 h0;cases h
  subst hm;have hn:news=[]:=List.eq_nil_of_length_eq_zero (by simpa using hr.1);subst hn;exact⟨v,w,Ja w base t ty e i size ht hi v n xs hI c,by simpa using hI,World.grownBy.refl w _,.inl rfl⟩
 ·have LR:∀j u,news[j]? =some u->w.cell? (ad.add j)=some u:=by
   intro j u hu;rcases Nat.eq_zero_or_pos m with h0|h0
   ·subst h0;have hn:news=[]:=List.eq_nil_of_length_eq_zero (by simpa using hr.1);subst hn;simp at hu
   ·obtain⟨b,o,h,hc⟩:=hr.2 h0;injection h with h;subst h;rw[Addr.add_lit];exact hc j u hu
  obtain⟨v',w',Ge,h2,h3,_,h5⟩:=run_append_own_at (P:=P) w base t ty e i z size bytes ht hi hz FT Wk LD FK v n xs hI ad m c news hr.1 LR h1 Wz FE G5;exact⟨v',w',Ge,h2,h3,h5⟩
theorem zr{o:Oper}{a:Act}{K:Act->World->Prop}{Q:Exit->Act->World->Prop}(s x:Operand)(t:TypeId)
  (ho:o.op=.call {callee:=.builtin .append,args:= #[s,x],argTypes:= #[t,t]})
  (base:Nat) (e:TypeId) (i:TypeInfo) (z:Value) (size bytes:Nat) (ht:P.underlying t=some (.slice e)) (hi:P.info? e=some i) (hz:i.zero=some z)
  (FT:i.size=size) (Wk:i.bytes=bytes) (LD:z.cells.size=size) (FK:0<size)
  (v:Value) (n:Nat) (xs:List Value) (hs:a.eval s=v) (hI:w.ownsRow base e size v n xs)
  (A:OA) (m c:Nat) (news:List Value) (hx:a.eval x=.slice A m c) (hr:Rd w size A m news) (h1:∀u∈news,u.oneCell' =true)
  (Wz:n+m<=maxLen) (FE:(n+m)*bytes<=140737488355328) (G5:base<=w.heap.size)
  (h:∀A' c' w',w'.ownsRow base e size (.slice A' (n+m) c') (n+m) (xs++news)->w.grownBy w' v.ownBlock->(A'.map (·.block)=v.ownBlock\/A'.map (·.block)=some w.heap.size)->K (a.put o.dst (.slice A' (n+m) c')) w'):o.wp P a w K Q:=by
 obtain⟨v',w',Ge,h2,h3,h4⟩:=VM (P:=P) w base t o.type e i z size bytes ht hi hz FT Wk LD FK v n xs hI A m c news hr h1 Wz FE G5;obtain⟨A',c',rfl,hA⟩:=xQ h2;unfold Oper.wp execOp;simp only[ho,resolve,invoke,builtin,Sem.run_bind,Sem.run_pure,Result.andThen_ok,List.map_toArray,List.map_cons,List.map_nil,hs,hx,Ge];exact h A' c' w' h2 h3 (by rw[<-hA];exact h4)
theorem jG{ops:Array Oper}{rest:List Oper}{o:Oper}{a:Act}{Q:Exit->Act->World->Prop}(N7:o.guard=none)(s x:Operand)(t:TypeId)
  (ho:o.op=.call {callee:=.builtin .append,args:= #[s,x],argTypes:= #[t,t]})
  (base:Nat) (e:TypeId) (i:TypeInfo) (z:Value) (size bytes:Nat) (ht:P.underlying t=some (.slice e)) (hi:P.info? e=some i) (hz:i.zero=some z)
  (FT:i.size=size) (Wk:i.bytes=bytes) (LD:z.cells.size=size) (FK:0<size)
  (v:Value) (n:Nat) (xs:List Value) (hs:a.eval s=v) (hI:w.ownsRow base e size v n xs)
  (A:OA) (m c:Nat) (news:List Value) (hx:a.eval x=.slice A m c) (hr:Rd w size A m news) (h1:∀u∈news,u.oneCell' =true)
  (Wz:n+m<=maxLen) (FE:(n+m)*bytes<=140737488355328) (G5:base<=w.heap.size)
  (h:∀A' c' w',w'.ownsRow base e size (.slice A' (n+m) c') (n+m) (xs++news)->w.grownBy w' v.ownBlock->(A'.map (·.block)=v.ownBlock\/A'.map (·.block)=some w.heap.size)->wpList P ops Q rest (a.put o.dst (.slice A' (n+m) c')) w'):wpList P ops Q (o::rest) a w:=
 wpList_plain N7 fun _ hK=>zr w s x t ho base e i z size bytes ht hi hz FT Wk LD FK v n xs hs hI A m c news hx hr h1 Wz FE G5 fun A' c' w' h2 h3 h4=>hK _ _ (h A' c' w' h2 h3 h4)
theorem jl{ops:Array Oper}{o:Oper}{a:Act}{K:Act->World->Prop}{Q:Exit->Act->World->Prop}{E:Prop}(N7:o.guard=none)(s x:Operand)(t:TypeId)
  (ho:o.op=.call {callee:=.builtin .append,args:= #[s,x],argTypes:= #[t,t]})
  (base:Nat) (e:TypeId) (i:TypeInfo) (z:Value) (size bytes:Nat) (ht:P.underlying t=some (.slice e)) (hi:P.info? e=some i) (hz:i.zero=some z)
  (FT:i.size=size) (Wk:i.bytes=bytes) (LD:z.cells.size=size) (FK:0<size)
  (v:Value) (n:Nat) (xs:List Value) (hs:a.eval s=v) (hI:w.ownsRow base e size v n xs)
  (A:OA) (m c:Nat) (news:List Value) (hx:a.eval x=.slice A m c) (hr:Rd w size A m news) (h1:∀u∈news,u.oneCell' =true)
  (Wz:n+m<=maxLen) (FE:(n+m)*bytes<=140737488355328) (G5:base<=w.heap.size)
  (h:∀A' c' w',w'.ownsRow base e size (.slice A' (n+m) c') (n+m) (xs++news)->w.grownBy w' v.ownBlock->(A'.map (·.block)=v.ownBlock\/A'.map (·.block)=some w.heap.size)->K (a.put o.dst (.slice A' (n+m) c')) w'):
  if Region.wanted o (yielded ops a.tmps)=true then Oper.wp P o a w K Q else E:=by
 have hw:Region.wanted o (yielded ops a.tmps)=true:=(by simp[Region.wanted,N7]);rw[jJ6 hw];exact zr w s x t ho base e i z size bytes ht hi hz FT Wk LD FK v n xs hs hI A m c news hx hr h1 Wz FE G5 h
end
theorem Rd.one_new(w:World)(t:TypeId)(u:Value):Rd (w.alloc (.cells #[u] t)) 1 (some ⟨w.heap.size,0,none⟩) 1 [u]:=by
 refine⟨rfl,fun _=>⟨_,_,rfl,fun j v hv=> ?_⟩⟩
 match j,hv with
 |0,hv=>
  simp at hv;subst hv;simp
 |j+1,hv=>simp at hv
theorem jA(A:OA)(n c:Nat):(Value.slice A n c).ownBlock=A.map (·.block):=by cases A<;>rfl
theorem kI(v:Value)(h:v.oneCell' =true):∀u∈ [v],u.oneCell' =true:=by
 intro u hu;simp at hu;subst hu;exact h
theorem jEb(l:LB):∀u∈l.map bv,u.oneCell' =true:=by
 intro u hu;obtain⟨b,_,rfl⟩:=List.mem_map.1 hu;rfl
theorem XC(l:List BA):∀u∈l.map sv,u.oneCell' =true:=by
 intro u hu;obtain⟨b,_,rfl⟩:=List.mem_map.1 hu;rfl
def sb(s:BA):LB:=s.data.toList
theorem jB(s:BA):(sb s).length=s.size:=by
 unfold sb;rw[Array.length_toList];rfl
theorem Zy(s:BA):Lib.strCells s=(sb s).map bv:=rfl
theorem zZ(l:LB):sb ⟨l.toArray⟩=l:=rfl
theorem XP(s:BA):(⟨(sb s).toArray⟩:BA)=s:=by
 unfold sb;simp
theorem jBj{s t:BA}(h:sb s=sb t):s=t:=by rw[<-XP s,<-XP t,h]
section
variable{P:Program}(w:World)
theorem VL(base:Nat)(t u ty e:TypeId)(i:TypeInfo)(ht:P.underlying t=some (.slice e))(hu:P.underlying u=some .string)(hi:P.info? e=some i)(hz:i.zero=some (.int .u8 0))
  (FT:i.size=1) (Wk:i.bytes=1)
  (v:Value) (n:Nat) (xs:List Value) (hI:w.ownsRow base e 1 v n xs) (s:BA)
  (Wz:n+s.size<=maxLen) (FE:n+s.size<=140737488355328) (G5:base<=w.heap.size):
  ∃v' w',(Builtin.append_ #[t,u] ty #[v,.string s]).run P w=.ok v' w' /\w'.ownsRow base e 1 v' (n+s.size) (xs++(sb s).map bv)/\w.grownBy w' v.ownBlock/\
   (v'.ownBlock=v.ownBlock\/v'.ownBlock=some w.heap.size):=by
 obtain⟨v',w',hr,h2,h3,h4⟩:=Lib.run_append_own_string (P:=P) w base t u ty e i ht hu hi hz FT Wk v n xs hI s Wz FE G5;rw[Zy]at h2;refine⟨v',w',hr,h2,h3,?_⟩;have TU:n+s.size<=9223372036854775807:=by simp only[maxLen]at Wz;omega
 rcases hI.2 with⟨rfl,rfl⟩|⟨g,cap,cur,rfl,FF,hg,NQ,IF,ML,Da⟩
 ·by_cases hm:s.size=0
  ·rw[h4.2 ⟨rfl,hm⟩];exact .inl rfl
  ·have FC:=run_append_nil_string (P:=P) w t u ty e i (.int .u8 0) ht hu hi hz s (by omega) (by omega) (by rw[Wk];omega);rw[hr]at FC;injection FC with hv _;rw[hv];exact .inr rfl
 ·by_cases hroom:n+s.size<=cap
  ·have FC:=Lib.run_append_room_string (P:=P) w t u ty e i ht hu hi FT g n cap cur hg s hroom (by omega);rw[hr]at FC;injection FC with hv _;rw[hv];exact .inl rfl
  ·have Gp:xs.length=n:=(by simpa using hI.1);have Rh:∀j u,xs[j]? =some u->w.cell? ((⟨g,0,none⟩:Addr).add j)=some u:=hI.cells (g:=g) rfl;have FC:=Lib.run_append_grow_string (P:=P) w t u ty e i (.int .u8 0) ht hu hi hz ⟨g,0,none⟩ n cap xs (by rw[FT];simpa using Gp) Rh s (by omega) (by omega) (by rw[Wk];exact growslice_fits (by omega) (by omega));rw[hr]at FC;injection FC with hv _;rw[hv];exact .inr rfl
theorem xt{ops:Array Oper}{rest:List Oper}{o:Oper}{a:Act}{Q:Exit->Act->World->Prop}(N7:o.guard=none)(sl x:Operand)(t u:TypeId)
  (ho:o.op=.call {callee:=.builtin .append,args:= #[sl,x],argTypes:= #[t,u]})
  (base:Nat) (e:TypeId) (i:TypeInfo) (ht:P.underlying t=some (.slice e)) (hu:P.underlying u=some .string) (hi:P.info? e=some i) (hz:i.zero=some (.int .u8 0))
  (FT:i.size=1) (Wk:i.bytes=1)
  (v:Value) (n:Nat) (xs:List Value) (hs:a.eval sl=v) (hI:w.ownsRow base e 1 v n xs) (s:BA) (hx:a.eval x=.string s)
  (Wz:n+s.size<=maxLen) (FE:n+s.size<=140737488355328) (G5:base<=w.heap.size)
  (h:∀A' c' w',w'.ownsRow base e 1 (.slice A' (n+s.size) c') (n+s.size) (xs++(sb s).map bv)->w.grownBy w' v.ownBlock->(A'.map (·.block)=v.ownBlock\/A'.map (·.block)=some w.heap.size)->wpList P ops Q rest (a.put o.dst (.slice A' (n+s.size) c')) w'):wpList P ops Q (o::rest) a w:=by
 refine wpList_plain N7 fun K hK=> ?_;obtain⟨v',w',hr,h2,h3,h4⟩:=VL (P:=P) w base t u o.type e i ht hu hi hz FT Wk v n xs hI s Wz FE G5;obtain⟨A',c',rfl,hA⟩:=xQ h2;unfold Oper.wp execOp;simp only[ho,resolve,invoke,builtin,Sem.run_bind,Sem.run_pure,Result.andThen_ok,List.map_toArray,List.map_cons,List.map_nil,hs,hx,hr];exact hK _ _ (h A' c' w' h2 h3 (by rw[<-hA];exact h4))
theorem VJ{ops:Array Oper}{rest:List Oper}{d:Option Tmp}{ty:TypeId}{pos:String}{after:Array Edge}{x:Operand}{a:Act}{Q:Exit->Act->World->Prop}{src dst e:TypeId}
  (hs:P.underlying src=some .string) (hd:P.underlying dst=some (.slice e)) (he:P.underlying e=some (.int .u8)) (s:BA) (hx:a.eval x=.string s)
  (h:∀A c w',Rd w' 1 A s.size ((sb s).map bv)->Old w w' ->Av (fun k=>k<w.heap.size) s.size A->wpList P ops Q rest (a.put d (.slice A s.size c)) w'):
  wpList P ops Q (⟨d,.convert src dst x,ty,pos,after,none⟩::rest) a w:=by
 refine wpList_plain rfl fun K hK=> ?_;have hr:=Lib.run_convert_string_bytes (P:=P) w src dst e s hs hd he;unfold Oper.wp execOp;simp only[hx,hr,Sem.run_bind,Sem.run_pure,Result.andThen_ok];refine hK _ _ (h _ _ _ ⟨?_,fun _=>⟨_,_,rfl,fun j u hu=> ?_⟩⟩ ?_ ?_)
 ·rw[jK7,jB,Nat.mul_one]
 ·rw[jM1]at hu;obtain⟨b,hb,rfl⟩:=jM4 hu;have hj:j<s.size:=by
   rw[<-jB];exact(jM5 hb).1
  simp only[Nat.zero_add];rw[Lib.bytesWorld_cell w e s j hj];unfold sb at hb;simp[bv,List.getD,hb]
 ·exact⟨by simp[Lib.bytesWorld,World.freeze,World.alloc,World.drew,-World.alloc_eq,-World.drew_eq],by simp[Lib.bytesWorld,World.freeze,World.alloc,World.drew,-World.alloc_eq,-World.drew_eq],
   by simp[Lib.bytesWorld,World.freeze,World.alloc,World.drew,-World.alloc_eq,-World.drew_eq],by rw[Lib.bytesWorld_size];omega,fun k hk _=>Lib.bytesWorld_at_old w e s k hk⟩
 ·intro _ ad hA hlt;injection hA with hA;subst hA;exact Nat.lt_irrefl _ hlt
theorem vm{src dst e:TypeId}(hs:P.underlying src=some (.slice e))(he:P.underlying e=some (.int .u8))(hd:P.underlying dst=some .string)
  (A:OA) (n c:Nat) (l:LB) (hr:Rd w 1 A n (l.map bv)):
  (convert src dst (.slice A n c)).run P w=.ok (.string ⟨l.toArray⟩) w:=by
 have hl:l.length=n:=(by simpa using hr.1);cases A with
 |none=>
  have h0:n=0:=by
   rcases Nat.eq_zero_or_pos n with h|h
   ·exact h
   ·obtain⟨b,o,h',_⟩:=hr.2 h;cases h'
  have:l=[]:=List.eq_nil_of_length_eq_zero (by omega);subst this;rw[run_convert_bytes_string w src dst e none n c hs he hd];rfl
 |some ad=>
  subst hl;refine run_convert_bytes_back w src dst e ad c l hs he hd (fun j hj=> ?_);obtain⟨b,o,h',hc⟩:=hr.2 (by omega);injection h' with h';subst h';rw[Addr.add_lit];exact hc j _ (by rw[jM1,jJ9 hj];rfl)
end
theorem jDn{P:Program}{ops:Array Oper}{rest:List Oper}{d:Option Tmp}{ty:TypeId}{pos:String}{after:Array Edge}{gd:Option (Nat×Bool)}{x:Operand}{a:Act}{w:World}{Q:Exit->Act->World->Prop}(src dst:TypeId)
  (h:wpList P ops Q (⟨d,.convert src dst x,ty,pos,after,gd⟩::rest) a w):wpList P ops Q (⟨d,.convert src dst x,ty,pos,after,gd⟩::rest) a w:=h
theorem jQ2(w:World)(t:TypeId)(cs:Array Value):Blk (w.alloc (.cells cs t)) w.heap.size t cs:=Blk.new w t cs
abbrev jQ3:= @IntWalk.i64_in
def Zr(c:UInt8):Bool:=decide (97<=c.toNat/\c.toNat<=122)
def yU(c:UInt8):Bool:=decide (48<=c.toNat/\c.toNat<=57)
def jR(c:UInt8):Bool:=Zr c||yU c||decide (c.toNat=95)
def resL:List LB:=[
 [116,121,112,101],[97,116,116,114,105,98,117,116,101],[115,116,97,103,101],[109,105,108,101,115,116,111,110,101],[115,116,101,112],[105,110],[111,112,101,110,115],[99,108,111,115,101,115],[114,101,97,99,104,101,100],[119,104,101,110],[114,101,111,112,101,110],
 [105,110,116],[98,111,111,108],[116,101,120,116],[116,105,109,101],[115,101,116],[111,112,116,105,111,110,97,108],[105,102],[116,104,101,110],[101,108,115,101],[111,114],[97,110,100],[110,111,116],[116,114,117,101],[102,97,108,115,101],[110,111,116,104,105,110,103],
 [104,97,115],[115,105,122,101],[106,111,105,110],[111,112,101,110],[99,108,111,99,107],[115,116,101,112,115],[109,105,110],[109,97,120],[100,101,102,97,117,108,116]]
def signL:List LB:=[[123],[125],[40],[41],[44],[59],[58],[58,61],[61],[33,61],[60],[60,61],[62],[62,61],[43],[45],[42],[47],[37]]
def jq(k:Nat)(w:LB):List LB->Nat
 |[]=>0
 |r::l=>if r=w then k else jq (k+1) w l
def vO(w:LB):Nat:=jq 23 w resL
def jf(w:LB):Nat:=jq 4 w signL
def ji(w:LB):Bool:=decide (0<w.length/\w.length<=64)&&Zr (w.headD 0)&&w.all jR
def kY(w:LB):Bool:=ji w&&decide (vO w=0)
def yD:LB->LB
 |a::b::l=>if a=48 then yD (b::l)else a::b::l
 |l=>l
def leB:LB->LB->Bool
 |[],_=>true
 |_::_,[]=>false
 |a::x,b::y=>if a.toNat<b.toNat then true else if b.toNat<a.toNat then false else leB x y
def yJ:LB:=[57,50,50,51,51,55,50,48,51,54,56,53,52,55,55,53,56,48,55]
def jZ(w:LB):Bool:=
 w.all yU&&(let v:=yD w;decide (v.length<19)||(decide (v.length=19)&&leB v yJ))
def yC(t:Nat):Bool:=decide (t=2\/t=46\/t=47\/t=3\/t=48\/t=1\/t=6\/t=4\/t=31\/(49<=t/\t<=57))
def km(n t:Nat):Bool:=
 if n=83\/n=69 then decide (t=40\/t=45\/t=19)||yC t
 else if n=70\/n=72\/n=74 then decide (t=45\/t=19)||yC t
 else if n=75\/n=77\/n=79\/n=81 then decide (t=19)||yC t
 else if n=82 then yC t
 else if n=71 then decide (t=43)
 else if n=73 then decide (t=44)
 else if n=76 then decide ((12<=t/\t<=17)\/t=28)
 else if n=78 then decide (t=18\/t=19)
 else if n=80 then decide (20<=t/\t<=22)
 else false
def jE(n t:Nat):Bool:=
 if n=58 then decide (24<=t/\t<=27)
 else if n=59 then decide (t=39)
 else if n=60 then decide (34<=t/\t<=38)
 else if n=61 then decide (t=12)
 else if n=62 then decide (t=32)
 else if n=63 then decide (t=28)
 else if n=64 then decide (t=29)
 else if n=65 then decide (t=30)
 else if n=66 then decide (t=1)
 else if n=67\/n=84 then decide (t=8)
 else if n=68 then decide (t=1\/t=33)
 else decide (n=t)||(decide (69<=n)&&km n t)
def vw(n:Nat):Bool:=decide (n=58\/n=59\/n=61\/n=62\/n=63\/n=64\/n=65\/n=66\/n=67\/n=68\/n=71\/n=73\/n=76\/n=78\/n=80\/n=83\/n=84)
def vW(t:Nat):List Nat:=
 if t=24 then [t,1,10,59,60,61,62,9,58]
 else if t=25 then [t,1,63,4,64,65,5,58]
 else if t=26 then [t,1,63,31,32,69,9,58]
 else if t=27 then [t,1,6,66,7,63,62,4,68,5,58]
 else []
def JT(t:Nat):List Nat:=
 if t=2\/t=46\/t=47\/t=3\/t=48\/t=1 then [t]
 else if t=6 then [t,69,7]
 else if t=4 then [t,83,5]
 else if t=49\/t=52\/t=31 then [t,6,1,7]
 else if t=53\/t=54 then [t,6,7]
 else if t=50 then [t,6,69,7]
 else if t=51\/t=55\/t=56\/t=57 then [t,6,69,8,69,7]
 else []
def jx(n t:Nat):List Nat:=
 if n=69 then(if t=40 then [t,69,41,69,42,69]else [70])
 else if n=70 then [72,71]
 else if n=71 then [t,72,71]
 else if n=72 then [74,73]
 else if n=73 then [t,74,73]
 else if n=74 then(if t=45 then [t,74]else [75])
 else if n=75 then [77,76]
 else if n=76 then [t,77]
 else if n=77 then [79,78]
 else if n=78 then [t,79,78]
 else if n=79 then [81,80]
 else if n=80 then [t,81,80]
 else if n=81 then(if t=19 then [t,81]else [82])
 else []
def jX(n t:Nat):List Nat:=
 if jE n t=false then []
 else if n=58 then vW t
 else if n=59\/n=60 then [t]
 else if n=61\/n=62 then [t,69]
 else if n=63 then [t,1]
 else if n=64\/n=65 then [t,32,69,9]
 else if n=66 then [t,10,60,67]
 else if n=67 then [t,1,10,60,67]
 else if n=68 then(if t=33 then [t,1,9,68]else [t,11,69,9,68])
 else if n=83 then [69,84]
 else if n=84 then [t,69,84]
 else if n=82 then JT t
 else jx n t
def jz(t:Nat):List Nat->Bool
 |[]=>false
 |n::l=>if jE n t=true then true else if vw n=true then jz t l else false
def kB(t:Nat):Nat->List Nat->Option (List Nat)
 |0,_=>none
 |_ +1,[]=>none
 |f+1,n::l=>if n=t then some l else kB t f (jX n t++l)
structure Mc where
 at_:Nat
 stack:List Nat
 fin:Nat
 from_:Nat
section
variable{P:Program}
theorem jE8{t:TypeId}(ht:P.underlying t=some (.slice (P.elem t))){s:Nat}(hs:∀w,(sizeOf (P.elem t)).run P w=.ok s w)(A:OA)(len c l h:Nat)(kl kh:IntKind)(L H:Int)(hL:L=l)(hH:H=h)(Iz:l<=h)(hh:h<=c)(w:World):
  (Instr.slice t (.slice A len c) (some (.int kl L)) (some (.int kh H)) none).run P w=.ok (.slice (if c=l then A else A.map (·.add (l*s))) (h-l) (c-l)) w:=by
 subst hL;subst hH;rw[run_slice_lh (ht:=ht) (h0:=by omega) (h1:=by omega) (h2:=by omega),hs];simp[sliced]
theorem jBK{t:TypeId}(ht:P.underlying t=some (.slice (P.elem t))){s:Nat}(hs:∀w,(sizeOf (P.elem t)).run P w=.ok s w)(A:OA)(len c h:Nat)(kh:IntKind)(H:Int)(hH:H=h)(hh:h<=c)(w:World):
  (Instr.slice t (.slice A len c) none (some (.int kh H)) none).run P w=.ok (.slice A h c) w:=by
 subst hH;rw[run_slice_h (ht:=ht) (h0:=by omega) (h2:=by omega),hs];simp[sliced];intro _;cases A<;>rfl
theorem jHA{t:TypeId}(ht:P.underlying t=some (.slice (P.elem t))){s:Nat}(hs:∀w,(sizeOf (P.elem t)).run P w=.ok s w)(A:OA)(len c l:Nat)(kl:IntKind)(L:Int)(hL:L=l)(hl:l<=len)(w:World):
  (Instr.slice t (.slice A len c) (some (.int kl L)) none none).run P w=.ok (.slice (if c=l then A else A.map (·.add (l*s))) (len-l) (c-l)) w:=by
 subst hL;rw[run_slice_l (ht:=ht) (h0:=by omega) (h1:=by omega),hs];simp[sliced]
end
end Go.Proofs.YtifbhcfdealfaaaGreatDoor

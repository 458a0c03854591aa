import Derived.Test.YtifbhcfdealfaaaGreatDoorMl45
import Derived.Test.YtifbhcfdealfaaaGreatDoorMl46
set_option maxRecDepth 100000
set_option maxHeartbeats 25600000
namespace Go.Proofs.YtifbhcfdealfaaaGreatDoor
open Go.Proofs.Tryz
open Go.RowKit
theorem jIN{w:World}{g base:Nat}{t:TypeId}{xs:List Value}(h:Blk w g t xs.toArray)(hb:base<=g)(hm:xs.length<=maxLen):w.ownsRow base t 1 (.slice (some ⟨g,0,none⟩) xs.length xs.length) xs.length xs:=by
 refine⟨by simp,.inr ⟨g,xs.length,xs.toArray,rfl,hb,h,jL3 _,hm,by simp,by simp⟩⟩
structure BRow(w:World)(base:Nat)(l:LB)(A:OA)(c:Nat):Prop where
 own:w.ownsRow base 5 1 (.slice A l.length c) l.length (l.map bv)
 le:base<=w.heap.size
def From(base:Nat):Nat->Prop:=fun k=>base<=k
section
variable{w w' :World}{base:Nat}{l:LB}{A:OA}{c:Nat}
theorem BRow.rd(h:BRow w base l A c):Rd w 1 A l.length (l.map bv):=Rd.of_own h.own
theorem BRow.old(h:BRow w base l A c)(ho:Old w w'):BRow w' base l A c:=⟨jJ h.own ho (fun _ _ f=>f),jL4 h.le ho.size⟩
theorem BRow.kp{X:Nat->Prop}(h:BRow w base l A c)(ho:Kp X w w')(hx:∀k,base<=k->k<w.heap.size->¬X k):BRow w' base l A c:=by
 refine⟨jJ h.own ho (fun k e=> ?_),jL4 h.le ho.size⟩;have:=h.own.lt k e;exact hx k this.1 this.2
theorem BRow.drewN(h:BRow w base l A c)(n:Nat):BRow (w.drewN n) base l A c:=h.old ((jQ0 _ _).drewN n)
theorem BRow.alloc(h:BRow w base l A c)(o:Obj):BRow (w.alloc o) base l A c:=h.old ((jQ0 _ _).alloc o)
theorem BRow.nil_(w:World)(base:Nat)(hb:base<=w.heap.size):BRow w base [] none 0:=⟨World.ownsRow_nil _ _ _ _,hb⟩
theorem BRow.new(w:World)(l:LB)(hm:l.length<=maxLen):BRow (w.alloc (.cells (l.map bv).toArray 5)) w.heap.size l (some ⟨w.heap.size,0,none⟩) l.length:=by
 refine⟨?_,by simp⟩;have:=jIN (base:=w.heap.size) (jQ2 w 5 (l.map bv).toArray) (jL3 _) (by simpa using hm);simpa using this
theorem BRow.some_(h:BRow w base l A c)(hl:l≠ []):∃g,A=some ⟨g,0,none⟩/\base<=g:=by
 have hn:0<l.length:=List.length_pos_iff.2 hl;obtain⟨g,cap,hv,hb,_⟩:=h.own.form hn;injection hv with hv;exact⟨g,hv,hb⟩
theorem BRow.grown{A' :OA}{c' :Nat}{m:LB}{n:Nat}(h:BRow w base l A c)(hn:m.length=n){xs:List Value}(Gn:xs=m.map bv)
  (hI:w'.ownsRow base 5 1 (.slice A' (l.length+n) c') (l.length+n) (l.map bv++xs)) (hg:w.grownBy w' (Value.slice A l.length c).ownBlock):
  BRow w' base (l++m) A' c' /\Kp (From base) w w' :=by
 subst hn Gn;refine⟨⟨by rw[jJ4,jN3];exact hI,jL4 h.le hg.size⟩,?_⟩;exact(jQ0 (From base) w).grown hg (fun k e _=>(h.own.lt k e).1)
end
theorem From.old{w w1 w2:World}{base:Nat}(h:Old w w1)(hk:Kp (From base) w1 w2)(hb:w.heap.size<=base):Old w w2:=h.trans hk (fun b Gm hx=>by have:base<=b:=hx;omega)
section
variable{w:World}{ops:Array Oper}{rest:List Oper}{o:Oper}{a:Act}{Q:Exit->Act->World->Prop}
theorem jIc(s x:Operand){base:Nat}{l:LB}{A:OA}{c:Nat}(h:BRow w base l A c){B:OA}{m:LB}{d:Nat}(hr:Rd w 1 B m.length (m.map bv))(hl:l.length+m.length<=10000000000000)
  (N7:o.guard=none) (ho:o.op=.call {callee:=.builtin .append,args:= #[s,x],argTypes:= #[22,22]}) (hs:a.eval s=.slice A l.length c) (hx:a.eval x=.slice B m.length d)
  (hK:∀(out:LB) A' c' w',Hid (out=l++m)->BRow w' base out A' c' ->Kp (From base) w w' ->wpList prog ops Q rest (a.put o.dst (.slice A' out.length c')) w'):wpList prog ops Q (o::rest) a w:=by
 obtain⟨i0,hi,FJ,Fv,FU⟩:=info_parts jA7;refine jG w N7 s x 22 ho base 5 i0 (.int .u8 0) 1 1 underlying22 hi FJ Fv FU rfl (by decide) (.slice A l.length c) l.length (l.map bv) hs h.own B m.length d (m.map bv) hx hr (jEb _) (by unfold maxLen;omega) (by omega) h.le ?_;intro A' c' w' hI hg _;obtain⟨h1,h2⟩:=h.grown rfl rfl hI hg;have:=hK _ A' c' w' (G rfl) h1 h2
 rwa [jJ4]at this
theorem jI2{K:Act->World->Prop}{E:Prop}(s x:Operand){base:Nat}{l:LB}{A:OA}{c:Nat}(h:BRow w base l A c){B:OA}{m:LB}{d:Nat}(hr:Rd w 1 B m.length (m.map bv))(hl:l.length+m.length<=10000000000000)
  (N7:o.guard=none) (ho:o.op=.call {callee:=.builtin .append,args:= #[s,x],argTypes:= #[22,22]}) (hs:a.eval s=.slice A l.length c) (hx:a.eval x=.slice B m.length d)
  (hK:∀(out:LB) A' c' w',Hid (out=l++m)->BRow w' base out A' c' ->Kp (From base) w w' ->K (a.put o.dst (.slice A' out.length c')) w'):if Region.wanted o (yielded ops a.tmps)=true then Oper.wp prog o a w K Q else E:=by
 obtain⟨i0,hi,FJ,Fv,FU⟩:=info_parts jA7;refine jl w N7 s x 22 ho base 5 i0 (.int .u8 0) 1 1 underlying22 hi FJ Fv FU rfl (by decide) (.slice A l.length c) l.length (l.map bv) hs h.own B m.length d (m.map bv) hx hr (jEb _) (by unfold maxLen;omega) (by omega) h.le ?_;intro A' c' w' hI hg _;obtain⟨h1,h2⟩:=h.grown rfl rfl hI hg;have:=hK _ A' c' w' (G rfl) h1 h2
 rwa [jJ4]at this
theorem jI0(s x:Operand){base:Nat}{l:LB}{A:OA}{c:Nat}(h:BRow w base l A c){t:BA}(hl:l.length+t.size<=10000000000000)
  (N7:o.guard=none) (ho:o.op=.call {callee:=.builtin .append,args:= #[s,x],argTypes:= #[22,9]}) (hs:a.eval s=.slice A l.length c) (hx:a.eval x=.string t)
  (hK:∀(out:LB) A' c' w',Hid (out=l++sb t)->BRow w' base out A' c' ->Kp (From base) w w' ->wpList prog ops Q rest (a.put o.dst (.slice A' out.length c')) w'):wpList prog ops Q (o::rest) a w:=by
 obtain⟨i0,hi,FJ,Fv,FU⟩:=info_parts jA7;refine xt w N7 s x 22 9 ho base 5 i0 underlying22 underlying9 hi FJ Fv FU (.slice A l.length c) l.length (l.map bv) hs h.own t hx (by unfold maxLen;omega) (by omega) h.le ?_;intro A' c' w' hI hg _;obtain⟨h1,h2⟩:=h.grown (jB t) rfl hI hg;have:=hK _ A' c' w' (G rfl) h1 h2
 rwa [jJ4,jB]at this
end
section
variable{P:Program}(w:World)
theorem jIA(base:Nat)(G5:base<=w.heap.size)(e:TypeId)(z:Value)(Fv:z.cells.size=1)(n m:Nat)(xs news:List Value)(hx:xs.length=n)(hn:news.length=m)(Wz:n+m<=maxLen):
  (w.drew.alloc (.cells (xs.toArray++news.toArray++Builtin.zeroCells z.cells (grownCap w (n+m) n e-(n+m))) e)).ownsRow base e 1 (.slice (some ⟨w.heap.size,0,none⟩) (n+m) (grownCap w (n+m) n e)) (n+m) (xs++news)/\
  Old w (w.drew.alloc (.cells (xs.toArray++news.toArray++Builtin.zeroCells z.cells (grownCap w (n+m) n e-(n+m))) e)):=by
 have hlen:(xs++news).length=(n+m)*1:=(by rw[jJ4,hx,hn,Nat.mul_one]);have NB:=grownCap_ge w (n+m) n e;have IF:grownCap w (n+m) n e<=maxLen:=grownCap_le_maxLen w (n+m) n e Wz;refine⟨⟨hlen,.inr ⟨w.heap.size,_,_,rfl,G5,heap_alloc_new w.drew _,NB,IF,?_,?_⟩⟩,((jQ0 NoX w).drew).alloc _⟩
 ·simp only[Array.size_append,jJ8,size_zeroCells,Fv,hx,hn];omega
 ·simp only[Array.toList_append,jK1];rw[<-jK1,<-hlen];exact List.take_left
theorem jIH{b:Addr}{n:Nat}{xs:List Value}(hr:Rd w 1 (some b) n xs):∀j u,xs[j]? =some u->w.cell? (b.add j)=some u:=by
 intro j u hu;rcases Nat.eq_zero_or_pos n with h0|h0
 ·have:xs=[]:=List.eq_nil_of_length_eq_zero (by rw[hr.1,h0]);subst this;simp at hu
 ·obtain⟨b',o,h,hc⟩:=hr.2 h0;injection h with h;subst h;rw[Addr.add_lit];exact hc j u hu
theorem jH5{ops:Array Oper}{rest:List Oper}{o:Oper}{a:Act}{Q:Exit->Act->World->Prop}(N7:o.guard=none)(sl x:Operand)(t u:TypeId)
  (ho:o.op=.call {callee:=.builtin .append,args:= #[sl,x],argTypes:= #[t,u]})
  (base:Nat) (e:TypeId) (i:TypeInfo) (ht:P.underlying t=some (.slice e)) (hu:P.underlying u=some .string) (hi:P.info? e=some i) (hz:i.zero=some (.int .u8 0))
  (FT:i.size=1) (Wk:i.bytes=1) (b:Addr) (n:Nat) (xs:List Value) (hs:a.eval sl=.slice (some b) n n) (hr:Rd w 1 (some b) n xs) (s:BA) (hx:a.eval x=.string s) (MB:0<s.size)
  (Wz:n+s.size<=maxLen) (FE:n+s.size<=140737488355328) (G5:base<=w.heap.size)
  (h:∀A' c' w',w'.ownsRow base e 1 (.slice A' (n+s.size) c') (n+s.size) (xs++(sb s).map bv)->Old w w' ->wpList P ops Q rest (a.put o.dst (.slice A' (n+s.size) c')) w'):wpList P ops Q (o::rest) a w:=by
 refine wpList_plain N7 fun K hK=> ?_;have Gp:xs.length=n:=(by rw[hr.1,Nat.mul_one]);have Ge:=Lib.run_append_grow_string (P:=P) w t u o.type e i (.int .u8 0) ht hu hi hz b n n xs (by rw[FT,Nat.mul_one];exact Gp) (jIH w hr) s (by omega) (by simp only[maxLen]at Wz;omega) (by rw[Wk];exact growslice_fits (by omega) (by omega));have hg:=jIA w base G5 e (.int .u8 0) rfl n s.size xs (Lib.strCells s) Gp (Lib.strCells_length s) Wz;unfold Oper.wp execOp;simp only[ho,resolve,invoke,builtin,Sem.run_bind,Sem.run_pure,Result.andThen_ok,List.map_toArray,List.map_cons,List.map_nil,hs,hx,Ge];exact hK _ _ (h _ _ _ hg.1 hg.2)
theorem jH6{ops:Array Oper}{rest:List Oper}{o:Oper}{a:Act}{Q:Exit->Act->World->Prop}(N7:o.guard=none)(sl x:Operand)(t:TypeId)
  (ho:o.op=.call {callee:=.builtin .append,args:= #[sl,x],argTypes:= #[t,t]})
  (base:Nat) (e:TypeId) (i:TypeInfo) (ht:P.underlying t=some (.slice e)) (hi:P.info? e=some i) (hz:i.zero=some (.int .u8 0))
  (FT:i.size=1) (Wk:i.bytes=1) (b:Addr) (n:Nat) (xs:List Value) (hs:a.eval sl=.slice (some b) n n) (hr:Rd w 1 (some b) n xs) (ad:Addr) (m c:Nat) (news:List Value) (hx:a.eval x=.slice (some ad) m c) (hn:Rd w 1 (some ad) m news) (MB:0<m)
  (Wz:n+m<=maxLen) (FE:n+m<=140737488355328) (G5:base<=w.heap.size)
  (h:∀A' c' w',w'.ownsRow base e 1 (.slice A' (n+m) c') (n+m) (xs++news)->Old w w' ->wpList P ops Q rest (a.put o.dst (.slice A' (n+m) c')) w'):wpList P ops Q (o::rest) a w:=by
 refine wpList_plain N7 fun K hK=> ?_;have Gp:xs.length=n:=(by rw[hr.1,Nat.mul_one]);have Nj:news.length=m:=(by rw[hn.1,Nat.mul_one]);have Ge:=run_append_grow (P:=P) w t o.type e i (.int .u8 0) ht hi hz b n n xs (by rw[FT,Nat.mul_one];exact Gp) (jIH w hr) ad m c news (by rw[FT,Nat.mul_one];exact Nj) (jIH w hn) (by omega) (by simp only[maxLen]at Wz;omega) (by rw[Wk];exact growslice_fits (by omega) (by omega));have hg:=jIA w base G5 e (.int .u8 0) rfl n m xs news Gp Nj Wz;unfold Oper.wp execOp;simp only[ho,resolve,invoke,builtin,Sem.run_bind,Sem.run_pure,Result.andThen_ok,List.map_toArray,List.map_cons,List.map_nil,hs,hx,Ge];exact hK _ _ (h _ _ _ hg.1 hg.2)
end
theorem jH8:kY (sb ⟨#[116]⟩)=true:=by decide+kernel
def jH9(k n:Nat):Bool:=decide ((if k=6 then n+1 else n)<=jHx k)
theorem jI4(k:Nat):jIG k≠0:=by
 unfold jIG;split<;>decide
theorem jHl(k n:Nat)(h1:1<=k)(h9:k<=9)(n1:1<=n)(hn:n<=jHx k+3):
  (jH9 k n=true->∃t,∀(w:World) (A:OA) (m c:Nat),Sg w->Kn w->8<=w.heap.size->Rd w 1 A m ((jHo k n).map bv)->m<=c->Calls prog 12 #[.string ⟨#[116]⟩,.slice A m c] w (jBa w (jHo k n) t))
  /\(jH9 k n=false->∀(w:World) (A:OA) (m c:Nat),Sg w->Kn w->8<=w.heap.size->Rd w 1 A m ((jHo k n).map bv)->m<=c->Calls prog 12 #[.string ⟨#[116]⟩,.slice A m c] w (QJ w (jHo k n) (jHm k n) (jIG k))):=by
 obtain⟨m,r,f,hb,hm,hr,hl⟩:=jIy k n h1 h9 n1 hn;obtain⟨D,wf⟩:=jCh hr;rw[<-jJv wf]at hl;have hs:(jHo k n).length<=60000:=by
  have:jHx k<=1024:=by
   unfold jHx;split<;>decide
  have:=jIx k n (by omega);omega
 constructor
 ·intro hi;have e:jIe k n=(0,0):=by
   unfold jIe;rw[jJ6 (jM8 hi)]
  exact⟨r.tree,fun w A m' c hg hk h8 GA _=>Za w hg hk h8 A m' c _ GA hs m hb hm f r hr D wf _ jH8 0 (by rw[hl,e])⟩
 ·intro hi w A m' c hg hk h8 GA hc;have e:jIe k n=((jHm k n:Int),jIG k):=by
   unfold jIe;rw[jJ5 (of_decide_eq_false hi)]
  exact VC w hg hk h8 A m' c _ GA hc hs m hb hm f r hr D wf _ jH8 (jHm k n) (jIG k) (by rw[hl,e]) (jI4 k)
theorem jHn(n hi:Int)(h1:1<=hi)(h2:hi<=2000):∃r:Nat,1<=r/\(r:Int)<=hi/\∀w,Calls prog 18 #[.int .i64 n,.int .i64 1,.int .i64 hi] w fun e w' =>e=.returned (.int .i64 (r:Int))/\w=w' :=by
 have hb: -hi<n.tmod hi/\n.tmod hi<hi:=by
  have a:=Int.natAbs_tmod n hi;have b:=Nat.mod_lt n.natAbs (show 0<hi.natAbs by omega);omega
 by_cases hz:n.tmod hi<0
 ·obtain⟨r,hr⟩:=Int.eq_ofNat_of_zero_le (show 0<=1+(n.tmod hi+hi)by omega);refine⟨r,by omega,by omega,fun w=> ?_⟩;go_enter func18,ntmps18;go_wp2
  all_goals first|(exfalso;omega)|skip
  generalize n.tmod hi=z at*;go_ret;exact⟨rfl,rfl⟩
 ·obtain⟨r,hr⟩:=Int.eq_ofNat_of_zero_le (show 0<=1+n.tmod hi by omega);refine⟨r,by omega,by omega,fun w=> ?_⟩;go_enter func18,ntmps18;go_wp2
  all_goals first|(exfalso;omega)|skip
  generalize n.tmod hi=z at*;go_ret;exact⟨rfl,rfl⟩
def Sr(w:World)(base:Nat)(l:LB)(A:OA)(c:Nat):Prop:=BRow w base l A c\/(∃b,A=some b/\c=l.length/\Rd w 1 (some b) l.length (l.map bv)/\base<=w.heap.size)
section
variable{w w' :World}{base:Nat}{l:LB}{A:OA}{c:Nat}
theorem Sr.old(h:Sr w base l A c)(ho:Old w w'):Sr w' base l A c:=by
 rcases h with h|⟨b,rfl,rfl,hr,hb⟩
 ·exact .inl (h.old ho)
 ·exact .inr ⟨b,rfl,rfl,hr.old ho,jL4 hb ho.size⟩
theorem Sr.rd(h:Sr w base l A c):Rd w 1 A l.length (l.map bv):=by
 rcases h with h|⟨b,rfl,rfl,hr,_⟩
 ·exact h.rd
 ·exact hr
theorem jJp{ops:Array Oper}{rest:List Oper}{o:Oper}{a:Act}{Q:Exit->Act->World->Prop}(s x:Operand)(h:Sr w base l A c){t:BA}(hp:0<t.size)(hl:l.length+t.size<=10000000000000)
  (N7:o.guard=none) (ho:o.op=.call {callee:=.builtin .append,args:= #[s,x],argTypes:= #[22,9]}) (hs:a.eval s=.slice A l.length c) (hx:a.eval x=.string t)
  (hK:∀(out:LB) A' c' w',Hid (out=l++sb t)->BRow w' base out A' c' ->Kp (From base) w w' ->wpList prog ops Q rest (a.put o.dst (.slice A' out.length c')) w'):wpList prog ops Q (o::rest) a w:=by
 rcases h with h|⟨b,rfl,rfl,hr,hb⟩
 ·exact jI0 s x h hl N7 ho hs hx hK
 ·obtain⟨i0,hi,FJ,Fv,FU⟩:=info_parts jA7;refine jH5 w N7 s x 22 9 ho base 5 i0 underlying22 underlying9 hi FJ Fv FU b l.length (l.map bv) hs hr t hx hp (by unfold maxLen;omega) (by omega) hb ?_;intro A' c' w' hI F2;have e:(l++sb t).length=l.length+t.size:=(by rw[jJ4,jB]);have:=hK (l++sb t) A' c' w' (G rfl) ⟨by rw[e,jN3];exact hI,jL4 hb F2.size⟩ (F2.mono (fun _ _ f=>f.elim))
  rwa [e]at this
end
structure Sw(w0 w:World)(b:Nat)(l:LB)(A:OA)(c:Nat):Prop where
 ho:Old w0 w
 sr:Sr w w0.heap.size l A c
 le:l.length<=b
section
variable{w0 w w' :World}{b:Nat}{l:LB}{A:OA}{c:Nat}
theorem Sw.old(h:Sw w0 w b l A c)(ho:Old w w'):Sw w0 w' b l A c:=⟨jM h.ho ho,h.sr.old ho,h.le⟩
theorem jHi{ops:Array Oper}{rest:List Oper}{o:Oper}{a:Act}{Q:Exit->Act->World->Prop}(s x:Operand)(h:Sw w0 w b l A c)(t:BA)(hp:0<t.size)(Sf:t.size<=30)(hb:b<=1000000)
  (N7:o.guard=none) (ho:o.op=.call {callee:=.builtin .append,args:= #[s,x],argTypes:= #[22,9]}) (hs:a.eval s=.slice A l.length c) (hx:a.eval x=.string t)
  (hK:∀(out:LB) A' c' w',Hid (out=l++sb t)->Hid (Sw w0 w' (b+30) out A' c')->wpList prog ops Q rest (a.put o.dst (.slice A' out.length c')) w'):wpList prog ops Q (o::rest) a w:=by
 have hl:=h.le;refine jJp s x h.sr hp (by omega) N7 ho hs hx ?_;intro out A' c' w' e hB hk;exact hK out A' c' w' e (G ⟨From.old h.ho hk (jL3 _),.inl hB,by rw[e.out,jJ4,jB];omega⟩)
theorem jJo{ops:Array Oper}{rest:List Oper}{o:Oper}{a:Act}{Q:Exit->Act->World->Prop}(s x:Operand)(h:Sw w0 w b l A c){B:Addr}(m:LB){d:Nat}(hr:Rd w 1 (some B) m.length (m.map bv))(hp:0<m.length)(Sf:m.length<=30)(hb:b<=1000000)
  (N7:o.guard=none) (ho:o.op=.call {callee:=.builtin .append,args:= #[s,x],argTypes:= #[22,22]}) (hs:a.eval s=.slice A l.length c) (hx:a.eval x=.slice (some B) m.length d)
  (hK:∀(out:LB) A' c' w',Hid (out=l++m)->Hid (Sw w0 w' (b+30) out A' c')->wpList prog ops Q rest (a.put o.dst (.slice A' out.length c')) w'):wpList prog ops Q (o::rest) a w:=by
 have hl:=h.le;rcases h.sr with h1|⟨b0,rfl,rfl,Lb,RR⟩
 ·refine jIc s x h1 hr (by omega) N7 ho hs hx ?_;intro out A' c' w' e hB hk;exact hK out A' c' w' e (G ⟨From.old h.ho hk (jL3 _),.inl hB,by rw[e.out,jJ4];omega⟩)
 ·obtain⟨i0,hi,FJ,Fv,FU⟩:=info_parts jA7;refine jH6 w N7 s x 22 ho w0.heap.size 5 i0 underlying22 hi FJ Fv FU b0 l.length (l.map bv) hs Lb B m.length d (m.map bv) hx hr hp (by unfold maxLen;omega) (by omega) RR ?_;intro A' c' w' hI F2;have e:(l++m).length=l.length+m.length:=jJ4;have:=hK (l++m) A' c' w' (G rfl) (G ⟨jM h.ho F2,.inl ⟨by rw[e,jN3];exact hI,jL4 RR F2.size⟩,by omega⟩)
  rwa [e]at this
end
theorem Sw.rd{w0 w:World}{b:Nat}{l:LB}{A:OA}{c:Nat}(h:Sw w0 w b l A c):Rd w 1 A l.length (l.map bv):=h.sr.rd
theorem Sw.cap{w0 w:World}{b:Nat}{l:LB}{A:OA}{c:Nat}(h:Sw w0 w b l A c):l.length<=c:=by
 rcases h.sr with h|⟨_,_,rfl,_,_⟩
 ·exact jAS h.own
 ·exact jL3 _
theorem jH0{k n:Nat}(h6:k≠6)(h8:k≠8)(h9:k≠9):jHm k n=(jHg k n (jHx k)++jHw k).length:=by
 unfold jHm;rw[jJ5 h6,jJ5 h8,jJ5 h9]
def dgB(i:Nat):BA:=⟨(jHs i).toArray⟩
theorem jHt(a:BA)(j:Nat)(h:a.size<=10):0<(a++dgB j).size/\(a++dgB j).size<=30:=by
 have h2:(dgB j).size=2:=rfl;rw[ByteArray.size_append];omega
theorem jIK(a b:BA)(j:Nat)(h:a.size<=10)(hb:b.size<=10):0<(a++dgB j++b).size/\(a++dgB j++b).size<=30:=by
 have h2:(dgB j).size=2:=rfl;rw[ByteArray.size_append,ByteArray.size_append];omega
theorem jIa(j:Nat):(#[.int .u8 (97+(j:Int)/26% 26),.int .u8 (97+(j:Int)% 26)]:Array Value)=((jHs j).map bv).toArray:=by
 have h1:(UInt8.ofNat (97+j/26% 26)).toNat=97+j/26% 26:=by
  rw[UInt8.toNat_ofNat'];omega
 have h2:(UInt8.ofNat (97+j% 26)).toNat=97+j% 26:=by
  rw[UInt8.toNat_ofNat'];omega
 unfold jHs;simp only[List.map_cons,List.map_nil,bv,h1,h2]
 congr 2
theorem jHp(j:Nat)(W:World):(convert 22 9 (.slice (some ⟨W.heap.size,0,none⟩) 2 2)).run prog (W.alloc (.cells #[.int .u8 (97+(j:Int)/26% 26),.int .u8 (97+(j:Int)% 26)] 5))=.ok (.string (dgB j)) (W.alloc (.cells #[.int .u8 (97+(j:Int)/26% 26),.int .u8 (97+(j:Int)% 26)] 5)):=by
 rw[jIa];exact vm (P:=prog) _ underlying22 underlying5 underlying9 (some ⟨W.heap.size,0,none⟩) 2 2 (jHs j) (qL W 5 (0,0) ((jHs j).map bv) 2 rfl)
end Go.Proofs.YtifbhcfdealfaaaGreatDoor

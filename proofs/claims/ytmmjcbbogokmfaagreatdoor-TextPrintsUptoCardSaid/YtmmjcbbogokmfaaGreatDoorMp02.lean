import Derived.Test.YtmmjcbbogokmfaaGreatDoorMp01
set_option maxRecDepth 100000
set_option maxHeartbeats 25600000
namespace Go.Proofs.YtmmjcbbogokmfaaGreatDoor
open Go.Proofs.Tryz
theorem Kl(t:Nat):∀(f:Nat) (l k m:List Nat),yk t f l=some k->yk t f (l++m)=some (k++m)
 |0,l,k,m,h=>by cases h
 |f+1,[],k,m,h=>by cases h
 |f+1,n::l,k,m,h=>by
  rw[jN6];rw[yk]at h⊢;split at h
  ·rename_i hn;rw[jJ6 hn];obtain rfl:=jL5 h;rfl
  ·rename_i hn;rw[jJ5 hn,<-jK1];exact Kl t f _ k m h
theorem zT(t:Nat):∀(f g:Nat) (l k:List Nat),f<=g->yk t f l=some k->yk t g l=some k
 |0,g,l,k,hg,h=>by cases h
 |f+1,0,l,k,hg,h=>by omega
 |f+1,g+1,[],k,hg,h=>by cases h
 |f+1,g+1,n::l,k,hg,h=>by
  rw[yk]at h⊢;split at h
  ·rename_i hn;rw[jJ6 hn];exact h
  ·rename_i hn;rw[jJ5 hn];exact zT t f g _ k (by omega) h
def jFe(n t:Nat):Bool:= !kR n t||(yk t 30 [n]).isSome
theorem jBS:∀n:Fin 85,∀t:Fin 58,jFe n.val t.val=true:=by decide+kernel
theorem Qm(n t:Nat)(ht:t<58)(h:kR n t=true):∃k,yk t 30 [n]=some k:=by
 by_cases hn:n<85
 ·have h1:=jBS ⟨n,hn⟩ ⟨t,ht⟩;simp only[jFe,h,Bool.not_true,Bool.false_or]at h1;exact Option.isSome_iff_exists.1 h1
 ·exfalso;unfold kR Je at h;simp only[show¬n=58 by omega,show¬n=59 by omega,show¬n=60 by omega,show¬n=61 by omega,show¬n=62 by omega,show¬n=63 by omega,show¬n=64 by omega,show¬n=65 by omega,show¬n=66 by omega,show¬(n=67\/n=84)by omega,show¬n=68 by omega,
   show¬(n=83\/n=69)by omega,show¬(n=70\/n=72\/n=74)by omega,show¬(n=75\/n=77\/n=79\/n=81)by omega,show¬n=82 by omega,show¬n=71 by omega,show¬n=73 by omega,show¬n=76 by omega,show¬n=78 by omega,show¬n=80 by omega,show¬n=t by omega,
   if_false,decide_false,Bool.false_or,Bool.and_false]at h
  cases h
theorem qS(n t:Nat)(h:kR n t=false):vi n t=[]:=by
 rw[vi,jJ6 h]
theorem Qr(n:Nat)(h:zI n=true):58<=n:=by
 have:=jM8 h;omega
theorem qO(t:Nat)(ht:t<58):∀(st:List Nat),vd t st=true->∃k,yk t (st.length+30) st=some k
 |[],h=>by cases h
 |n::l,h=>by
  rw[vd]at h;split at h
  ·rename_i hb;obtain⟨k,hk⟩:=Qm n t ht hb;have h1:=Kl t 30 [n] k l hk;exact⟨k++l,zT t 30 _ _ _ (by simp) h1⟩
  ·rename_i hb;split at h
   ·rename_i he;obtain⟨k,hk⟩:=qO t ht l h;refine⟨k,?_⟩;rw[jK6,show l.length+1+30=(l.length+30)+1 by omega,yk];have Nj:=Qr n he;rw[jJ5 (by omega),qS n t (by simpa using hb),jN8];exact hk
   ·cases h
theorem Vu(t:Nat)(ht:t<58)(m:Mc)(k:Nat)(h:vd t m.stack=true):∃s,yk t (m.stack.length+100) m.stack=some s/\vz t m k=.ok {m with at_:=k,stack:=s}:=by
 obtain⟨s,hs⟩:=qO t ht m.stack h;have h1:=zT t _ (m.stack.length+100) _ _ (by omega) hs;refine⟨s,h1,?_⟩;unfold vz;rw[h1]
theorem Vs:∀(l:LB) (k e j:Nat),kz l k e=.shut j->k<j/\j<=k+l.length
 |[],k,e,j,h=>by rw[kz]at h;cases h
 |c::l,k,e,j,h=>by
  rw[kz]at h;rw[jK6];have ih:=fun e' =>Vs l (k+1) e' j;split at h
  ·split at h
   ·injection h with h;omega
   ·split at h
    ·have:=ih _ h;omega
    ·split at h
     ·cases h
     ·have:=ih _ h;omega
  ·split at h
   ·split at h
    ·have:=ih _ h;omega
    ·split at h
     ·have:=ih _ h;omega
     ·cases h
   ·split at h
    ·cases h
    ·have:=ih _ h;omega
theorem Jx{t:Nat}{m m' :Mc}{k:Nat}(h:vz t m k=.ok m'):m'.at_=k:=by
 unfold vz at h;split at h
 ·injection h with h;rw[<-h]
 ·cases h
theorem vX(p:UInt8->Bool)(l:LB):(l.takeWhile p).length<=l.length:=(List.takeWhile_sublist p).length_le
theorem ya(p:UInt8->Bool)(c:UInt8)(l:LB)(h:p c=true):0<((c::l).takeWhile p).length:=by
 rw[List.takeWhile_cons,jJ6 h];simp
theorem ZX{m m' :Mc}{c:UInt8}{l:LB}(h:Ji m (c::l)=.ok m'):m.at_ <m'.at_ /\m'.at_ <=m.at_ +(c::l).length:=by
 have hl:(c::l).length=l.length+1:=jK6;rw[Ji]at h;split at h
 ·injection h with h;rw[<-h];simp only;omega
 ·split at h
  ·rename_i hc;unfold vu at h;simp only at h;injection h with h;have h1:=vX (fun c=> !lfC c) (c::l);have h2:=ya (fun c=> !lfC c) c l (by simp only[lfC];rw[jK3 (by omega)];rfl);split at h
   ·rw[<-h];simp only;omega
   ·rw[<-h];simp only;omega
  ·split at h
   ·unfold vO at h;split at h
    ·cases h
    ·split at h
     ·cases h
     ·rename_i j hj;have h1:=Jx h;have h2:=Vs _ _ _ _ hj;rw[List.drop_one,List.tail_cons]at h2;omega
     ·injection h with h;rw[<-h];simp only;omega
   ·split at h
    ·rename_i hw;have h1:=vX ju (c::l);have h2:=ya ju c l hw;unfold vg at h;simp only at h;split at h
     ·have h3:=Jx h;omega
     ·unfold zU at h;split at h
      ·cases h
      ·injection h with h;rw[<-h];simp only;omega
    ·unfold yG at h;simp only at h;split at h
     ·split at h
      ·rename_i hh;have h3:=Jx h;have:l≠ []:=fun e=>by rw[e]at hh;exact absurd hh.2.2 (by decide)
       have:=List.length_pos_iff.2 this;omega
      ·have h3:=Jx h;omega
     ·split at h
      ·cases h
      ·split at h
       ·injection h with h;rw[<-h];simp only;omega
       ·rename_i Fh;have:=List.length_pos_iff.2 Fh;split at h
        ·cases h
        ·have h3:=Jx h;omega
open Go.RowKit
theorem jBM:(prog.info? 163).map (fun i=>(i.zero,i.size,i.bytes))=some (some (.int .u8 0),1,1):=by kernel_rfl
def Stk(w:World)(st:List Nat)(A:OA)(c:Nat):Prop:=w.ownsRow 8 163 1 (.slice A st.length c) st.length (st.reverse.map yv)
structure Mac(w:World)(g:Nat)(r:Option Nat)(src:BA)(m:Mc)(A:OA)(c:Nat):Prop where
 low:8<=g
 blk:Blk w g 162 #[.string src,.int .i64 (m.at_:Int),.slice A m.stack.length c,.int .u8 (m.fin:Int),.int .i64 (m.from_:Int)]
 own:Stk w m.stack A c
 row:A.map (·.block)=r
 sym:∀n∈m.stack,n<85
def MX(g:Nat)(r:Option Nat):Nat->Prop:=fun k=>k=g\/some k=r
def MFr(w:World)(r r' :Option Nat):Prop:=r' =r\/∃k,r' =some k/\w.heap.size<=k
def MStep(w:World)(g:Nat)(r:Option Nat)(w' :World)(src:BA)(m:Mc):Prop:=∃r' A c,Mac w' g r' src m A c/\Kp (MX g r) w w' /\MFr w r r'
theorem jGG{a b:Nat}(h:yv a=yv b):a=b:=by
 unfold yv at h;injection h with _ h;omega
theorem ZE:∀{a b:List Nat},a.map yv=b.map yv->a=b
 |[],[],_=>rfl
 |[],_::_,h=>by cases h
 |_::_,[],h=>by cases h
 |x::a,y::b,h=>by
  rw[List.map_cons,List.map_cons]at h;injection h with h1 h2;rw[jGG h1,ZE h2]
theorem jGf(l:List Nat):∀u∈l.map yv,u.oneCell' =true:=by
 intro u hu;obtain⟨b,_,rfl⟩:=List.mem_map.1 hu;rfl
section
variable{w w1 w2:World}{g:Nat}{r r1:Option Nat}{src:BA}{m m' :Mc}{st:List Nat}{A:OA}{c n:Nat}
theorem Stk.pop(h:Stk w (n::st) A c):Stk w st A c:=by
 obtain⟨h1,h2⟩:=h;refine⟨by simp,?_⟩;rcases h2 with⟨_,h0⟩|⟨g,cap,cur,hv,hb,hg,hn,hm,hs,Ng⟩
 ·simp at h0
 ·injection hv with hA _ hc;subst hA hc;refine .inr ⟨g,c,cur,rfl,hb,hg,by simp at hn;omega,hm,hs,?_⟩;have e:cur.toList.take (st.length*1)=(cur.toList.take ((n::st).length*1)).take (st.length*1):=by
   rw[List.take_take,jK6,Nat.min_eq_left (by omega)]
  rw[e,Ng,List.reverse_cons,jN3];exact List.take_left' (by simp)
theorem Stk.cap(h:Stk w (n::st) A c):st.length<=c:=by
 rcases h.2 with⟨h1,h0⟩|⟨g',cap,cur,hv,_,_,h1,_⟩
 ·cases h0
 ·injection hv with _ _ hv;subst hv;simp only[jK6]at h1;omega
theorem Stk.rd(h:Stk w st A c):Rd w 1 A st.length (st.reverse.map yv):=Rd.of_own h
theorem Stk.kp{X:Nat->Prop}(h:Stk w st A c)(hk:Kp X w w1)(hx:∀k,A.map (·.block)=some k->¬X k):Stk w1 st A c:=
 jV h hk (fun k e=>hx k (by rw[<-jC A st.length c];exact e))
theorem Stk.at_(h:Stk w st A c)(j:Nat)(hj:j<st.length):∃b o,A=some ⟨b,o,none⟩/\w.cell? ⟨b,o+(st.length-1-j),none⟩=some (yv (st.getD j 0)):=by
 obtain⟨b,o,u,hA,hu,hc⟩:=h.rd.at_ (k:=st.length-1-j) (by omega);refine⟨b,o,hA,?_⟩;rw[jM1,List.getElem?_reverse (by omega),show st.length-1-(st.length-1-j)=j by omega,jJ9 hj]at hu;simp only[Option.map_some,Option.some.injEq]at hu;rw[hc,<-hu];simp[List.getD,List.getElem?_eq_getElem hj]
theorem Mac.c0(h:Mac w g r src m A c):w.cell? ⟨g,0,none⟩=some (.string src):=h.blk.at_ 0 rfl
theorem Mac.c1(h:Mac w g r src m A c):w.cell? ⟨g,1,none⟩=some (.int .i64 (m.at_:Int)):=h.blk.at_ 1 rfl
theorem Mac.c2(h:Mac w g r src m A c):w.cell? ⟨g,2,none⟩=some (.slice A m.stack.length c):=h.blk.at_ 2 rfl
theorem Mac.c3(h:Mac w g r src m A c):w.cell? ⟨g,3,none⟩=some (.int .u8 (m.fin:Int)):=h.blk.at_ 3 rfl
theorem Mac.c4(h:Mac w g r src m A c):w.cell? ⟨g,4,none⟩=some (.int .i64 (m.from_:Int)):=h.blk.at_ 4 rfl
theorem Mac.z(h:Mac w g r src m A c)(i:Nat):w.frozen? ⟨g,i,none⟩=false:=h.blk.frozen i
theorem Mac.ne(h:Mac w g r src m A c):r≠some g:=by
 have:=jY h.own h.blk (by decide);rw[jC,h.row]at this;exact this
theorem Mac.lt(h:Mac w g r src m A c):∀k,r=some k->8<=k/\k<w.heap.size:=fun k hk=>h.own.lt k (by rw[jC,h.row];exact hk)
theorem Mac.kp{X:Nat->Prop}(h:Mac w g r src m A c)(hk:Kp X w w1)(hg:¬X g)(hr:∀k,r=some k->¬X k):Mac w1 g r src m A c:=
 ⟨h.low,h.blk.kp hk hg,h.own.kp hk (fun k e=>hr k (by rw[<-h.row];exact e)),h.row,h.sym⟩
theorem Mac.old(h:Mac w g r src m A c)(hk:Old w w1):Mac w1 g r src m A c:=h.kp hk (fun f=>f) (fun _ _ f=>f)
theorem Mac.step(h:Mac w g r src m A c):MStep w g r w src m:=⟨r,A,c,h,jQ0 _ _,.inl rfl⟩
theorem MX.trans(hf:MFr w r r1):∀b,b<w.heap.size->MX g r1 b->MX g r b:=by
 intro b hb hx;rcases hx with rfl|hx
 ·exact .inl rfl
 ·rcases hf with rfl|⟨k,rfl,Fa⟩
  ·exact .inr hx
  ·injection hx with hx;omega
theorem MFr.trans{r2:Option Nat}(hf:MFr w r r1)(hs:w.heap.size<=w1.heap.size)(WI:MFr w1 r1 r2):MFr w r r2:=by
 rcases WI with rfl|⟨k,rfl,Fa⟩
 ·exact hf
 ·exact .inr ⟨k,rfl,jL4 hs Fa⟩
theorem MStep.trans(hk:Kp (MX g r) w w1)(hf:MFr w r r1)(h:MStep w1 g r1 w2 src m):MStep w g r w2 src m:=by
 obtain⟨r2,A,c,hw,hU,WI⟩:=h;exact⟨r2,A,c,hw,hk.trans hU (MX.trans hf),hf.trans hk.size WI⟩
theorem Sg.mx(h:Sg w)(hM:Mac w g r src m A c)(hk:Kp (MX g r) w w1):Sg w1:=by
 have:=hM.low;refine h.kp hk ?_ ?_
 ·rintro (e|e)
  ·omega
  ·have:=hM.lt 0 e.symm;omega
 ·rintro (e|e)
  ·omega
  ·have:=hM.lt 2 e.symm;omega
theorem Mac.setAt(h:Mac w g r src m A c)(k:Nat):Mac (w.setCell ⟨g,1,none⟩ (.int .i64 (k:Int))) g r src {m with at_:=k} A c/\Kp (MX g r) w (w.setCell ⟨g,1,none⟩ (.int .i64 (k:Int))):=by
 have hk:=(jQ0 (fun b=>b=g) w).setCell (p:=⟨g,1,none⟩) (fun _=>rfl) (.int .i64 (k:Int));exact⟨⟨h.low,by simpa using h.blk.set_ 1 (.int .i64 (k:Int)),h.own.kp hk (fun b e e' =>h.ne (by rw[<-h.row,e,e'])),h.row,h.sym⟩,hk.mono (fun _ _ e=>.inl e)⟩
theorem Mac.setFin(h:Mac w g r src m A c)(k:Nat):Mac (w.setCell ⟨g,3,none⟩ (.int .u8 (k:Int))) g r src {m with fin:=k} A c/\Kp (MX g r) w (w.setCell ⟨g,3,none⟩ (.int .u8 (k:Int))):=by
 have hk:=(jQ0 (fun b=>b=g) w).setCell (p:=⟨g,3,none⟩) (fun _=>rfl) (.int .u8 (k:Int));exact⟨⟨h.low,by simpa using h.blk.set_ 3 (.int .u8 (k:Int)),h.own.kp hk (fun b e e' =>h.ne (by rw[<-h.row,e,e'])),h.row,h.sym⟩,hk.mono (fun _ _ e=>.inl e)⟩
theorem Mac.setFrom(h:Mac w g r src m A c)(k:Nat):Mac (w.setCell ⟨g,4,none⟩ (.int .i64 (k:Int))) g r src {m with from_:=k} A c/\Kp (MX g r) w (w.setCell ⟨g,4,none⟩ (.int .i64 (k:Int))):=by
 have hk:=(jQ0 (fun b=>b=g) w).setCell (p:=⟨g,4,none⟩) (fun _=>rfl) (.int .i64 (k:Int));exact⟨⟨h.low,by simpa using h.blk.set_ 4 (.int .i64 (k:Int)),h.own.kp hk (fun b e e' =>h.ne (by rw[<-h.row,e,e'])),h.row,h.sym⟩,hk.mono (fun _ _ e=>.inl e)⟩
theorem Mac.setPop(h:Mac w g r src m A c)(hm:m.stack=n::st):Mac (w.setCell ⟨g,2,none⟩ (.slice A st.length c)) g r src {m with stack:=st} A c/\Kp (MX g r) w (w.setCell ⟨g,2,none⟩ (.slice A st.length c)):=by
 have hk:=(jQ0 (fun b=>b=g) w).setCell (p:=⟨g,2,none⟩) (fun _=>rfl) (.slice A st.length c);have ho:Stk w st A c:=(hm▸h.own:Stk w (n::st) A c).pop;exact⟨⟨h.low,by simpa using h.blk.set_ 2 (.slice A st.length c),ho.kp hk (fun b e e' =>h.ne (by rw[<-h.row,e,e'])),h.row,fun x hx=>h.sym x (by rw[hm];exact jN1 _ hx)⟩,hk.mono (fun _ _ e=>.inl e)⟩
theorem Mac.put{wr wx:World}{A' :OA}{c' k x:Nat}(h:Mac wr g r src m A c)(hk:m.stack.length=k)(hx:Old wr wx)(DF:x<85)
  (Hi:w1.ownsRow 8 163 1 (.slice A' (k+1) c') (k+1) (m.stack.reverse.map yv++[yv x])) (hg:wx.grownBy w1 (Value.slice A k c).ownBlock)
  (Fc:A'.map (·.block)=(Value.slice A k c).ownBlock\/A'.map (·.block)=some wx.heap.size):
  MStep wr g r (w1.setCell ⟨g,2,none⟩ (.slice A' (k+1) c')) src {m with stack:=x::m.stack}:=by
 subst hk;rw[jC]at Fc hg;have Fh:=h.ne;rw[<-h.row]at Fh;have GR:=(h.blk.old hx).grown hg (fun e=>Fh e.symm);have Fj:=GR.set_ 2 (.slice A' (m.stack.length+1) c');have FQ:=h.blk.lt;refine⟨A'.map (·.block),A',c',⟨h.low,by simpa using Fj,?_,rfl,?_⟩,?_,?_⟩
 ·show World.ownsRow _ 8 _ 1 (.slice A' (m.stack.length+1) c') (m.stack.length+1) _;rw[List.reverse_cons,jN3];refine jV Hi ((jQ0 (fun k=>k=g) _).setCell (p:=⟨g,2,none⟩) (fun _=>rfl) _) ?_;rw[jC];rintro k e rfl;rcases Fc with h1|h1
  ·rw[h1]at e;exact Fh e
  ·rw[h1]at e;injection e with e;have:=hx.size;omega
 ·intro n hn;rcases jN4 hn with rfl|hn
  ·exact DF
  ·exact h.sym n hn
 ·rw[<-h.row];exact Kp.setCell (Kp.grown (hx.mono (Y:=MX g (A.map (·.block))) (fun _ _ f=>f.elim)) hg (fun k e _=>.inr e.symm)) (p:=⟨g,2,none⟩) (fun _=>.inl rfl) _
 ·rcases Fc with h1|h1
  ·exact .inl (by rw[h1,h.row])
  ·exact .inr ⟨_,h1,hx.size⟩
theorem Stk.uniq{st' :List Nat}(h:Stk w st A c)(h' :Stk w st' A c)(hl:st.length=st'.length):st=st' :=by
 have e:st.reverse.map yv=st'.reverse.map yv:=by
  apply List.ext_getElem?;intro j;by_cases hj:j<st.length
  ·obtain⟨b,o,u,hA,hu,hc⟩:=h.rd.at_ (k:=j) hj;obtain⟨b',o',u',Y8,An,E9⟩:=h'.rd.at_ (k:=j) (by omega);rw[hA]at Y8;injection Y8 with Y8;injection Y8 with h1 h2;subst h1 h2;rw[hc]at E9;rw[hu,An,E9]
  ·rw[List.getElem?_eq_none (by simpa using hj),List.getElem?_eq_none (by simp;omega)]
 have:=ZE e;exact List.reverse_inj.1 this
theorem Mac.uniq{src' :BA}{A' :OA}{c' :Nat}(h:Mac w g r src m A c)(h' :Mac w g r1 src' m' A' c'):m.stack=m'.stack:=by
 have hb:=h.blk;have NW:=h'.blk;unfold Blk at hb NW;rw[hb]at NW;injection NW with e;injection e with e _ _;have e2:(#[Value.string src,.int .i64 (m.at_:Int),.slice A m.stack.length c,.int .u8 (m.fin:Int),.int .i64 (m.from_:Int)])[2]? =(#[Value.string src',.int .i64 (m'.at_:Int),.slice A' m'.stack.length c',.int .u8 (m'.fin:Int),.int .i64 (m'.from_:Int)])[2]? :=(by rw[e]);simp only[jJ7,List.getElem?_cons_succ,List.getElem?_cons_zero,Option.some.injEq,Value.slice.injEq]at e2;obtain⟨rfl,hl,rfl⟩:=e2;exact h.own.uniq h'.own hl
end
def RowT(w:World)(l:List Nat)(e:Ending)(w' :World):Prop:=∃A c,e=.returned (.slice A l.length c)/\Rd w' 1 A l.length (l.map yv)/\Av (fun k=>k<w.heap.size) l.length A/\Old w w'
theorem RowT.none_(w:World){R:List Nat}(e:R=[]):RowT w R (.returned (.slice none 0 0)) w:=⟨none,0,by rw[e];rfl,by rw[e];exact Rd.none_,(fun _ _ h=>by cases h),jQ0 _ _⟩
theorem RowT.of(w:World)(l:List Nat){R:List Nat}(e:R=l){cs:Array Value}(hc:cs=(l.map yv).toArray){k:Nat}(hk:k=l.length):RowT w R (.returned (.slice (some ⟨w.heap.size,0,none⟩) k k)) (w.alloc (.cells cs 163)):=by
 subst e hc hk;refine⟨_,_,rfl,⟨by simp,fun _=>⟨_,_,rfl,fun j u hu=> ?_⟩⟩,(fun _ ad e hlt=>by injection e with e;subst e;exact Nat.lt_irrefl _ hlt),(jQ0 _ _).alloc _⟩;have:=(jQ2 w 163 (R.map yv).toArray).at_ j (v:=u) (by rw[jJ7];exact hu);rw[Nat.zero_add];exact this
theorem Zw(w:World)(t:Nat):Calls prog 230 #[yv t] w (RowT w (vr t)):=by
 unfold yv;by_cases hn:t∈ [24,25,26,27]
 ·simp only[List.mem_cons,List.not_mem_nil,or_false]at hn;rcases hn with rfl|rfl|rfl|rfl
  all_goals
   simp only[Int.cast_ofNat_Int];go_enter func230,ntmps230;go_wp2;go_ret;exact RowT.of w _ rfl rfl rfl
 ·have hm:=hn;simp only[List.mem_cons,List.not_mem_nil,or_false]at hm;have Hy:=G (show vr t=[]by unfold vr;rw[jJ5 (by omega)];rw[jJ5 (by omega)];rw[jJ5 (by omega)];rw[jJ5 (by omega)]);clear hm;have b24:=ku hn 24;have b25:=ku hn 25;have b26:=ku hn 26;have b27:=ku hn 27;clear hn;go_enter func230,ntmps230;go_wp2;go_ret;exact RowT.none_ w Hy.out
theorem jB7(w:World)(t:Nat):Calls prog 231 #[yv t] w (RowT w (qC t)):=by
 unfold yv;by_cases hn:t∈ [1,2,3,4,6,31,46,47,48,49,50,51,52,53,54,55,56,57]
 ·simp only[List.mem_cons,List.not_mem_nil,or_false]at hn;rcases hn with rfl|rfl|rfl|rfl|rfl|rfl|rfl|rfl|rfl|rfl|rfl|rfl|rfl|rfl|rfl|rfl|rfl|rfl
  all_goals
   simp only[Int.cast_ofNat_Int];go_enter func231,ntmps231;go_wp2;go_ret;exact RowT.of w _ rfl rfl rfl
 ·have hm:=hn;simp only[List.mem_cons,List.not_mem_nil,or_false]at hm;have Hy:=G (show qC t=[]by unfold qC;rw[jJ5 (by omega)];rw[jJ5 (by omega)];rw[jJ5 (by omega)];rw[jJ5 (by omega)];rw[jJ5 (by omega)];rw[jJ5 (by omega)];rw[jJ5 (by omega)]);clear hm;have b1:=ku hn 1;have b2:=ku hn 2;have b3:=ku hn 3;have b4:=ku hn 4;have b6:=ku hn 6;have b31:=ku hn 31;have b46:=ku hn 46;have b47:=ku hn 47;have b48:=ku hn 48;have b49:=ku hn 49;have b50:=ku hn 50;have b51:=ku hn 51;have b52:=ku hn 52;have b53:=ku hn 53;have b54:=ku hn 54;have b55:=ku hn 55;have b56:=ku hn 56;have b57:=ku hn 57;clear hn;go_enter func231,ntmps231;go_wp2;go_ret;exact RowT.none_ w Hy.out
theorem yN(s:BA)(k:Nat)(h:k<s.size):(sb s).take (k+1)=(sb s).take k++[s[k]]:=by
 have h' :k<(sb s).length:=by rw[jB];exact h
 rw[jK2 h'];rfl
theorem YA(s:BA)(h:0<s.size):(sb s).headD 0=s[0]:=by
 have h' :0<(sb s).length:=by rw[jB];exact h
 have:(sb s)[0]'h' =s[0]:=rfl;refine Eq.trans ?_ this;rw[List.headD_eq_head?_getD,List.head?_eq_getElem?,jJ9 h'];rfl
theorem jAA(s:BA)(k:Nat)(h:k<s.size):s[k]∈sb s:=by
 have:s[k]=(sb s)[k]'(by rw[jB];exact h):=rfl;rw[this];exact jL6 _
theorem zO(w:World)(s:BA):Calls prog 69 #[.string s] w fun e w' =>e=.returned (.bool (jd (sb s)))/\w=w' :=by
 have HL:=G (show jd (sb s)=(decide (0<s.size/\s.size<=64)&&qG ((sb s).headD 0)&&(sb s).all ju)by unfold jd;rw[jB]);generalize jd (sb s)=R at*;by_cases h0:s.size=0
 ·have Ww:=G (show R=false by rw[HL.out,jK3 (by omega)];rfl);have b0:((s.size:Int)==0)=true:=by rw[h0];rfl
  have Hz:=G h0;clear h0;go_enter func69,ntmps69;go_wp2;go_ret;exact⟨by rw[Ww.out];rfl,rfl⟩
 ·have b0:((s.size:Int)==0)=false:=jM3 (by omega);by_cases h1:s.size<=64
  ·have b1:¬(64:Int)<(s.size:Int):=(by omega);have hp:0<s.size:=(by omega);have Ar:(0:Int)<(s.size:Int):=(by omega);have Hc:=G (show R=(qG s[0]&&(sb s).all ju)by rw[HL.out,jK5 (by omega),YA s hp];rfl);have H0:=G (ZG w s[0]);unfold bv at H0;clear HL;generalize hl:qG s[0]=L at*;clear hl;cases L
   ·have Ww:=G (show R=false by rw[Hc.out];rfl);go_enter func69,ntmps69;go_wp2_with (go_at_call 128;refine H0.out.mono ?_;rintro e w1 ⟨rfl,rfl⟩);go_ret;exact⟨by rw[Ww.out];rfl,rfl⟩
   ·have Hc:=G (show R=(sb s).all ju by rw[Hc.out];rfl);have Bh:(s.size:Int)<=64:=(by omega);go_enter func69,ntmps69;go_wp2_with (go_at_call 128;refine H0.out.mono ?_;rintro e w1 ⟨rfl,rfl⟩);clear H0;go_loop [20] (fun i=>∃k:Nat,k<=s.size/\i=.int .i64 k/\((sb s).take k).all ju=true) (fun i=>s.size-(intOf i).toNat)
    case atStart=>exact⟨0,Nat.zero_le _,rfl,rfl⟩
    case round=>
     obtain⟨k,hk,rfl,Gk⟩:=hrel;by_cases hlt:k<s.size
     ·have Wx:=G (show((sb s).take (k+1)).all ju=ju s[k]by rw[yN s k hlt,List.all_append,Gk];simp);have Ww:=G (show ju s[k]=false->R=false from fun h=>by
       rw[Hc.out,<-Bool.not_eq_true,List.all_eq_true];intro h';have:=h' s[k] (jAA s k hlt);rw[h]at this;cases this)
      have b2:(0:Int)<=(k:Int):=(by omega);have b3:(k:Int)<(s.size:Int):=(by omega);have b4:(k:Int).toNat=k:=(by omega);have Hw:=G (vZ w s[k]);unfold bv at Hw;clear Gk;generalize hw:ju s[k]=W at*;clear hw;cases W
      ·have Hn:=G (Ww.out rfl);go_wp2_with (go_at_call 129;refine Hw.out.mono ?_;rintro e w1 ⟨rfl,rfl⟩);go_ret;exact⟨by rw[Hn.out];rfl,rfl⟩
      ·go_wp2_with (go_at_call 129;refine Hw.out.mono ?_;rintro e w1 ⟨rfl,rfl⟩);exact⟨⟨k+1,by omega,by go_num,Wx.out⟩,by simp[intOf];omega⟩
     ·obtain rfl:k=s.size:=(by omega);have Hy:=G (show R=true by rw[Hc.out,<-Gk,<-jB,List.take_length]);clear Gk;go_wp2;go_ret;exact⟨by rw[Hy.out];rfl,rfl⟩
  ·have b1:(64:Int)<(s.size:Int):=(by omega);have Ww:=G (show R=false by rw[HL.out,jK3 (by omega)];rfl);clear HL h0 h1;go_enter func69,ntmps69;go_wp2;go_ret;exact⟨by rw[Ww.out];rfl,rfl⟩
theorem Yr(w:World)(hg:Sg w)(s:BA):Calls prog 70 #[.string s] w fun e w' =>e=.returned (.bool (decide (yT (sb s)≠0)))/\w=w' :=by
 have H:=G (Vp w hg s);generalize yT (sb s)=n at*;clear hg;go_enter func70,ntmps70;go_wp2_with (go_at_call 130;refine H.out.mono ?_;rintro e w1 ⟨rfl,rfl⟩)
 all_goals (go_ret;refine⟨?_,rfl⟩;refine QI ?_;clear H;simp at*;try omega)
theorem jg(w:World)(hg:Sg w)(s:BA):Calls prog 20 #[.string s] w fun e w' =>e=.returned (.bool (js (sb s)))/\w=w' :=by
 have Hy:=G (show js (sb s)=(jd (sb s)&&decide (yT (sb s)=0))from rfl);have H:=G (zO w s);have H2:=G (Yr w hg s);generalize yT (sb s)=n at*;generalize jd (sb s)=a at*;generalize js (sb s)=R at*;clear hg;cases a
 ·have Hn:=G (show R=false by rw[Hy.out];rfl);go_enter func20,ntmps20;go_wp2_with (go_at_call 69;refine H.out.mono ?_;rintro e w1 ⟨rfl,rfl⟩);go_ret;exact⟨by rw[Hn.out];rfl,rfl⟩
 ·have Hn:=G (show R= !(decide (n≠0))by rw[Hy.out];simp);generalize decide (n≠0)=b at*;go_enter func20,ntmps20;go_wp2_with (first|(go_at_call 69;refine H.out.mono ?_;rintro e w1 ⟨rfl,rfl⟩)|(go_at_call 70;refine H2.out.mono ?_;rintro e w1 ⟨rfl,rfl⟩))
  all_goals (go_ret;exact⟨by rw[Hn.out];rfl,rfl⟩)
theorem jEc(s:BA)(k:Nat)(h:k<s.size):(sb s)[k]? =some s[k]:=by
 have h' :k<(sb s).length:=by rw[jB];exact h
 rw[jJ9 h'];rfl
theorem jq(x:BA)(a b:Nat):sb (x.extract a b)=((sb x).drop a).take (b-a):=by
 have h:=ByteArray.extract_mk (sb x) a b;rw[jAx]at h;rw[h];rfl
theorem jEH:∀(a b:LB),(Op.bytesLess a b||a==b)=leB a b
 |[],[]=>rfl
 |[],y::b=>rfl
 |x::a,[]=>rfl
 |x::a,y::b=>by
  have ih:=jEH a b;rw[leB,<-ih];have hn:(x<y)↔x.toNat<y.toNat:=Iff.rfl;have he:(x=y)↔x.toNat=y.toNat:=⟨fun h=>by rw[h],fun h=>UInt8.toNat_inj.1 h⟩;rw[show Op.bytesLess (x::a) (y::b)=(decide (x<y)||(x==y&&Op.bytesLess a b))from rfl];by_cases h1:x.toNat<y.toNat
  ·simp[hn,h1]
  ·by_cases h2:y.toNat<x.toNat
   ·have h3:¬x=y:=fun e=>by rw[he]at e;omega
    simp[hn,h1,h2,h3]
   ·have h3:x=y:=he.2 (by omega);subst h3;simp
theorem jDe(x:BA)(h:1<x.size)(h0:x[0].toNat=48):yy (sb x)=yy (sb (x.extract 1 x.size)):=by
 rw[jq,jK4 (by rw[jK8,jB];omega)];have h1:=jEc x 0 (by omega);have h2:=jB x;cases e:sb x with
 |nil=>rw[e]at h2;simp at h2;omega
 |cons a l=>
  cases l with
  |nil=>rw[e]at h2;simp at h2;omega
  |cons b l=>
   rw[e]at h1;simp only[List.getElem?_cons_zero,Option.some.injEq]at h1;have:a=48:=UInt8.toNat_inj.1 (by rw[h1,h0];rfl);rw[yy,jJ6 this,List.drop_succ_cons,List.drop_zero]
theorem jBh(x:BA)(h:∀h:1<x.size,x[0].toNat≠48):yy (sb x)=sb x:=by
 have h2:=jB x;cases e:sb x with
 |nil=>rfl
 |cons a l=>
  cases l with
  |nil=>rfl
  |cons b l=>
   rw[e]at h2;simp only[jK6]at h2;have h1:=jEc x 0 (by omega);rw[e]at h1;simp only[List.getElem?_cons_zero,Option.some.injEq]at h1;rw[yy,jJ5 (fun ha=>h (by omega) (by rw[<-h1,ha];rfl))]
theorem Jy(w:World)(s:BA)(hs:s.size<=1000000):Calls prog 226 #[.string s] w fun e w' =>e=.returned (.bool (jz (sb s)))/\w=w' :=by
 have HL:=G (show jz (sb s)=((sb s).all zS&&(decide ((yy (sb s)).length<19)||(decide ((yy (sb s)).length=19)&&leB (yy (sb s)) zH)))from rfl);generalize jz (sb s)=R at*;go_enter func226,ntmps226;go_wp2;go_loop [6] (fun i=>∃k:Nat,k<=s.size/\i=.int .i64 k/\((sb s).take k).all zS=true) (fun i=>s.size-(intOf i).toNat)
 case atStart=>exact⟨0,Nat.zero_le _,rfl,rfl⟩
 case round=>
  obtain⟨k,hk,rfl,Gk⟩:=hrel;by_cases hlt:k<s.size
  ·have Wx:=G (show((sb s).take (k+1)).all zS=zS s[k]by rw[yN s k hlt,List.all_append,Gk];simp);have Ww:=G (show zS s[k]=false->R=false from fun h=>by
    rw[HL.out];have:(sb s).all zS=false:=by
     rw[<-Bool.not_eq_true,List.all_eq_true];intro h';have:=h' s[k] (jAA s k hlt);rw[h]at this;cases this
    rw[this];rfl)
   have b2:(0:Int)<=(k:Int):=(by omega);have b3:(k:Int)<(s.size:Int):=(by omega);have b4:(k:Int).toNat=k:=(by omega);have b5:IntKind.i64.wrap ((k:Int)+1)=(k:Int)+1:=jQ3 _ (by omega);have Hw:=G (ze w s[k]);unfold bv at Hw;clear Gk;generalize hw:zS s[k]=W at*;clear hw;cases W
   ·have Hn:=G (Ww.out rfl);go_wp2_with (go_at_call 158;refine Hw.out.mono ?_;rintro e w1 ⟨rfl,rfl⟩);go_ret;exact⟨by rw[Hn.out];rfl,rfl⟩
   ·go_wp2_with (go_at_call 158;refine Hw.out.mono ?_;rintro e w1 ⟨rfl,rfl⟩);exact⟨⟨k+1,by omega,by go_num,Wx.out⟩,by simp[intOf];omega⟩
  ·obtain rfl:k=s.size:=(by omega);have Hy:=G (show R=(decide ((yy (sb s)).length<19)||(decide ((yy (sb s)).length=19)&&leB (yy (sb s)) zH))by
    rw[HL.out,show(sb s).all zS=true by rw[<-Gk,<-jB,List.take_length]];rfl)
   clear Gk HL hk hlt hs;go_wp2;go_loop [0] (fun v=>∃x:BA,v=.string x/\yy (sb s)=yy (sb x)) (fun v=>match v with| .string x=>x.size|_=>0)
   case atStart=>exact⟨s,rfl,rfl⟩
   case round=>
    obtain⟨x,rfl,hx⟩:=hrel;by_cases hc:∃h:1<x.size,x[0].toNat=48
    ·obtain⟨h1,CN⟩:=hc;have b1:(1:Int)<(x.size:Int):=(by omega);have b0:(0:Int)<(x.size:Int):=(by omega);have c1:(1:Int)<=(x.size:Int):=(by omega);have h0:0<x.size:=(by omega);have Hx:=G (hx.trans (jDe x h1 CN));have hb:(((x[0]'h0).toNat:Int)==48)=true:=by rw[CN];rfl
     have FZ:=G (show(x.extract 1 x.size).size<x.size by rw[<-jB,jq,jK9,jK8,jB];omega);clear hx CN;go_wp2;exact⟨⟨_,rfl,Hx.out⟩,FZ.out⟩
    ·have hz:=jBh x (fun h1 h2=>hc ⟨h1,h2⟩);have Gf:=G (show R=(decide (x.size<19)||(decide (x.size=19)&&(Op.bytesLess x.toList zH||x.toList==zH)))by
      rw[Hy.out,hx,hz,jB,jEH,ByteArray.toList_eq];rfl)
     unfold zH at Gf;have Hc:=G hc;clear hx hz Hy hc;by_cases h1:1<x.size
     ·have b1:(1:Int)<(x.size:Int):=(by omega);have h0:0<x.size:=(by omega);have b0:(0:Int)<(x.size:Int):=(by omega);have hb:(((x[0]'h0).toNat:Int)==48)=false:=jM3 (fun e=>Hc.out ⟨h1,by omega⟩);by_cases h2:x.size<19
      ·have b2:(x.size:Int)<19:=(by omega);have Hf:=G (show R=true by rw[Gf.out,jK5 h2];rfl);clear Gf;go_wp2;go_ret;exact⟨by rw[Hf.out];rfl,rfl⟩
      ·have b2:¬(x.size:Int)<19:=(by omega);by_cases h3:x.size=19
       ·have b3:((x.size:Int)==19)=true:=by rw[h3];rfl
        have Hf:=G (show R=(Op.bytesLess x.toList [57,50,50,51,51,55,50,48,51,54,56,53,52,55,55,53,56,48,55]||x.toList==[57,50,50,51,51,55,50,48,51,54,56,53,52,55,55,53,56,48,55])by rw[Gf.out,jK3 h2,jK5 h3];rfl);clear Gf h3;go_wp2;go_ret;exact⟨by rw[Hf.out];rfl,rfl⟩
       ·have b3:((x.size:Int)==19)=false:=jM3 (by omega);have Hf:=G (show R=false by rw[Gf.out,jK3 h2,jK3 h3];rfl);clear Gf;go_wp2;go_ret;exact⟨by rw[Hf.out];rfl,rfl⟩
     ·have b1:¬(1:Int)<(x.size:Int):=(by omega);have b2:(x.size:Int)<19:=(by omega);have Hf:=G (show R=true by rw[Gf.out,jK5 (by omega)];rfl);clear Gf;go_wp2;go_ret;exact⟨by rw[Hf.out];rfl,rfl⟩
theorem Ku(w:World)(hg:Sg w)(s:BA)(h0:0<s.size):Calls prog 164 #[.string s] w fun e w' =>e=.returned (.int .u8 (yR (sb s):Nat))/\w=w' :=by
 have Hy:=G (show yR (sb s)=if zS s[0]=true then 2 else if yT (sb s)=0 then 1 else yT (sb s)by unfold yR;rw[YA s h0]);have H:=G (ze w s[0]);have H2:=G (Vp w hg s);have b0:(0:Int)<(s.size:Int):=(by omega);unfold bv at H;clear hg;generalize yR (sb s)=R at*;generalize yT (sb s)=n at*;generalize hd:zS s[0]=d at*;clear hd;cases d
 ·by_cases hn:n=0
  ·have b1:((n:Int) !=0)=false:=by rw[hn];rfl
   have Hf:=G (show R=1 by rw[Hy.out,jJ5 (by decide),jJ6 hn]);clear hn;go_enter func164,ntmps164;go_wp2_with (first|(go_at_call 158;refine H.out.mono ?_;rintro e w1 ⟨rfl,rfl⟩)|(go_at_call 130;refine H2.out.mono ?_;rintro e w1 ⟨rfl,rfl⟩));go_ret;exact⟨by rw[Hf.out];rfl,rfl⟩
  ·have b1:((n:Int) !=0)=true:=bne_iff_ne.2 (by omega);have Hf:=G (show R=n by rw[Hy.out,jJ5 (by decide),jJ5 hn]);clear hn;go_enter func164,ntmps164;go_wp2_with (first|(go_at_call 158;refine H.out.mono ?_;rintro e w1 ⟨rfl,rfl⟩)|(go_at_call 130;refine H2.out.mono ?_;rintro e w1 ⟨rfl,rfl⟩));go_ret;exact⟨by rw[Hf.out];rfl,rfl⟩
 ·have Hf:=G (show R=2 by rw[Hy.out,jJ6 rfl]);go_enter func164,ntmps164;go_wp2_with (first|(go_at_call 158;refine H.out.mono ?_;rintro e w1 ⟨rfl,rfl⟩)|fail);go_ret;exact⟨by rw[Hf.out];rfl,rfl⟩
theorem XX(w:World)(hg:Sg w)(s:BA)(h0:0<s.size)(hs:s.size<=1000000):Calls prog 198 #[.string s] w fun e w' =>e=.returned (.bool (Jl (sb s)))/\w=w' :=by
 have Hy:=G (show Jl (sb s)=((zS s[0]&&jz (sb s))||decide (yT (sb s)≠0)||js (sb s))by unfold Jl;rw[YA s h0]);have H:=G (ze w s[0]);have H2:=G (Vp w hg s);have H3:=G (Jy w s hs);have H4:=G (jg w hg s);have b0:(0:Int)<(s.size:Int):=(by omega);unfold bv at H;clear hg;generalize Jl (sb s)=R at*;generalize yT (sb s)=n at*;generalize js (sb s)=l at*;generalize jz (sb s)=i at*;generalize hd:zS s[0]=d at*;clear hd;by_cases hn:n=0
 ·have b1:((n:Int) !=0)=false:=by rw[hn];rfl
  have Hf:=G (show R=((d&&i)||l)by rw[Hy.out,hn];simp);clear hn Hy;cases d<;>cases i<;>
  ·go_enter func198,ntmps198;go_wp2_with (first|(go_at_call 158;refine H.out.mono ?_;rintro e w1 ⟨rfl,rfl⟩)|(go_at_call 130;refine H2.out.mono ?_;rintro e w1 ⟨rfl,rfl⟩)|(go_at_call 226;refine H3.out.mono ?_;rintro e w1 ⟨rfl,rfl⟩)|(go_at_call 20;refine H4.out.mono ?_;rintro e w1 ⟨rfl,rfl⟩));go_ret;exact⟨by rw[Hf.out];rfl,rfl⟩
 ·have b1:((n:Int) !=0)=true:=bne_iff_ne.2 (by omega);have Hf:=G (show R=true by rw[Hy.out,jK5 hn];simp);clear hn Hy;cases d<;>cases i<;>
  ·go_enter func198,ntmps198;go_wp2_with (first|(go_at_call 158;refine H.out.mono ?_;rintro e w1 ⟨rfl,rfl⟩)|(go_at_call 130;refine H2.out.mono ?_;rintro e w1 ⟨rfl,rfl⟩)|(go_at_call 226;refine H3.out.mono ?_;rintro e w1 ⟨rfl,rfl⟩)|(go_at_call 20;refine H4.out.mono ?_;rintro e w1 ⟨rfl,rfl⟩));go_ret;exact⟨by rw[Hf.out];rfl,rfl⟩
def ltB:LB->LB->Bool
 |a::x,b::y=>if a=b then ltB x y else decide (a.toNat<b.toNat)
 |_,_=>false
def zt(x y:LB):Bool:=if x.length=y.length then ltB x y else decide (x.length<y.length)
def YV(x y:LB):LB:=if zt y x=true then y else x
def jt(s:Nat):LB:=
 if s=1 then [97]else if s=2 then [48]else if s=3 then [34,34]else if s<23 then signL.getD (s-4) []else resL.getD (s-23) []
def ZT(s:Nat):Bool:=decide (s<=2\/23<=s)
def zR(n:Nat)(e:LB×LB):LB×LB:=
 if zI n=true then e
 else if n=60 then(9::(jt 34++e.1),jt 34++e.1)
 else if 58<=n then(YV (9::48::e.1) (34::34::e.2),YV (48::e.1) (34::34::e.2))
 else if ZT n=true then(9::(jt n++e.1),jt n++e.1)
 else(jt n++e.2,jt n++e.2)
def kf(st:List Nat):LB×LB:=st.foldr zR ([],[])
def vf(t:Nat)(st:List Nat):List Nat:=(yk t (st.length+100) st).getD []
def qJ(st:List Nat)(best:LB)(t:Nat)(more:LB):LB:=
 if vd t st=true then
  (let r:=more++(kf (vf t st)).1
   if best=[]\/zt r best=true then r else best)
 else best
def zy(st:List Nat)(w:LB):List LB->Nat->LB->LB
 |[],_,best=>best
 |r::l,i,best=>zy st w l (i+1) (if w.isPrefixOf r=true then qJ st best (23+i) (r.drop w.length)else best)
def Jf(st:List Nat)(w:LB):LB:=
 let best:=zy st w resL 0 []
 if zS (w.headD 0)=true then qJ st best 2 []
 else if js w=true then qJ st best 1 []
 else if w.length<64/\jd w=true then qJ st best 1 [48]
 else best
def Kb(src:LB)(m:Mc):LB:=
 if m.fin=1 then(let e:=(kf m.stack).2;if e=[]then []else 10::e)
 else if m.fin=2 then Jf m.stack (src.drop m.from_)
 else if m.fin=3 then 61::(kf (vf (vK (src.drop m.from_ ++[61])) m.stack)).2
 else if m.fin=4 then 34::(kf (vf 3 m.stack)).2
 else if m.fin=5 then 34::34::(kf (vf 3 m.stack)).2
 else if m.fin=6 then 48::48::34::(kf (vf 3 m.stack)).2
 else if m.fin=7 then 48::34::(kf (vf 3 m.stack)).2
 else(kf m.stack).2
def ud(src:LB):Option LB:=if src.length<=60000 then(match vv src with
 | .error _=>none
 | .ok m=>some (Kb src m))else none
structure Nd where
 op:Int
 name:BA
 vk:Int
 vn:Int
 vt:BA
 vs:List BA
 kids:List Int
structure Atr where
 name:BA
 at_:Int
 order:Int
 opt:Bool
 kind:Int
 dflt:Int
 when_:Int
structure Stg where
 name:BA
 at_:Int
 order:Int
 in_:BA
 inAt:Int
 opens:Int
 closes:Int
structure Mil where
 name:BA
 at_:Int
 order:Int
 in_:BA
 inAt:Int
 when_:Int
structure Prm where
 name:BA
 at_:Int
 kind:Int
structure Eff where
 name:BA
 at_:Int
 worth:Int
structure Stp where
 name:BA
 at_:Int
 order:Int
 params:List Prm
 in_:BA
 inAt:Int
 when_:Int
 effects:List Eff
structure Tre where
 name:BA
 at_:Int
 ats:List Int
 nodes:List Nd
 steps:List Stp
 attrs:List Atr
 stages:List Stg
 miles:List Mil
def Tre.none_:Tre:=⟨⟨#[]⟩,0,[],[],[],[],[],[]⟩
structure Rdr where
 at_:Nat
 from_:Nat
 t:Nat
 order:Nat
 tree:Tre
def kD:Bool->LB->Nat
 |_,[]=>0
 |true,c::l=>if lfC c=true then kD false l+1 else kD true l+1
 |false,c::l=>if VU c=true then kD false l+1 else if c.toNat=35 then kD true l+1 else 0
def strLen:LB->Option Nat
 |[]=>none
 |c::l=>if c.toNat=34 then some 1 else if c.toNat=92 then(match l with
  |[]=>none
  |_::l' =>(strLen l').map (· +2))else(strLen l).map (· +1)
def jGm:LB->Option (Nat×Nat)
 |[]=>none
 |c::l=>
  if ju c=true then(let w:=(c::l).takeWhile ju;some (w.length,yR w))
  else if c.toNat=34 then(strLen l).map fun k=>(k+1,3)
  else if l.headD 0=61/\vK [c,61]≠0 then some (2,vK [c,61])
  else some (1,vK [c])
def kA(src:LB)(r:Rdr):Option Rdr:=
 let k:=r.at_ +kD false (src.drop r.at_)
 if src.length<=k then some {r with at_:=k,from_:=k}
 else(jGm (src.drop k)).map fun x=>{r with at_:=k+x.1,from_:=k,t:=x.2}
def kn(src:LB)(r:Rdr):LB:=(src.take r.at_).drop r.from_
def kJ(src:LB)(t:Nat)(r:Rdr):Option (Bool×Rdr):=if r.t=t then(kA src r).map fun r=>(true,r)else some (false,r)
def xB(src:LB)(r:Rdr):Option (BA×Int×Rdr):=(kA src r).map fun r' =>(⟨(kn src r).toArray⟩,(r.from_:Int),r')
def ye(n:Nd)(at_:Nat)(r:Rdr):Option (Int×Rdr):=if r.tree.nodes.length<1000000/\r.tree.ats.length<1000000 then some ((r.tree.nodes.length:Int),{r with tree:={r.tree with nodes:=r.tree.nodes++[n],ats:=r.tree.ats++[(at_:Int)]}})else none
def yw(op:Int)(kids:List Int):Nd:=⟨op,⟨#[]⟩,0,0,⟨#[]⟩,[],kids⟩
def jDz(t:Nat):Int:=if t=49 then 24 else if t=52 then 25 else if t=31 then 26 else if t=50 then 27 else if t=51 then 28 else 29+((t:Int)-53)
def ZK(c:UInt8):Nat:=if zS c=true then c.toNat-48 else c.toNat-87
def meantN:Nat->LB->Option LB
 |0,_=>none
 |_ +1,[]=>some []
 |f+1,c::l=>
  if c.toNat=92 then(match l with
   |[]=>none
   |d::l' =>if d.toNat=110 then(meantN f l').map (10:: ·)else if d.toNat=116 then(meantN f l').map (9:: ·)
    else if d.toNat=120 then(match l' with
     |a::b::l2=>if UG a=true/\UG b=true then(meantN f l2).map (UInt8.ofNat (16*ZK a+ZK b):: ·)else none
     |_=>none)
    else(meantN f l').map (d:: ·))
  else(meantN f l).map (c:: ·)
def VT:LB->Nat->Nat
 |[],n=>n
 |c::l,n=>VT l (10*n+(c.toNat-48))
def JN(t:Nat)(w:LB):Option Nd:=
 if t=2 then(if jz w=true/\w≠ []then some ⟨1,⟨#[]⟩,1,(VT w 0:Int),⟨#[]⟩,[],[]⟩else none)
 else if t=46\/t=47 then some ⟨2,⟨#[]⟩,2,47-(t:Int),⟨#[]⟩,[],[]⟩
 else if t=3 then(if 2<=w.length then(meantN (w.length+1) ((w.drop 1).take (w.length-2))).map fun v=>⟨3,⟨#[]⟩,3,0,⟨v.toArray⟩,[],[]⟩else none)
 else if t=1 then some ⟨5,⟨w.toArray⟩,0,0,⟨#[]⟩,[],[]⟩
 else some (yw 4 [])
inductive Job where
 |expr
 |row (level:Nat)
 |more (level:Nat) (root:Int)
 |two (op:Int) (root:Int) (level:Nat)
 |unary
 |list (last:Nat) (kids:List Int)
def jGE(t:Nat):Bool:=decide (t=2\/t=46\/t=47\/t=3\/t=48\/t=1)
def KG(level t:Nat):Int:=
 if level=43 then(if t=43 then 10 else 0)
 else if level=44 then(if t=44 then 9 else 0)
 else if level=18 then(if t=18\/t=19 then 18+((t:Int)-18)else 0)
 else(if 20<=t/\t<=22 then 20+((t:Int)-20)else 0)
def jBz(level:Nat):Nat:=if level=43 then 44 else if level=44 then 45 else if level=18 then 20 else 19
def exN(src:LB):Nat->Job->Rdr->Option (Int×List Int×Rdr)
 |0,_,_=>none
 |f+1,.expr,r=>
  if r.t≠40 then exN src f (.row 43) r
  else(kA src r).bind fun r1=>(exN src f .expr r1).bind fun c=>(kA src c.2.2).bind fun r2=>(exN src f .expr r2).bind fun a=>(kA src a.2.2).bind fun r3=>
   (exN src f .expr r3).bind fun b=>(ye (yw 23 [c.1,a.1,b.1]) r.from_ b.2.2).map fun x=>(x.1,[],x.2)
 |f+1,.row level,r=>
  if level=45 then
   (if r.t=45 then(kA src r).bind fun r1=>(exN src f (.row 45) r1).bind fun k=>(ye (yw 8 [k.1]) r.from_ k.2.2).map fun x=>(x.1,[],x.2)
    else(exN src f (.row 18) r).bind fun k=>
    if 12<=k.2.2.t/\k.2.2.t<=17 then exN src f (.two (11+((k.2.2.t:Int)-12)) k.1 18) k.2.2
    else if k.2.2.t=28 then exN src f (.two 17 k.1 18) k.2.2 else some k)
  else if level=43\/level=44\/level=18\/level=20 then(exN src f (.row (jBz level)) r).bind fun k=>exN src f (.more level k.1) k.2.2
  else exN src f .unary r
 |f+1,.more level root,r=>
  if KG level r.t=0 then some (root,[],r)
  else(exN src f (.two (KG level r.t) root (jBz level)) r).bind fun k=>exN src f (.more level k.1) k.2.2
 |f+1,.two op root level,r=>(kA src r).bind fun r1=>(exN src f (.row level) r1).bind fun q=>(ye (yw op [root,q.1]) r.from_ q.2.2).map fun x=>(x.1,[],x.2)
 |f+1,.unary,r=>
  if r.t=19 then(kA src r).bind fun r1=>(exN src f .unary r1).bind fun k=>(ye (yw 7 [k.1]) r.from_ k.2.2).map fun x=>(x.1,[],x.2)
  else if jGE r.t=true then(JN r.t (kn src r)).bind fun n=>(kA src r).bind fun r1=>(ye n r.from_ r1).map fun x=>(x.1,[],x.2)
  else if r.t=6 then(kA src r).bind fun r1=>(exN src f .expr r1).bind fun k=>(kA src k.2.2).bind fun r2=>some (k.1,[],r2)
  else if r.t=4 then(kA src r).bind fun r1=>(exN src f (.list 5 []) r1).bind fun k=>(ye (yw 6 k.2.1) r.from_ k.2.2).map fun x=>(x.1,[],x.2)
  else if¬(r.t=31\/(49<=r.t/\r.t<=57))then none
  else(kA src r).bind fun r1=>(kA src r1).bind fun r2=>
   if r.t=49\/r.t=52\/r.t=31 then(xB src r2).bind fun w=>(kA src w.2.2).bind fun r3=>(ye ⟨jDz r.t,w.1,0,0,⟨#[]⟩,[],[]⟩ r.from_ r3).map fun x=>(x.1,[],x.2)
   else(exN src f (.list 7 []) r2).bind fun k=>(ye (yw (jDz r.t) k.2.1) r.from_ k.2.2).map fun x=>(x.1,[],x.2)
 |f+1,.list last kids,r=>
  if r.t=last then(kA src r).bind fun r1=>some (0,kids,r1)
  else if kids.length<1000000 then(kJ src 8 r).bind fun s=>(exN src f .expr s.2).bind fun k=>exN src f (.list last (kids++[k.1])) k.2.2 else none
def jDZ(src:LB)(f:Nat)(r:Rdr):Option (Int×Rdr):=(exN src f .expr r).map fun k=>(k.1,k.2.2)
def zG(src:LB)(f:Nat)(first:Nat)(r:Rdr):Option (Int×Rdr):=
 if r.t≠first then some (-1,r)
 else(kA src r).bind fun r1=>if first=32\/first=12 then jDZ src f r1 else(kA src r1).bind fun r2=>jDZ src f r2
def KE(src:LB)(f:Nat)(first:Nat)(r:Rdr):Option (Int×Rdr):=
 (zG src f first r).bind fun k=>if 0<=k.1 then(kA src k.2).bind fun r1=>some (k.1,r1)else some k
def Xt(src:LB)(r:Rdr):Option (BA×Int×Int×Rdr):=
 (kA src r).bind fun r1=>(xB src r1).bind fun w=>if w.2.2.order<1000000 then some (w.1,w.2.1,(w.2.2.order:Int),{w.2.2 with order:=w.2.2.order+1})else none
def inN(src:LB)(r:Rdr):Option (BA×Int×Rdr):=if r.t=28 then(kA src r).bind fun r1=>xB src r1 else some (⟨#[]⟩,0,r)
def jDK(src:LB)(r:Rdr):Option (Int×Rdr):=if 34<=r.t/\r.t<=38 then(kA src r).bind fun r1=>some ((r.t:Int)-33,r1)else none
def jF5(src:LB)(f:Nat)(r:Rdr):Option Rdr:=
 (Xt src r).bind fun d=>(kA src d.2.2.2).bind fun r1=>(kJ src 39 r1).bind fun o=>(jDK src o.2).bind fun k=>(zG src f 12 k.2).bind fun a=>(zG src f 32 a.2).bind fun b=>(kA src b.2).bind fun r2=>
  if r2.tree.attrs.length<1000000 then some {r2 with tree:={r2.tree with attrs:=r2.tree.attrs++[⟨d.1,d.2.1,d.2.2.1,o.1,k.1,a.1,b.1⟩]}}else none
def UU(src:LB)(f:Nat)(r:Rdr):Option Rdr:=
 (Xt src r).bind fun d=>(inN src d.2.2.2).bind fun i=>(kA src i.2.2).bind fun r1=>(KE src f 29 r1).bind fun a=>(KE src f 30 a.2).bind fun b=>(kA src b.2).bind fun r2=>
  if r2.tree.stages.length<1000000 then some {r2 with tree:={r2.tree with stages:=r2.tree.stages++[⟨d.1,d.2.1,d.2.2.1,i.1,i.2.1,a.1,b.1⟩]}}else none
def jE5(src:LB)(f:Nat)(r:Rdr):Option Rdr:=
 (Xt src r).bind fun d=>(inN src d.2.2.2).bind fun i=>(KE src f 31 i.2.2).bind fun a=>
  if a.2.tree.miles.length<1000000 then some {a.2 with tree:={a.2.tree with miles:=a.2.tree.miles++[⟨d.1,d.2.1,d.2.2.1,i.1,i.2.1,a.1⟩]}}else none
def YN(src:LB):Nat->List Prm->Rdr->Option (List Prm×Rdr)
 |0,_,_=>none
 |f+1,ps,r=>if r.t=7 then some (ps,r)
  else if ps.length<1000000 then(kJ src 8 r).bind fun s=>(xB src s.2).bind fun w=>(kA src w.2.2).bind fun r1=>(jDK src r1).bind fun k=>YN src f (ps++[⟨w.1,w.2.1,k.1⟩]) k.2 else none
def Kf(src:LB):Nat->List Eff->Rdr->Option (List Eff×Rdr)
 |0,_,_=>none
 |f+1,es,r=>if r.t=5 then some (es,r)
  else if es.length<1000000 then(kJ src 33 r).bind fun s=>(xB src s.2).bind fun w=>
   (if s.1=true then some (-1,w.2.2)else(kA src w.2.2).bind fun r1=>jDZ src f r1).bind fun x=>(kA src x.2).bind fun r2=>Kf src f (es++[⟨w.1,w.2.1,x.1⟩]) r2 else none
def jEY(src:LB)(f:Nat)(r:Rdr):Option Rdr:=
 (Xt src r).bind fun d=>(kA src d.2.2.2).bind fun r1=>(YN src f [] r1).bind fun p=>(kA src p.2).bind fun r2=>(inN src r2).bind fun i=>(zG src f 32 i.2.2).bind fun g=>(kA src g.2).bind fun r3=>
  (Kf src f [] r3).bind fun e=>(kA src e.2).bind fun r4=>
   if r4.tree.steps.length<1000000 then some {r4 with tree:={r4.tree with steps:=r4.tree.steps++[⟨d.1,d.2.1,d.2.2.1,p.1,i.1,i.2.1,g.1,e.1⟩]}}else none
def VS(src:LB):Nat->Rdr->Option Rdr
 |0,_=>none
 |f+1,r=>
  if r.t=24 then(jF5 src f r).bind (VS src f)
  else if r.t=25 then(UU src f r).bind (VS src f)
  else if r.t=26 then(jE5 src f r).bind (VS src f)
  else if r.t=27 then(jEY src f r).bind (VS src f)
  else some r
def Jj(src:LB)(f:Nat):Option Rdr:=
 (kA src ⟨0,0,0,0,Tre.none_⟩).bind fun r1=>(kA src r1).bind fun r2=>(xB src r2).bind fun w=>(kA src w.2.2).bind fun r3=>
  VS src f {r3 with tree:={r3.tree with name:=w.1,at_:=w.2.1}}
theorem XB{t f g:Nat}{l k k' :List Nat}(h:yk t f l=some k)(h' :yk t g l=some k'):k=k' :=by
 have h1:=zT t f (max f g) l k (by omega) h;have h2:=zT t g (max f g) l k' (by omega) h';rw[h1]at h2;exact jL5 h2
def Qn(n t:Nat):Bool:= !kR n t||(match yk t 30 [n]with|some k=>decide (k.length<=12)|none=>true)
theorem xK:∀n:Fin 85,∀t:Fin 58,Qn n.val t.val=true:=by decide+kernel
theorem Vv(t:Nat)(ht:t<58):∀(st:List Nat) (f:Nat) (k:List Nat),(∀n∈st,n<85)->vd t st=true->yk t f st=some k->k.length<=st.length+12
 |[],f,k,_,h,_=>by cases h
 |n::l,f,k,h5,h,hk=>by
  rw[vd]at h;split at h
  ·rename_i hb;obtain⟨k0,LY⟩:=Qm n t ht hb;have h1:=Kl t 30 [n] k0 l LY;obtain rfl:=XB hk h1;have h2:=xK ⟨n,h5 n List.mem_cons_self⟩ ⟨t,ht⟩;simp only[Qn,hb,Bool.not_true,Bool.false_or,LY]at h2;have h3:=jM8 h2;rw[jJ4,jK6];omega
  ·rename_i hb;split at h
   ·rename_i he;cases f with
    |zero=>cases hk
    |succ f=>
     rw[yk]at hk;have Nj:=Qr n he;rw[jJ5 (by omega),qS n t (by simpa using hb),jN8]at hk;have:=Vv t ht l f k (fun x hx=>h5 x (jN1 _ hx)) h hk;rw[jK6];omega
   ·cases h
theorem JA{t:Nat}(ht:t<58){m m' :Mc}{a k f:Nat}{fin:Nat}(h5:∀n∈m.stack,n<85)(hm:vd t m.stack=true)(h:vz t {at_:=a,stack:=m.stack,fin:=fin,from_:=f} k=.ok m'):m'.stack.length<=m.stack.length+12:=by
 unfold vz at h;split at h
 ·rename_i s hs;injection h with h;rw[<-h];exact Vv t ht m.stack _ s h5 hm hs
 ·cases h
inductive Goes:Mc->LB->Mc->LB->Prop
 |refl (m:Mc) (l:LB):Goes m l m l
 |step {m m1 m' :Mc} {c:UInt8} {l l' :LB}:Ji m (c::l)=.ok m1->Goes m1 ((c::l).drop (m1.at_ -m.at_)) m' l' ->Goes m (c::l) m' l'
theorem Goes.trans{m m1 m2:Mc}{l l1 l2:LB}(h:Goes m l m1 l1)(k:Goes m1 l1 m2 l2):Goes m l m2 l2:=by
 induction h with
 |refl=>exact k
 |step h1 _ ih=>exact .step h1 (ih k)
theorem Goes.one{m m1 m' :Mc}{l0 l l' :LB}(n:Nat)(h:Ji m l0=.ok m1)(hn:m1.at_=m.at_ +n)(h0:l0≠ [])(hl:l0.drop n=l)(k:Goes m1 l m' l'):Goes m l0 m' l' :=by
 cases l0 with
 |nil=>exact absurd rfl h0
 |cons c l1=>exact .step h (by rw[hn,Nat.add_sub_cancel_left,hl];exact k)
end Go.Proofs.YtmmjcbbogokmfaaGreatDoor

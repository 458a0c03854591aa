import Derived.Test.YtifbhcfdealfaaaGreatDoorMl02
set_option maxRecDepth 100000
set_option maxHeartbeats 25600000
namespace Go.Proofs.YtifbhcfdealfaaaGreatDoor
open Go.Proofs.Tryz
open Go.RowKit
theorem jDR:(prog.info? 203).map (fun i=>(i.zero,i.size,i.bytes))=some (some (.int .u8 0),1,1):=by kernel_rfl
def Stk(w:World)(st:List Nat)(A:OA)(c:Nat):Prop:=w.ownsRow 8 203 1 (.slice A st.length c) st.length (st.reverse.map yv)
structure Mac(w:World)(g:Nat)(r:Option Nat)(src:BA)(m:Mc)(A:OA)(c:Nat):Prop where
 low:8<=g
 blk:Blk w g 202 #[.string src,.int .i64 (m.at_:Int),.slice A m.stack.length c,.int .u8 (m.fin:Int),.int .i64 (m.from_:Int)]
 own:Stk w m.stack A c
 row:A.map (·.block)=r
 sym:∀n∈m.stack,n<85
def MX(g:Nat)(r:Option Nat):Nat->Prop:=fun k=>k=g\/some k=r
def MFr(w:World)(r r' :Option Nat):Prop:=r' =r\/∃k,r' =some k/\w.heap.size<=k
def MStep(w:World)(g:Nat)(r:Option Nat)(w' :World)(src:BA)(m:Mc):Prop:=∃r' A c,Mac w' g r' src m A c/\Kp (MX g r) w w' /\MFr w r r'
theorem jDz{a b:Nat}(h:yv a=yv b):a=b:=by
 unfold yv at h;injection h with _ h;omega
theorem Vd:∀{a b:List Nat},a.map yv=b.map yv->a=b
 |[],[],_=>rfl
 |[],_::_,h=>by cases h
 |_::_,[],h=>by cases h
 |x::a,y::b,h=>by
  rw[List.map_cons,List.map_cons]at h;injection h with h1 h2;rw[jDz h1,Vd h2]
theorem jGZ(l:List Nat):∀u∈l.map yv,u.oneCell' =true:=by
 intro u hu;obtain⟨b,_,rfl⟩:=List.mem_map.1 hu;rfl
section
variable{w w1 w2:World}{g:Nat}{r r1:Option Nat}{src:BA}{m m' :Mc}{st:List Nat}{A:OA}{c n:Nat}
theorem Stk.pop(h:Stk w (n::st) A c):Stk w st A c:=by
 obtain⟨h1,h2⟩:=h;refine⟨by simp,?_⟩;rcases h2 with⟨_,h0⟩|⟨g,cap,cur,hv,hb,hg,hn,hm,hs,Ni⟩
 ·simp at h0
 ·injection hv with hA _ hc;subst hA hc;refine .inr ⟨g,c,cur,rfl,hb,hg,by simp at hn;omega,hm,hs,?_⟩;have e:cur.toList.take (st.length*1)=(cur.toList.take ((n::st).length*1)).take (st.length*1):=by
   rw[List.take_take,jK6,Nat.min_eq_left (by omega)]
  rw[e,Ni,List.reverse_cons,jN3];exact List.take_left' (by simp)
theorem Stk.cap(h:Stk w (n::st) A c):st.length<=c:=by
 rcases h.2 with⟨h1,h0⟩|⟨g',cap,cur,hv,_,_,h1,_⟩
 ·cases h0
 ·injection hv with _ _ hv;subst hv;simp only[jK6]at h1;omega
theorem Stk.rd(h:Stk w st A c):Rd w 1 A st.length (st.reverse.map yv):=Rd.of_own h
theorem Stk.kp{X:Nat->Prop}(h:Stk w st A c)(hk:Kp X w w1)(hx:∀k,A.map (·.block)=some k->¬X k):Stk w1 st A c:=
 jJ h hk (fun k e=>hx k (by rw[<-jA A st.length c];exact e))
theorem Stk.at_(h:Stk w st A c)(j:Nat)(hj:j<st.length):∃b o,A=some ⟨b,o,none⟩/\w.cell? ⟨b,o+(st.length-1-j),none⟩=some (yv (st.getD j 0)):=by
 obtain⟨b,o,u,hA,hu,hc⟩:=h.rd.at_ (k:=st.length-1-j) (by omega);refine⟨b,o,hA,?_⟩;rw[jM1,List.getElem?_reverse (by omega),show st.length-1-(st.length-1-j)=j by omega,jJ9 hj]at hu;simp only[Option.map_some,Option.some.injEq]at hu;rw[hc,<-hu];simp[List.getD,List.getElem?_eq_getElem hj]
theorem Mac.c0(h:Mac w g r src m A c):w.cell? ⟨g,0,none⟩=some (.string src):=h.blk.at_ 0 rfl
theorem Mac.c1(h:Mac w g r src m A c):w.cell? ⟨g,1,none⟩=some (.int .i64 (m.at_:Int)):=h.blk.at_ 1 rfl
theorem Mac.c2(h:Mac w g r src m A c):w.cell? ⟨g,2,none⟩=some (.slice A m.stack.length c):=h.blk.at_ 2 rfl
theorem Mac.c3(h:Mac w g r src m A c):w.cell? ⟨g,3,none⟩=some (.int .u8 (m.fin:Int)):=h.blk.at_ 3 rfl
theorem Mac.c4(h:Mac w g r src m A c):w.cell? ⟨g,4,none⟩=some (.int .i64 (m.from_:Int)):=h.blk.at_ 4 rfl
theorem Mac.z(h:Mac w g r src m A c)(i:Nat):w.frozen? ⟨g,i,none⟩=false:=h.blk.frozen i
theorem Mac.ne(h:Mac w g r src m A c):r≠some g:=by
 have:=jH h.own h.blk (by decide);rw[jA,h.row]at this;exact this
theorem Mac.lt(h:Mac w g r src m A c):∀k,r=some k->8<=k/\k<w.heap.size:=fun k hk=>h.own.lt k (by rw[jA,h.row];exact hk)
theorem Mac.kp{X:Nat->Prop}(h:Mac w g r src m A c)(hk:Kp X w w1)(hg:¬X g)(hr:∀k,r=some k->¬X k):Mac w1 g r src m A c:=
 ⟨h.low,h.blk.kp hk hg,h.own.kp hk (fun k e=>hr k (by rw[<-h.row];exact e)),h.row,h.sym⟩
theorem Mac.old(h:Mac w g r src m A c)(hk:Old w w1):Mac w1 g r src m A c:=h.kp hk (fun f=>f) (fun _ _ f=>f)
theorem Mac.step(h:Mac w g r src m A c):MStep w g r w src m:=⟨r,A,c,h,jQ0 _ _,.inl rfl⟩
theorem MX.trans(hf:MFr w r r1):∀b,b<w.heap.size->MX g r1 b->MX g r b:=by
 intro b hb hx;rcases hx with rfl|hx
 ·exact .inl rfl
 ·rcases hf with rfl|⟨k,rfl,Gx⟩
  ·exact .inr hx
  ·injection hx with hx;omega
theorem MFr.trans{r2:Option Nat}(hf:MFr w r r1)(hs:w.heap.size<=w1.heap.size)(MJ:MFr w1 r1 r2):MFr w r r2:=by
 rcases MJ with rfl|⟨k,rfl,Gx⟩
 ·exact hf
 ·exact .inr ⟨k,rfl,jL4 hs Gx⟩
theorem MStep.trans(hk:Kp (MX g r) w w1)(hf:MFr w r r1)(h:MStep w1 g r1 w2 src m):MStep w g r w2 src m:=by
 obtain⟨r2,A,c,hw,Fu,MJ⟩:=h;exact⟨r2,A,c,hw,hk.trans Fu (MX.trans hf),hf.trans hk.size MJ⟩
theorem Sg.mx(h:Sg w)(hM:Mac w g r src m A c)(hk:Kp (MX g r) w w1):Sg w1:=by
 have:=hM.low;refine h.kp hk ?_ ?_
 ·rintro (e|e)
  ·omega
  ·have:=hM.lt 1 e.symm;omega
 ·rintro (e|e)
  ·omega
  ·have:=hM.lt 3 e.symm;omega
theorem Mac.setAt(h:Mac w g r src m A c)(k:Nat):Mac (w.setCell ⟨g,1,none⟩ (.int .i64 (k:Int))) g r src {m with at_:=k} A c/\Kp (MX g r) w (w.setCell ⟨g,1,none⟩ (.int .i64 (k:Int))):=by
 have hk:=(jQ0 (fun b=>b=g) w).setCell (p:=⟨g,1,none⟩) (fun _=>rfl) (.int .i64 (k:Int));exact⟨⟨h.low,by simpa using h.blk.set_ 1 (.int .i64 (k:Int)),h.own.kp hk (fun b e e' =>h.ne (by rw[<-h.row,e,e'])),h.row,h.sym⟩,hk.mono (fun _ _ e=>.inl e)⟩
theorem Mac.setFin(h:Mac w g r src m A c)(k:Nat):Mac (w.setCell ⟨g,3,none⟩ (.int .u8 (k:Int))) g r src {m with fin:=k} A c/\Kp (MX g r) w (w.setCell ⟨g,3,none⟩ (.int .u8 (k:Int))):=by
 have hk:=(jQ0 (fun b=>b=g) w).setCell (p:=⟨g,3,none⟩) (fun _=>rfl) (.int .u8 (k:Int));exact⟨⟨h.low,by simpa using h.blk.set_ 3 (.int .u8 (k:Int)),h.own.kp hk (fun b e e' =>h.ne (by rw[<-h.row,e,e'])),h.row,h.sym⟩,hk.mono (fun _ _ e=>.inl e)⟩
theorem Mac.setFrom(h:Mac w g r src m A c)(k:Nat):Mac (w.setCell ⟨g,4,none⟩ (.int .i64 (k:Int))) g r src {m with from_:=k} A c/\Kp (MX g r) w (w.setCell ⟨g,4,none⟩ (.int .i64 (k:Int))):=by
 have hk:=(jQ0 (fun b=>b=g) w).setCell (p:=⟨g,4,none⟩) (fun _=>rfl) (.int .i64 (k:Int));exact⟨⟨h.low,by simpa using h.blk.set_ 4 (.int .i64 (k:Int)),h.own.kp hk (fun b e e' =>h.ne (by rw[<-h.row,e,e'])),h.row,h.sym⟩,hk.mono (fun _ _ e=>.inl e)⟩
theorem Mac.setPop(h:Mac w g r src m A c)(hm:m.stack=n::st):Mac (w.setCell ⟨g,2,none⟩ (.slice A st.length c)) g r src {m with stack:=st} A c/\Kp (MX g r) w (w.setCell ⟨g,2,none⟩ (.slice A st.length c)):=by
 have hk:=(jQ0 (fun b=>b=g) w).setCell (p:=⟨g,2,none⟩) (fun _=>rfl) (.slice A st.length c);have ho:Stk w st A c:=(hm▸h.own:Stk w (n::st) A c).pop;exact⟨⟨h.low,by simpa using h.blk.set_ 2 (.slice A st.length c),ho.kp hk (fun b e e' =>h.ne (by rw[<-h.row,e,e'])),h.row,fun x hx=>h.sym x (by rw[hm];exact jN1 _ hx)⟩,hk.mono (fun _ _ e=>.inl e)⟩
theorem Mac.put{wr wx:World}{A' :OA}{c' k x:Nat}(h:Mac wr g r src m A c)(hk:m.stack.length=k)(hx:Old wr wx)(D3:x<85)
  (hI:w1.ownsRow 8 203 1 (.slice A' (k+1) c') (k+1) (m.stack.reverse.map yv++[yv x])) (hg:wx.grownBy w1 (Value.slice A k c).ownBlock)
  (F1:A'.map (·.block)=(Value.slice A k c).ownBlock\/A'.map (·.block)=some wx.heap.size):
  MStep wr g r (w1.setCell ⟨g,2,none⟩ (.slice A' (k+1) c')) src {m with stack:=x::m.stack}:=by
 subst hk;rw[jA]at F1 hg;have Fe:=h.ne;rw[<-h.row]at Fe;have ND:=(h.blk.old hx).grown hg (fun e=>Fe e.symm);have FY:=ND.set_ 2 (.slice A' (m.stack.length+1) c');have Gq:=h.blk.lt;refine⟨A'.map (·.block),A',c',⟨h.low,by simpa using FY,?_,rfl,?_⟩,?_,?_⟩
 ·show World.ownsRow _ 8 _ 1 (.slice A' (m.stack.length+1) c') (m.stack.length+1) _;rw[List.reverse_cons,jN3];refine jJ hI ((jQ0 (fun k=>k=g) _).setCell (p:=⟨g,2,none⟩) (fun _=>rfl) _) ?_;rw[jA];rintro k e rfl;rcases F1 with h1|h1
  ·rw[h1]at e;exact Fe e
  ·rw[h1]at e;injection e with e;have:=hx.size;omega
 ·intro n hn;rcases jN4 hn with rfl|hn
  ·exact D3
  ·exact h.sym n hn
 ·rw[<-h.row];exact Kp.setCell (Kp.grown (hx.mono (Y:=MX g (A.map (·.block))) (fun _ _ f=>f.elim)) hg (fun k e _=>.inr e.symm)) (p:=⟨g,2,none⟩) (fun _=>.inl rfl) _
 ·rcases F1 with h1|h1
  ·exact .inl (by rw[h1,h.row])
  ·exact .inr ⟨_,h1,hx.size⟩
theorem Stk.uniq{st' :List Nat}(h:Stk w st A c)(h' :Stk w st' A c)(hl:st.length=st'.length):st=st' :=by
 have e:st.reverse.map yv=st'.reverse.map yv:=by
  apply List.ext_getElem?;intro j;by_cases hj:j<st.length
  ·obtain⟨b,o,u,hA,hu,hc⟩:=h.rd.at_ (k:=j) hj;obtain⟨b',o',u',Gy,Q0,SU⟩:=h'.rd.at_ (k:=j) (by omega);rw[hA]at Gy;injection Gy with Gy;injection Gy with h1 h2;subst h1 h2;rw[hc]at SU;rw[hu,Q0,SU]
  ·rw[List.getElem?_eq_none (by simpa using hj),List.getElem?_eq_none (by simp;omega)]
 have:=Vd e;exact List.reverse_inj.1 this
theorem Mac.uniq{src' :BA}{A' :OA}{c' :Nat}(h:Mac w g r src m A c)(h' :Mac w g r1 src' m' A' c'):m.stack=m'.stack:=by
 have hb:=h.blk;have Gm:=h'.blk;unfold Blk at hb Gm;rw[hb]at Gm;injection Gm with e;injection e with e _ _;have e2:(#[Value.string src,.int .i64 (m.at_:Int),.slice A m.stack.length c,.int .u8 (m.fin:Int),.int .i64 (m.from_:Int)])[2]? =(#[Value.string src',.int .i64 (m'.at_:Int),.slice A' m'.stack.length c',.int .u8 (m'.fin:Int),.int .i64 (m'.from_:Int)])[2]? :=(by rw[e]);simp only[jJ7,List.getElem?_cons_succ,List.getElem?_cons_zero,Option.some.injEq,Value.slice.injEq]at e2;obtain⟨rfl,hl,rfl⟩:=e2;exact h.own.uniq h'.own hl
end
def RowT(w:World)(l:List Nat)(e:Ending)(w' :World):Prop:=∃A c,e=.returned (.slice A l.length c)/\Rd w' 1 A l.length (l.map yv)/\Av (fun k=>k<w.heap.size) l.length A/\Old w w'
theorem RowT.none_(w:World){R:List Nat}(e:R=[]):RowT w R (.returned (.slice none 0 0)) w:=⟨none,0,by rw[e];rfl,by rw[e];exact Rd.none_,(fun _ _ h=>by cases h),jQ0 _ _⟩
theorem RowT.of(w:World)(l:List Nat){R:List Nat}(e:R=l){cs:Array Value}(hc:cs=(l.map yv).toArray){k:Nat}(hk:k=l.length):RowT w R (.returned (.slice (some ⟨w.heap.size,0,none⟩) k k)) (w.alloc (.cells cs 203)):=by
 subst e hc hk;refine⟨_,_,rfl,⟨by simp,fun _=>⟨_,_,rfl,fun j u hu=> ?_⟩⟩,(fun _ ad e hlt=>by injection e with e;subst e;exact Nat.lt_irrefl _ hlt),(jQ0 _ _).alloc _⟩;have:=(jQ2 w 203 (R.map yv).toArray).at_ j (v:=u) (by rw[jJ7];exact hu);rw[Nat.zero_add];exact this
theorem YT(w:World)(t:Nat):Calls prog 301 #[yv t] w (RowT w (vW t)):=by
 unfold yv;by_cases hn:t∈ [24,25,26,27]
 ·simp only[List.mem_cons,List.not_mem_nil,or_false]at hn;rcases hn with rfl|rfl|rfl|rfl
  all_goals
   simp only[Int.cast_ofNat_Int];go_enter func301,ntmps301;go_wp2;go_ret;exact RowT.of w _ rfl rfl rfl
 ·have hm:=hn;simp only[List.mem_cons,List.not_mem_nil,or_false]at hm;have Hy:=G (show vW t=[]by unfold vW;rw[jJ5 (by omega)];rw[jJ5 (by omega)];rw[jJ5 (by omega)];rw[jJ5 (by omega)]);clear hm;have b24:=kO hn 24;have b25:=kO hn 25;have b26:=kO hn 26;have b27:=kO hn 27;clear hn;go_enter func301,ntmps301;go_wp2;go_ret;exact RowT.none_ w Hy.out
theorem Uh(w:World)(t:Nat):Calls prog 302 #[yv t] w (RowT w (JT t)):=by
 unfold yv;by_cases hn:t∈ [1,2,3,4,6,31,46,47,48,49,50,51,52,53,54,55,56,57]
 ·simp only[List.mem_cons,List.not_mem_nil,or_false]at hn;rcases hn with rfl|rfl|rfl|rfl|rfl|rfl|rfl|rfl|rfl|rfl|rfl|rfl|rfl|rfl|rfl|rfl|rfl|rfl
  all_goals
   simp only[Int.cast_ofNat_Int];go_enter func302,ntmps302;go_wp2;go_ret;exact RowT.of w _ rfl rfl rfl
 ·have hm:=hn;simp only[List.mem_cons,List.not_mem_nil,or_false]at hm;have Hy:=G (show JT t=[]by unfold JT;rw[jJ5 (by omega)];rw[jJ5 (by omega)];rw[jJ5 (by omega)];rw[jJ5 (by omega)];rw[jJ5 (by omega)];rw[jJ5 (by omega)];rw[jJ5 (by omega)]);clear hm;have b1:=kO hn 1;have b2:=kO hn 2;have b3:=kO hn 3;have b4:=kO hn 4;have b6:=kO hn 6;have b31:=kO hn 31;have b46:=kO hn 46;have b47:=kO hn 47;have b48:=kO hn 48;have b49:=kO hn 49;have b50:=kO hn 50;have b51:=kO hn 51;have b52:=kO hn 52;have b53:=kO hn 53;have b54:=kO hn 54;have b55:=kO hn 55;have b56:=kO hn 56;have b57:=kO hn 57;clear hn;go_enter func302,ntmps302;go_wp2;go_ret;exact RowT.none_ w Hy.out
theorem jCW(s:BA)(k:Nat)(h:k<s.size):(sb s)[k]? =some s[k]:=by
 have h' :k<(sb s).length:=by rw[jB];exact h
 rw[jJ9 h'];rfl
theorem jt(x:BA)(a b:Nat):sb (x.extract a b)=((sb x).drop a).take (b-a):=by
 have h:=ByteArray.extract_mk (sb x) a b;rw[XP]at h;rw[h];rfl
theorem jB2:∀(a b:LB),(Op.bytesLess a b||a==b)=leB a b
 |[],[]=>rfl
 |[],y::b=>rfl
 |x::a,[]=>rfl
 |x::a,y::b=>by
  have ih:=jB2 a b;rw[leB,<-ih];have hn:(x<y)↔x.toNat<y.toNat:=Iff.rfl;have he:(x=y)↔x.toNat=y.toNat:=⟨fun h=>by rw[h],fun h=>UInt8.toNat_inj.1 h⟩;rw[show Op.bytesLess (x::a) (y::b)=(decide (x<y)||(x==y&&Op.bytesLess a b))from rfl];by_cases h1:x.toNat<y.toNat
  ·simp[hn,h1]
  ·by_cases h2:y.toNat<x.toNat
   ·have h3:¬x=y:=fun e=>by rw[he]at e;omega
    simp[hn,h1,h2,h3]
   ·have h3:x=y:=he.2 (by omega);subst h3;simp
theorem jBI(x:BA)(h:1<x.size)(h0:x[0].toNat=48):yD (sb x)=yD (sb (x.extract 1 x.size)):=by
 rw[jt,jK4 (by rw[jK8,jB];omega)];have h1:=jCW x 0 (by omega);have h2:=jB x;cases e:sb x with
 |nil=>rw[e]at h2;simp at h2;omega
 |cons a l=>
  cases l with
  |nil=>rw[e]at h2;simp at h2;omega
  |cons b l=>
   rw[e]at h1;simp only[List.getElem?_cons_zero,Option.some.injEq]at h1;have:a=48:=UInt8.toNat_inj.1 (by rw[h1,h0];rfl);rw[yD,jJ6 this,List.drop_succ_cons,List.drop_zero]
theorem UR(x:BA)(h:∀h:1<x.size,x[0].toNat≠48):yD (sb x)=sb x:=by
 have h2:=jB x;cases e:sb x with
 |nil=>rfl
 |cons a l=>
  cases l with
  |nil=>rfl
  |cons b l=>
   rw[e]at h2;simp only[jK6]at h2;have h1:=jCW x 0 (by omega);rw[e]at h1;simp only[List.getElem?_cons_zero,Option.some.injEq]at h1;rw[yD,jJ5 (fun ha=>h (by omega) (by rw[<-h1,ha];rfl))]
theorem JA(w:World)(s:BA)(hs:s.size<=1000000):Calls prog 287 #[.string s] w fun e w' =>e=.returned (.bool (jZ (sb s)))/\w=w' :=by
 have HL:=G (show jZ (sb s)=((sb s).all yU&&(decide ((yD (sb s)).length<19)||(decide ((yD (sb s)).length=19)&&leB (yD (sb s)) yJ)))from rfl);generalize jZ (sb s)=R at*;go_enter func287,ntmps287;go_wp2;go_loop [6] (fun i=>∃k:Nat,k<=s.size/\i=.int .i64 k/\((sb s).take k).all yU=true) (fun i=>s.size-(intOf i).toNat)
 case atStart=>exact⟨0,Nat.zero_le _,rfl,rfl⟩
 case round=>
  obtain⟨k,hk,rfl,FL⟩:=hrel;by_cases hlt:k<s.size
  ·have G9:=G (show((sb s).take (k+1)).all yU=yU s[k]by rw[yw s k hlt,List.all_append,FL];simp);have Gs:=G (show yU s[k]=false->R=false from fun h=>by
    rw[HL.out];have:(sb s).all yU=false:=by
     rw[<-Bool.not_eq_true,List.all_eq_true];intro h';have:=h' s[k] (jBi s k hlt);rw[h]at this;cases this
    rw[this];rfl)
   have b2:(0:Int)<=(k:Int):=(by omega);have b3:(k:Int)<(s.size:Int):=(by omega);have b4:(k:Int).toNat=k:=(by omega);have b5:IntKind.i64.wrap ((k:Int)+1)=(k:Int)+1:=jQ3 _ (by omega);have Hw:=G (zJ w s[k]);unfold bv at Hw;clear FL;generalize hw:yU s[k]=W at*;clear hw;cases W
   ·have Hn:=G (Gs.out rfl);go_wp2_with (go_at_call 219;refine Hw.out.mono ?_;rintro e w1 ⟨rfl,rfl⟩);go_ret;exact⟨by rw[Hn.out];rfl,rfl⟩
   ·go_wp2_with (go_at_call 219;refine Hw.out.mono ?_;rintro e w1 ⟨rfl,rfl⟩);exact⟨⟨k+1,by omega,by go_num,G9.out⟩,by simp[intOf];omega⟩
  ·obtain rfl:k=s.size:=(by omega);have Hy:=G (show R=(decide ((yD (sb s)).length<19)||(decide ((yD (sb s)).length=19)&&leB (yD (sb s)) yJ))by
    rw[HL.out,show(sb s).all yU=true by rw[<-FL,<-jB,List.take_length]];rfl)
   clear FL HL hk hlt hs;go_wp2;go_loop [0] (fun v=>∃x:BA,v=.string x/\yD (sb s)=yD (sb x)) (fun v=>match v with| .string x=>x.size|_=>0)
   case atStart=>exact⟨s,rfl,rfl⟩
   case round=>
    obtain⟨x,rfl,hx⟩:=hrel;by_cases hc:∃h:1<x.size,x[0].toNat=48
    ·obtain⟨h1,Z8⟩:=hc;have b1:(1:Int)<(x.size:Int):=(by omega);have b0:(0:Int)<(x.size:Int):=(by omega);have c1:(1:Int)<=(x.size:Int):=(by omega);have h0:0<x.size:=(by omega);have Hx:=G (hx.trans (jBI x h1 Z8));have hb:(((x[0]'h0).toNat:Int)==48)=true:=by rw[Z8];rfl
     have FA:=G (show(x.extract 1 x.size).size<x.size by rw[<-jB,jt,jK9,jK8,jB];omega);clear hx Z8;go_wp2;exact⟨⟨_,rfl,Hx.out⟩,FA.out⟩
    ·have hz:=UR x (fun h1 h2=>hc ⟨h1,h2⟩);have FQ:=G (show R=(decide (x.size<19)||(decide (x.size=19)&&(Op.bytesLess x.toList yJ||x.toList==yJ)))by
      rw[Hy.out,hx,hz,jB,jB2,ByteArray.toList_eq];rfl)
     unfold yJ at FQ;have Hc:=G hc;clear hx hz Hy hc;by_cases h1:1<x.size
     ·have b1:(1:Int)<(x.size:Int):=(by omega);have h0:0<x.size:=(by omega);have b0:(0:Int)<(x.size:Int):=(by omega);have hb:(((x[0]'h0).toNat:Int)==48)=false:=jM3 (fun e=>Hc.out ⟨h1,by omega⟩);by_cases h2:x.size<19
      ·have b2:(x.size:Int)<19:=(by omega);have Hf:=G (show R=true by rw[FQ.out,jK5 h2];rfl);clear FQ;go_wp2;go_ret;exact⟨by rw[Hf.out];rfl,rfl⟩
      ·have b2:¬(x.size:Int)<19:=(by omega);by_cases h3:x.size=19
       ·have b3:((x.size:Int)==19)=true:=by rw[h3];rfl
        have Hf:=G (show R=(Op.bytesLess x.toList [57,50,50,51,51,55,50,48,51,54,56,53,52,55,55,53,56,48,55]||x.toList==[57,50,50,51,51,55,50,48,51,54,56,53,52,55,55,53,56,48,55])by rw[FQ.out,jK3 h2,jK5 h3];rfl);clear FQ h3;go_wp2;go_ret;exact⟨by rw[Hf.out];rfl,rfl⟩
       ·have b3:((x.size:Int)==19)=false:=jM3 (by omega);have Hf:=G (show R=false by rw[FQ.out,jK3 h2,jK3 h3];rfl);clear FQ;go_wp2;go_ret;exact⟨by rw[Hf.out];rfl,rfl⟩
     ·have b1:¬(1:Int)<(x.size:Int):=(by omega);have b2:(x.size:Int)<19:=(by omega);have Hf:=G (show R=true by rw[FQ.out,jK5 (by omega)];rfl);clear FQ;go_wp2;go_ret;exact⟨by rw[Hf.out];rfl,rfl⟩
theorem Jg(w:World)(hg:Sg w)(s:BA)(h0:0<s.size):Calls prog 208 #[.string s] w fun e w' =>e=.returned (.int .u8 (jv (sb s):Nat))/\w=w' :=by
 have Hy:=G (show jv (sb s)=if yU s[0]=true then 2 else if vO (sb s)=0 then 1 else vO (sb s)by unfold jv;rw[qH s h0]);have H:=G (zJ w s[0]);have H2:=G (KR w hg s);have b0:(0:Int)<(s.size:Int):=(by omega);unfold bv at H;clear hg;generalize jv (sb s)=R at*;generalize vO (sb s)=n at*;generalize hd:yU s[0]=d at*;clear hd;cases d
 ·by_cases hn:n=0
  ·have b1:((n:Int) !=0)=false:=by rw[hn];rfl
   have Hf:=G (show R=1 by rw[Hy.out,jJ5 (by decide),jJ6 hn]);clear hn;go_enter func208,ntmps208;go_wp2_with (first|(go_at_call 219;refine H.out.mono ?_;rintro e w1 ⟨rfl,rfl⟩)|(go_at_call 166;refine H2.out.mono ?_;rintro e w1 ⟨rfl,rfl⟩));go_ret;exact⟨by rw[Hf.out];rfl,rfl⟩
  ·have b1:((n:Int) !=0)=true:=bne_iff_ne.2 (by omega);have Hf:=G (show R=n by rw[Hy.out,jJ5 (by decide),jJ5 hn]);clear hn;go_enter func208,ntmps208;go_wp2_with (first|(go_at_call 219;refine H.out.mono ?_;rintro e w1 ⟨rfl,rfl⟩)|(go_at_call 166;refine H2.out.mono ?_;rintro e w1 ⟨rfl,rfl⟩));go_ret;exact⟨by rw[Hf.out];rfl,rfl⟩
 ·have Hf:=G (show R=2 by rw[Hy.out,jJ6 rfl]);go_enter func208,ntmps208;go_wp2_with (first|(go_at_call 219;refine H.out.mono ?_;rintro e w1 ⟨rfl,rfl⟩)|fail);go_ret;exact⟨by rw[Hf.out];rfl,rfl⟩
theorem uM(w:World)(hg:Sg w)(s:BA)(h0:0<s.size)(hs:s.size<=1000000):Calls prog 254 #[.string s] w fun e w' =>e=.returned (.bool (vZ (sb s)))/\w=w' :=by
 have Hy:=G (show vZ (sb s)=((yU s[0]&&jZ (sb s))||decide (vO (sb s)≠0)||kY (sb s))by unfold vZ;rw[qH s h0]);have H:=G (zJ w s[0]);have H2:=G (KR w hg s);have H3:=G (JA w s hs);have H4:=G (vg w hg s);have b0:(0:Int)<(s.size:Int):=(by omega);unfold bv at H;clear hg;generalize vZ (sb s)=R at*;generalize vO (sb s)=n at*;generalize kY (sb s)=l at*;generalize jZ (sb s)=i at*;generalize hd:yU s[0]=d at*;clear hd;by_cases hn:n=0
 ·have b1:((n:Int) !=0)=false:=by rw[hn];rfl
  have Hf:=G (show R=((d&&i)||l)by rw[Hy.out,hn];simp);clear hn Hy;cases d<;>cases i<;>
  ·go_enter func254,ntmps254;go_wp2_with (first|(go_at_call 219;refine H.out.mono ?_;rintro e w1 ⟨rfl,rfl⟩)|(go_at_call 166;refine H2.out.mono ?_;rintro e w1 ⟨rfl,rfl⟩)|(go_at_call 287;refine H3.out.mono ?_;rintro e w1 ⟨rfl,rfl⟩)|(go_at_call 54;refine H4.out.mono ?_;rintro e w1 ⟨rfl,rfl⟩));go_ret;exact⟨by rw[Hf.out];rfl,rfl⟩
 ·have b1:((n:Int) !=0)=true:=bne_iff_ne.2 (by omega);have Hf:=G (show R=true by rw[Hy.out,jK5 hn];simp);clear hn Hy;cases d<;>cases i<;>
  ·go_enter func254,ntmps254;go_wp2_with (first|(go_at_call 219;refine H.out.mono ?_;rintro e w1 ⟨rfl,rfl⟩)|(go_at_call 166;refine H2.out.mono ?_;rintro e w1 ⟨rfl,rfl⟩)|(go_at_call 287;refine H3.out.mono ?_;rintro e w1 ⟨rfl,rfl⟩)|(go_at_call 54;refine H4.out.mono ?_;rintro e w1 ⟨rfl,rfl⟩));go_ret;exact⟨by rw[Hf.out];rfl,rfl⟩
def ltB:LB->LB->Bool
 |a::x,b::y=>if a=b then ltB x y else decide (a.toNat<b.toNat)
 |_,_=>false
def jCC(x y:LB):Bool:=if x.length=y.length then ltB x y else decide (x.length<y.length)
def jEr(x y:LB):LB:=if jCC y x=true then y else x
def zN(s:Nat):LB:=
 if s=1 then [97]else if s=2 then [48]else if s=3 then [34,34]else if s<23 then signL.getD (s-4) []else resL.getD (s-23) []
def jCD(s:Nat):Bool:=decide (s<=2\/23<=s)
def jDk(n:Nat)(e:LB×LB):LB×LB:=
 if vw n=true then e
 else if n=60 then(9::(zN 34++e.1),zN 34++e.1)
 else if 58<=n then(jEr (9::48::e.1) (34::34::e.2),jEr (48::e.1) (34::34::e.2))
 else if jCD n=true then(9::(zN n++e.1),zN n++e.1)
 else(zN n++e.2,zN n++e.2)
def Yw(st:List Nat):LB×LB:=st.foldr jDk ([],[])
def xy(t:Nat)(st:List Nat):List Nat:=(kB t (st.length+100) st).getD []
def jFH(st:List Nat)(best:LB)(t:Nat)(more:LB):LB:=
 if jz t st=true then
  (let r:=more++(Yw (xy t st)).1
   if best=[]\/jCC r best=true then r else best)
 else best
def jBd(st:List Nat)(w:LB):List LB->Nat->LB->LB
 |[],_,best=>best
 |r::l,i,best=>jBd st w l (i+1) (if w.isPrefixOf r=true then jFH st best (23+i) (r.drop w.length)else best)
def jCE(st:List Nat)(w:LB):LB:=
 let best:=jBd st w resL 0 []
 if yU (w.headD 0)=true then jFH st best 2 []
 else if kY w=true then jFH st best 1 []
 else if w.length<64/\ji w=true then jFH st best 1 [48]
 else best
def UF(src:LB)(m:Mc):LB:=
 if m.fin=1 then(let e:=(Yw m.stack).2;if e=[]then []else 10::e)
 else if m.fin=2 then jCE m.stack (src.drop m.from_)
 else if m.fin=3 then 61::(Yw (xy (jf (src.drop m.from_ ++[61])) m.stack)).2
 else if m.fin=4 then 34::(Yw (xy 3 m.stack)).2
 else if m.fin=5 then 34::34::(Yw (xy 3 m.stack)).2
 else if m.fin=6 then 48::48::34::(Yw (xy 3 m.stack)).2
 else if m.fin=7 then 48::34::(Yw (xy 3 m.stack)).2
 else(Yw m.stack).2
def jGE(src:LB):Option LB:=if src.length<=60000 then(match kC src with
 | .error _=>none
 | .ok m=>some (UF src m))else none
inductive Goes:Mc->LB->Mc->LB->Prop
 |refl (m:Mc) (l:LB):Goes m l m l
 |step {m m1 m' :Mc} {c:UInt8} {l l' :LB}:vP m (c::l)=.ok m1->Goes m1 ((c::l).drop (m1.at_ -m.at_)) m' l' ->Goes m (c::l) m' l'
theorem Goes.trans{m m1 m2:Mc}{l l1 l2:LB}(h:Goes m l m1 l1)(k:Goes m1 l1 m2 l2):Goes m l m2 l2:=by
 induction h with
 |refl=>exact k
 |step h1 _ ih=>exact .step h1 (ih k)
theorem xf{src:LB}{m m' :Mc}{l l' :LB}(h:Goes m l m' l'):src.drop m.at_=l->m.at_ <=src.length->∀f,src.length-m.at_ +1<=f->src.drop m'.at_=l' /\m'.at_ <=src.length/\∃g,src.length-m'.at_ +1<=g/\VZ src f m=VZ src g m' :=by
 induction h with
 |refl m l=>exact fun hd hl f hf=>⟨hd,hl,f,hf,rfl⟩
 | @step m m1 m' c l l' h1 _ ih=>
  intro hd hl f hf;have hlen:src.length-m.at_=(c::l).length:=(by rw[<-hd,jK8]);have hc:(c::l).length=l.length+1:=rfl;have on:=Vs h1;obtain⟨f,rfl⟩:∃f',f=f' +1:=⟨f-1,by omega⟩;have PG:src.drop m1.at_=(c::l).drop (m1.at_ -m.at_):=by rw[<-hd,List.drop_drop];congr 1;omega
  obtain⟨e1,e2,g,hg,e3⟩:=ih PG (by omega) f (by omega);refine⟨e1,e2,g,hg,?_⟩;rw[VZ,jJ5 (by omega),hd,h1];exact e3
theorem jDx{src:LB}{m:Mc}(h:Goes startM src m []):kC src=.ok m:=by
 obtain⟨e1,e2,g,hg,e⟩:=xf (src:=src) h rfl (Nat.zero_le _) (src.length+1) (by have:startM.at_=0:=rfl;omega);unfold kC;rw[e];have:src.length<=m.at_:=by
  have:=congrArg List.length e1;rw[jK8,jN2]at this;omega
 cases g with
 |zero=>rfl
 |succ g=>rw[VZ,jJ6 this]
theorem jDj{src:LB}{m:Mc}{c:UInt8}{l:LB}{k:Nat}(h:Goes startM src m (c::l))(hk:vP m (c::l)=.error k):kC src=.error k:=by
 obtain⟨e1,e2,g,hg,e⟩:=xf (src:=src) h rfl (Nat.zero_le _) (src.length+1) (by have:startM.at_=0:=rfl;omega);unfold kC;rw[e];have hlen:src.length-m.at_=(c::l).length:=(by rw[<-e1,jK8]);have hc:(c::l).length=l.length+1:=rfl;obtain⟨g,rfl⟩:∃g',g=g' +1:=⟨g-1,by omega⟩;rw[VZ,jJ5 (by omega),e1,hk]
theorem zD(t:Nat):∀(l m:List Nat),jz t l=true->jz t (l++m)=true
 |[],m,h=>by cases h
 |n::l,m,h=>by
  rw[jN6,jz];rw[jz]at h;split at h
  ·rename_i hb;rw[jJ6 hb]
  ·rename_i hb;rw[jJ5 hb];split at h
   ·rename_i he;rw[jJ6 he];exact zD t l m h
   ·cases h
theorem uV(t:Nat):∀(l m:List Nat),(l.all fun n=> !jE n t&&vw n)=true->jz t (l++m)=jz t m
 |[],m,_=>rfl
 |n::l,m,h=>by
  rw[List.all_cons,Bool.and_eq_true,Bool.and_eq_true,Bool.not_eq_true']at h;rw[jN6,jz,jJ5 (by rw[h.1.1];decide),jJ6 h.1.2];exact uV t l m h.2
theorem JN(t n:Nat)(l:List Nat)(h:jE n t=false)(k:vw n=false):jz t (n::l)=false:=by
 rw[jz,jJ5 (by rw[h];decide),jJ5 (by rw[k];decide)]
theorem Ym{t:Nat}{l k:List Nat}(h:kB t 30 l=some k)(m:List Nat):kB t ((l++m).length+100) (l++m)=some (k++m):=
 ve t 30 _ _ _ (by omega) (yX t 30 l k m h)
theorem xC{t:Nat}{m:Mc}{k:Nat}{s:List Nat}(h:kB t (m.stack.length+100) m.stack=some s):vI t m k=.ok {m with at_:=k,stack:=s}:=by
 unfold vI;rw[h]
theorem jDt(m:Mc)(c:UInt8)(l:LB)(h:vM c=true):vP m (c::l)=.ok {m with at_:=m.at_ +1}:=by
 rw[vP,jJ6 h]
theorem jEC(m:Mc)(c:UInt8)(l:LB)(t:Nat)(a k s:List Nat)(hb:vM c=false)(h5:¬c.toNat=35)(h4:¬c.toNat=34)(hw:jR c=false)(h1:jf [c]=t)(h0:t≠0)(h2:jf [c,61]=0)
  (hs:m.stack=a++s) (hm:jz t a=true) (ht:kB t 30 a=some k):vP m (c::l)=.ok ⟨m.at_ +1,k++s,m.fin,m.at_⟩:=by
 rw[vP,jJ5 (by rw[hb];decide),jJ5 h5,jJ5 h4,jJ5 (by rw[hw];decide)];unfold kf;simp only[h1,h2];rw[jJ6 ⟨h0,by rw[hs];exact zD t a s hm⟩,jJ5 (fun e=>e.1 rfl),xC (s:=k++s) (by show kB t (m.stack.length+100) m.stack=_;rw[hs];exact Ym ht s)]
theorem uF(m:Mc)(c:UInt8)(l:LB)(t:Nat)(hb:vM c=false)(h5:¬c.toNat=35)(h4:¬c.toNat=34)(hw:jR c=false)(h1:jf [c]=t)(h2:jf [c,61]=0)(hm:jz t m.stack=false):vP m (c::l)=.error m.at_:=by
 rw[vP,jJ5 (by rw[hb];decide),jJ5 h5,jJ5 h4,jJ5 (by rw[hw];decide)];unfold kf;simp only[h1,h2];rw[jJ5 (fun e=>by rw[hm]at e;exact absurd e.2 (by decide)),jJ6 (.inl trivial)]
theorem zc:∀(w:LB) (c:UInt8) (l:LB),w.all jR=true->jR c=false->(w++c::l).takeWhile jR=w
 |[],c,l,_,hc=>by rw[jN8,List.takeWhile_cons,jJ5 (by rw[hc];decide)]
 |a::w,c,l,h,hc=>by
  rw[List.all_cons,Bool.and_eq_true]at h;rw[jN6,List.takeWhile_cons,jJ6 h.1,zc w c l h.2 hc]
theorem QL{c:UInt8}(h:jR c=true):vM c=false/\¬c.toNat=35/\¬c.toNat=34:=by
 unfold jR Zr yU at h;simp only[Bool.or_eq_true,decide_eq_true_eq]at h;refine⟨jK3 ?_,?_,?_⟩<;>omega
theorem jEB(m:Mc)(x:UInt8)(w:LB)(c:UInt8)(l:LB)(t:Nat)(a k s:List Nat)(hw:(x::w).all jR=true)(hc:jR c=false)(hp:vZ (x::w)=true)(hn:jv (x::w)=t)
  (hs:m.stack=a++s) (hm:jz t a=true) (ht:kB t 30 a=some k):vP m ((x::w)++c::l)=.ok ⟨m.at_ +(x::w).length,k++s,m.fin,m.at_⟩:=by
 have hx:jR x=true:=by rw[List.all_cons,Bool.and_eq_true]at hw;exact hw.1
 obtain⟨b1,b2,b3⟩:=QL hx;rw[jN6,vP,jJ5 (by rw[b1];decide),jJ5 b2,jJ5 b3,jJ6 hx];unfold kU;rw[show(x::(w++c::l)).takeWhile jR=x::w from zc (x::w) c l hw hc];simp only[hn];rw[jJ6 ⟨by simp only[jK6,jJ4];omega,hp,by rw[hs];exact zD t a s hm⟩,xC (s:=k++s) (by show kB t (m.stack.length+100) m.stack=_;rw[hs];exact Ym ht s)]
theorem jED(m:Mc)(a s:List Nat)(hs:m.stack=a++s)(hm:jz 2 a=true):vP m [48]=.ok ⟨m.at_ +1,m.stack,2,m.at_⟩:=by
 rw[vP,jJ5 (by decide),jJ5 (by decide),jJ5 (by decide),jJ6 (by decide)];unfold kU;rw[show([48]:LB).takeWhile jR=[48]by decide];simp only;rw[jJ5 (fun e=>absurd e.1 (by decide))];unfold vU;have h2:jz 2 m.stack=true:=by rw[hs];exact zD 2 a s hm
 simp only[h2];rw[vD,jJ5 (by decide)];have hf:UE (jz 1 m.stack) true (yn m.stack resL 0) ([]++[48])=true:=by
  unfold UE;rw[show jZ ([]++[48])=true by decide];simp
 rw[jJ6 hf,vD];rfl
theorem Goes.one{m m1 m' :Mc}{l0 l l' :LB}(n:Nat)(h:vP m l0=.ok m1)(hn:m1.at_=m.at_ +n)(h0:l0≠ [])(hl:l0.drop n=l)(k:Goes m1 l m' l'):Goes m l0 m' l' :=by
 cases l0 with
 |nil=>exact absurd rfl h0
 |cons c l1=>exact .step h (by rw[hn,Nat.add_sub_cancel_left,hl];exact k)
theorem VN(w:World)(n t:Nat):Calls prog 303 #[yv n,yv t] w (RowT w (jx n t)):=by
 unfold yv;by_cases hn:n∈ [69,70,71,72,73,74,75,76,77,78,79,80,81]
 ·have hm:n∈ [70,71,72,73,75,76,77,78,79,80]\/(∃k q:Nat,n=69/\k=40/\q=70\/n=74/\k=45/\q=75\/n=81/\k=19/\q=82):=by
   simp only[List.mem_cons,List.not_mem_nil,or_false]at hn⊢;by_cases h1:n=69
   ·exact .inr ⟨40,70,by omega⟩
   by_cases h2:n=74
   ·exact .inr ⟨45,75,by omega⟩
   by_cases h3:n=81
   ·exact .inr ⟨19,82,by omega⟩
   ·exact .inl (by omega)
  clear hn;rcases hm with hn|⟨k,q,h⟩
  ·simp only[List.mem_cons,List.not_mem_nil,or_false]at hn;rcases hn with rfl|rfl|rfl|rfl|rfl|rfl|rfl|rfl|rfl|rfl
   all_goals
    simp only[Int.cast_ofNat_Int];go_enter func303,ntmps303;go_wp2;go_ret;exact RowT.of w _ rfl rfl rfl
  ·by_cases ht:t=k
   ·subst ht;rcases h with⟨rfl,rfl,rfl⟩|⟨rfl,rfl,rfl⟩|⟨rfl,rfl,rfl⟩
    all_goals
     simp only[Int.cast_ofNat_Int];go_enter func303,ntmps303;go_wp2;go_ret;exact RowT.of w _ rfl rfl rfl
   ·have b1:((t:Int)==(k:Int))=false:=jM3 (by omega);have Hy:=G (show jx n t=[q]by rcases h with⟨rfl,rfl,rfl⟩|⟨rfl,rfl,rfl⟩|⟨rfl,rfl,rfl⟩<;>simp[jx,ht]);clear ht;rcases h with⟨rfl,rfl,rfl⟩|⟨rfl,rfl,rfl⟩|⟨rfl,rfl,rfl⟩
    all_goals
     simp only[Int.cast_ofNat_Int]at b1⊢;go_enter func303,ntmps303;go_wp2;go_ret;exact RowT.of w [_] Hy.out rfl rfl
 ·have hm:=hn;simp only[List.mem_cons,List.not_mem_nil,or_false]at hm;have Hy:=G (show jx n t=[]by unfold jx;rw[jJ5 (by omega)];rw[jJ5 (by omega)];rw[jJ5 (by omega)];rw[jJ5 (by omega)];rw[jJ5 (by omega)];rw[jJ5 (by omega)];rw[jJ5 (by omega)];rw[jJ5 (by omega)];rw[jJ5 (by omega)];rw[jJ5 (by omega)];rw[jJ5 (by omega)];rw[jJ5 (by omega)];rw[jJ5 (by omega)]);clear hm;have b69:=kO hn 69;have b70:=kO hn 70;have b71:=kO hn 71;have b72:=kO hn 72;have b73:=kO hn 73;have b74:=kO hn 74;have b75:=kO hn 75;have b76:=kO hn 76;have b77:=kO hn 77;have b78:=kO hn 78;have b79:=kO hn 79;have b80:=kO hn 80;have b81:=kO hn 81;clear hn;go_enter func303,ntmps303;go_wp2;go_ret;exact RowT.none_ w Hy.out
theorem zO(n t:Nat)(h:jE n t=true)(X:List Nat)(e:(if n=58 then vW t
 else if n=59\/n=60 then [t]
 else if n=61\/n=62 then [t,69]
 else if n=63 then [t,1]
 else if n=64\/n=65 then [t,32,69,9]
 else if n=66 then [t,10,60,67]
 else if n=67 then [t,1,10,60,67]
 else if n=68 then(if t=33 then [t,1,9,68]else [t,11,69,9,68])
 else if n=83 then [69,84]
 else if n=84 then [t,69,84]
 else if n=82 then JT t
 else jx n t)=X):jX n t=X:=by
 rw[jX,jJ5 (by rw[h];decide)];exact e
theorem jEO(w:World)(n t:Nat)(hn:n∈ [59,60,61,62,63,64,65,66,67,83,84])(hb:jE n t=true):Calls prog 286 #[yv n,yv t] w (RowT w (jX n t)):=by
 have Hy:=G (zO n t hb _ rfl);have H:=G (kz w n t);rw[hb]at H;clear hb;generalize jX n t=R at*;unfold yv at*;simp only[List.mem_cons,List.not_mem_nil,or_false]at hn;rcases hn with rfl|rfl|rfl|rfl|rfl|rfl|rfl|rfl|rfl|rfl|rfl
 all_goals
  simp only[Int.cast_ofNat_Int]at H⊢;go_enter func286,ntmps286;go_wp2_with (go_at_call 284;refine H.out.mono ?_;rintro e w1 ⟨rfl,rfl⟩);go_ret;exact RowT.of w _ Hy.out rfl rfl
theorem jCe(w:World)(t:Nat)(hb:jE 68 t=true)(ht:t=33):Calls prog 286 #[.int .u8 68,yv t] w (RowT w (jX 68 t)):=by
 have Hy:=G (zO 68 t hb [t,1,9,68] (by show(if t=33 then _ else _)=_;rw[jJ6 ht]));have H:=G (kz w 68 t);have b1:((t:Int)==33)=true:=by simp;omega
 rw[hb]at H;clear hb ht;generalize jX 68 t=R at*;unfold yv at*;go_enter func286,ntmps286;go_wp2_with (go_at_call 284;refine H.out.mono ?_;rintro e w1 ⟨rfl,rfl⟩);go_ret;exact RowT.of w [t,1,9,68] Hy.out rfl rfl
theorem jCd(w:World)(t:Nat)(hb:jE 68 t=true)(ht:¬t=33):Calls prog 286 #[.int .u8 68,yv t] w (RowT w (jX 68 t)):=by
 have Hy:=G (zO 68 t hb [t,11,69,9,68] (by show(if t=33 then _ else _)=_;rw[jJ5 ht]));have H:=G (kz w 68 t);have b1:((t:Int)==33)=false:=by simp;omega
 rw[hb]at H;clear hb ht;generalize jX 68 t=R at*;unfold yv at*;go_enter func286,ntmps286;go_wp2_with (go_at_call 284;refine H.out.mono ?_;rintro e w1 ⟨rfl,rfl⟩);go_ret;exact RowT.of w [t,11,69,9,68] Hy.out rfl rfl
theorem jEP(w:World)(t:Nat)(hb:jE 58 t=true):Calls prog 286 #[.int .u8 58,yv t] w (RowT w (jX 58 t)):=by
 have Hy:=G (zO 58 t hb (vW t) rfl);have H:=G (kz w 58 t);have H2:=G (YT w t);rw[hb]at H;clear hb;generalize jX 58 t=R at*;generalize vW t=l at*;unfold yv at*;go_enter func286,ntmps286;go_wp2_with (first|(go_at_call 284;refine H.out.mono ?_;rintro e w1 ⟨rfl,rfl⟩)|(go_at_call 301;refine H2.out.mono ?_;rintro e w1 ⟨A,c,rfl,GA,Lk,F2⟩));go_ret;exact⟨A,c,by rw[Hy.out];rfl,by rw[Hy.out];exact GA,by rw[Hy.out];exact Lk,F2⟩
theorem jEN(w:World)(t:Nat)(hb:jE 82 t=true):Calls prog 286 #[.int .u8 82,yv t] w (RowT w (jX 82 t)):=by
 have Hy:=G (zO 82 t hb (JT t) rfl);have H:=G (kz w 82 t);have H2:=G (Uh w t);rw[hb]at H;clear hb;generalize jX 82 t=R at*;generalize JT t=l at*;unfold yv at*;go_enter func286,ntmps286;go_wp2_with (first|(go_at_call 284;refine H.out.mono ?_;rintro e w1 ⟨rfl,rfl⟩)|(go_at_call 302;refine H2.out.mono ?_;rintro e w1 ⟨A,c,rfl,GA,Lk,F2⟩));go_ret;exact⟨A,c,by rw[Hy.out];rfl,by rw[Hy.out];exact GA,by rw[Hy.out];exact Lk,F2⟩
theorem jAK(w:World)(n t:Nat):Calls prog 286 #[yv n,yv t] w (RowT w (jX n t)):=by
 by_cases hb:jE n t=true
 case neg=>
  rw[Bool.not_eq_true]at hb;have Hy:=G (show jX n t=[]by rw[jX,jJ6 hb]);have H:=G (kz w n t);rw[hb]at H;clear hb;generalize jX n t=R at*;unfold yv at*;go_enter func286,ntmps286;go_wp2_with (go_at_call 284;refine H.out.mono ?_;rintro e w1 ⟨rfl,rfl⟩);go_ret;exact RowT.none_ w Hy.out
 by_cases h1:n∈ [59,60,61,62,63,64,65,66,67,83,84]
 ·exact jEO w n t h1 hb
 by_cases Fx:n=58
 ·subst Fx;exact jEP w t hb
 by_cases h68:n=68
 ·subst h68;by_cases ht:t=33
  ·exact jCe w t hb ht
  ·exact jCd w t hb ht
 by_cases h82:n=82
 ·subst h82;exact jEN w t hb
 have hn:n∉ [58,59,60,61,62,63,64,65,66,67,68,82,83,84]:=by
  simp only[List.mem_cons,List.not_mem_nil,or_false]at h1⊢;omega
 simp only[List.mem_cons,List.not_mem_nil,or_false]at h1;have Hy:=G (zO n t hb (jx n t) (by rw[jJ5 (by omega)];rw[jJ5 (by omega)];rw[jJ5 (by omega)];rw[jJ5 (by omega)];rw[jJ5 (by omega)];rw[jJ5 (by omega)];rw[jJ5 (by omega)];rw[jJ5 (by omega)];rw[jJ5 (by omega)];rw[jJ5 (by omega)];rw[jJ5 (by omega)]));have H:=G (kz w n t);have H2:=G (VN w n t);rw[hb]at H;clear hb;generalize jX n t=R at*;generalize jx n t=l at*;have b58:=kO hn 58;have b59:=kO hn 59;have b60:=kO hn 60;have b61:=kO hn 61;have b62:=kO hn 62;have b63:=kO hn 63;have b64:=kO hn 64;have b65:=kO hn 65;have b66:=kO hn 66;have b67:=kO hn 67;have b68:=kO hn 68;have b82:=kO hn 82;have b83:=kO hn 83;have b84:=kO hn 84;clear h1 Fx h68 h82 hn;unfold yv at*;go_enter func286,ntmps286;go_wp2_with (first|(go_at_call 284;refine H.out.mono ?_;rintro e w1 ⟨rfl,rfl⟩)|(go_at_call 303;refine H2.out.mono ?_;rintro e w1 ⟨A,c,rfl,GA,Lk,F2⟩));go_ret;exact⟨A,c,by rw[Hy.out];rfl,by rw[Hy.out];exact GA,by rw[Hy.out];exact Lk,F2⟩
theorem jAc(t:Nat)(st:List Nat)(j:Nat)(hj:j<st.length):jz t (st.drop j)=if jE (st.getD j 0) t=true then true else if vw (st.getD j 0)=true then jz t (st.drop (j+1))else false:=by
 rw[jM9 hj,jz];simp only[List.getD,jJ9 hj,Option.getD_some]
theorem Stk.most{w:World}{st:List Nat}{A:OA}{c:Nat}(h:Stk w st A c):st.length<=9223372036854775807:=by
 rcases h.2 with⟨_,h0⟩|⟨g,cap,cur,_,_,_,h1,h2,_⟩
 ·omega
 ·unfold maxLen at h2;omega
theorem Jh(w:World)(g:Nat)(r:Option Nat)(src:BA)(m:Mc)(A:OA)(c:Nat)(h:Mac w g r src m A c)(t:Nat):
  Calls prog 251 #[.pointer (some ⟨g,0,none⟩),yv t] w fun e w' =>e=.returned (.bool (jz t m.stack))/\w=w' :=by
 have F9:=G h.own;have Fm:=h.blk.at_ 2 rfl;have C9:=G h.sym;have Dg:=h.own.most;clear h;generalize m.stack=st at*;have HR:=G (show jz t st=jz t (st.drop (st.length-st.length))by rw[Nat.sub_self,List.drop_zero]);have Ss:=G (jAc t st);generalize hL:st.length=L at*;have HL:=G hL;clear hL;generalize jz t st=R at*;have ew:IntKind.i64.wrap ((L:Int)-1)=(L:Int)-1:=jQ3 _ (by omega);go_enter func251,ntmps251;go_wp2;go_loop [5] (fun i=>∃p:Nat,p<=L/\i=.int .i64 ((p:Int)-1)/\R=jz t (st.drop (L-p))) (fun i=>(intOf i+1).toNat)
 case atStart=>exact⟨L,jL3 _,rfl,HR.out⟩
 case round=>
  obtain⟨p,hp,rfl,hR⟩:=hrel;by_cases h0:0<p
  ·obtain⟨q,rfl⟩:∃q,p=q+1:=⟨p-1,by omega⟩;have hlt:q<L:=(by omega);obtain⟨b,o,rfl,Ff⟩:=F9.out.at_ (L-1-q) (by rw[HL.out];omega);rw[HL.out,show L-1-(L-1-q)=q by omega]at Ff;have hd:=Ss.out (L-1-q) (by omega);rw[show L-1-q+1=L-q by omega]at hd;rw[show L-(q+1)=L-1-q by omega,hd]at hR;clear hd;have T7:st.getD (L-1-q) 0<85:=C9.out _ (by
    have:L-1-q<st.length:=by rw[HL.out];omega
    simp[List.getD,List.getElem?_eq_getElem this])
   generalize st.getD (L-1-q) 0=n at*;rw[show((q+1:Nat):Int)-1=(q:Int)by omega];have B:=G (kz w n t);have Em:=G (UP w n);have Ws:=G hR;clear hR;generalize FF:jE n t=bb at*;generalize SR:vw n=ee at*;clear FF SR;have b1:(0:Int)<=(q:Int):=(by omega);have b2:(q:Int)<(L:Int):=(by omega);have b3:(q:Int).toNat=q:=(by omega);have b4:IntKind.i64.wrap ((q:Int)-1)=(q:Int)-1:=jQ3 _ (by omega);unfold yv at*;cases bb
   ·cases ee
    ·have HF:=G (show R=false by have:=Ws.out;simpa using this);go_wp2_with (first|(go_at_call 284;refine B.out.mono ?_;rintro e w1 ⟨rfl,rfl⟩)|(go_at_call 285;refine Em.out.mono ?_;rintro e w1 ⟨rfl,rfl⟩));go_ret;exact⟨by rw[HF.out];rfl,rfl⟩
    ·have HF:=G (show R=jz t (st.drop (L-q))by have:=Ws.out;simpa using this);go_wp2_with (first|(go_at_call 284;refine B.out.mono ?_;rintro e w1 ⟨rfl,rfl⟩)|(go_at_call 285;refine Em.out.mono ?_;rintro e w1 ⟨rfl,rfl⟩));go_round
     case rel=>exact⟨q,by omega,by go_num,HF.out⟩
     case measure=>simp[intOf]
   ·have HF:=G (show R=true by have:=Ws.out;simpa using this);go_wp2_with (first|(go_at_call 284;refine B.out.mono ?_;rintro e w1 ⟨rfl,rfl⟩)|(go_at_call 285;refine Em.out.mono ?_;rintro e w1 ⟨rfl,rfl⟩));go_ret;exact⟨by rw[HF.out];rfl,rfl⟩
  ·obtain rfl:p=0:=(by omega);have HF:=G (show R=false by rw[hR,Nat.sub_zero,<-HL.out,List.drop_length];rfl);clear hR;go_wp2;go_ret;exact⟨by rw[HF.out];rfl,rfl⟩
inductive Takes (t:Nat):Nat->List Nat->List Nat->Prop
 |hit (l:List Nat):Takes t 1 (t::l) l
 |more (n x:Nat) (l k:List Nat):x≠t->Takes t n (jX x t++l) k->Takes t (n+1) (x::l) k
theorem Takes.uniq{t:Nat}{n:Nat}{l k:List Nat}(h:Takes t n l k):∀{n' :Nat} {k' :List Nat},Takes t n' l k' ->n=n' /\k=k' :=by
 induction h with
 |hit l=>
  intro n' k' h';cases h' with
  |hit _=>exact⟨rfl,rfl⟩
  |more _ _ _ _ Fe _=>exact absurd rfl Fe
 |more n x l k Fe _ ih=>
  intro n' k' h';cases h' with
  |hit _=>exact absurd rfl Fe
  |more _ _ _ _ _ h2=>
   obtain⟨rfl,rfl⟩:=ih h2;exact⟨rfl,rfl⟩
theorem Vr{t:Nat}:∀{f:Nat} {l k:List Nat},kB t f l=some k->∃n,n<=f/\Takes t n l k
 |0,l,k,h=>by cases h
 |f+1,[],k,h=>by cases h
 |f+1,x::l,k,h=>by
  rw[kB]at h;split at h
  ·rename_i hx;subst hx;obtain rfl:=jL5 h;exact⟨1,by omega,.hit l⟩
  ·rename_i hx;obtain⟨n,hn,h2⟩:=Vr h;exact⟨n+1,by omega,.more n x l k hx h2⟩
noncomputable def tkMeas (t g:Nat) (w:World):Nat:=Classical.epsilon fun n=>∃r src m A c k,Mac w g r src m A c/\Takes t n m.stack k
theorem Yi{t g:Nat}{w:World}{r:Option Nat}{src:BA}{m:Mc}{A:OA}{c n:Nat}{k:List Nat}(h:Mac w g r src m A c)(ht:Takes t n m.stack k):tkMeas t g w=n:=by
 obtain⟨r',src',m',A',c',k',h',Ad⟩:=Classical.epsilon_spec (p:=fun n=>∃r src m A c k,Mac w g r src m A c/\Takes t n m.stack k) ⟨n,r,src,m,A,c,k,h,ht⟩;rw[h.uniq h']at ht;exact(Ad.uniq ht).1
def Fit(l:List Nat):Prop:=l.length<=11/\∀x∈l,x<85
theorem Fit.ite{c:Prop}[Decidable c]{a b:List Nat}(ha:Fit a)(hb:Fit b):Fit (if c then a else b):=by
 split
 ·exact ha
 ·exact hb
theorem Fit.of(l:List Nat)(h:(decide (l.length<=11)&&l.all (fun x=>decide (x<85)))=true):Fit l:=by
 rw[Bool.and_eq_true,List.all_eq_true]at h;exact⟨jM8 h.1,fun x hx=>jM8 (h.2 x hx)⟩
theorem Fit.cons{t:Nat}{l:List Nat}(ht:t<85)(h:l.length<=10)(h2:Fit l):Fit (t::l):=⟨by rw[jK6];omega,fun x hx=>by
 rcases jN4 hx with rfl|hx
 ·exact ht
 ·exact h2.2 x hx⟩
theorem Kh(n t:Nat)(ht:t<85):Fit (jX n t):=by
 unfold jX vW JT jx
 repeat' first|apply Fit.ite|exact Fit.of _ (by decide)|exact Fit.cons ht (by decide) (Fit.of _ (by decide))
theorem jEM(n t:Nat)(ht:t<85):(jX n t).length<=11:=(Kh n t ht).1
theorem jEL(n t:Nat)(ht:t<85):∀x∈jX n t,x<85:=(Kh n t ht).2
theorem Av.mx{w:World}{g n size:Nat}{r r' :Option Nat}{A:OA}{xs:List Value}(ha:Av (MX g r) n A)(hf:MFr w r r')(hr:Rd w size A n xs)(hs:0<size):Av (MX g r') n A:=by
 intro hn ad e hx;rcases hx with hx|hx
 ·exact ha hn ad e (.inl hx)
 ·rcases hf with rfl|⟨k,rfl,Gx⟩
  ·exact ha hn ad e (.inr hx)
  ·injection hx with hx;have:=hr.lt hs hn e;omega
theorem Qc:∀w,(sizeOf (prog.elem 199)).run prog w=.ok 1 w:=fun _=>by kernel_rfl
structure Lay(w:World)(g:Nat)(r:Option Nat)(src:BA)(m:Mc)(R:List Nat)(B:OA)(rest:List Nat)(p:Nat)(wr:World)(r2:Option Nat)(A2:OA)(c2:Nat):Prop where
 mac:Mac wr g r2 src {m with stack:=R.drop p++rest} A2 c2
 kp:Kp (MX g r) w wr
 fr:MFr w r r2
 rd:Rd wr 1 B R.length (R.map yv)
 av:Av (MX g r2) R.length B
theorem Lay.next{w wr wx w1:World}{g:Nat}{r r2:Option Nat}{src:BA}{m:Mc}{R rest:List Nat}{B A2 A' :OA}{c2 c' q k:Nat}(h:Lay w g r src m R B rest (q+1) wr r2 A2 c2)(hq:q<R.length)(hk:(R.drop (q+1)++rest).length=k)(hx:Old wr wx)
  (h5:R.getD q 0<85)
  (hI:w1.ownsRow 8 203 1 (.slice A' (k+1) c') (k+1) ((R.drop (q+1)++rest).reverse.map yv++[yv (R.getD q 0)])) (hg:wx.grownBy w1 (Value.slice A2 k c2).ownBlock)
  (F1:A'.map (·.block)=(Value.slice A2 k c2).ownBlock\/A'.map (·.block)=some wx.heap.size):
  ∃r3 A3 c3,Lay w g r src m R B rest q (w1.setCell ⟨g,2,none⟩ (.slice A' (k+1) c')) r3 A3 c3:=by
 obtain⟨r3,A3,c3,hM,Ga,G0⟩:=h.mac.put hk hx h5 hI hg F1;refine⟨r3,A3,c3,?_,h.kp.trans Ga (MX.trans h.fr),h.fr.trans h.kp.size G0,h.rd.kp Ga h.av,h.av.mx G0 h.rd (by decide)⟩;have e:R.drop q=R.getD q 0::R.drop (q+1):=by
  rw[jM9 hq];simp[List.getD,List.getElem?_eq_getElem hq]
 rw[e];exact hM
theorem yW(w:World)(g:Nat)(r:Option Nat)(src:BA)(m:Mc)(A:OA)(c:Nat)(h:Mac w g r src m A c)(t n0:Nat)(k:List Nat)(ht:t<58)(hT:Takes t n0 m.stack k)(hb:m.stack.length+11*n0<=100000000):
  Calls prog 252 #[.pointer (some ⟨g,0,none⟩),yv t] w fun e w' =>e=.returned (.tuple #[])/\MStep w g r w' src {m with stack:=k}:=by
 obtain⟨i0,hi,FJ,Gw,GQ⟩:=info_parts jDR;have E7:=G (show∃n st,Takes t n st k/\MStep w g r w src {m with stack:=st}/\st.length+11*n<=100000000 from⟨n0,m.stack,hT,h.step,hb⟩);clear h hT hb;unfold yv;go_enter func252,ntmps252;go_wp2;go_loopw [] (fun wr=>∃n st,Takes t n st k/\MStep w g r wr src {m with stack:=st}/\st.length+11*n<=100000000) (fun wr=>tkMeas t g wr)
 case atStart=>exact E7.out
 case round=>
  clear E7;obtain⟨n,st,hT,⟨r1,A,c,hM,Ga,G0⟩,hb⟩:=hrel;have MZ:=G (Yi hM hT);cases hT with
  |hit _=>
   have Fm:=hM.c2;have MJ:=hM.z 2;obtain⟨b,o,rfl,Ff⟩:=hM.own.at_ 0 (by simp);simp only[jK6,List.getD_cons_zero]at Fm Ff hb;rw[show k.length+1-1-0=k.length by omega]at Ff;have FQ:=G (hM.setPop (n:=t) (st:=k) rfl);have MM:=Stk.cap (n:=t) (st:=k) hM.own;have hcut:=fun w' =>jBK (P:=prog) (t:=199) underlying199 Qc (some ⟨b,o,none⟩) (k.length+1) c k.length .i64 (k.length:Int) rfl MM w';have Fl:=G Ga;have G3:=G G0;clear hM Ga G0 MZ;generalize k.length=L at*;have ew:IntKind.i64.wrap (L:Int)=(L:Int):=jQ3 _ (by omega);have b1:(0:Int)<=(L:Int):=(by omega);have b2:(L:Int).toNat=L:=(by omega);unfold yv at*;have b3:((t:Int)==(t:Int))=true:=(by simp);go_wp2;refine bodyPost_ret (results_none rfl _ _ _) rfl ?_;exact⟨rfl,MStep.trans Fl.out G3.out ⟨_,_,_,FQ.out.1,FQ.out.2,.inl rfl⟩⟩
  |more n x l _ Fe hT=>
   have Fm:=hM.c2;have MJ:=hM.z 2;have D3:x<85:=hM.sym x List.mem_cons_self;obtain⟨b,o,rfl,Ff⟩:=hM.own.at_ 0 (by simp);simp only[jK6,List.getD_cons_zero]at Fm Ff hb;rw[show l.length+1-1-0=l.length by omega]at Ff;have MM:=Stk.cap (n:=x) (st:=l) hM.own;have hcut:=fun w' =>jBK (P:=prog) (t:=199) underlying199 Qc (some ⟨b,o,none⟩) (l.length+1) c l.length .i64 (l.length:Int) rfl MM w';have FQ:=G (hM.setPop (n:=x) (st:=l) rfl);have F8:=G (show g<wr.heap.size/\∀k,r1=some k->k<wr.heap.size from⟨hM.blk.lt,fun k hk=>(hM.lt k hk).2⟩);have Fi:=G hT;have Fl:=G Ga;have G3:=G G0;have Ph:=G (Kh x t (by omega));have Hb:=G hb;have Ls:=G (fun W=>jAK W x t);clear hM Ga G0 hT;generalize hL:l.length=L at*;have HL:=G hL;clear hL;have ew:IntKind.i64.wrap (L:Int)=(L:Int):=jQ3 _ (by omega);have b1:(0:Int)<=(L:Int):=(by omega);have b2:(L:Int).toNat=L:=(by omega);have b3:((x:Int)==(t:Int))=false:=jM3 (by omega);clear hb Fe;unfold yv at*;go_wp2_with ((go_at_call 286);refine(Ls.out _).mono ?_;rintro e w1 ⟨B,cB,rfl,GA,Lk,F2⟩);have Ef:=G (show Lay w g r src m (jX x t) B l (jX x t).length w1 r1 (some ⟨b,o,none⟩) c from by
    obtain⟨hM,hk⟩:=FQ.out;refine⟨?_,(Fl.out.trans hk (MX.trans G3.out)).old F2,G3.out,GA,fun hn ad e hx=>Lk hn ad e ?_⟩
    ·rw[List.drop_length,jN8];exact hM.old F2
    ·rw[show(wr.setCell ⟨g,2,none⟩ (.slice (some ⟨b,o,none⟩) L c)).heap.size=wr.heap.size by simp[World.setCell]];rcases hx with hx|hx
     ·rw[hx];exact F8.out.1
     ·exact F8.out.2 _ hx.symm)
   clear GA Lk F2 FQ Fl G3 F8 Ls hcut Fm MJ Ff MM;generalize hR:jX x t=R at*;clear hR;generalize hN:R.length=N at*;have HN:=G hN;clear hN;have AY:N<=11:=by have:=Ph.out.1;have:=HN.out;omega
   have ew2:IntKind.i64.wrap ((N:Int)-1)=(N:Int)-1:=jQ3 _ (by omega);clear ew b1 b2 b3;go_wp2;go_loopw [7] (fun i wr2=>∃p:Nat,p<=N/\i=.int .i64 ((p:Int)-1)/\∃r2 A2 c2,Lay w g r src m R B l p wr2 r2 A2 c2) (fun i _=>(intOf i+1).toNat)
   case atStart=>exact⟨N,jL3 _,by rw[<-IntWalk.i64_left,ew2],_,_,_,Ef.out⟩
   case round=>
    clear Ef;obtain⟨p,hp,rfl,r2,A2,c2,Gf⟩:=hrel;by_cases h0:0<p
    ·obtain⟨q,rfl⟩:∃q,p=q+1:=⟨p-1,by omega⟩;have hlt:q<N:=(by omega);have Fm:=Gf.mac.c2;have FU:=Gf.mac.z 2;have Gq:=Gf.mac.blk.lt;have h8:7<=wr.heap.size:=by have:=Gf.mac.low;omega
     have Fe:some g≠(Value.slice A2 (R.drop (q+1)++l).length c2).ownBlock:=by
      rw[jA,Gf.mac.row];exact fun e=>Gf.mac.ne e.symm
     obtain⟨b,o,u,hB,hu,Ff⟩:=Gf.rd.at_ (k:=q) (by rw[HN.out];exact hlt);have RW:=Gf.rd;subst hB;rw[jM1,jJ9 (by rw[HN.out];exact hlt)]at hu;simp only[Option.map_some,Option.some.injEq]at hu;subst hu;have N7:R[q]'(by rw[HN.out];exact hlt)=R.getD q 0:=(by simp[List.getD,List.getElem?_eq_getElem (show q<R.length by rw[HN.out];exact hlt)]);rw[N7]at Ff;have h5:R.getD q 0<85:=Ph.out.2 _ (by rw[<-N7];exact jL6 _);have hI:=Gf.mac.own;unfold Stk at hI;have hlen:(R.drop (q+1)++l).length<=100000011:=by
      have:=HL.out;have:=Hb.out;have:=Ph.out.1;rw[jJ4,jK8];omega
     have Ck:=G (fun(wx w3:World) (A' :OA) (c' :Nat)=>Lay.next (wx:=wx) (w1:=w3) (A' :=A') (c' :=c') Gf (by rw[HN.out];exact hlt) rfl);simp only at Fm hI;clear Gf RW N7;generalize hS:(R.drop (q+1)++l)=S at*;clear hS;generalize hK:S.length=K at*;generalize R.getD q 0=y at*;have FM:=G (show K+1<=maxLen by unfold maxLen;omega);have FN:=G (show(K+1)*1<=140737488355328 by omega);rw[show((q+1:Nat):Int)-1=(q:Int)by omega];have b1:(0:Int)<=(q:Int):=(by omega);have b2:(q:Int).toNat=q:=(by omega);have b3:(q:Int)<(N:Int):=(by omega);have b4:IntKind.i64.wrap ((q:Int)-1)=(q:Int)-1:=jQ3 _ (by omega);unfold yv at*;go_wp2;go_region_law ((refine jl _ rfl (.tmp 47) (.tmp 52) 199 rfl 8 203 i0 (.int .u8 0) 1 1 underlying199 hi FJ Gw GQ rfl (by decide) (.slice A2 K c2) K (S.reverse.map yv) rfl (hI.alloc _) (some ⟨wr.heap.size,0,none⟩) 1 1 _ rfl (Rd.one_new _ _ _) (kI _ rfl) FM.out FN.out (by simp;omega) ?_;intro A' c' w3 Ft hgrow F1;have FI:=hgrow.cell (a:=⟨g,2,none⟩) (v:=.slice A2 K c2) (by simp[Fm,World.cell?_alloc_lt,Gq]) Fe;have Fv:w3.frozen? ⟨g,2,none⟩=false:=(World.frozen?_of_block (hgrow.block g (by simp;omega) Fe)).trans (by simp[FU,World.frozen?_alloc_past,Gq])))
     all_goals
      have Fi:=G (Ck.out _ _ _ _ ((jQ0 _ _).alloc _).drew h5 Ft hgrow F1);clear Ft hgrow F1 FI Fv hI Fm FU Ff Fe;go_wp2;go_roundw
      case rel=>exact⟨q,by omega,by go_num,Fi.out⟩
      case measure=>simp[intOf]
    ·obtain rfl:p=0:=(by omega);have Cb:=G Fi.out;have hM:=Gf.mac;have SZ:=hM;simp only[List.drop_zero]at SZ;have Td:=G (Yi SZ Fi.out);have Cg:=G (show∃n st,Takes t n st k/\MStep w g r wr src {m with stack:=st}/\st.length+11*n<=100000000 from⟨n,R++l,Fi.out,⟨r2,A2,c2,SZ,Gf.kp,Gf.fr⟩,by
      have:=HL.out;have:=Hb.out;have:=HN.out;rw[jJ4];omega⟩)
     clear hM SZ Gf Cb;go_wp2;go_roundw
     case rel=>exact Cg.out
     case measure=>show tkMeas t g _ <tkMeas t g _;rw[Td.out,MZ.out];omega
def atOf(g:Nat)(w:World):Nat:=(intOf ((w.cell? ⟨g,1,none⟩).getD undef)).toNat
section
variable{w w1 w2:World}{g:Nat}{r:Option Nat}{src:BA}{m:Mc}{A:OA}{c:Nat}
theorem Mac.atOf(h:Mac w g r src m A c):atOf g w=m.at_:=by
 unfold Go.Proofs.YtifbhcfdealfaaaGreatDoor.atOf;rw[h.c1];simp[intOf]
theorem Mac.drewN(h:Mac w g r src m A c)(n:Nat):Mac (w.drewN n) g r src m A c:=h.old ((jQ0 _ _).drewN n)
end
theorem jAA(p:UInt8->Bool):∀(l:LB) (k:Nat),k<(l.takeWhile p).length->∃c,l[k]? =some c/\p c=true
 |[],k,h=>by simp at h
 |a::l,k,h=>by
  rw[List.takeWhile_cons]at h;split at h
  ·rename_i hp;cases k with
   |zero=>exact⟨a,rfl,hp⟩
   |succ k=>
    rw[jK6]at h;exact jAA p l k (by omega)
  ·simp at h
theorem qz(p:UInt8->Bool):∀(l:LB),(l.takeWhile p).length<l.length->∃c,l[(l.takeWhile p).length]? =some c/\p c=false
 |[],h=>by simp at h
 |a::l,h=>by
  rw[List.takeWhile_cons]at h⊢;split at h
  ·rename_i hp;rw[jJ6 hp];rw[jK6,jK6]at h;obtain⟨c,h1,h2⟩:=qz p l (by omega);exact⟨c,by rw[jK6,List.getElem?_cons_succ];exact h1,h2⟩
  ·rename_i hp;rw[jJ5 hp];exact⟨a,rfl,by simpa using hp⟩
theorem Jl(s:BA)(a k:Nat)(c:UInt8)(h:((sb s).drop a)[k]? =some c):∃hlt:a+k<s.size,s[a+k]=c:=by
 rw[List.getElem?_drop]at h;obtain⟨h1,h2⟩:=jM5 h;rw[jB]at h1;exact⟨h1,h2⟩
theorem qj(w:World)(g:Nat)(r:Option Nat)(src:BA)(m:Mc)(A:OA)(c:Nat)(h:Mac w g r src m A c)(hs:src.size<=1000000)(ha:m.at_ <=src.size):
  Calls prog 204 #[.pointer (some ⟨g,0,none⟩)] w fun e w' =>e=.returned (.tuple #[])/\∃m',vS m ((sb src).drop m.at_)=.ok m' /\MStep w g r w' src m' :=by
 have hl:((sb src).drop m.at_).length=src.size-m.at_:=(by rw[jK8,jB]);have hT:=jAA (fun c=> !lfC c) ((sb src).drop m.at_);have hE:=qz (fun c=> !lfC c) ((sb src).drop m.at_);have DH:(((sb src).drop m.at_).takeWhile (fun c=> !lfC c)).length<=src.size-m.at_:=by rw[<-hl];exact kt _ _
 have Fc:=G (show vS m ((sb src).drop m.at_)=.ok (if(((sb src).drop m.at_).takeWhile (fun c=> !lfC c)).length=src.size-m.at_ then{m with at_:=src.size,fin:=1}else{m with at_:=m.at_ +(((sb src).drop m.at_).takeWhile (fun c=> !lfC c)).length})by
  unfold vS;rw[hl,show m.at_ +(src.size-m.at_)=src.size by omega])
 generalize hTT:(((sb src).drop m.at_).takeWhile (fun c=> !lfC c)).length=T at*;clear hTT;generalize vS m ((sb src).drop m.at_)=R at*;have HT:=G (fun k (hk:k<T)=>Jl src m.at_ k _ (hT k hk).choose_spec.1);have V4:=G (fun k (hk:k<T)=>(hT k hk).choose_spec.2);have HE:=G hE;have Hl:=G hl;have H0:=G h;clear hE hl h;go_enter func204,ntmps204;go_wp2;go_loopw [] (fun wr=>∃k A c r',k<=T/\Mac wr g r' src {m with at_:=m.at_ +k} A c/\Kp (MX g r) w wr/\MFr w r r') (fun wr=>src.size-atOf g wr)
 case atStart=>exact⟨0,A,c,r,Nat.zero_le _,H0.out,jQ0 _ _,.inl rfl⟩
 case round=>
  obtain⟨k,A,c,r',hk,hM,Ga,G0⟩:=hrel;have MZ:=G hM.atOf;have GT:=hM.c0;have FI:=hM.c1;have Fq:=hM.c3;have Fv:=hM.z 1;have Ww:=hM.z 3;simp only at GT FI Fq;by_cases hlt:k<T
  ·obtain⟨Fz,RO⟩:=HT.out k hlt;have Pz:=V4.out k hlt;rw[<-RO]at Pz;clear RO;have b5:((src[m.at_ +k].toNat:Int) !=10)=true:=bne_iff_ne.2 (fun e=>by
    have:lfC src[m.at_ +k]=true:=jK5 (by omega);rw[this]at Pz;cases Pz)
   clear Pz hT HT V4 HE;have FB:=G (fun n=>(hM.drewN n).setAt (m.at_ +(k+1)));have Fl:=G Ga;have G3:=G G0;clear hM Ga G0;generalize hp:m.at_ +k=p at*;have b1:(p:Int)<(src.size:Int):=(by omega);have b2:(0:Int)<=(p:Int):=(by omega);have b3:(p:Int).toNat=p:=(by omega);have b4:IntKind.i64.wrap ((p:Int)+1)=(p:Int)+1:=jQ3 _ (by omega);go_wp2;go_quiet (fail);go_wp2;obtain⟨hM,Fu⟩:=FB.out nq;rw[show((m.at_ +(k+1):Nat):Int)=(p:Int)+1 by omega]at hM Fu;exact⟨⟨k+1,A,c,r',by omega,hM,(Fl.out.drewN nq).trans Fu (MX.trans G3.out),G3.out⟩,by rw[hM.atOf,MZ.out];simp only;omega⟩
  ·obtain rfl:k=T:=(by omega);have PD:=Fc.out;clear hT HT V4;by_cases Fw:k=src.size-m.at_
   ·rw[jJ6 Fw]at PD;have HR:=G PD;have FB:=G (fun n=>(hM.drewN n).setFin 1);have Fl:=G Ga;have G3:=G G0;clear hM Ga G0 Fc PD HE;have hp:m.at_ +k=src.size:=(by omega);rw[hp]at FI;have b1:¬(src.size:Int)<(src.size:Int):=(by omega);have b2:((src.size:Int)==(src.size:Int))=true:=(by simp);have Hp:=G hp;clear hp Fw;go_wp2;go_quiet (fail);go_wp2;go_quiet (fail);go_wp2;go_end0;obtain⟨hM,Fu⟩:=FB.out _;refine⟨rfl,_,HR.out,r',A,c,?_,(Fl.out.drewN _).trans Fu (MX.trans G3.out),G3.out⟩;have:=Hp.out;simp only[this]at hM;exact hM
   ·rw[jJ5 Fw]at PD;have HR:=G PD;obtain⟨ch,h1,h2⟩:=HE.out (by rw[Hl.out];omega);obtain⟨Fz,RO⟩:=Jl src m.at_ k ch h1;rw[<-RO]at h2;have b5:((src[m.at_ +k].toNat:Int) !=10)=false:=by
     have:lfC src[m.at_ +k]=true:=(by simpa using h2);have:=jM8 this;rw[this];rfl
    have Pg:=G (fun n n2=>(hM.drewN n).drewN n2);have Fl:=G Ga;have G3:=G G0;clear hM Ga G0 Fc PD HE h1 h2 RO;generalize hp:m.at_ +k=p at*;have b1:(p:Int)<(src.size:Int):=(by omega);have b2:(0:Int)<=(p:Int):=(by omega);have b3:(p:Int).toNat=p:=(by omega);have b6:((p:Int)==(src.size:Int))=false:=jM3 (by omega);go_wp2;go_quiet (fail);go_wp2;go_quiet (fail);go_wp2;go_end0;exact⟨rfl,_,HR.out,r',A,c,Pg.out _ _,(Fl.out.drewN _).drewN _,G3.out⟩
def KO(k:Nat):List PanicEntry:=[{v:=.iface 242 (.int .i64 (k:Int)),recovered:=false}]
def MOut(w:World)(g:Nat)(r:Option Nat)(src:BA)(o:Out)(e:Ending)(w' :World):Prop:=
 match o with
 | .ok m' =>e=.returned (.tuple #[])/\MStep w g r w' src m'
 | .error k=>e=.panicked (KO k)/\Kp (MX g r) w w'
def zo(y:Nat):Option Nat:=if y=120 then some 6 else if y=34\/y=92\/y=110\/y=116 then some 4 else none
def jFG(k:Nat)(o:Option Nat)(e:Ending):Prop:=match o with
 |some x=>e=.returned (.int .u8 (x:Int))
 |none=>e=.panicked (KO k)
theorem Vo(w:World)(y k:Nat):Calls prog 253 #[.int .u8 (y:Int),.int .i64 (k:Int)] w fun e w' =>w=w' /\jFG k (zo y) e:=by
 have Hy:=G (show zo y=if y=120 then some 6 else if y=34\/y=92\/y=110\/y=116 then some 4 else none from rfl);generalize zo y=R at*;by_cases h120:y=120
 ·have Hr:=G (show R=some 6 by rw[Hy.out,h120];rfl);subst h120;clear Hy;go_enter func253,ntmps253;go_wp2;go_ret;rw[Hr.out];exact⟨rfl,rfl⟩
 by_cases h34:y=34
 ·have Hr:=G (show R=some 4 by rw[Hy.out,h34];rfl);subst h34;clear Hy;go_enter func253,ntmps253;go_wp2;go_ret;rw[Hr.out];exact⟨rfl,rfl⟩
 by_cases h92:y=92
 ·have Hr:=G (show R=some 4 by rw[Hy.out,h92];rfl);subst h92;clear Hy;go_enter func253,ntmps253;go_wp2;go_ret;rw[Hr.out];exact⟨rfl,rfl⟩
 by_cases h110:y=110
 ·have Hr:=G (show R=some 4 by rw[Hy.out,h110];rfl);subst h110;clear Hy;go_enter func253,ntmps253;go_wp2;go_ret;rw[Hr.out];exact⟨rfl,rfl⟩
 by_cases h116:y=116
 ·have Hr:=G (show R=some 4 by rw[Hy.out,h116];rfl);subst h116;clear Hy;go_enter func253,ntmps253;go_wp2;go_ret;rw[Hr.out];exact⟨rfl,rfl⟩
 have Hr:=G (show R=none by rw[Hy.out,jJ5 h120,jJ5 (by omega)]);have b120:((y:Int)==120)=false:=jM3 (by omega);have b34:((y:Int)==34)=false:=jM3 (by omega);have b92:((y:Int)==92)=false:=jM3 (by omega);have b110:((y:Int)==110)=false:=jM3 (by omega);have b116:((y:Int)==116)=false:=jM3 (by omega);clear Hy h120 h34 h92 h110 h116;go_enter func253,ntmps253;go_wp2;refine⟨rfl,rfl,?_⟩;rw[Hr.out];exact rfl
end Go.Proofs.YtifbhcfdealfaaaGreatDoor

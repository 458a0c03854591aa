import Derived.Test.YtifbhcfdealfaaaGreatDoorMd02
set_option maxRecDepth 100000
set_option maxHeartbeats 25600000
namespace Go.Proofs.YtifbhcfdealfaaaGreatDoor
open Go.Proofs.Tryz
open Go.RowKit
theorem jDR:(prog.info? 203).map (fun i=>(i.zero,i.size,i.bytes))=some (some (.int .u8 0),1,1):=by kernel_rfl
def Stk(w:World)(st:List Nat)(A:OA)(c:Nat):Prop:=w.ownsRow 8 203 1 (.slice A st.length c) st.length (st.reverse.map yv)
structure Mac(w:World)(g:Nat)(r:Option Nat)(src:BA)(m:Mc)(A:OA)(c:Nat):Prop where
 low:8<=g
 blk:Blk w g 202 #[.string src,.int .i64 (m.at_:Int),.slice A m.stack.length c,.int .u8 (m.fin:Int),.int .i64 (m.from_:Int)]
 own:Stk w m.stack A c
 row:A.map (·.block)=r
 sym:∀n∈m.stack,n<85
def MX(g:Nat)(r:Option Nat):Nat->Prop:=fun k=>k=g\/some k=r
def MFr(w:World)(r r' :Option Nat):Prop:=r' =r\/∃k,r' =some k/\w.heap.size<=k
def MStep(w:World)(g:Nat)(r:Option Nat)(w' :World)(src:BA)(m:Mc):Prop:=∃r' A c,Mac w' g r' src m A c/\Kp (MX g r) w w' /\MFr w r r'
theorem jDz{a b:Nat}(h:yv a=yv b):a=b:=by
 unfold yv at h;injection h with _ h;omega
theorem Vd:∀{a b:List Nat},a.map yv=b.map yv->a=b
 |[],[],_=>rfl
 |[],_::_,h=>by cases h
 |_::_,[],h=>by cases h
 |x::a,y::b,h=>by
  rw[List.map_cons,List.map_cons]at h;injection h with h1 h2;rw[jDz h1,Vd h2]
theorem jGZ(l:List Nat):∀u∈l.map yv,u.oneCell' =true:=by
 intro u hu;obtain⟨b,_,rfl⟩:=List.mem_map.1 hu;rfl
section
variable{w w1 w2:World}{g:Nat}{r r1:Option Nat}{src:BA}{m m' :Mc}{st:List Nat}{A:OA}{c n:Nat}
theorem Stk.pop(h:Stk w (n::st) A c):Stk w st A c:=by
 obtain⟨h1,h2⟩:=h;refine⟨by simp,?_⟩;rcases h2 with⟨_,h0⟩|⟨g,cap,cur,hv,hb,hg,hn,hm,hs,Ni⟩
 ·simp at h0
 ·injection hv with hA _ hc;subst hA hc;refine .inr ⟨g,c,cur,rfl,hb,hg,by simp at hn;omega,hm,hs,?_⟩;have e:cur.toList.take (st.length*1)=(cur.toList.take ((n::st).length*1)).take (st.length*1):=by
   rw[List.take_take,jK6,Nat.min_eq_left (by omega)]
  rw[e,Ni,List.reverse_cons,jN3];exact List.take_left' (by simp)
theorem Stk.cap(h:Stk w (n::st) A c):st.length<=c:=by
 rcases h.2 with⟨h1,h0⟩|⟨g',cap,cur,hv,_,_,h1,_⟩
 ·cases h0
 ·injection hv with _ _ hv;subst hv;simp only[jK6]at h1;omega
theorem Stk.rd(h:Stk w st A c):Rd w 1 A st.length (st.reverse.map yv):=Rd.of_own h
theorem Stk.kp{X:Nat->Prop}(h:Stk w st A c)(hk:Kp X w w1)(hx:∀k,A.map (·.block)=some k->¬X k):Stk w1 st A c:=
 jJ h hk (fun k e=>hx k (by rw[<-jA A st.length c];exact e))
theorem Stk.at_(h:Stk w st A c)(j:Nat)(hj:j<st.length):∃b o,A=some ⟨b,o,none⟩/\w.cell? ⟨b,o+(st.length-1-j),none⟩=some (yv (st.getD j 0)):=by
 obtain⟨b,o,u,hA,hu,hc⟩:=h.rd.at_ (k:=st.length-1-j) (by omega);refine⟨b,o,hA,?_⟩;rw[jM1,List.getElem?_reverse (by omega),show st.length-1-(st.length-1-j)=j by omega,jJ9 hj]at hu;simp only[Option.map_some,Option.some.injEq]at hu;rw[hc,<-hu];simp[List.getD,List.getElem?_eq_getElem hj]
theorem Mac.c0(h:Mac w g r src m A c):w.cell? ⟨g,0,none⟩=some (.string src):=h.blk.at_ 0 rfl
theorem Mac.c1(h:Mac w g r src m A c):w.cell? ⟨g,1,none⟩=some (.int .i64 (m.at_:Int)):=h.blk.at_ 1 rfl
theorem Mac.c2(h:Mac w g r src m A c):w.cell? ⟨g,2,none⟩=some (.slice A m.stack.length c):=h.blk.at_ 2 rfl
theorem Mac.c3(h:Mac w g r src m A c):w.cell? ⟨g,3,none⟩=some (.int .u8 (m.fin:Int)):=h.blk.at_ 3 rfl
theorem Mac.c4(h:Mac w g r src m A c):w.cell? ⟨g,4,none⟩=some (.int .i64 (m.from_:Int)):=h.blk.at_ 4 rfl
theorem Mac.z(h:Mac w g r src m A c)(i:Nat):w.frozen? ⟨g,i,none⟩=false:=h.blk.frozen i
theorem Mac.ne(h:Mac w g r src m A c):r≠some g:=by
 have:=jH h.own h.blk (by decide);rw[jA,h.row]at this;exact this
theorem Mac.lt(h:Mac w g r src m A c):∀k,r=some k->8<=k/\k<w.heap.size:=fun k hk=>h.own.lt k (by rw[jA,h.row];exact hk)
theorem Mac.kp{X:Nat->Prop}(h:Mac w g r src m A c)(hk:Kp X w w1)(hg:¬X g)(hr:∀k,r=some k->¬X k):Mac w1 g r src m A c:=
 ⟨h.low,h.blk.kp hk hg,h.own.kp hk (fun k e=>hr k (by rw[<-h.row];exact e)),h.row,h.sym⟩
theorem Mac.old(h:Mac w g r src m A c)(hk:Old w w1):Mac w1 g r src m A c:=h.kp hk (fun f=>f) (fun _ _ f=>f)
theorem Mac.step(h:Mac w g r src m A c):MStep w g r w src m:=⟨r,A,c,h,jQ0 _ _,.inl rfl⟩
theorem MX.trans(hf:MFr w r r1):∀b,b<w.heap.size->MX g r1 b->MX g r b:=by
 intro b hb hx;rcases hx with rfl|hx
 ·exact .inl rfl
 ·rcases hf with rfl|⟨k,rfl,Gx⟩
  ·exact .inr hx
  ·injection hx with hx;omega
theorem MFr.trans{r2:Option Nat}(hf:MFr w r r1)(hs:w.heap.size<=w1.heap.size)(MJ:MFr w1 r1 r2):MFr w r r2:=by
 rcases MJ with rfl|⟨k,rfl,Gx⟩
 ·exact hf
 ·exact .inr ⟨k,rfl,jL4 hs Gx⟩
theorem MStep.trans(hk:Kp (MX g r) w w1)(hf:MFr w r r1)(h:MStep w1 g r1 w2 src m):MStep w g r w2 src m:=by
 obtain⟨r2,A,c,hw,Fu,MJ⟩:=h;exact⟨r2,A,c,hw,hk.trans Fu (MX.trans hf),hf.trans hk.size MJ⟩
theorem Sg.mx(h:Sg w)(hM:Mac w g r src m A c)(hk:Kp (MX g r) w w1):Sg w1:=by
 have:=hM.low;refine h.kp hk ?_ ?_
 ·rintro (e|e)
  ·omega
  ·have:=hM.lt 1 e.symm;omega
 ·rintro (e|e)
  ·omega
  ·have:=hM.lt 3 e.symm;omega
theorem Mac.setAt(h:Mac w g r src m A c)(k:Nat):Mac (w.setCell ⟨g,1,none⟩ (.int .i64 (k:Int))) g r src {m with at_:=k} A c/\Kp (MX g r) w (w.setCell ⟨g,1,none⟩ (.int .i64 (k:Int))):=by
 have hk:=(jQ0 (fun b=>b=g) w).setCell (p:=⟨g,1,none⟩) (fun _=>rfl) (.int .i64 (k:Int));exact⟨⟨h.low,by simpa using h.blk.set_ 1 (.int .i64 (k:Int)),h.own.kp hk (fun b e e' =>h.ne (by rw[<-h.row,e,e'])),h.row,h.sym⟩,hk.mono (fun _ _ e=>.inl e)⟩
theorem Mac.setFin(h:Mac w g r src m A c)(k:Nat):Mac (w.setCell ⟨g,3,none⟩ (.int .u8 (k:Int))) g r src {m with fin:=k} A c/\Kp (MX g r) w (w.setCell ⟨g,3,none⟩ (.int .u8 (k:Int))):=by
 have hk:=(jQ0 (fun b=>b=g) w).setCell (p:=⟨g,3,none⟩) (fun _=>rfl) (.int .u8 (k:Int));exact⟨⟨h.low,by simpa using h.blk.set_ 3 (.int .u8 (k:Int)),h.own.kp hk (fun b e e' =>h.ne (by rw[<-h.row,e,e'])),h.row,h.sym⟩,hk.mono (fun _ _ e=>.inl e)⟩
theorem Mac.setFrom(h:Mac w g r src m A c)(k:Nat):Mac (w.setCell ⟨g,4,none⟩ (.int .i64 (k:Int))) g r src {m with from_:=k} A c/\Kp (MX g r) w (w.setCell ⟨g,4,none⟩ (.int .i64 (k:Int))):=by
 have hk:=(jQ0 (fun b=>b=g) w).setCell (p:=⟨g,4,none⟩) (fun _=>rfl) (.int .i64 (k:Int));exact⟨⟨h.low,by simpa using h.blk.set_ 4 (.int .i64 (k:Int)),h.own.kp hk (fun b e e' =>h.ne (by rw[<-h.row,e,e'])),h.row,h.sym⟩,hk.mono (fun _ _ e=>.inl e)⟩
theorem Mac.setPop(h:Mac w g r src m A c)(hm:m.stack=n::st):Mac (w.setCell ⟨g,2,none⟩ (.slice A st.length c)) g r src {m with stack:=st} A c/\Kp (MX g r) w (w.setCell ⟨g,2,none⟩ (.slice A st.length c)):=by
 have hk:=(jQ0 (fun b=>b=g) w).setCell (p:=⟨g,2,none⟩) (fun _=>rfl) (.slice A st.length c);have ho:Stk w st A c:=(hm▸h.own:Stk w (n::st) A c).pop;exact⟨⟨h.low,by simpa using h.blk.set_ 2 (.slice A st.length c),ho.kp hk (fun b e e' =>h.ne (by rw[<-h.row,e,e'])),h.row,fun x hx=>h.sym x (by rw[hm];exact jN1 _ hx)⟩,hk.mono (fun _ _ e=>.inl e)⟩
theorem Mac.put{wr wx:World}{A' :OA}{c' k x:Nat}(h:Mac wr g r src m A c)(hk:m.stack.length=k)(hx:Old wr wx)(D3:x<85)
  (hI:w1.ownsRow 8 203 1 (.slice A' (k+1) c') (k+1) (m.stack.reverse.map yv++[yv x])) (hg:wx.grownBy w1 (Value.slice A k c).ownBlock)
  (F1:A'.map (·.block)=(Value.slice A k c).ownBlock\/A'.map (·.block)=some wx.heap.size):
  MStep wr g r (w1.setCell ⟨g,2,none⟩ (.slice A' (k+1) c')) src {m with stack:=x::m.stack}:=by
 subst hk;rw[jA]at F1 hg;have Fe:=h.ne;rw[<-h.row]at Fe;have ND:=(h.blk.old hx).grown hg (fun e=>Fe e.symm);have FY:=ND.set_ 2 (.slice A' (m.stack.length+1) c');have Gq:=h.blk.lt;refine⟨A'.map (·.block),A',c',⟨h.low,by simpa using FY,?_,rfl,?_⟩,?_,?_⟩
 ·show World.ownsRow _ 8 _ 1 (.slice A' (m.stack.length+1) c') (m.stack.length+1) _;rw[List.reverse_cons,jN3];refine jJ hI ((jQ0 (fun k=>k=g) _).setCell (p:=⟨g,2,none⟩) (fun _=>rfl) _) ?_;rw[jA];rintro k e rfl;rcases F1 with h1|h1
  ·rw[h1]at e;exact Fe e
  ·rw[h1]at e;injection e with e;have:=hx.size;omega
 ·intro n hn;rcases jN4 hn with rfl|hn
  ·exact D3
  ·exact h.sym n hn
 ·rw[<-h.row];exact Kp.setCell (Kp.grown (hx.mono (Y:=MX g (A.map (·.block))) (fun _ _ f=>f.elim)) hg (fun k e _=>.inr e.symm)) (p:=⟨g,2,none⟩) (fun _=>.inl rfl) _
 ·rcases F1 with h1|h1
  ·exact .inl (by rw[h1,h.row])
  ·exact .inr ⟨_,h1,hx.size⟩
theorem Stk.uniq{st' :List Nat}(h:Stk w st A c)(h' :Stk w st' A c)(hl:st.length=st'.length):st=st' :=by
 have e:st.reverse.map yv=st'.reverse.map yv:=by
  apply List.ext_getElem?;intro j;by_cases hj:j<st.length
  ·obtain⟨b,o,u,hA,hu,hc⟩:=h.rd.at_ (k:=j) hj;obtain⟨b',o',u',Gy,Q0,SU⟩:=h'.rd.at_ (k:=j) (by omega);rw[hA]at Gy;injection Gy with Gy;injection Gy with h1 h2;subst h1 h2;rw[hc]at SU;rw[hu,Q0,SU]
  ·rw[List.getElem?_eq_none (by simpa using hj),List.getElem?_eq_none (by simp;omega)]
 have:=Vd e;exact List.reverse_inj.1 this
theorem Mac.uniq{src' :BA}{A' :OA}{c' :Nat}(h:Mac w g r src m A c)(h' :Mac w g r1 src' m' A' c'):m.stack=m'.stack:=by
 have hb:=h.blk;have Gm:=h'.blk;unfold Blk at hb Gm;rw[hb]at Gm;injection Gm with e;injection e with e _ _;have e2:(#[Value.string src,.int .i64 (m.at_:Int),.slice A m.stack.length c,.int .u8 (m.fin:Int),.int .i64 (m.from_:Int)])[2]? =(#[Value.string src',.int .i64 (m'.at_:Int),.slice A' m'.stack.length c',.int .u8 (m'.fin:Int),.int .i64 (m'.from_:Int)])[2]? :=(by rw[e]);simp only[jJ7,List.getElem?_cons_succ,List.getElem?_cons_zero,Option.some.injEq,Value.slice.injEq]at e2;obtain⟨rfl,hl,rfl⟩:=e2;exact h.own.uniq h'.own hl
end
def RowT(w:World)(l:List Nat)(e:Ending)(w' :World):Prop:=∃A c,e=.returned (.slice A l.length c)/\Rd w' 1 A l.length (l.map yv)/\Av (fun k=>k<w.heap.size) l.length A/\Old w w'
theorem RowT.none_(w:World){R:List Nat}(e:R=[]):RowT w R (.returned (.slice none 0 0)) w:=⟨none,0,by rw[e];rfl,by rw[e];exact Rd.none_,(fun _ _ h=>by cases h),jQ0 _ _⟩
theorem RowT.of(w:World)(l:List Nat){R:List Nat}(e:R=l){cs:Array Value}(hc:cs=(l.map yv).toArray){k:Nat}(hk:k=l.length):RowT w R (.returned (.slice (some ⟨w.heap.size,0,none⟩) k k)) (w.alloc (.cells cs 203)):=by
 subst e hc hk;refine⟨_,_,rfl,⟨by simp,fun _=>⟨_,_,rfl,fun j u hu=> ?_⟩⟩,(fun _ ad e hlt=>by injection e with e;subst e;exact Nat.lt_irrefl _ hlt),(jQ0 _ _).alloc _⟩;have:=(jQ2 w 203 (R.map yv).toArray).at_ j (v:=u) (by rw[jJ7];exact hu);rw[Nat.zero_add];exact this
theorem YT(w:World)(t:Nat):Calls prog 301 #[yv t] w (RowT w (vW t)):=by
 unfold yv;by_cases hn:t∈ [24,25,26,27]
 ·simp only[List.mem_cons,List.not_mem_nil,or_false]at hn;rcases hn with rfl|rfl|rfl|rfl
  all_goals
   simp only[Int.cast_ofNat_Int];go_enter func301,ntmps301;go_wp2;go_ret;exact RowT.of w _ rfl rfl rfl
 ·have hm:=hn;simp only[List.mem_cons,List.not_mem_nil,or_false]at hm;have Hy:=G (show vW t=[]by unfold vW;rw[jJ5 (by omega)];rw[jJ5 (by omega)];rw[jJ5 (by omega)];rw[jJ5 (by omega)]);clear hm;have b24:=kO hn 24;have b25:=kO hn 25;have b26:=kO hn 26;have b27:=kO hn 27;clear hn;go_enter func301,ntmps301;go_wp2;go_ret;exact RowT.none_ w Hy.out
theorem Uh(w:World)(t:Nat):Calls prog 302 #[yv t] w (RowT w (JT t)):=by
 unfold yv;by_cases hn:t∈ [1,2,3,4,6,31,46,47,48,49,50,51,52,53,54,55,56,57]
 ·simp only[List.mem_cons,List.not_mem_nil,or_false]at hn;rcases hn with rfl|rfl|rfl|rfl|rfl|rfl|rfl|rfl|rfl|rfl|rfl|rfl|rfl|rfl|rfl|rfl|rfl|rfl
  all_goals
   simp only[Int.cast_ofNat_Int];go_enter func302,ntmps302;go_wp2;go_ret;exact RowT.of w _ rfl rfl rfl
 ·have hm:=hn;simp only[List.mem_cons,List.not_mem_nil,or_false]at hm;have Hy:=G (show JT t=[]by unfold JT;rw[jJ5 (by omega)];rw[jJ5 (by omega)];rw[jJ5 (by omega)];rw[jJ5 (by omega)];rw[jJ5 (by omega)];rw[jJ5 (by omega)];rw[jJ5 (by omega)]);clear hm;have b1:=kO hn 1;have b2:=kO hn 2;have b3:=kO hn 3;have b4:=kO hn 4;have b6:=kO hn 6;have b31:=kO hn 31;have b46:=kO hn 46;have b47:=kO hn 47;have b48:=kO hn 48;have b49:=kO hn 49;have b50:=kO hn 50;have b51:=kO hn 51;have b52:=kO hn 52;have b53:=kO hn 53;have b54:=kO hn 54;have b55:=kO hn 55;have b56:=kO hn 56;have b57:=kO hn 57;clear hn;go_enter func302,ntmps302;go_wp2;go_ret;exact RowT.none_ w Hy.out
theorem jCW(s:BA)(k:Nat)(h:k<s.size):(sb s)[k]? =some s[k]:=by
 have h' :k<(sb s).length:=by rw[jB];exact h
 rw[jJ9 h'];rfl
theorem jt(x:BA)(a b:Nat):sb (x.extract a b)=((sb x).drop a).take (b-a):=by
 have h:=ByteArray.extract_mk (sb x) a b;rw[XP]at h;rw[h];rfl
theorem jB2:∀(a b:LB),(Op.bytesLess a b||a==b)=leB a b
 |[],[]=>rfl
 |[],y::b=>rfl
 |x::a,[]=>rfl
 |x::a,y::b=>by
  have ih:=jB2 a b;rw[leB,<-ih];have hn:(x<y)↔x.toNat<y.toNat:=Iff.rfl;have he:(x=y)↔x.toNat=y.toNat:=⟨fun h=>by rw[h],fun h=>UInt8.toNat_inj.1 h⟩;rw[show Op.bytesLess (x::a) (y::b)=(decide (x<y)||(x==y&&Op.bytesLess a b))from rfl];by_cases h1:x.toNat<y.toNat
  ·simp[hn,h1]
  ·by_cases h2:y.toNat<x.toNat
   ·have h3:¬x=y:=fun e=>by rw[he]at e;omega
    simp[hn,h1,h2,h3]
   ·have h3:x=y:=he.2 (by omega);subst h3;simp
theorem jBI(x:BA)(h:1<x.size)(h0:x[0].toNat=48):yD (sb x)=yD (sb (x.extract 1 x.size)):=by
 rw[jt,jK4 (by rw[jK8,jB];omega)];have h1:=jCW x 0 (by omega);have h2:=jB x;cases e:sb x with
 |nil=>rw[e]at h2;simp at h2;omega
 |cons a l=>
  cases l with
  |nil=>rw[e]at h2;simp at h2;omega
  |cons b l=>
   rw[e]at h1;simp only[List.getElem?_cons_zero,Option.some.injEq]at h1;have:a=48:=UInt8.toNat_inj.1 (by rw[h1,h0];rfl);rw[yD,jJ6 this,List.drop_succ_cons,List.drop_zero]
theorem UR(x:BA)(h:∀h:1<x.size,x[0].toNat≠48):yD (sb x)=sb x:=by
 have h2:=jB x;cases e:sb x with
 |nil=>rfl
 |cons a l=>
  cases l with
  |nil=>rfl
  |cons b l=>
   rw[e]at h2;simp only[jK6]at h2;have h1:=jCW x 0 (by omega);rw[e]at h1;simp only[List.getElem?_cons_zero,Option.some.injEq]at h1;rw[yD,jJ5 (fun ha=>h (by omega) (by rw[<-h1,ha];rfl))]
theorem JA(w:World)(s:BA)(hs:s.size<=1000000):Calls prog 287 #[.string s] w fun e w' =>e=.returned (.bool (jZ (sb s)))/\w=w' :=by
 have HL:=G (show jZ (sb s)=((sb s).all yU&&(decide ((yD (sb s)).length<19)||(decide ((yD (sb s)).length=19)&&leB (yD (sb s)) yJ)))from rfl);generalize jZ (sb s)=R at*;go_enter func287,ntmps287;go_wp2;go_loop [6] (fun i=>∃k:Nat,k<=s.size/\i=.int .i64 k/\((sb s).take k).all yU=true) (fun i=>s.size-(intOf i).toNat)
 case atStart=>exact⟨0,Nat.zero_le _,rfl,rfl⟩
 case round=>
  obtain⟨k,hk,rfl,FL⟩:=hrel;by_cases hlt:k<s.size
  ·have G9:=G (show((sb s).take (k+1)).all yU=yU s[k]by rw[yw s k hlt,List.all_append,FL];simp);have Gs:=G (show yU s[k]=false->R=false from fun h=>by
    rw[HL.out];have:(sb s).all yU=false:=by
     rw[<-Bool.not_eq_true,List.all_eq_true];intro h';have:=h' s[k] (jBi s k hlt);rw[h]at this;cases this
    rw[this];rfl)
   have b2:(0:Int)<=(k:Int):=(by omega);have b3:(k:Int)<(s.size:Int):=(by omega);have b4:(k:Int).toNat=k:=(by omega);have b5:IntKind.i64.wrap ((k:Int)+1)=(k:Int)+1:=jQ3 _ (by omega);have Hw:=G (zJ w s[k]);unfold bv at Hw;clear FL;generalize hw:yU s[k]=W at*;clear hw;cases W
   ·have Hn:=G (Gs.out rfl);go_wp2_with (go_at_call 219;refine Hw.out.mono ?_;rintro e w1 ⟨rfl,rfl⟩);go_ret;exact⟨by rw[Hn.out];rfl,rfl⟩
   ·go_wp2_with (go_at_call 219;refine Hw.out.mono ?_;rintro e w1 ⟨rfl,rfl⟩);exact⟨⟨k+1,by omega,by go_num,G9.out⟩,by simp[intOf];omega⟩
  ·obtain rfl:k=s.size:=(by omega);have Hy:=G (show R=(decide ((yD (sb s)).length<19)||(decide ((yD (sb s)).length=19)&&leB (yD (sb s)) yJ))by
    rw[HL.out,show(sb s).all yU=true by rw[<-FL,<-jB,List.take_length]];rfl)
   clear FL HL hk hlt hs;go_wp2;go_loop [0] (fun v=>∃x:BA,v=.string x/\yD (sb s)=yD (sb x)) (fun v=>match v with| .string x=>x.size|_=>0)
   case atStart=>exact⟨s,rfl,rfl⟩
   case round=>
    obtain⟨x,rfl,hx⟩:=hrel;by_cases hc:∃h:1<x.size,x[0].toNat=48
    ·obtain⟨h1,Z8⟩:=hc;have b1:(1:Int)<(x.size:Int):=(by omega);have b0:(0:Int)<(x.size:Int):=(by omega);have c1:(1:Int)<=(x.size:Int):=(by omega);have h0:0<x.size:=(by omega);have Hx:=G (hx.trans (jBI x h1 Z8));have hb:(((x[0]'h0).toNat:Int)==48)=true:=by rw[Z8];rfl
     have FA:=G (show(x.extract 1 x.size).size<x.size by rw[<-jB,jt,jK9,jK8,jB];omega);clear hx Z8;go_wp2;exact⟨⟨_,rfl,Hx.out⟩,FA.out⟩
    ·have hz:=UR x (fun h1 h2=>hc ⟨h1,h2⟩);have FQ:=G (show R=(decide (x.size<19)||(decide (x.size=19)&&(Op.bytesLess x.toList yJ||x.toList==yJ)))by
      rw[Hy.out,hx,hz,jB,jB2,ByteArray.toList_eq];rfl)
     unfold yJ at FQ;have Hc:=G hc;clear hx hz Hy hc;by_cases h1:1<x.size
     ·have b1:(1:Int)<(x.size:Int):=(by omega);have h0:0<x.size:=(by omega);have b0:(0:Int)<(x.size:Int):=(by omega);have hb:(((x[0]'h0).toNat:Int)==48)=false:=jM3 (fun e=>Hc.out ⟨h1,by omega⟩);by_cases h2:x.size<19
      ·have b2:(x.size:Int)<19:=(by omega);have Hf:=G (show R=true by rw[FQ.out,jK5 h2];rfl);clear FQ;go_wp2;go_ret;exact⟨by rw[Hf.out];rfl,rfl⟩
      ·have b2:¬(x.size:Int)<19:=(by omega);by_cases h3:x.size=19
       ·have b3:((x.size:Int)==19)=true:=by rw[h3];rfl
        have Hf:=G (show R=(Op.bytesLess x.toList [57,50,50,51,51,55,50,48,51,54,56,53,52,55,55,53,56,48,55]||x.toList==[57,50,50,51,51,55,50,48,51,54,56,53,52,55,55,53,56,48,55])by rw[FQ.out,jK3 h2,jK5 h3];rfl);clear FQ h3;go_wp2;go_ret;exact⟨by rw[Hf.out];rfl,rfl⟩
       ·have b3:((x.size:Int)==19)=false:=jM3 (by omega);have Hf:=G (show R=false by rw[FQ.out,jK3 h2,jK3 h3];rfl);clear FQ;go_wp2;go_ret;exact⟨by rw[Hf.out];rfl,rfl⟩
     ·have b1:¬(1:Int)<(x.size:Int):=(by omega);have b2:(x.size:Int)<19:=(by omega);have Hf:=G (show R=true by rw[FQ.out,jK5 (by omega)];rfl);clear FQ;go_wp2;go_ret;exact⟨by rw[Hf.out];rfl,rfl⟩
theorem Jg(w:World)(hg:Sg w)(s:BA)(h0:0<s.size):Calls prog 208 #[.string s] w fun e w' =>e=.returned (.int .u8 (jv (sb s):Nat))/\w=w' :=by
 have Hy:=G (show jv (sb s)=if yU s[0]=true then 2 else if vO (sb s)=0 then 1 else vO (sb s)by unfold jv;rw[qH s h0]);have H:=G (zJ w s[0]);have H2:=G (KR w hg s);have b0:(0:Int)<(s.size:Int):=(by omega);unfold bv at H;clear hg;generalize jv (sb s)=R at*;generalize vO (sb s)=n at*;generalize hd:yU s[0]=d at*;clear hd;cases d
 ·by_cases hn:n=0
  ·have b1:((n:Int) !=0)=false:=by rw[hn];rfl
   have Hf:=G (show R=1 by rw[Hy.out,jJ5 (by decide),jJ6 hn]);clear hn;go_enter func208,ntmps208;go_wp2_with (first|(go_at_call 219;refine H.out.mono ?_;rintro e w1 ⟨rfl,rfl⟩)|(go_at_call 166;refine H2.out.mono ?_;rintro e w1 ⟨rfl,rfl⟩));go_ret;exact⟨by rw[Hf.out];rfl,rfl⟩
  ·have b1:((n:Int) !=0)=true:=bne_iff_ne.2 (by omega);have Hf:=G (show R=n by rw[Hy.out,jJ5 (by decide),jJ5 hn]);clear hn;go_enter func208,ntmps208;go_wp2_with (first|(go_at_call 219;refine H.out.mono ?_;rintro e w1 ⟨rfl,rfl⟩)|(go_at_call 166;refine H2.out.mono ?_;rintro e w1 ⟨rfl,rfl⟩));go_ret;exact⟨by rw[Hf.out];rfl,rfl⟩
 ·have Hf:=G (show R=2 by rw[Hy.out,jJ6 rfl]);go_enter func208,ntmps208;go_wp2_with (first|(go_at_call 219;refine H.out.mono ?_;rintro e w1 ⟨rfl,rfl⟩)|fail);go_ret;exact⟨by rw[Hf.out];rfl,rfl⟩
theorem uM(w:World)(hg:Sg w)(s:BA)(h0:0<s.size)(hs:s.size<=1000000):Calls prog 254 #[.string s] w fun e w' =>e=.returned (.bool (vZ (sb s)))/\w=w' :=by
 have Hy:=G (show vZ (sb s)=((yU s[0]&&jZ (sb s))||decide (vO (sb s)≠0)||kY (sb s))by unfold vZ;rw[qH s h0]);have H:=G (zJ w s[0]);have H2:=G (KR w hg s);have H3:=G (JA w s hs);have H4:=G (vg w hg s);have b0:(0:Int)<(s.size:Int):=(by omega);unfold bv at H;clear hg;generalize vZ (sb s)=R at*;generalize vO (sb s)=n at*;generalize kY (sb s)=l at*;generalize jZ (sb s)=i at*;generalize hd:yU s[0]=d at*;clear hd;by_cases hn:n=0
 ·have b1:((n:Int) !=0)=false:=by rw[hn];rfl
  have Hf:=G (show R=((d&&i)||l)by rw[Hy.out,hn];simp);clear hn Hy;cases d<;>cases i<;>
  ·go_enter func254,ntmps254;go_wp2_with (first|(go_at_call 219;refine H.out.mono ?_;rintro e w1 ⟨rfl,rfl⟩)|(go_at_call 166;refine H2.out.mono ?_;rintro e w1 ⟨rfl,rfl⟩)|(go_at_call 287;refine H3.out.mono ?_;rintro e w1 ⟨rfl,rfl⟩)|(go_at_call 54;refine H4.out.mono ?_;rintro e w1 ⟨rfl,rfl⟩));go_ret;exact⟨by rw[Hf.out];rfl,rfl⟩
 ·have b1:((n:Int) !=0)=true:=bne_iff_ne.2 (by omega);have Hf:=G (show R=true by rw[Hy.out,jK5 hn];simp);clear hn Hy;cases d<;>cases i<;>
  ·go_enter func254,ntmps254;go_wp2_with (first|(go_at_call 219;refine H.out.mono ?_;rintro e w1 ⟨rfl,rfl⟩)|(go_at_call 166;refine H2.out.mono ?_;rintro e w1 ⟨rfl,rfl⟩)|(go_at_call 287;refine H3.out.mono ?_;rintro e w1 ⟨rfl,rfl⟩)|(go_at_call 54;refine H4.out.mono ?_;rintro e w1 ⟨rfl,rfl⟩));go_ret;exact⟨by rw[Hf.out];rfl,rfl⟩
def ltB:LB->LB->Bool
 |a::x,b::y=>if a=b then ltB x y else decide (a.toNat<b.toNat)
 |_,_=>false
def jCC(x y:LB):Bool:=if x.length=y.length then ltB x y else decide (x.length<y.length)
def jEr(x y:LB):LB:=if jCC y x=true then y else x
def zN(s:Nat):LB:=
 if s=1 then [97]else if s=2 then [48]else if s=3 then [34,34]else if s<23 then signL.getD (s-4) []else resL.getD (s-23) []
def jCD(s:Nat):Bool:=decide (s<=2\/23<=s)
def jDk(n:Nat)(e:LB×LB):LB×LB:=
 if vw n=true then e
 else if n=60 then(9::(zN 34++e.1),zN 34++e.1)
 else if 58<=n then(jEr (9::48::e.1) (34::34::e.2),jEr (48::e.1) (34::34::e.2))
 else if jCD n=true then(9::(zN n++e.1),zN n++e.1)
 else(zN n++e.2,zN n++e.2)
def Yw(st:List Nat):LB×LB:=st.foldr jDk ([],[])
def xy(t:Nat)(st:List Nat):List Nat:=(kB t (st.length+100) st).getD []
def jFH(st:List Nat)(best:LB)(t:Nat)(more:LB):LB:=
 if jz t st=true then
  (let r:=more++(Yw (xy t st)).1
   if best=[]\/jCC r best=true then r else best)
 else best
def jBd(st:List Nat)(w:LB):List LB->Nat->LB->LB
 |[],_,best=>best
 |r::l,i,best=>jBd st w l (i+1) (if w.isPrefixOf r=true then jFH st best (23+i) (r.drop w.length)else best)
def jCE(st:List Nat)(w:LB):LB:=
 let best:=jBd st w resL 0 []
 if yU (w.headD 0)=true then jFH st best 2 []
 else if kY w=true then jFH st best 1 []
 else if w.length<64/\ji w=true then jFH st best 1 [48]
 else best
def UF(src:LB)(m:Mc):LB:=
 if m.fin=1 then(let e:=(Yw m.stack).2;if e=[]then []else 10::e)
 else if m.fin=2 then jCE m.stack (src.drop m.from_)
 else if m.fin=3 then 61::(Yw (xy (jf (src.drop m.from_ ++[61])) m.stack)).2
 else if m.fin=4 then 34::(Yw (xy 3 m.stack)).2
 else if m.fin=5 then 34::34::(Yw (xy 3 m.stack)).2
 else if m.fin=6 then 48::48::34::(Yw (xy 3 m.stack)).2
 else if m.fin=7 then 48::34::(Yw (xy 3 m.stack)).2
 else(Yw m.stack).2
def jGE(src:LB):Option LB:=if src.length<=60000 then(match kC src with
 | .error _=>none
 | .ok m=>some (UF src m))else none
inductive Goes:Mc->LB->Mc->LB->Prop
 |refl (m:Mc) (l:LB):Goes m l m l
 |step {m m1 m' :Mc} {c:UInt8} {l l' :LB}:vP m (c::l)=.ok m1->Goes m1 ((c::l).drop (m1.at_ -m.at_)) m' l' ->Goes m (c::l) m' l'
theorem Goes.trans{m m1 m2:Mc}{l l1 l2:LB}(h:Goes m l m1 l1)(k:Goes m1 l1 m2 l2):Goes m l m2 l2:=by
 induction h with
 |refl=>exact k
 |step h1 _ ih=>exact .step h1 (ih k)
theorem xf{src:LB}{m m' :Mc}{l l' :LB}(h:Goes m l m' l'):src.drop m.at_=l->m.at_ <=src.length->∀f,src.length-m.at_ +1<=f->src.drop m'.at_=l' /\m'.at_ <=src.length/\∃g,src.length-m'.at_ +1<=g/\VZ src f m=VZ src g m' :=by
 induction h with
 |refl m l=>exact fun hd hl f hf=>⟨hd,hl,f,hf,rfl⟩
 | @step m m1 m' c l l' h1 _ ih=>
  intro hd hl f hf;have hlen:src.length-m.at_=(c::l).length:=(by rw[<-hd,jK8]);have hc:(c::l).length=l.length+1:=rfl;have on:=Vs h1;obtain⟨f,rfl⟩:∃f',f=f' +1:=⟨f-1,by omega⟩;have PG:src.drop m1.at_=(c::l).drop (m1.at_ -m.at_):=by rw[<-hd,List.drop_drop];congr 1;omega
  obtain⟨e1,e2,g,hg,e3⟩:=ih PG (by omega) f (by omega);refine⟨e1,e2,g,hg,?_⟩;rw[VZ,jJ5 (by omega),hd,h1];exact e3
theorem jDx{src:LB}{m:Mc}(h:Goes startM src m []):kC src=.ok m:=by
 obtain⟨e1,e2,g,hg,e⟩:=xf (src:=src) h rfl (Nat.zero_le _) (src.length+1) (by have:startM.at_=0:=rfl;omega);unfold kC;rw[e];have:src.length<=m.at_:=by
  have:=congrArg List.length e1;rw[jK8,jN2]at this;omega
 cases g with
 |zero=>rfl
 |succ g=>rw[VZ,jJ6 this]
theorem jDj{src:LB}{m:Mc}{c:UInt8}{l:LB}{k:Nat}(h:Goes startM src m (c::l))(hk:vP m (c::l)=.error k):kC src=.error k:=by
 obtain⟨e1,e2,g,hg,e⟩:=xf (src:=src) h rfl (Nat.zero_le _) (src.length+1) (by have:startM.at_=0:=rfl;omega);unfold kC;rw[e];have hlen:src.length-m.at_=(c::l).length:=(by rw[<-e1,jK8]);have hc:(c::l).length=l.length+1:=rfl;obtain⟨g,rfl⟩:∃g',g=g' +1:=⟨g-1,by omega⟩;rw[VZ,jJ5 (by omega),e1,hk]
theorem zD(t:Nat):∀(l m:List Nat),jz t l=true->jz t (l++m)=true
 |[],m,h=>by cases h
 |n::l,m,h=>by
  rw[jN6,jz];rw[jz]at h;split at h
  ·rename_i hb;rw[jJ6 hb]
  ·rename_i hb;rw[jJ5 hb];split at h
   ·rename_i he;rw[jJ6 he];exact zD t l m h
   ·cases h
theorem uV(t:Nat):∀(l m:List Nat),(l.all fun n=> !jE n t&&vw n)=true->jz t (l++m)=jz t m
 |[],m,_=>rfl
 |n::l,m,h=>by
  rw[List.all_cons,Bool.and_eq_true,Bool.and_eq_true,Bool.not_eq_true']at h;rw[jN6,jz,jJ5 (by rw[h.1.1];decide),jJ6 h.1.2];exact uV t l m h.2
theorem JN(t n:Nat)(l:List Nat)(h:jE n t=false)(k:vw n=false):jz t (n::l)=false:=by
 rw[jz,jJ5 (by rw[h];decide),jJ5 (by rw[k];decide)]
theorem Ym{t:Nat}{l k:List Nat}(h:kB t 30 l=some k)(m:List Nat):kB t ((l++m).length+100) (l++m)=some (k++m):=
 ve t 30 _ _ _ (by omega) (yX t 30 l k m h)
theorem xC{t:Nat}{m:Mc}{k:Nat}{s:List Nat}(h:kB t (m.stack.length+100) m.stack=some s):vI t m k=.ok {m with at_:=k,stack:=s}:=by
 unfold vI;rw[h]
theorem jDt(m:Mc)(c:UInt8)(l:LB)(h:vM c=true):vP m (c::l)=.ok {m with at_:=m.at_ +1}:=by
 rw[vP,jJ6 h]
theorem jEC(m:Mc)(c:UInt8)(l:LB)(t:Nat)(a k s:List Nat)(hb:vM c=false)(h5:¬c.toNat=35)(h4:¬c.toNat=34)(hw:jR c=false)(h1:jf [c]=t)(h0:t≠0)(h2:jf [c,61]=0)
  (hs:m.stack=a++s) (hm:jz t a=true) (ht:kB t 30 a=some k):vP m (c::l)=.ok ⟨m.at_ +1,k++s,m.fin,m.at_⟩:=by
 rw[vP,jJ5 (by rw[hb];decide),jJ5 h5,jJ5 h4,jJ5 (by rw[hw];decide)];unfold kf;simp only[h1,h2];rw[jJ6 ⟨h0,by rw[hs];exact zD t a s hm⟩,jJ5 (fun e=>e.1 rfl),xC (s:=k++s) (by show kB t (m.stack.length+100) m.stack=_;rw[hs];exact Ym ht s)]
theorem uF(m:Mc)(c:UInt8)(l:LB)(t:Nat)(hb:vM c=false)(h5:¬c.toNat=35)(h4:¬c.toNat=34)(hw:jR c=false)(h1:jf [c]=t)(h2:jf [c,61]=0)(hm:jz t m.stack=false):vP m (c::l)=.error m.at_:=by
 rw[vP,jJ5 (by rw[hb];decide),jJ5 h5,jJ5 h4,jJ5 (by rw[hw];decide)];unfold kf;simp only[h1,h2];rw[jJ5 (fun e=>by rw[hm]at e;exact absurd e.2 (by decide)),jJ6 (.inl trivial)]
theorem zc:∀(w:LB) (c:UInt8) (l:LB),w.all jR=true->jR c=false->(w++c::l).takeWhile jR=w
 |[],c,l,_,hc=>by rw[jN8,List.takeWhile_cons,jJ5 (by rw[hc];decide)]
 |a::w,c,l,h,hc=>by
  rw[List.all_cons,Bool.and_eq_true]at h;rw[jN6,List.takeWhile_cons,jJ6 h.1,zc w c l h.2 hc]
theorem QL{c:UInt8}(h:jR c=true):vM c=false/\¬c.toNat=35/\¬c.toNat=34:=by
 unfold jR Zr yU at h;simp only[Bool.or_eq_true,decide_eq_true_eq]at h;refine⟨jK3 ?_,?_,?_⟩<;>omega
theorem jEB(m:Mc)(x:UInt8)(w:LB)(c:UInt8)(l:LB)(t:Nat)(a k s:List Nat)(hw:(x::w).all jR=true)(hc:jR c=false)(hp:vZ (x::w)=true)(hn:jv (x::w)=t)
  (hs:m.stack=a++s) (hm:jz t a=true) (ht:kB t 30 a=some k):vP m ((x::w)++c::l)=.ok ⟨m.at_ +(x::w).length,k++s,m.fin,m.at_⟩:=by
 have hx:jR x=true:=by rw[List.all_cons,Bool.and_eq_true]at hw;exact hw.1
 obtain⟨b1,b2,b3⟩:=QL hx;rw[jN6,vP,jJ5 (by rw[b1];decide),jJ5 b2,jJ5 b3,jJ6 hx];unfold kU;rw[show(x::(w++c::l)).takeWhile jR=x::w from zc (x::w) c l hw hc];simp only[hn];rw[jJ6 ⟨by simp only[jK6,jJ4];omega,hp,by rw[hs];exact zD t a s hm⟩,xC (s:=k++s) (by show kB t (m.stack.length+100) m.stack=_;rw[hs];exact Ym ht s)]
theorem jED(m:Mc)(a s:List Nat)(hs:m.stack=a++s)(hm:jz 2 a=true):vP m [48]=.ok ⟨m.at_ +1,m.stack,2,m.at_⟩:=by
 rw[vP,jJ5 (by decide),jJ5 (by decide),jJ5 (by decide),jJ6 (by decide)];unfold kU;rw[show([48]:LB).takeWhile jR=[48]by decide];simp only;rw[jJ5 (fun e=>absurd e.1 (by decide))];unfold vU;have h2:jz 2 m.stack=true:=by rw[hs];exact zD 2 a s hm
 simp only[h2];rw[vD,jJ5 (by decide)];have hf:UE (jz 1 m.stack) true (yn m.stack resL 0) ([]++[48])=true:=by
  unfold UE;rw[show jZ ([]++[48])=true by decide];simp
 rw[jJ6 hf,vD];rfl
theorem Goes.one{m m1 m' :Mc}{l0 l l' :LB}(n:Nat)(h:vP m l0=.ok m1)(hn:m1.at_=m.at_ +n)(h0:l0≠ [])(hl:l0.drop n=l)(k:Goes m1 l m' l'):Goes m l0 m' l' :=by
 cases l0 with
 |nil=>exact absurd rfl h0
 |cons c l1=>exact .step h (by rw[hn,Nat.add_sub_cancel_left,hl];exact k)
end Go.Proofs.YtifbhcfdealfaaaGreatDoor

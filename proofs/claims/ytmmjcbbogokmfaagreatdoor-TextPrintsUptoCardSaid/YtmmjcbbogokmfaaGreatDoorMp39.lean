import Derived.Test.YtmmjcbbogokmfaaGreatDoorMp28
import Derived.Test.YtmmjcbbogokmfaaGreatDoorMp37
set_option maxRecDepth 100000
set_option maxHeartbeats 25600000
namespace Go.Proofs.YtmmjcbbogokmfaaGreatDoor
open Go.Proofs.Tryz
open Go.RowKit
theorem XG(w:World)(dT sT ty elem:TypeId)(b o dLen dCap:Nat)(a:Addr)(sLen sCap:Nat)(cs:List Value)(z:Nat)
  (hu:prog.underlying dT=some (.slice elem)) (hs:(prog.info? elem).map (·.size)=some z) (hn:cs.length=Nat.min sLen dLen*z)
  (R0:∀j v,cs[j]? =some v->w.cell? (a.add j)=some v) (hc:∀j,j<cs.length->(w.cell? ⟨b,o+j,none⟩).isSome=true) (hf:∀j,j<cs.length->w.frozen? ⟨b,o+j,none⟩=false) (h1:∀v∈cs,v.oneCell' =true):
  (Builtin.copy_ #[dT,sT] ty #[.slice (some ⟨b,o,none⟩) dLen dCap,.slice (some a) sLen sCap]).run prog w=.ok (goInt (Nat.min sLen dLen)) (w.setCells b o cs):=by
 have hl:=run_loadCells_list (P:=prog) w a cs R0;have Hv:=run_storeCells_cells (P:=prog) b o cs 0 w (by simpa using hc) (by simpa using hf) h1;cases hq:prog.info? elem with
 |none=>simp[hq]at hs
 |some i=>
  have hi:i.size=z:=(by simpa [hq]using hs);simp[Builtin.copy_,run_underlying hu,Builtin.lenOf,Builtin.firstCells,sizeOf,typeInfo,hq,hi,<-hn,hl,Hv]
theorem xu(w:World)(dT sT ty elem:TypeId)(d:OA)(dLen dCap sCap:Nat)(z:Nat)
  (hu:prog.underlying dT=some (.slice elem)) (hs:(prog.info? elem).map (·.size)=some z):
  (Builtin.copy_ #[dT,sT] ty #[.slice d dLen dCap,.slice none 0 sCap]).run prog w=.ok (goInt 0) w:=by
 cases hq:prog.info? elem with
 |none=>simp[hq]at hs
 |some i=>
  cases d<;>simp[Builtin.copy_,run_underlying hu,Builtin.lenOf,Builtin.firstCells,sizeOf,typeInfo,hq,storeCells]
theorem xe(sl el:TypeId)(z:Nat)(hu:prog.underlying sl=some (.slice el))(NO:(prog.info? el).map (·.size)=some z){w:World}{ops:Array Oper}{rest:List Oper}{o:Oper}{a:Act}{Q:Exit->Act->World->Prop}(d s:Operand){g dl dc:Nat}{cs:List Value}(hb:Blk w g el cs.toArray)(Fp:cs.length=dl*z)
  {A:OA} {n c:Nat} {l:List Value} (hr:Rd w z A n l) (hn:l.length=n*z) (h1:∀u∈l,u.oneCell' =true) (Fa:n<=dl)
  (Wb:o.guard=none) (ho:o.op=.call {callee:=.builtin .copy,args:= #[d,s],argTypes:= #[sl,sl]}) (hd:a.eval d=.slice (some ⟨g,0,none⟩) dl dc) (hs:a.eval s=.slice A n c)
  (hK:wpList prog ops Q rest (a.put o.dst (.int .i64 n)) (w.setCells g 0 l)):wpList prog ops Q (o::rest) a w:=by
 refine wpList_plain Wb fun K CL=> ?_;have WO:(Builtin.copy_ #[sl,sl] o.type #[.slice (some ⟨g,0,none⟩) dl dc,.slice A n c]).run prog w=.ok (.int .i64 n) (w.setCells g 0 l):=by
  cases A with
  |none=>
   have h0:n=0:=by
    rcases Nat.eq_zero_or_pos n with h|h
    ·exact h
    ·obtain⟨b,o,h',_⟩:=hr.2 h;cases h'
   subst h0;have:l=[]:=List.eq_nil_of_length_eq_zero (by rw[hn,Nat.zero_mul]);subst this;exact xu w sl sl o.type el _ dl dc c z hu NO
  |some ad=>
   have:=XG w sl sl o.type el g 0 dl dc ad n c l z hu NO (by rw[hn,show Nat.min n dl=n from Nat.min_eq_left Fa]) (fun j v hv=>by
     have hj:j<n*z:=by rw[<-hn];exact(jM5 hv).1
     have TW:0<n:=by
      rcases Nat.eq_zero_or_pos n with h|h
      ·rw[h,Nat.zero_mul]at hj;omega
      ·exact h
     obtain⟨b,o,h',hc⟩:=hr.2 TW;injection h' with h';subst h';rw[Addr.add_lit];exact hc j v hv)
    (fun j hj=>by
     have:n*z<=dl*z:=Nat.mul_le_mul_right z Fa;rw[Nat.zero_add,hb.cell,jJ7,jJ9 (by omega)];rfl)
    (fun j hj=>hb.frozen _) h1
   rw[show Nat.min n dl=n from Nat.min_eq_left Fa]at this;exact this
 unfold Oper.wp execOp;simp only[ho,resolve,invoke,builtin,Sem.run_bind,Sem.run_pure,Result.andThen_ok,List.map_toArray,List.map_cons,List.map_nil,hd,hs,WO];exact CL _ _ hK
def jo{α:Type}(l:List α)(m:α):List α:=l++List.replicate 80 m
theorem jr{α:Type}(l:List α)(m:α):(jo l m).length=l.length+80:=by simp[jo]
theorem jy{α:Type}{C:α->List Value}{z:Nat}(hz:∀x,(C x).length=z):∀(l:List α),(l.flatMap C).length=l.length*z
 |[]=>by simp
 |x::l=>by rw[jL9,jJ4,hz,jy hz l,jK6,Nat.succ_mul,Nat.add_comm]
theorem Blk.next9{w:World}{g:Nat}{t:TypeId}{pre rest:List Value}(h:Blk w g t (pre++rest).toArray)(vs:List Value)(hl:vs.length<=rest.length)(o:Nat)(ho:o=pre.length):Blk (w.setCells g o vs) g t ((pre++vs)++rest.drop vs.length).toArray:=by
 subst ho;rw[jK1];refine Blk.setCells (mid:=rest.take vs.length) (post:=rest.drop vs.length) ?_ vs (by rw[jK9];omega);rw[List.take_append_drop];exact h
theorem yH{α:Type}{C:α->List Value}{z:Nat}(hz:∀x,(C x).length=z){w:World}{g:Nat}{t:TypeId}{l:List α}{m:α}(h:Blk w g t ((jo l m).flatMap C).toArray):Rd w z (some ⟨g,0,none⟩) l.length (l.flatMap C):=by
 refine⟨jy hz l,fun _=>⟨_,_,rfl,fun j u hu=> ?_⟩⟩;have hj:=(jM5 hu).1;rw[Nat.zero_add,h.cell j,jJ7];unfold jo;rw[jN5,List.getElem?_append_left hj];exact hu
theorem KL{α:Type}{C:α->List Value}(h:∀x,∀u∈C x,u.oneCell' =true)(l:List α):∀u∈l.flatMap C,u.oneCell' =true:=fun u hu=>by
 obtain⟨x,_,hx⟩:=List.mem_flatMap.1 hu;exact h x u hx
theorem jAs(x:Atr):∀u∈atC x,u.oneCell' =true:=by
 unfold atC iv;simp[Value.oneCell']
theorem jAm(x:Stg):∀u∈sgC x,u.oneCell' =true:=by
 unfold sgC iv;simp[Value.oneCell']
theorem jAo(x:Mil):∀u∈miC x,u.oneCell' =true:=by
 unfold miC iv;simp[Value.oneCell']
theorem jAn(x:Prm):∀u∈prC x,u.oneCell' =true:=by
 unfold prC iv;simp[Value.oneCell']
theorem jAr(x:Eff):∀u∈efC x,u.oneCell' =true:=by
 unfold efC iv;simp[Value.oneCell']
def Jn:BA:=⟨#[109,97,114,107]⟩
def jS:Atr:=⟨Jn,0,0,false,0,0,0⟩
def kI:Stg:=⟨Jn,0,0,⟨#[]⟩,0,0,0⟩
def jR:Mil:=⟨Jn,0,0,⟨#[]⟩,0,0⟩
def kG:Prm:=⟨Jn,0,0⟩
def jp:Eff:=⟨Jn,0,0⟩
theorem YT(n:Nat)(hn:n<=1000000000100):∃M:List Value,M.length=n*7/\∀W:World,(Instr.makeSlice 22 (.int .i64 (n:Int)) (.int .i64 (n:Int))).run prog W=.ok (.slice (some ⟨W.heap.size,0,none⟩) n n) (W.alloc (.cells M.toArray 114)):=by
 have Ni:∃i,prog.info? 114=some i/\(∃z,i.zero=some z)/\i.size=7/\i.bytes<=200:=by
  cases hq:prog.info? 114 with
  |none=>
   have:=kM;rw[hq]at this;cases this
  |some i=>
   have h1:=kM;have h2:(prog.info? 114).map (fun i=>(i.zero.isSome,decide (i.bytes<=200)))=some (true,true):=(by kernel_rfl);rw[hq]at h1 h2;simp only[Option.map_some,Option.some.injEq,Prod.mk.injEq,decide_eq_true_eq]at h1 h2;exact⟨i,rfl,Option.isSome_iff_exists.1 h2.1,h1,h2.2⟩
 obtain⟨i,hi,⟨z,Fm⟩,Fi,Fl⟩:=Ni;refine⟨(madeCells z.cells (n*i.size)).toList,by rw[Array.length_toList,size_madeCells,Fi],fun W=> ?_⟩;have hb:(i.bytes:Int)*(n:Int)<=281474976710656:=by
  have h3:i.bytes*n<=200*1000000000100:=Nat.mul_le_mul Fl hn;have h4:((i.bytes*n:Nat):Int)<=281474976710656:=by omega
  rwa [Int.natCast_mul]at h4
 have hr:=run_make (P:=prog) W 22 114 i z underlying22 hi Fm .i64 .i64 n n (by omega) (by omega) hb (by omega);simp only[jL1]at hr;rw[hr]
theorem YG(w:World)(A:OA)(c:Nat)(l:List Atr)(hr:Rd w 7 A l.length (l.flatMap atC))(hl:l.length<=1000000000000):
  Calls prog 44 #[.slice A l.length c,.agg (atC jS).toArray] w fun e w' =>∃g,e=.returned (.slice (some ⟨g,0,none⟩) (l.length+80) (l.length+80))/\w.heap.size<=g/\Blk w' g 114 ((jo l jS).flatMap atC).toArray/\Old w w' :=by
 obtain⟨M,hM,Gs⟩:=YT (l.length+80) (by omega);have R9:∀W:World,(Instr.makeSlice 22 (.int .i64 ((l.length:Int)+80)) (.int .i64 ((l.length:Int)+80))).run prog W=.ok (.slice (some ⟨W.heap.size,0,none⟩) (l.length+80) (l.length+80)) (W.alloc (.cells M.toArray 114)):=by
  intro W;have h:=Gs W;rw[show((l.length+80:Nat):Int)=(l.length:Int)+80 by simp]at h;exact h
 clear Gs;have e80:IntKind.i64.wrap ((l.length:Int)+80)=(l.length:Int)+80:=jQ3 _ (by omega);have Hl:=G hl;obtain⟨wm,GY⟩:∃wm,wm=w.alloc (.cells (atC jS).toArray 114):=⟨_,rfl⟩;have Ma:wm.heap.size=w.heap.size+1:=by rw[GY];simp
 have W9:Old w wm:=by rw[GY];exact(jQ0 NoX w).alloc _
 have Gn:Blk wm w.heap.size 114 (atC jS).toArray:=by rw[GY];exact jQ2 w _ _
 have Hr:=G ((hr.old W9).alloc (.cells M.toArray 114));have Hb:=G (show Blk (wm.alloc (.cells M.toArray 114)) (w.heap.size+1) 114 M.toArray by rw[<-Ma];exact jQ2 wm _ _);have Nb:=jy (C:=atC) (z:=7) (fun x=>rfl) l;have Hs:=G (show Blk ((wm.alloc (.cells M.toArray 114)).setCells (w.heap.size+1) 0 (l.flatMap atC)) (w.heap.size+1) 114 (l.flatMap atC++M.drop (l.flatMap atC).length).toArray from by
  have h:=Blk.next9 (pre:=[]) (rest:=M) (by simpa using Hb.out) (l.flatMap atC) (by rw[hM,Nb];omega) 0 rfl;rw[jN8]at h;exact h)
 have NE:=G (show Blk ((wm.alloc (.cells M.toArray 114)).setCells (w.heap.size+1) 0 (l.flatMap atC)) w.heap.size 114 (atC jS).toArray from(Gn.old ((jQ0 NoX wm).alloc _)).kp (Kp.setCells _ _ _ _) (fun e:w.heap.size=w.heap.size+1=>by omega));have Ho:=G (show Old w ((wm.alloc (.cells M.toArray 114)).setCells (w.heap.size+1) 0 (l.flatMap atC))from(W9.alloc _).trans (Kp.setCells _ _ _ _) (fun b hb e=>by have:b=w.heap.size+1:=e;omega));have H1:=G (KL jAs l);have Mn:=G Nb;have HM:=G hM;have HR:=G (show M.drop (l.flatMap atC).length=M.drop (l.length*7)by rw[Nb]);have Pk:=G GY;clear hr hl Nb hM W9 Gn Ma GY;rw[Pk.out]at Hr Hb Hs NE Ho;generalize Fp:atC jS=cs at*;have NG:=G Fp;have Gd:=G (show cs.toArray.all (·.oneCell')=true from by rw[<-Fp];exact all_oneCell_toArray (jAs _));have FZ:=G (show(prog.info? 114).map (·.size)=some cs.toArray.size from by rw[<-Fp];exact kM);have GT:=G (show(prog.info? 114).map (·.size)=some cs.length from by rw[<-Fp];exact kM);have Wi:=G (show cs.length=7 from by rw[<-Fp];rfl);clear Fp;go_enter func44,ntmps44;go_wp2_with (first|refine xe 22 114 7 underlying22 kM (.tmp 11) (.tmp 12) (dl:=l.length+80) (dc:=l.length+80) (c:=c) Hb.out HM.out Hr.out Mn.out H1.out (Nat.le_add_right _ _) rfl rfl rfl rfl ?_ |fail);clear Hr Hb;generalize (World.setCells _ _ _ _)=W at*;go_loopw [6] (fun i wr=>∃(k:Nat) (rest:List Value),l.length<=k/\k<=l.length+80/\i=.int .i64 k/\rest.length=(l.length+80-k)*7/\Blk wr (w.heap.size+1) 114 (((jo l jS).take k).flatMap atC++rest).toArray/\Blk wr w.heap.size 114 cs.toArray/\Old w wr) (fun i _=>l.length+80-(intOf i).toNat)
 case atStart=>
  refine⟨l.length,M.drop (l.flatMap atC).length,jL3 _,Nat.le_add_right _ _,rfl,?_,?_,NE.out,Ho.out⟩
  ·rw[jK8,HM.out,Mn.out,Nat.add_sub_cancel_left];omega
  ·rw[show(jo l jS).take l.length=l by unfold jo;rw[List.take_left'];rfl];exact Hs.out
 case round=>
  obtain⟨k,rest,GF,hU,rfl,FU,hb,Gn,ho⟩:=hrel;have HB:=G hb;have C5:=G Gn;have HO:=G ho;by_cases hlt:k<l.length+80
  ·have N0:(((jo l jS).take k).flatMap atC).length=k*7:=by
    rw[jy (C:=atC) (z:=7) (fun x=>rfl),jK9,jr]
    congr 1
    omega
   have Gr:7<=rest.length:=by
    rw[FU];exact Nat.le_mul_of_pos_left _ (by omega)
   have NA:=G (show wr.there (w.heap.size+1) (k*7) cs.toArray.size from by rw[show cs.toArray.size=7 from(jJ8 ..).trans Wi.out];exact Blk.there HB.out (k*7) 7 (by rw[jJ8,jJ4,N0];omega));have FB:=Blk.next9 hb cs (show cs.length<=rest.length from by rw[Wi.out];exact Gr) (k*7) N0.symm;have HN:=G (show Blk (wr.setCells (w.heap.size+1) (k*7) cs.toArray.toList) (w.heap.size+1) 114 (((jo l jS).take (k+1)).flatMap atC++rest.drop 7).toArray from by
    have e:(jo l jS)[k]'(by rw[jr];exact hlt)=jS:=by
     unfold jo;rw[List.getElem_append_right GF,List.getElem_replicate]
    rw[jK2 (by rw[jr];exact hlt),e,jN5,List.flatMap_singleton,NG.out];rw[Wi.out]at FB;exact FB)
   have Pu:=G (show Blk (wr.setCells (w.heap.size+1) (k*7) cs.toArray.toList) w.heap.size 114 cs.toArray from Gn.kp (Kp.setCells _ _ _ _) (fun e:w.heap.size=w.heap.size+1=>by omega));have MH:=G (show Old w (wr.setCells (w.heap.size+1) (k*7) cs.toArray.toList)from ho.trans (Kp.setCells _ _ _ _) (fun b hb e=>by have:b=w.heap.size+1:=e;omega));have Wv:=G (show(rest.drop 7).length=(l.length+80-(k+1))*7 by rw[jK8,FU,show l.length+80-k=(l.length+80-(k+1))+1 by omega,Nat.succ_mul];omega);have WV:∀(i:Nat) (v:Value),cs[i]? =some v->wr.cell? ⟨w.heap.size,i,none⟩=some v:=fun i v e=>Gn.at_ i (by rw[jJ7];exact e);have W7:=G (show wr.rangeAt w.heap.size 0 cs from fun j v hv=>by rw[Nat.zero_add];exact WV j v hv);have b1:(0:Int)<=(k:Int):=(by omega);have b2:(k:Int)<(l.length:Int)+80:=(by omega);have b3:(k:Int).toNat=k:=(by omega);have b4:(k:Int)<=1000000000100:=by have:=Hl.out;omega
   clear hb Gn ho N0 Gr FB WV FU;go_wp2_with (first|((with_reducible refine vC 114 (.tmp 25) (.tmp 24) ?_);refine jQ1 rfl 114 (.tmp 25) (.tmp 24) rfl (w.heap.size+1) (k*7) cs.toArray rfl rfl NA.out FZ.out Gd.out ?_)|(refine wpList_load_mid rfl 114 (.tmp 3) rfl w.heap.size 0 rfl cs _ W7.out underlying114 rfl GT.out ?_)|fail);go_roundw
   case rel=>exact⟨k+1,rest.drop 7,by omega,by omega,by go_num,Wv.out,HN.out,Pu.out,MH.out⟩
   case measure=>simp[intOf];omega
  ·obtain rfl:k=l.length+80:=(by omega);go_wp2;go_ret;refine⟨_,rfl,by omega,?_,HO.out⟩;have h0:rest=[]:=List.eq_nil_of_length_eq_zero (by rw[FU];simp);have h1:=HB.out;rw[h0,jN7,jK4 (by rw[jr];exact jL3 _)]at h1;exact h1
theorem uO(n:Nat)(hn:n<=1000000000100):∃M:List Value,M.length=n*7/\∀W:World,(Instr.makeSlice 23 (.int .i64 (n:Int)) (.int .i64 (n:Int))).run prog W=.ok (.slice (some ⟨W.heap.size,0,none⟩) n n) (W.alloc (.cells M.toArray 117)):=by
 have Ni:∃i,prog.info? 117=some i/\(∃z,i.zero=some z)/\i.size=7/\i.bytes<=200:=by
  cases hq:prog.info? 117 with
  |none=>
   have:=vS;rw[hq]at this;cases this
  |some i=>
   have h1:=vS;have h2:(prog.info? 117).map (fun i=>(i.zero.isSome,decide (i.bytes<=200)))=some (true,true):=(by kernel_rfl);rw[hq]at h1 h2;simp only[Option.map_some,Option.some.injEq,Prod.mk.injEq,decide_eq_true_eq]at h1 h2;exact⟨i,rfl,Option.isSome_iff_exists.1 h2.1,h1,h2.2⟩
 obtain⟨i,hi,⟨z,Fm⟩,Fi,Fl⟩:=Ni;refine⟨(madeCells z.cells (n*i.size)).toList,by rw[Array.length_toList,size_madeCells,Fi],fun W=> ?_⟩;have hb:(i.bytes:Int)*(n:Int)<=281474976710656:=by
  have h3:i.bytes*n<=200*1000000000100:=Nat.mul_le_mul Fl hn;have h4:((i.bytes*n:Nat):Int)<=281474976710656:=by omega
  rwa [Int.natCast_mul]at h4
 have hr:=run_make (P:=prog) W 23 117 i z underlying23 hi Fm .i64 .i64 n n (by omega) (by omega) hb (by omega);simp only[jL1]at hr;rw[hr]
theorem uA(w:World)(A:OA)(c:Nat)(l:List Stg)(hr:Rd w 7 A l.length (l.flatMap sgC))(hl:l.length<=1000000000000):
  Calls prog 45 #[.slice A l.length c,.agg (sgC kI).toArray] w fun e w' =>∃g,e=.returned (.slice (some ⟨g,0,none⟩) (l.length+80) (l.length+80))/\w.heap.size<=g/\Blk w' g 117 ((jo l kI).flatMap sgC).toArray/\Old w w' :=by
 obtain⟨M,hM,Gs⟩:=uO (l.length+80) (by omega);have R9:∀W:World,(Instr.makeSlice 23 (.int .i64 ((l.length:Int)+80)) (.int .i64 ((l.length:Int)+80))).run prog W=.ok (.slice (some ⟨W.heap.size,0,none⟩) (l.length+80) (l.length+80)) (W.alloc (.cells M.toArray 117)):=by
  intro W;have h:=Gs W;rw[show((l.length+80:Nat):Int)=(l.length:Int)+80 by simp]at h;exact h
 clear Gs;have e80:IntKind.i64.wrap ((l.length:Int)+80)=(l.length:Int)+80:=jQ3 _ (by omega);have Hl:=G hl;obtain⟨wm,GY⟩:∃wm,wm=w.alloc (.cells (sgC kI).toArray 117):=⟨_,rfl⟩;have Ma:wm.heap.size=w.heap.size+1:=by rw[GY];simp
 have W9:Old w wm:=by rw[GY];exact(jQ0 NoX w).alloc _
 have Gn:Blk wm w.heap.size 117 (sgC kI).toArray:=by rw[GY];exact jQ2 w _ _
 have Hr:=G ((hr.old W9).alloc (.cells M.toArray 117));have Hb:=G (show Blk (wm.alloc (.cells M.toArray 117)) (w.heap.size+1) 117 M.toArray by rw[<-Ma];exact jQ2 wm _ _);have Nb:=jy (C:=sgC) (z:=7) (fun x=>rfl) l;have Hs:=G (show Blk ((wm.alloc (.cells M.toArray 117)).setCells (w.heap.size+1) 0 (l.flatMap sgC)) (w.heap.size+1) 117 (l.flatMap sgC++M.drop (l.flatMap sgC).length).toArray from by
  have h:=Blk.next9 (pre:=[]) (rest:=M) (by simpa using Hb.out) (l.flatMap sgC) (by rw[hM,Nb];omega) 0 rfl;rw[jN8]at h;exact h)
 have NE:=G (show Blk ((wm.alloc (.cells M.toArray 117)).setCells (w.heap.size+1) 0 (l.flatMap sgC)) w.heap.size 117 (sgC kI).toArray from(Gn.old ((jQ0 NoX wm).alloc _)).kp (Kp.setCells _ _ _ _) (fun e:w.heap.size=w.heap.size+1=>by omega));have Ho:=G (show Old w ((wm.alloc (.cells M.toArray 117)).setCells (w.heap.size+1) 0 (l.flatMap sgC))from(W9.alloc _).trans (Kp.setCells _ _ _ _) (fun b hb e=>by have:b=w.heap.size+1:=e;omega));have H1:=G (KL jAm l);have Mn:=G Nb;have HM:=G hM;have HR:=G (show M.drop (l.flatMap sgC).length=M.drop (l.length*7)by rw[Nb]);have Pk:=G GY;clear hr hl Nb hM W9 Gn Ma GY;rw[Pk.out]at Hr Hb Hs NE Ho;generalize Fp:sgC kI=cs at*;have NG:=G Fp;have Gd:=G (show cs.toArray.all (·.oneCell')=true from by rw[<-Fp];exact all_oneCell_toArray (jAm _));have FZ:=G (show(prog.info? 117).map (·.size)=some cs.toArray.size from by rw[<-Fp];exact vS);have GT:=G (show(prog.info? 117).map (·.size)=some cs.length from by rw[<-Fp];exact vS);have Wi:=G (show cs.length=7 from by rw[<-Fp];rfl);clear Fp;go_enter func45,ntmps45;go_wp2_with (first|refine xe 23 117 7 underlying23 vS (.tmp 11) (.tmp 12) (dl:=l.length+80) (dc:=l.length+80) (c:=c) Hb.out HM.out Hr.out Mn.out H1.out (Nat.le_add_right _ _) rfl rfl rfl rfl ?_ |fail);clear Hr Hb;generalize (World.setCells _ _ _ _)=W at*;go_loopw [6] (fun i wr=>∃(k:Nat) (rest:List Value),l.length<=k/\k<=l.length+80/\i=.int .i64 k/\rest.length=(l.length+80-k)*7/\Blk wr (w.heap.size+1) 117 (((jo l kI).take k).flatMap sgC++rest).toArray/\Blk wr w.heap.size 117 cs.toArray/\Old w wr) (fun i _=>l.length+80-(intOf i).toNat)
 case atStart=>
  refine⟨l.length,M.drop (l.flatMap sgC).length,jL3 _,Nat.le_add_right _ _,rfl,?_,?_,NE.out,Ho.out⟩
  ·rw[jK8,HM.out,Mn.out,Nat.add_sub_cancel_left];omega
  ·rw[show(jo l kI).take l.length=l by unfold jo;rw[List.take_left'];rfl];exact Hs.out
 case round=>
  obtain⟨k,rest,GF,hU,rfl,FU,hb,Gn,ho⟩:=hrel;have HB:=G hb;have C5:=G Gn;have HO:=G ho;by_cases hlt:k<l.length+80
  ·have N0:(((jo l kI).take k).flatMap sgC).length=k*7:=by
    rw[jy (C:=sgC) (z:=7) (fun x=>rfl),jK9,jr]
    congr 1
    omega
   have Gr:7<=rest.length:=by
    rw[FU];exact Nat.le_mul_of_pos_left _ (by omega)
   have NA:=G (show wr.there (w.heap.size+1) (k*7) cs.toArray.size from by rw[show cs.toArray.size=7 from(jJ8 ..).trans Wi.out];exact Blk.there HB.out (k*7) 7 (by rw[jJ8,jJ4,N0];omega));have FB:=Blk.next9 hb cs (show cs.length<=rest.length from by rw[Wi.out];exact Gr) (k*7) N0.symm;have HN:=G (show Blk (wr.setCells (w.heap.size+1) (k*7) cs.toArray.toList) (w.heap.size+1) 117 (((jo l kI).take (k+1)).flatMap sgC++rest.drop 7).toArray from by
    have e:(jo l kI)[k]'(by rw[jr];exact hlt)=kI:=by
     unfold jo;rw[List.getElem_append_right GF,List.getElem_replicate]
    rw[jK2 (by rw[jr];exact hlt),e,jN5,List.flatMap_singleton,NG.out];rw[Wi.out]at FB;exact FB)
   have Pu:=G (show Blk (wr.setCells (w.heap.size+1) (k*7) cs.toArray.toList) w.heap.size 117 cs.toArray from Gn.kp (Kp.setCells _ _ _ _) (fun e:w.heap.size=w.heap.size+1=>by omega));have MH:=G (show Old w (wr.setCells (w.heap.size+1) (k*7) cs.toArray.toList)from ho.trans (Kp.setCells _ _ _ _) (fun b hb e=>by have:b=w.heap.size+1:=e;omega));have Wv:=G (show(rest.drop 7).length=(l.length+80-(k+1))*7 by rw[jK8,FU,show l.length+80-k=(l.length+80-(k+1))+1 by omega,Nat.succ_mul];omega);have WV:∀(i:Nat) (v:Value),cs[i]? =some v->wr.cell? ⟨w.heap.size,i,none⟩=some v:=fun i v e=>Gn.at_ i (by rw[jJ7];exact e);have W7:=G (show wr.rangeAt w.heap.size 0 cs from fun j v hv=>by rw[Nat.zero_add];exact WV j v hv);have b1:(0:Int)<=(k:Int):=(by omega);have b2:(k:Int)<(l.length:Int)+80:=(by omega);have b3:(k:Int).toNat=k:=(by omega);have b4:(k:Int)<=1000000000100:=by have:=Hl.out;omega
   clear hb Gn ho N0 Gr FB WV FU;go_wp2_with (first|((with_reducible refine vC 117 (.tmp 25) (.tmp 24) ?_);refine jQ1 rfl 117 (.tmp 25) (.tmp 24) rfl (w.heap.size+1) (k*7) cs.toArray rfl rfl NA.out FZ.out Gd.out ?_)|(refine wpList_load_mid rfl 117 (.tmp 3) rfl w.heap.size 0 rfl cs _ W7.out underlying117 rfl GT.out ?_)|fail);go_roundw
   case rel=>exact⟨k+1,rest.drop 7,by omega,by omega,by go_num,Wv.out,HN.out,Pu.out,MH.out⟩
   case measure=>simp[intOf];omega
  ·obtain rfl:k=l.length+80:=(by omega);go_wp2;go_ret;refine⟨_,rfl,by omega,?_,HO.out⟩;have h0:rest=[]:=List.eq_nil_of_length_eq_zero (by rw[FU];simp);have h1:=HB.out;rw[h0,jN7,jK4 (by rw[jr];exact jL3 _)]at h1;exact h1
theorem YS(n:Nat)(hn:n<=1000000000100):∃M:List Value,M.length=n*6/\∀W:World,(Instr.makeSlice 24 (.int .i64 (n:Int)) (.int .i64 (n:Int))).run prog W=.ok (.slice (some ⟨W.heap.size,0,none⟩) n n) (W.alloc (.cells M.toArray 64)):=by
 have Ni:∃i,prog.info? 64=some i/\(∃z,i.zero=some z)/\i.size=6/\i.bytes<=200:=by
  cases hq:prog.info? 64 with
  |none=>
   have:=kL;rw[hq]at this;cases this
  |some i=>
   have h1:=kL;have h2:(prog.info? 64).map (fun i=>(i.zero.isSome,decide (i.bytes<=200)))=some (true,true):=(by kernel_rfl);rw[hq]at h1 h2;simp only[Option.map_some,Option.some.injEq,Prod.mk.injEq,decide_eq_true_eq]at h1 h2;exact⟨i,rfl,Option.isSome_iff_exists.1 h2.1,h1,h2.2⟩
 obtain⟨i,hi,⟨z,Fm⟩,Fi,Fl⟩:=Ni;refine⟨(madeCells z.cells (n*i.size)).toList,by rw[Array.length_toList,size_madeCells,Fi],fun W=> ?_⟩;have hb:(i.bytes:Int)*(n:Int)<=281474976710656:=by
  have h3:i.bytes*n<=200*1000000000100:=Nat.mul_le_mul Fl hn;have h4:((i.bytes*n:Nat):Int)<=281474976710656:=by omega
  rwa [Int.natCast_mul]at h4
 have hr:=run_make (P:=prog) W 24 64 i z underlying24 hi Fm .i64 .i64 n n (by omega) (by omega) hb (by omega);simp only[jL1]at hr;rw[hr]
theorem YF(w:World)(A:OA)(c:Nat)(l:List Mil)(hr:Rd w 6 A l.length (l.flatMap miC))(hl:l.length<=1000000000000):
  Calls prog 46 #[.slice A l.length c,.agg (miC jR).toArray] w fun e w' =>∃g,e=.returned (.slice (some ⟨g,0,none⟩) (l.length+80) (l.length+80))/\w.heap.size<=g/\Blk w' g 64 ((jo l jR).flatMap miC).toArray/\Old w w' :=by
 obtain⟨M,hM,Gs⟩:=YS (l.length+80) (by omega);have R9:∀W:World,(Instr.makeSlice 24 (.int .i64 ((l.length:Int)+80)) (.int .i64 ((l.length:Int)+80))).run prog W=.ok (.slice (some ⟨W.heap.size,0,none⟩) (l.length+80) (l.length+80)) (W.alloc (.cells M.toArray 64)):=by
  intro W;have h:=Gs W;rw[show((l.length+80:Nat):Int)=(l.length:Int)+80 by simp]at h;exact h
 clear Gs;have e80:IntKind.i64.wrap ((l.length:Int)+80)=(l.length:Int)+80:=jQ3 _ (by omega);have Hl:=G hl;obtain⟨wm,GY⟩:∃wm,wm=w.alloc (.cells (miC jR).toArray 64):=⟨_,rfl⟩;have Ma:wm.heap.size=w.heap.size+1:=by rw[GY];simp
 have W9:Old w wm:=by rw[GY];exact(jQ0 NoX w).alloc _
 have Gn:Blk wm w.heap.size 64 (miC jR).toArray:=by rw[GY];exact jQ2 w _ _
 have Hr:=G ((hr.old W9).alloc (.cells M.toArray 64));have Hb:=G (show Blk (wm.alloc (.cells M.toArray 64)) (w.heap.size+1) 64 M.toArray by rw[<-Ma];exact jQ2 wm _ _);have Nb:=jy (C:=miC) (z:=6) (fun x=>rfl) l;have Hs:=G (show Blk ((wm.alloc (.cells M.toArray 64)).setCells (w.heap.size+1) 0 (l.flatMap miC)) (w.heap.size+1) 64 (l.flatMap miC++M.drop (l.flatMap miC).length).toArray from by
  have h:=Blk.next9 (pre:=[]) (rest:=M) (by simpa using Hb.out) (l.flatMap miC) (by rw[hM,Nb];omega) 0 rfl;rw[jN8]at h;exact h)
 have NE:=G (show Blk ((wm.alloc (.cells M.toArray 64)).setCells (w.heap.size+1) 0 (l.flatMap miC)) w.heap.size 64 (miC jR).toArray from(Gn.old ((jQ0 NoX wm).alloc _)).kp (Kp.setCells _ _ _ _) (fun e:w.heap.size=w.heap.size+1=>by omega));have Ho:=G (show Old w ((wm.alloc (.cells M.toArray 64)).setCells (w.heap.size+1) 0 (l.flatMap miC))from(W9.alloc _).trans (Kp.setCells _ _ _ _) (fun b hb e=>by have:b=w.heap.size+1:=e;omega));have H1:=G (KL jAo l);have Mn:=G Nb;have HM:=G hM;have HR:=G (show M.drop (l.flatMap miC).length=M.drop (l.length*6)by rw[Nb]);have Pk:=G GY;clear hr hl Nb hM W9 Gn Ma GY;rw[Pk.out]at Hr Hb Hs NE Ho;generalize Fp:miC jR=cs at*;have NG:=G Fp;have Gd:=G (show cs.toArray.all (·.oneCell')=true from by rw[<-Fp];exact all_oneCell_toArray (jAo _));have FZ:=G (show(prog.info? 64).map (·.size)=some cs.toArray.size from by rw[<-Fp];exact kL);have GT:=G (show(prog.info? 64).map (·.size)=some cs.length from by rw[<-Fp];exact kL);have Wi:=G (show cs.length=6 from by rw[<-Fp];rfl);clear Fp;go_enter func46,ntmps46;go_wp2_with (first|refine xe 24 64 6 underlying24 kL (.tmp 11) (.tmp 12) (dl:=l.length+80) (dc:=l.length+80) (c:=c) Hb.out HM.out Hr.out Mn.out H1.out (Nat.le_add_right _ _) rfl rfl rfl rfl ?_ |fail);clear Hr Hb;generalize (World.setCells _ _ _ _)=W at*;go_loopw [6] (fun i wr=>∃(k:Nat) (rest:List Value),l.length<=k/\k<=l.length+80/\i=.int .i64 k/\rest.length=(l.length+80-k)*6/\Blk wr (w.heap.size+1) 64 (((jo l jR).take k).flatMap miC++rest).toArray/\Blk wr w.heap.size 64 cs.toArray/\Old w wr) (fun i _=>l.length+80-(intOf i).toNat)
 case atStart=>
  refine⟨l.length,M.drop (l.flatMap miC).length,jL3 _,Nat.le_add_right _ _,rfl,?_,?_,NE.out,Ho.out⟩
  ·rw[jK8,HM.out,Mn.out,Nat.add_sub_cancel_left];omega
  ·rw[show(jo l jR).take l.length=l by unfold jo;rw[List.take_left'];rfl];exact Hs.out
 case round=>
  obtain⟨k,rest,GF,hU,rfl,FU,hb,Gn,ho⟩:=hrel;have HB:=G hb;have C5:=G Gn;have HO:=G ho;by_cases hlt:k<l.length+80
  ·have N0:(((jo l jR).take k).flatMap miC).length=k*6:=by
    rw[jy (C:=miC) (z:=6) (fun x=>rfl),jK9,jr]
    congr 1
    omega
   have Gr:6<=rest.length:=by
    rw[FU];exact Nat.le_mul_of_pos_left _ (by omega)
   have NA:=G (show wr.there (w.heap.size+1) (k*6) cs.toArray.size from by rw[show cs.toArray.size=6 from(jJ8 ..).trans Wi.out];exact Blk.there HB.out (k*6) 6 (by rw[jJ8,jJ4,N0];omega));have FB:=Blk.next9 hb cs (show cs.length<=rest.length from by rw[Wi.out];exact Gr) (k*6) N0.symm;have HN:=G (show Blk (wr.setCells (w.heap.size+1) (k*6) cs.toArray.toList) (w.heap.size+1) 64 (((jo l jR).take (k+1)).flatMap miC++rest.drop 6).toArray from by
    have e:(jo l jR)[k]'(by rw[jr];exact hlt)=jR:=by
     unfold jo;rw[List.getElem_append_right GF,List.getElem_replicate]
    rw[jK2 (by rw[jr];exact hlt),e,jN5,List.flatMap_singleton,NG.out];rw[Wi.out]at FB;exact FB)
   have Pu:=G (show Blk (wr.setCells (w.heap.size+1) (k*6) cs.toArray.toList) w.heap.size 64 cs.toArray from Gn.kp (Kp.setCells _ _ _ _) (fun e:w.heap.size=w.heap.size+1=>by omega));have MH:=G (show Old w (wr.setCells (w.heap.size+1) (k*6) cs.toArray.toList)from ho.trans (Kp.setCells _ _ _ _) (fun b hb e=>by have:b=w.heap.size+1:=e;omega));have Wv:=G (show(rest.drop 6).length=(l.length+80-(k+1))*6 by rw[jK8,FU,show l.length+80-k=(l.length+80-(k+1))+1 by omega,Nat.succ_mul];omega);have WV:∀(i:Nat) (v:Value),cs[i]? =some v->wr.cell? ⟨w.heap.size,i,none⟩=some v:=fun i v e=>Gn.at_ i (by rw[jJ7];exact e);have W7:=G (show wr.rangeAt w.heap.size 0 cs from fun j v hv=>by rw[Nat.zero_add];exact WV j v hv);have b1:(0:Int)<=(k:Int):=(by omega);have b2:(k:Int)<(l.length:Int)+80:=(by omega);have b3:(k:Int).toNat=k:=(by omega);have b4:(k:Int)<=1000000000100:=by have:=Hl.out;omega
   clear hb Gn ho N0 Gr FB WV FU;go_wp2_with (first|((with_reducible refine vC 64 (.tmp 25) (.tmp 24) ?_);refine jQ1 rfl 64 (.tmp 25) (.tmp 24) rfl (w.heap.size+1) (k*6) cs.toArray rfl rfl NA.out FZ.out Gd.out ?_)|(refine wpList_load_mid rfl 64 (.tmp 3) rfl w.heap.size 0 rfl cs _ W7.out underlying64 rfl GT.out ?_)|fail);go_roundw
   case rel=>exact⟨k+1,rest.drop 6,by omega,by omega,by go_num,Wv.out,HN.out,Pu.out,MH.out⟩
   case measure=>simp[intOf];omega
  ·obtain rfl:k=l.length+80:=(by omega);go_wp2;go_ret;refine⟨_,rfl,by omega,?_,HO.out⟩;have h0:rest=[]:=List.eq_nil_of_length_eq_zero (by rw[FU];simp);have h1:=HB.out;rw[h0,jN7,jK4 (by rw[jr];exact jL3 _)]at h1;exact h1
theorem uP(n:Nat)(hn:n<=1000000000100):∃M:List Value,M.length=n*3/\∀W:World,(Instr.makeSlice 108 (.int .i64 (n:Int)) (.int .i64 (n:Int))).run prog W=.ok (.slice (some ⟨W.heap.size,0,none⟩) n n) (W.alloc (.cells M.toArray 122)):=by
 have Ni:∃i,prog.info? 122=some i/\(∃z,i.zero=some z)/\i.size=3/\i.bytes<=200:=by
  cases hq:prog.info? 122 with
  |none=>
   have:=vT;rw[hq]at this;cases this
  |some i=>
   have h1:=vT;have h2:(prog.info? 122).map (fun i=>(i.zero.isSome,decide (i.bytes<=200)))=some (true,true):=(by kernel_rfl);rw[hq]at h1 h2;simp only[Option.map_some,Option.some.injEq,Prod.mk.injEq,decide_eq_true_eq]at h1 h2;exact⟨i,rfl,Option.isSome_iff_exists.1 h2.1,h1,h2.2⟩
 obtain⟨i,hi,⟨z,Fm⟩,Fi,Fl⟩:=Ni;refine⟨(madeCells z.cells (n*i.size)).toList,by rw[Array.length_toList,size_madeCells,Fi],fun W=> ?_⟩;have hb:(i.bytes:Int)*(n:Int)<=281474976710656:=by
  have h3:i.bytes*n<=200*1000000000100:=Nat.mul_le_mul Fl hn;have h4:((i.bytes*n:Nat):Int)<=281474976710656:=by omega
  rwa [Int.natCast_mul]at h4
 have hr:=run_make (P:=prog) W 108 122 i z underlying108 hi Fm .i64 .i64 n n (by omega) (by omega) hb (by omega);simp only[jL1]at hr;rw[hr]
theorem uB(w:World)(A:OA)(c:Nat)(l:List Prm)(hr:Rd w 3 A l.length (l.flatMap prC))(hl:l.length<=1000000000000):
  Calls prog 48 #[.slice A l.length c,.agg (prC kG).toArray] w fun e w' =>∃g,e=.returned (.slice (some ⟨g,0,none⟩) (l.length+80) (l.length+80))/\w.heap.size<=g/\Blk w' g 122 ((jo l kG).flatMap prC).toArray/\Old w w' :=by
 obtain⟨M,hM,Gs⟩:=uP (l.length+80) (by omega);have R9:∀W:World,(Instr.makeSlice 108 (.int .i64 ((l.length:Int)+80)) (.int .i64 ((l.length:Int)+80))).run prog W=.ok (.slice (some ⟨W.heap.size,0,none⟩) (l.length+80) (l.length+80)) (W.alloc (.cells M.toArray 122)):=by
  intro W;have h:=Gs W;rw[show((l.length+80:Nat):Int)=(l.length:Int)+80 by simp]at h;exact h
 clear Gs;have e80:IntKind.i64.wrap ((l.length:Int)+80)=(l.length:Int)+80:=jQ3 _ (by omega);have Hl:=G hl;obtain⟨wm,GY⟩:∃wm,wm=w.alloc (.cells (prC kG).toArray 122):=⟨_,rfl⟩;have Ma:wm.heap.size=w.heap.size+1:=by rw[GY];simp
 have W9:Old w wm:=by rw[GY];exact(jQ0 NoX w).alloc _
 have Gn:Blk wm w.heap.size 122 (prC kG).toArray:=by rw[GY];exact jQ2 w _ _
 have Hr:=G ((hr.old W9).alloc (.cells M.toArray 122));have Hb:=G (show Blk (wm.alloc (.cells M.toArray 122)) (w.heap.size+1) 122 M.toArray by rw[<-Ma];exact jQ2 wm _ _);have Nb:=jy (C:=prC) (z:=3) (fun x=>rfl) l;have Hs:=G (show Blk ((wm.alloc (.cells M.toArray 122)).setCells (w.heap.size+1) 0 (l.flatMap prC)) (w.heap.size+1) 122 (l.flatMap prC++M.drop (l.flatMap prC).length).toArray from by
  have h:=Blk.next9 (pre:=[]) (rest:=M) (by simpa using Hb.out) (l.flatMap prC) (by rw[hM,Nb];omega) 0 rfl;rw[jN8]at h;exact h)
 have NE:=G (show Blk ((wm.alloc (.cells M.toArray 122)).setCells (w.heap.size+1) 0 (l.flatMap prC)) w.heap.size 122 (prC kG).toArray from(Gn.old ((jQ0 NoX wm).alloc _)).kp (Kp.setCells _ _ _ _) (fun e:w.heap.size=w.heap.size+1=>by omega));have Ho:=G (show Old w ((wm.alloc (.cells M.toArray 122)).setCells (w.heap.size+1) 0 (l.flatMap prC))from(W9.alloc _).trans (Kp.setCells _ _ _ _) (fun b hb e=>by have:b=w.heap.size+1:=e;omega));have H1:=G (KL jAn l);have Mn:=G Nb;have HM:=G hM;have HR:=G (show M.drop (l.flatMap prC).length=M.drop (l.length*3)by rw[Nb]);have Pk:=G GY;clear hr hl Nb hM W9 Gn Ma GY;rw[Pk.out]at Hr Hb Hs NE Ho;generalize Fp:prC kG=cs at*;have NG:=G Fp;have Gd:=G (show cs.toArray.all (·.oneCell')=true from by rw[<-Fp];exact all_oneCell_toArray (jAn _));have FZ:=G (show(prog.info? 122).map (·.size)=some cs.toArray.size from by rw[<-Fp];exact vT);have GT:=G (show(prog.info? 122).map (·.size)=some cs.length from by rw[<-Fp];exact vT);have Wi:=G (show cs.length=3 from by rw[<-Fp];rfl);clear Fp;go_enter func48,ntmps48;go_wp2_with (first|refine xe 108 122 3 underlying108 vT (.tmp 11) (.tmp 12) (dl:=l.length+80) (dc:=l.length+80) (c:=c) Hb.out HM.out Hr.out Mn.out H1.out (Nat.le_add_right _ _) rfl rfl rfl rfl ?_ |fail);clear Hr Hb;generalize (World.setCells _ _ _ _)=W at*;go_loopw [6] (fun i wr=>∃(k:Nat) (rest:List Value),l.length<=k/\k<=l.length+80/\i=.int .i64 k/\rest.length=(l.length+80-k)*3/\Blk wr (w.heap.size+1) 122 (((jo l kG).take k).flatMap prC++rest).toArray/\Blk wr w.heap.size 122 cs.toArray/\Old w wr) (fun i _=>l.length+80-(intOf i).toNat)
 case atStart=>
  refine⟨l.length,M.drop (l.flatMap prC).length,jL3 _,Nat.le_add_right _ _,rfl,?_,?_,NE.out,Ho.out⟩
  ·rw[jK8,HM.out,Mn.out,Nat.add_sub_cancel_left];omega
  ·rw[show(jo l kG).take l.length=l by unfold jo;rw[List.take_left'];rfl];exact Hs.out
 case round=>
  obtain⟨k,rest,GF,hU,rfl,FU,hb,Gn,ho⟩:=hrel;have HB:=G hb;have C5:=G Gn;have HO:=G ho;by_cases hlt:k<l.length+80
  ·have N0:(((jo l kG).take k).flatMap prC).length=k*3:=by
    rw[jy (C:=prC) (z:=3) (fun x=>rfl),jK9,jr]
    congr 1
    omega
   have Gr:3<=rest.length:=by
    rw[FU];exact Nat.le_mul_of_pos_left _ (by omega)
   have NA:=G (show wr.there (w.heap.size+1) (k*3) cs.toArray.size from by rw[show cs.toArray.size=3 from(jJ8 ..).trans Wi.out];exact Blk.there HB.out (k*3) 3 (by rw[jJ8,jJ4,N0];omega));have FB:=Blk.next9 hb cs (show cs.length<=rest.length from by rw[Wi.out];exact Gr) (k*3) N0.symm;have HN:=G (show Blk (wr.setCells (w.heap.size+1) (k*3) cs.toArray.toList) (w.heap.size+1) 122 (((jo l kG).take (k+1)).flatMap prC++rest.drop 3).toArray from by
    have e:(jo l kG)[k]'(by rw[jr];exact hlt)=kG:=by
     unfold jo;rw[List.getElem_append_right GF,List.getElem_replicate]
    rw[jK2 (by rw[jr];exact hlt),e,jN5,List.flatMap_singleton,NG.out];rw[Wi.out]at FB;exact FB)
   have Pu:=G (show Blk (wr.setCells (w.heap.size+1) (k*3) cs.toArray.toList) w.heap.size 122 cs.toArray from Gn.kp (Kp.setCells _ _ _ _) (fun e:w.heap.size=w.heap.size+1=>by omega));have MH:=G (show Old w (wr.setCells (w.heap.size+1) (k*3) cs.toArray.toList)from ho.trans (Kp.setCells _ _ _ _) (fun b hb e=>by have:b=w.heap.size+1:=e;omega));have Wv:=G (show(rest.drop 3).length=(l.length+80-(k+1))*3 by rw[jK8,FU,show l.length+80-k=(l.length+80-(k+1))+1 by omega,Nat.succ_mul];omega);have WV:∀(i:Nat) (v:Value),cs[i]? =some v->wr.cell? ⟨w.heap.size,i,none⟩=some v:=fun i v e=>Gn.at_ i (by rw[jJ7];exact e);have W7:=G (show wr.rangeAt w.heap.size 0 cs from fun j v hv=>by rw[Nat.zero_add];exact WV j v hv);have b1:(0:Int)<=(k:Int):=(by omega);have b2:(k:Int)<(l.length:Int)+80:=(by omega);have b3:(k:Int).toNat=k:=(by omega);have b4:(k:Int)<=1000000000100:=by have:=Hl.out;omega
   clear hb Gn ho N0 Gr FB WV FU;go_wp2_with (first|((with_reducible refine vC 122 (.tmp 25) (.tmp 24) ?_);refine jQ1 rfl 122 (.tmp 25) (.tmp 24) rfl (w.heap.size+1) (k*3) cs.toArray rfl rfl NA.out FZ.out Gd.out ?_)|(refine wpList_load_mid rfl 122 (.tmp 3) rfl w.heap.size 0 rfl cs _ W7.out underlying122 rfl GT.out ?_)|fail);go_roundw
   case rel=>exact⟨k+1,rest.drop 3,by omega,by omega,by go_num,Wv.out,HN.out,Pu.out,MH.out⟩
   case measure=>simp[intOf];omega
  ·obtain rfl:k=l.length+80:=(by omega);go_wp2;go_ret;refine⟨_,rfl,by omega,?_,HO.out⟩;have h0:rest=[]:=List.eq_nil_of_length_eq_zero (by rw[FU];simp);have h1:=HB.out;rw[h0,jN7,jK4 (by rw[jr];exact jL3 _)]at h1;exact h1
theorem xD(n:Nat)(hn:n<=1000000000100):∃M:List Value,M.length=n*3/\∀W:World,(Instr.makeSlice 109 (.int .i64 (n:Int)) (.int .i64 (n:Int))).run prog W=.ok (.slice (some ⟨W.heap.size,0,none⟩) n n) (W.alloc (.cells M.toArray 125)):=by
 have Ni:∃i,prog.info? 125=some i/\(∃z,i.zero=some z)/\i.size=3/\i.bytes<=200:=by
  cases hq:prog.info? 125 with
  |none=>
   have:=vD;rw[hq]at this;cases this
  |some i=>
   have h1:=vD;have h2:(prog.info? 125).map (fun i=>(i.zero.isSome,decide (i.bytes<=200)))=some (true,true):=(by kernel_rfl);rw[hq]at h1 h2;simp only[Option.map_some,Option.some.injEq,Prod.mk.injEq,decide_eq_true_eq]at h1 h2;exact⟨i,rfl,Option.isSome_iff_exists.1 h2.1,h1,h2.2⟩
 obtain⟨i,hi,⟨z,Fm⟩,Fi,Fl⟩:=Ni;refine⟨(madeCells z.cells (n*i.size)).toList,by rw[Array.length_toList,size_madeCells,Fi],fun W=> ?_⟩;have hb:(i.bytes:Int)*(n:Int)<=281474976710656:=by
  have h3:i.bytes*n<=200*1000000000100:=Nat.mul_le_mul Fl hn;have h4:((i.bytes*n:Nat):Int)<=281474976710656:=by omega
  rwa [Int.natCast_mul]at h4
 have hr:=run_make (P:=prog) W 109 125 i z underlying109 hi Fm .i64 .i64 n n (by omega) (by omega) hb (by omega);simp only[jL1]at hr;rw[hr]
theorem qY(w:World)(A:OA)(c:Nat)(l:List Eff)(hr:Rd w 3 A l.length (l.flatMap efC))(hl:l.length<=1000000000000):
  Calls prog 49 #[.slice A l.length c,.agg (efC jp).toArray] w fun e w' =>∃g,e=.returned (.slice (some ⟨g,0,none⟩) (l.length+80) (l.length+80))/\w.heap.size<=g/\Blk w' g 125 ((jo l jp).flatMap efC).toArray/\Old w w' :=by
 obtain⟨M,hM,Gs⟩:=xD (l.length+80) (by omega);have R9:∀W:World,(Instr.makeSlice 109 (.int .i64 ((l.length:Int)+80)) (.int .i64 ((l.length:Int)+80))).run prog W=.ok (.slice (some ⟨W.heap.size,0,none⟩) (l.length+80) (l.length+80)) (W.alloc (.cells M.toArray 125)):=by
  intro W;have h:=Gs W;rw[show((l.length+80:Nat):Int)=(l.length:Int)+80 by simp]at h;exact h
 clear Gs;have e80:IntKind.i64.wrap ((l.length:Int)+80)=(l.length:Int)+80:=jQ3 _ (by omega);have Hl:=G hl;obtain⟨wm,GY⟩:∃wm,wm=w.alloc (.cells (efC jp).toArray 125):=⟨_,rfl⟩;have Ma:wm.heap.size=w.heap.size+1:=by rw[GY];simp
 have W9:Old w wm:=by rw[GY];exact(jQ0 NoX w).alloc _
 have Gn:Blk wm w.heap.size 125 (efC jp).toArray:=by rw[GY];exact jQ2 w _ _
 have Hr:=G ((hr.old W9).alloc (.cells M.toArray 125));have Hb:=G (show Blk (wm.alloc (.cells M.toArray 125)) (w.heap.size+1) 125 M.toArray by rw[<-Ma];exact jQ2 wm _ _);have Nb:=jy (C:=efC) (z:=3) (fun x=>rfl) l;have Hs:=G (show Blk ((wm.alloc (.cells M.toArray 125)).setCells (w.heap.size+1) 0 (l.flatMap efC)) (w.heap.size+1) 125 (l.flatMap efC++M.drop (l.flatMap efC).length).toArray from by
  have h:=Blk.next9 (pre:=[]) (rest:=M) (by simpa using Hb.out) (l.flatMap efC) (by rw[hM,Nb];omega) 0 rfl;rw[jN8]at h;exact h)
 have NE:=G (show Blk ((wm.alloc (.cells M.toArray 125)).setCells (w.heap.size+1) 0 (l.flatMap efC)) w.heap.size 125 (efC jp).toArray from(Gn.old ((jQ0 NoX wm).alloc _)).kp (Kp.setCells _ _ _ _) (fun e:w.heap.size=w.heap.size+1=>by omega));have Ho:=G (show Old w ((wm.alloc (.cells M.toArray 125)).setCells (w.heap.size+1) 0 (l.flatMap efC))from(W9.alloc _).trans (Kp.setCells _ _ _ _) (fun b hb e=>by have:b=w.heap.size+1:=e;omega));have H1:=G (KL jAr l);have Mn:=G Nb;have HM:=G hM;have HR:=G (show M.drop (l.flatMap efC).length=M.drop (l.length*3)by rw[Nb]);have Pk:=G GY;clear hr hl Nb hM W9 Gn Ma GY;rw[Pk.out]at Hr Hb Hs NE Ho;generalize Fp:efC jp=cs at*;have NG:=G Fp;have Gd:=G (show cs.toArray.all (·.oneCell')=true from by rw[<-Fp];exact all_oneCell_toArray (jAr _));have FZ:=G (show(prog.info? 125).map (·.size)=some cs.toArray.size from by rw[<-Fp];exact vD);have GT:=G (show(prog.info? 125).map (·.size)=some cs.length from by rw[<-Fp];exact vD);have Wi:=G (show cs.length=3 from by rw[<-Fp];rfl);clear Fp;go_enter func49,ntmps49;go_wp2_with (first|refine xe 109 125 3 underlying109 vD (.tmp 11) (.tmp 12) (dl:=l.length+80) (dc:=l.length+80) (c:=c) Hb.out HM.out Hr.out Mn.out H1.out (Nat.le_add_right _ _) rfl rfl rfl rfl ?_ |fail);clear Hr Hb;generalize (World.setCells _ _ _ _)=W at*;go_loopw [6] (fun i wr=>∃(k:Nat) (rest:List Value),l.length<=k/\k<=l.length+80/\i=.int .i64 k/\rest.length=(l.length+80-k)*3/\Blk wr (w.heap.size+1) 125 (((jo l jp).take k).flatMap efC++rest).toArray/\Blk wr w.heap.size 125 cs.toArray/\Old w wr) (fun i _=>l.length+80-(intOf i).toNat)
 case atStart=>
  refine⟨l.length,M.drop (l.flatMap efC).length,jL3 _,Nat.le_add_right _ _,rfl,?_,?_,NE.out,Ho.out⟩
  ·rw[jK8,HM.out,Mn.out,Nat.add_sub_cancel_left];omega
  ·rw[show(jo l jp).take l.length=l by unfold jo;rw[List.take_left'];rfl];exact Hs.out
 case round=>
  obtain⟨k,rest,GF,hU,rfl,FU,hb,Gn,ho⟩:=hrel;have HB:=G hb;have C5:=G Gn;have HO:=G ho;by_cases hlt:k<l.length+80
  ·have N0:(((jo l jp).take k).flatMap efC).length=k*3:=by
    rw[jy (C:=efC) (z:=3) (fun x=>rfl),jK9,jr]
    congr 1
    omega
   have Gr:3<=rest.length:=by
    rw[FU];exact Nat.le_mul_of_pos_left _ (by omega)
   have NA:=G (show wr.there (w.heap.size+1) (k*3) cs.toArray.size from by rw[show cs.toArray.size=3 from(jJ8 ..).trans Wi.out];exact Blk.there HB.out (k*3) 3 (by rw[jJ8,jJ4,N0];omega));have FB:=Blk.next9 hb cs (show cs.length<=rest.length from by rw[Wi.out];exact Gr) (k*3) N0.symm;have HN:=G (show Blk (wr.setCells (w.heap.size+1) (k*3) cs.toArray.toList) (w.heap.size+1) 125 (((jo l jp).take (k+1)).flatMap efC++rest.drop 3).toArray from by
    have e:(jo l jp)[k]'(by rw[jr];exact hlt)=jp:=by
     unfold jo;rw[List.getElem_append_right GF,List.getElem_replicate]
    rw[jK2 (by rw[jr];exact hlt),e,jN5,List.flatMap_singleton,NG.out];rw[Wi.out]at FB;exact FB)
   have Pu:=G (show Blk (wr.setCells (w.heap.size+1) (k*3) cs.toArray.toList) w.heap.size 125 cs.toArray from Gn.kp (Kp.setCells _ _ _ _) (fun e:w.heap.size=w.heap.size+1=>by omega));have MH:=G (show Old w (wr.setCells (w.heap.size+1) (k*3) cs.toArray.toList)from ho.trans (Kp.setCells _ _ _ _) (fun b hb e=>by have:b=w.heap.size+1:=e;omega));have Wv:=G (show(rest.drop 3).length=(l.length+80-(k+1))*3 by rw[jK8,FU,show l.length+80-k=(l.length+80-(k+1))+1 by omega,Nat.succ_mul];omega);have WV:∀(i:Nat) (v:Value),cs[i]? =some v->wr.cell? ⟨w.heap.size,i,none⟩=some v:=fun i v e=>Gn.at_ i (by rw[jJ7];exact e);have W7:=G (show wr.rangeAt w.heap.size 0 cs from fun j v hv=>by rw[Nat.zero_add];exact WV j v hv);have b1:(0:Int)<=(k:Int):=(by omega);have b2:(k:Int)<(l.length:Int)+80:=(by omega);have b3:(k:Int).toNat=k:=(by omega);have b4:(k:Int)<=1000000000100:=by have:=Hl.out;omega
   clear hb Gn ho N0 Gr FB WV FU;go_wp2_with (first|((with_reducible refine vC 125 (.tmp 25) (.tmp 24) ?_);refine jQ1 rfl 125 (.tmp 25) (.tmp 24) rfl (w.heap.size+1) (k*3) cs.toArray rfl rfl NA.out FZ.out Gd.out ?_)|(refine wpList_load_mid rfl 125 (.tmp 3) rfl w.heap.size 0 rfl cs _ W7.out underlying125 rfl GT.out ?_)|fail);go_roundw
   case rel=>exact⟨k+1,rest.drop 3,by omega,by omega,by go_num,Wv.out,HN.out,Pu.out,MH.out⟩
   case measure=>simp[intOf];omega
  ·obtain rfl:k=l.length+80:=(by omega);go_wp2;go_ret;refine⟨_,rfl,by omega,?_,HO.out⟩;have h0:rest=[]:=List.eq_nil_of_length_eq_zero (by rw[FU];simp);have h1:=HB.out;rw[h0,jN7,jK4 (by rw[jr];exact jL3 _)]at h1;exact h1
end Go.Proofs.YtmmjcbbogokmfaaGreatDoor

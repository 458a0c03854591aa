import Derived.Test.YtmmjcbbogokmfaaGreatDoorMp07
import Derived.Laws.IdiomCopy
import Derived.Laws.MakeOwn
import Derived.Laws.OwnMore
set_option maxRecDepth 100000
set_option maxHeartbeats 25600000
namespace Go.Proofs.YtmmjcbbogokmfaaGreatDoor
open Go.Proofs.Tryz
open Go.RowKit
theorem xf(sl el:TypeId)(hu:prog.underlying sl=some (.slice el))(NO:(prog.info? el).map (·.size)=some 1){w:World}{ops:Array Oper}{rest:List Oper}{o:Oper}{a:Act}{Q:Exit->Act->World->Prop}(d s:Operand){g dl dc:Nat}{cs:List Value}(hb:Blk w g el cs.toArray)(Fp:cs.length=dl)
  {A:OA} {n c:Nat} {l:List Value} (hr:Rd w 1 A n l) (hn:l.length=n) (h1:∀u∈l,u.oneCell' =true) (Fa:n<=dl)
  (Wb:o.guard=none) (ho:o.op=.call {callee:=.builtin .copy,args:= #[d,s],argTypes:= #[sl,sl]}) (hd:a.eval d=.slice (some ⟨g,0,none⟩) dl dc) (hs:a.eval s=.slice A n c)
  (hK:wpList prog ops Q rest (a.put o.dst (.int .i64 n)) (w.setCells g 0 l)):wpList prog ops Q (o::rest) a w:=by
 refine wpList_plain Wb fun K CL=> ?_;have WO:(Builtin.copy_ #[sl,sl] o.type #[.slice (some ⟨g,0,none⟩) dl dc,.slice A n c]).run prog w=.ok (.int .i64 n) (w.setCells g 0 l):=by
  cases A with
  |none=>
   have h0:n=0:=by
    rcases Nat.eq_zero_or_pos n with h|h
    ·exact h
    ·obtain⟨b,o,h',_⟩:=hr.2 h;cases h'
   subst h0;have:l=[]:=List.eq_nil_of_length_eq_zero hn;subst this;exact run_copy_none (P:=prog) w sl sl o.type el _ none dl dc 0 c hu NO (by simp)
  |some ad=>
   have:=run_copy_cells (P:=prog) w sl sl o.type el g 0 dl dc ad n c l hu NO (by rw[hn];exact(Nat.min_eq_left Fa).symm) (fun j v hv=>by
     have hj:j<n:=by rw[<-hn];exact(jM5 hv).1
     obtain⟨b,o,h',hc⟩:=hr.2 (by omega);injection h' with h';subst h';rw[Addr.add_lit];exact hc j v hv)
    (fun j hj=>by
     rw[Nat.zero_add,hb.cell,jJ7,jJ9 (by omega)];rfl)
    (fun j hj=>hb.frozen _) h1
   rw[hn]at this;exact this
 unfold Oper.wp execOp;simp only[ho,resolve,invoke,builtin,Sem.run_bind,Sem.run_pure,Result.andThen_ok,List.map_toArray,List.map_cons,List.map_nil,hd,hs,WO];exact CL _ _ hK
def Jp(xs:List Value)(n k:Nat)(v:Value):List Value:=xs.take k++List.replicate (n-k) v
theorem ZL(xs:List Value)(v:Value):Jp xs xs.length xs.length v=xs:=by simp[Jp]
theorem xR(xs:List Value)(n k:Nat)(v:Value)(hk:k<n)(hx:k<xs.length):(Jp xs n k v).set k xs[k]=Jp xs n (k+1) v:=by
 unfold Jp;have hl:(xs.take k).length=k:=by rw[jK9];omega
 rw[List.set_append_right _ _ (by omega),hl,Nat.sub_self,jK2 hx];obtain⟨m,hm⟩:∃m,n-k=m+1:=⟨n-k-1,by omega⟩;rw[hm,List.replicate_succ,jJ2,show n-(k+1)=m by omega,jK1];rfl
theorem xS(xs:List Value)(n k:Nat)(v:Value)(hk:k<n)(hx:k<=xs.length):(Jp xs n k v)[k]? =some v:=by
 unfold Jp;have hl:(xs.take k).length=k:=by rw[jK9];omega
 rw[List.getElem?_append_right (by omega),hl,Nat.sub_self];obtain⟨m,hm⟩:∃m,n-k=m+1:=⟨n-k-1,by omega⟩;rw[hm,List.replicate_succ];rfl
def vU(l:List Value)(m:Value):List Value:=l++List.replicate 80 m
theorem YE(l:List Value)(m:Value):(vU l m).length=l.length+80:=by simp[vU]
theorem zY? (l:List Value)(m:Value)(k:Nat)(h1:l.length<=k)(h2:k<l.length+80):(vU l m)[k]? =some m:=by
 unfold vU;rw[List.getElem?_append_right h1,List.getElem?_replicate,jJ6 (by omega)]
theorem zY(l:List Value)(m:Value)(k:Nat)(h1:l.length<=k)(h2:k<(vU l m).length):(vU l m)[k]=m:=by
 have h3:=zY? l m k h1 (by rw[YE]at h2;exact h2);rw[jJ9 h2]at h3;injection h3
theorem KH{w:World}{g:Nat}{t:TypeId}{l:List Value}{m:Value}(h:Blk w g t (vU l m).toArray):Rd w 1 (some ⟨g,0,none⟩) l.length l:=by
 refine⟨by simp,fun _=>⟨_,_,rfl,fun j u hu=> ?_⟩⟩;have hj:=(jM5 hu).1;rw[Nat.zero_add,h.cell j,jJ7];unfold vU;rw[List.getElem?_append_left hj];exact hu
theorem jCw(l:List Int):∀u∈l.map iv,u.oneCell' =true:=by
 intro u hu;obtain⟨b,_,rfl⟩:=List.mem_map.1 hu;rfl
theorem jHx:(prog.info? 3).map (fun i=>(i.zero,i.size,i.bytes))=some (some (.int .i64 0),1,8):=by kernel_rfl
theorem jHw:(prog.info? 9).map (fun i=>(i.zero,i.size,i.bytes))=some (some (.string ⟨#[]⟩),1,16):=by kernel_rfl
theorem jHZ:(prog.info? 3).map (·.size)=some 1:=by kernel_rfl
theorem jHp(n:Nat)(hn:n<=10000000000000)(W:World):
  (Instr.makeSlice 27 (.int .i64 (n:Int)) (.int .i64 (n:Int))).run prog W=.ok (.slice (some ⟨W.heap.size,0,none⟩) n n) (W.alloc (.cells (List.replicate n (Value.int .i64 0)).toArray 3)):=by
 obtain⟨i,hi,Fm,Fi,Fl⟩:=info_parts jHx;have hr:=run_make (P:=prog) W 27 3 i (Value.int .i64 0) underlying27 hi Fm .i64 .i64 n n (by omega) (by omega) (by rw[Fl];omega) (by omega);simp only[jL1,Fi,Nat.mul_one]at hr;have e:madeCells ((Value.int .i64 0)).cells n=(List.replicate n (Value.int .i64 0)).toArray:=by
  rw[show((Value.int .i64 0)).cells= #[(Value.int .i64 0)]from rfl];apply Array.toList_inj.1;rw[toList_madeCells_one]
 rw[hr,e]
theorem jGa(w:World)(A:OA)(c:Nat)(l:List Int)(hr:Rd w 1 A l.length (l.map iv))(hl:l.length<=1000000000000):
  Calls prog 18 #[.slice A l.length c,(Value.int .i64 (-77))] w fun e w' =>∃g,e=.returned (.slice (some ⟨g,0,none⟩) (l.length+80) (l.length+80))/\w.heap.size<=g/\Blk w' g 3 (vU (l.map iv) (Value.int .i64 (-77))).toArray/\Old w w' :=by
 have eR:(List.replicate (l.length+80) (Value.int .i64 0)).toArray=Array.replicate (l.length+80) (Value.int .i64 0):=List.toArray_replicate ..;have Gs:=jHp (l.length+80) (by omega);have R9:∀W:World,(Instr.makeSlice 27 (.int .i64 ((l.length:Int)+80)) (.int .i64 ((l.length:Int)+80))).run prog W=.ok (.slice (some ⟨W.heap.size,0,none⟩) (l.length+80) (l.length+80)) (W.alloc (.cells (Array.replicate (l.length+80) (Value.int .i64 0)) 3)):=by
  intro W;have h:=Gs W;rw[show((l.length+80:Nat):Int)=(l.length:Int)+80 by simp,eR]at h;exact h
 clear Gs;have e80:IntKind.i64.wrap ((l.length:Int)+80)=(l.length:Int)+80:=jQ3 _ (by omega);have Hl:=G hl;have Ld:(l.map iv).length=l.length:=jK7 ..;have Hr:=G (hr.alloc (.cells (Array.replicate (l.length+80) (Value.int .i64 0)) 3));have Hb:=G (show Blk (w.alloc (.cells (Array.replicate (l.length+80) (Value.int .i64 0)) 3)) w.heap.size 3 (List.replicate (l.length+80) (Value.int .i64 0)).toArray by rw[eR];exact jQ2 w _ _);have Hs:=G (show Blk ((w.alloc (.cells (Array.replicate (l.length+80) (Value.int .i64 0)) 3)).setCells w.heap.size 0 (l.map iv)) w.heap.size 3 (Jp (vU (l.map iv) (Value.int .i64 (-77))) (l.length+80) l.length (Value.int .i64 0)).toArray by
  have h1:Blk (w.alloc (.cells (Array.replicate (l.length+80) (Value.int .i64 0)) 3)) w.heap.size 3 (([]:List Value)++(List.replicate l.length (Value.int .i64 0)++List.replicate 80 (Value.int .i64 0))).toArray:=by
   rw[jN8,List.replicate_append_replicate];exact Hb.out
  have h2:=Blk.setCells h1 (l.map iv) (by simp);have h3:Jp (vU (l.map iv) (Value.int .i64 (-77))) (l.length+80) l.length (Value.int .i64 0)=([]:List Value)++(l.map iv++List.replicate 80 (Value.int .i64 0)):=by
   simp[Jp,vU,Ld]
  rw[h3];exact h2)
 have Ho:=G (show Old w ((w.alloc (.cells (Array.replicate (l.length+80) (Value.int .i64 0)) 3)).setCells w.heap.size 0 (l.map iv))from((jQ0 NoX w).alloc _).trans (Kp.setCells _ _ _ _) (fun b hb e=>by omega));have Hg:=G (fun k (h1:l.length<=k) (h2:k<(vU (l.map iv) (Value.int .i64 (-77))).length)=>zY (l.map iv) (Value.int .i64 (-77)) k (by rw[Ld];exact h1) h2);have Hn:=G (show(vU (l.map iv) (Value.int .i64 (-77))).length=l.length+80 by rw[YE,Ld]);have H1:=G (jCw l);have Pp:=G Ld;clear hr hl Ld;generalize l.map iv=vs at*;go_enter func18,ntmps18;go_wp2_with (first|refine xf 27 3 underlying27 jHZ (.tmp 11) (.tmp 12) (dl:=l.length+80) (dc:=l.length+80) (c:=c) Hb.out List.length_replicate Hr.out Pp.out H1.out (Nat.le_add_right _ _) rfl rfl rfl rfl ?_ |fail);generalize (w.alloc _).setCells _ _ _=W at*;go_loopw [6] (fun i wr=>∃k:Nat,l.length<=k/\k<=l.length+80/\i=.int .i64 k/\Blk wr w.heap.size 3 (Jp (vU vs (Value.int .i64 (-77))) (l.length+80) k (Value.int .i64 0)).toArray/\Old w wr) (fun i _=>l.length+80-(intOf i).toNat)
 case atStart=>exact⟨l.length,jL3 _,Nat.le_add_right _ _,rfl,Hs.out,Ho.out⟩
 case round=>
  obtain⟨k,GF,hU,rfl,hb,ho⟩:=hrel;have HB:=G hb;have HO:=G ho;clear hb ho;by_cases hlt:k<l.length+80
  ·have hc:=HB.out.at_ k (v:=(Value.int .i64 0)) (by rw[jJ7];exact xS _ _ k _ hlt (by rw[Hn.out];omega));have hz:=HB.out.frozen k;have b1:(0:Int)<=(k:Int):=(by omega);have b2:(k:Int)<(l.length:Int)+80:=(by omega);have b3:(k:Int).toNat=k:=(by omega);have b4:(k:Int)<=1000000000100:=by have:=Hl.out;omega
   go_wp2;go_roundw
   case rel=>
    refine⟨k+1,by omega,by omega,by go_num,?_,HO.out.setCell (p:=⟨w.heap.size,k,none⟩) (fun h=>absurd h (Nat.lt_irrefl _)) _⟩;have h1:=HB.out.set_ k (Value.int .i64 (-77));rw[jJ1]at h1;have h2:=xR (vU vs (Value.int .i64 (-77))) (l.length+80) k (Value.int .i64 0) hlt (by rw[Hn.out];exact hlt);rw[Hg.out k GF]at h2;rw[<-h2];exact h1
   case measure=>simp[intOf];omega
  ·obtain rfl:k=l.length+80:=(by omega);go_wp2;go_ret;refine⟨_,rfl,jL3 _,?_,HO.out⟩;have h2:=ZL (vU vs (Value.int .i64 (-77))) (Value.int .i64 0);rw[Hn.out]at h2;rw[<-h2];exact HB.out
theorem jHY:(prog.info? 9).map (·.size)=some 1:=by kernel_rfl
theorem jHo(n:Nat)(hn:n<=10000000000000)(W:World):
  (Instr.makeSlice 42 (.int .i64 (n:Int)) (.int .i64 (n:Int))).run prog W=.ok (.slice (some ⟨W.heap.size,0,none⟩) n n) (W.alloc (.cells (List.replicate n (Value.string ⟨#[]⟩)).toArray 9)):=by
 obtain⟨i,hi,Fm,Fi,Fl⟩:=info_parts jHw;have hr:=run_make (P:=prog) W 42 9 i (Value.string ⟨#[]⟩) underlying42 hi Fm .i64 .i64 n n (by omega) (by omega) (by rw[Fl];omega) (by omega);simp only[jL1,Fi,Nat.mul_one]at hr;have e:madeCells ((Value.string ⟨#[]⟩)).cells n=(List.replicate n (Value.string ⟨#[]⟩)).toArray:=by
  rw[show((Value.string ⟨#[]⟩)).cells= #[(Value.string ⟨#[]⟩)]from rfl];apply Array.toList_inj.1;rw[toList_madeCells_one]
 rw[hr,e]
theorem jHh(w:World)(A:OA)(c:Nat)(l:List BA)(hr:Rd w 1 A l.length (l.map sv))(hl:l.length<=1000000000000):
  Calls prog 19 #[.slice A l.length c,(Value.string ⟨#[109,97,114,107]⟩)] w fun e w' =>∃g,e=.returned (.slice (some ⟨g,0,none⟩) (l.length+80) (l.length+80))/\w.heap.size<=g/\Blk w' g 9 (vU (l.map sv) (Value.string ⟨#[109,97,114,107]⟩)).toArray/\Old w w' :=by
 have eR:(List.replicate (l.length+80) (Value.string ⟨#[]⟩)).toArray=Array.replicate (l.length+80) (Value.string ⟨#[]⟩):=List.toArray_replicate ..;have Gs:=jHo (l.length+80) (by omega);have R9:∀W:World,(Instr.makeSlice 42 (.int .i64 ((l.length:Int)+80)) (.int .i64 ((l.length:Int)+80))).run prog W=.ok (.slice (some ⟨W.heap.size,0,none⟩) (l.length+80) (l.length+80)) (W.alloc (.cells (Array.replicate (l.length+80) (Value.string ⟨#[]⟩)) 9)):=by
  intro W;have h:=Gs W;rw[show((l.length+80:Nat):Int)=(l.length:Int)+80 by simp,eR]at h;exact h
 clear Gs;have e80:IntKind.i64.wrap ((l.length:Int)+80)=(l.length:Int)+80:=jQ3 _ (by omega);have Hl:=G hl;have Ld:(l.map sv).length=l.length:=jK7 ..;have Hr:=G (hr.alloc (.cells (Array.replicate (l.length+80) (Value.string ⟨#[]⟩)) 9));have Hb:=G (show Blk (w.alloc (.cells (Array.replicate (l.length+80) (Value.string ⟨#[]⟩)) 9)) w.heap.size 9 (List.replicate (l.length+80) (Value.string ⟨#[]⟩)).toArray by rw[eR];exact jQ2 w _ _);have Hs:=G (show Blk ((w.alloc (.cells (Array.replicate (l.length+80) (Value.string ⟨#[]⟩)) 9)).setCells w.heap.size 0 (l.map sv)) w.heap.size 9 (Jp (vU (l.map sv) (Value.string ⟨#[109,97,114,107]⟩)) (l.length+80) l.length (Value.string ⟨#[]⟩)).toArray by
  have h1:Blk (w.alloc (.cells (Array.replicate (l.length+80) (Value.string ⟨#[]⟩)) 9)) w.heap.size 9 (([]:List Value)++(List.replicate l.length (Value.string ⟨#[]⟩)++List.replicate 80 (Value.string ⟨#[]⟩))).toArray:=by
   rw[jN8,List.replicate_append_replicate];exact Hb.out
  have h2:=Blk.setCells h1 (l.map sv) (by simp);have h3:Jp (vU (l.map sv) (Value.string ⟨#[109,97,114,107]⟩)) (l.length+80) l.length (Value.string ⟨#[]⟩)=([]:List Value)++(l.map sv++List.replicate 80 (Value.string ⟨#[]⟩)):=by
   simp[Jp,vU,Ld]
  rw[h3];exact h2)
 have Ho:=G (show Old w ((w.alloc (.cells (Array.replicate (l.length+80) (Value.string ⟨#[]⟩)) 9)).setCells w.heap.size 0 (l.map sv))from((jQ0 NoX w).alloc _).trans (Kp.setCells _ _ _ _) (fun b hb e=>by omega));have Hg:=G (fun k (h1:l.length<=k) (h2:k<(vU (l.map sv) (Value.string ⟨#[109,97,114,107]⟩)).length)=>zY (l.map sv) (Value.string ⟨#[109,97,114,107]⟩) k (by rw[Ld];exact h1) h2);have Hn:=G (show(vU (l.map sv) (Value.string ⟨#[109,97,114,107]⟩)).length=l.length+80 by rw[YE,Ld]);have H1:=G (jAl l);have Pp:=G Ld;clear hr hl Ld;generalize l.map sv=vs at*;go_enter func19,ntmps19;go_wp2_with (first|refine xf 42 9 underlying42 jHY (.tmp 11) (.tmp 12) (dl:=l.length+80) (dc:=l.length+80) (c:=c) Hb.out List.length_replicate Hr.out Pp.out H1.out (Nat.le_add_right _ _) rfl rfl rfl rfl ?_ |fail);generalize (w.alloc _).setCells _ _ _=W at*;go_loopw [6] (fun i wr=>∃k:Nat,l.length<=k/\k<=l.length+80/\i=.int .i64 k/\Blk wr w.heap.size 9 (Jp (vU vs (Value.string ⟨#[109,97,114,107]⟩)) (l.length+80) k (Value.string ⟨#[]⟩)).toArray/\Old w wr) (fun i _=>l.length+80-(intOf i).toNat)
 case atStart=>exact⟨l.length,jL3 _,Nat.le_add_right _ _,rfl,Hs.out,Ho.out⟩
 case round=>
  obtain⟨k,GF,hU,rfl,hb,ho⟩:=hrel;have HB:=G hb;have HO:=G ho;clear hb ho;by_cases hlt:k<l.length+80
  ·have hc:=HB.out.at_ k (v:=(Value.string ⟨#[]⟩)) (by rw[jJ7];exact xS _ _ k _ hlt (by rw[Hn.out];omega));have hz:=HB.out.frozen k;have b1:(0:Int)<=(k:Int):=(by omega);have b2:(k:Int)<(l.length:Int)+80:=(by omega);have b3:(k:Int).toNat=k:=(by omega);have b4:(k:Int)<=1000000000100:=by have:=Hl.out;omega
   go_wp2;go_roundw
   case rel=>
    refine⟨k+1,by omega,by omega,by go_num,?_,HO.out.setCell (p:=⟨w.heap.size,k,none⟩) (fun h=>absurd h (Nat.lt_irrefl _)) _⟩;have h1:=HB.out.set_ k (Value.string ⟨#[109,97,114,107]⟩);rw[jJ1]at h1;have h2:=xR (vU vs (Value.string ⟨#[109,97,114,107]⟩)) (l.length+80) k (Value.string ⟨#[]⟩) hlt (by rw[Hn.out];exact hlt);rw[Hg.out k GF]at h2;rw[<-h2];exact h1
   case measure=>simp[intOf];omega
  ·obtain rfl:k=l.length+80:=(by omega);go_wp2;go_ret;refine⟨_,rfl,jL3 _,?_,HO.out⟩;have h2:=ZL (vU vs (Value.string ⟨#[109,97,114,107]⟩)) (Value.string ⟨#[]⟩);rw[Hn.out]at h2;rw[<-h2];exact HB.out
theorem jBe:prog.underlying 27=some (.slice (prog.elem 27)):=by kernel_rfl
theorem qT(w:World):(sizeOf (prog.elem 27)).run prog w=.ok 1 w:=by kernel_rfl
theorem jEd(w:World)(A B:OA)(c d:Nat)(l:List Int)(hx:Rd w 1 A l.length (l.map iv))(hy:Rd w 1 B l.length (l.map iv))(hl:l.length<=9223372036854775807):
  Calls prog 74 #[.slice A l.length c,.slice B l.length d] w fun e w' =>e=.returned (.bool true)/\Old w w' :=by
 have h1:((l.length:Int) !=(l.length:Int))=false:=bne_eq_false_iff_eq.2 rfl;go_enter func74,ntmps74;go_wp2;go_loopw [5] (fun i wr=>∃k:Nat,k<=l.length/\i=.int .i64 k/\Old w wr) (fun i _=>l.length-(intOf i).toNat)
 case atStart=>exact⟨0,by omega,rfl,jQ0 _ _⟩
 case round=>
  obtain⟨k,hk,rfl,Hj⟩:=hrel;by_cases hlt:k<l.length
  ·obtain⟨b1,o1,u1,rfl,L3,G6⟩:=(hx.old Hj).at_ hlt;obtain⟨b2,o2,u2,rfl,G9,FE⟩:=(hy.old Hj).at_ hlt;rw[jM1,jJ9 hlt]at L3 G9;simp only[Option.map_some,Option.some.injEq,iv]at L3 G9;subst L3 G9;have b5:(k:Int)<=9223372036854775806:=(by omega);have b6:(0:Int)<=(k:Int):=(by omega);have b7:(k:Int)<(l.length:Int):=(by omega);have b8:(k:Int).toNat=k:=(by omega);have Ho:=G Hj;clear Hj;generalize l[k]=q at*;have hq:((q:Int)!=q)=false:=(by simp);go_wp2;go_quiet (fail);go_wp2;go_roundw
   case rel=>exact⟨k+1,by omega,by go_num,Ho.out.drewN _⟩
   case measure=>simp[intOf];omega
  ·obtain rfl:k=l.length:=(by omega);have Ho:=G Hj;clear Hj;go_wp2;go_ret;exact⟨rfl,Ho.out⟩
theorem jBK(w:World)(g:Nat)(B:OA)(d:Nat)(l:List Int)(hb:Blk w g 3 (vU (l.map iv) (Value.int .i64 (-77))).toArray)(hr:Rd w 1 B l.length (l.map iv))(hl:l.length<=1000000000000):
  Calls prog 24 #[.slice (some ⟨g,0,none⟩) (l.length+80) (l.length+80),.slice B l.length d,(Value.int .i64 (-77))] w fun e w' =>e=.returned (.bool true)/\Old w w' :=by
 have FI:=KH hb;rw[jK7]at FI;have HS:=G (jEd w (some ⟨g,0,none⟩) B (l.length+80) d l FI hr (by omega));have Mt:=fun W=>yD (P:=prog) jBe qT (some ⟨g,0,none⟩) (l.length+80) (l.length+80) l.length .i64 (l.length:Int) rfl (by omega) W;have e80:IntKind.i64.wrap ((l.length:Int)+80)=(l.length:Int)+80:=jQ3 _ (by omega);have Hl:=G hl;have Hb:=G hb;have Pp:=G (show(l.map iv).length=l.length from jK7 ..);clear hb hr hl FI;go_enter func24,ntmps24;go_wp2_with fail;refine HS.out.mono ?_;rintro e w1 ⟨rfl,FN⟩;have NZ:=G FN;clear FN HS Mt;go_wp2_with fail;go_loopw [7] (fun i wr=>∃k:Nat,l.length<=k/\k<=l.length+80/\i=.int .i64 k/\wr=w1) (fun i _=>l.length+80-(intOf i).toNat)
 case atStart=>exact⟨l.length,jL3 _,Nat.le_add_right _ _,rfl,rfl⟩
 case round=>
  obtain⟨k,GF,hU,rfl,rfl⟩:=hrel;by_cases hlt:k<l.length+80
  ·have hc:wr.cell? ⟨g,k,none⟩=some (Value.int .i64 (-77)):=by
    rw[(Hb.out.old NZ.out).cell,jJ7,zY? _ _ k (by rw[Pp.out];exact GF) (by rw[Pp.out];exact hlt)]
   have b1:(0:Int)<=(k:Int):=(by omega);have b2:(k:Int)<(l.length:Int)+80:=(by omega);have b3:(k:Int).toNat=k:=(by omega);have b4:(k:Int)<=1000000000100:=by have:=Hl.out;omega
   go_wp2;go_roundw
   case rel=>exact⟨k+1,by omega,by omega,by go_num,by trivial⟩
   case measure=>simp[intOf];omega
  ·obtain rfl:k=l.length+80:=(by omega);go_wp2;go_ret;exact⟨rfl,NZ.out⟩
theorem jFk:prog.underlying 42=some (.slice (prog.elem 42)):=by kernel_rfl
theorem Uw(w:World):(sizeOf (prog.elem 42)).run prog w=.ok 1 w:=by kernel_rfl
theorem jGS(w:World)(A B:OA)(c d:Nat)(l:List BA)(hx:Rd w 1 A l.length (l.map sv))(hy:Rd w 1 B l.length (l.map sv))(hl:l.length<=9223372036854775807):
  Calls prog 75 #[.slice A l.length c,.slice B l.length d] w fun e w' =>e=.returned (.bool true)/\Old w w' :=by
 have h1:((l.length:Int) !=(l.length:Int))=false:=bne_eq_false_iff_eq.2 rfl;go_enter func75,ntmps75;go_wp2;go_loopw [5] (fun i wr=>∃k:Nat,k<=l.length/\i=.int .i64 k/\Old w wr) (fun i _=>l.length-(intOf i).toNat)
 case atStart=>exact⟨0,by omega,rfl,jQ0 _ _⟩
 case round=>
  obtain⟨k,hk,rfl,Hj⟩:=hrel;by_cases hlt:k<l.length
  ·obtain⟨b1,o1,u1,rfl,L3,G6⟩:=(hx.old Hj).at_ hlt;obtain⟨b2,o2,u2,rfl,G9,FE⟩:=(hy.old Hj).at_ hlt;rw[jM1,jJ9 hlt]at L3 G9;simp only[Option.map_some,Option.some.injEq,sv]at L3 G9;subst L3 G9;have b5:(k:Int)<=9223372036854775806:=(by omega);have b6:(0:Int)<=(k:Int):=(by omega);have b7:(k:Int)<(l.length:Int):=(by omega);have b8:(k:Int).toNat=k:=(by omega);have Ho:=G Hj;clear Hj;generalize l[k]=q at*;have hq:(q.toList==q.toList)=true:=(by simp);go_wp2;go_quiet (fail);go_wp2;go_roundw
   case rel=>exact⟨k+1,by omega,by go_num,Ho.out.drewN _⟩
   case measure=>simp[intOf];omega
  ·obtain rfl:k=l.length:=(by omega);have Ho:=G Hj;clear Hj;go_wp2;go_ret;exact⟨rfl,Ho.out⟩
theorem jFW(w:World)(g:Nat)(B:OA)(d:Nat)(l:List BA)(hb:Blk w g 9 (vU (l.map sv) (Value.string ⟨#[109,97,114,107]⟩)).toArray)(hr:Rd w 1 B l.length (l.map sv))(hl:l.length<=1000000000000):
  Calls prog 25 #[.slice (some ⟨g,0,none⟩) (l.length+80) (l.length+80),.slice B l.length d,(Value.string ⟨#[109,97,114,107]⟩)] w fun e w' =>e=.returned (.bool true)/\Old w w' :=by
 have FI:=KH hb;rw[jK7]at FI;have HS:=G (jGS w (some ⟨g,0,none⟩) B (l.length+80) d l FI hr (by omega));have Mt:=fun W=>yD (P:=prog) jFk Uw (some ⟨g,0,none⟩) (l.length+80) (l.length+80) l.length .i64 (l.length:Int) rfl (by omega) W;have e80:IntKind.i64.wrap ((l.length:Int)+80)=(l.length:Int)+80:=jQ3 _ (by omega);have Hl:=G hl;have Hb:=G hb;have Pp:=G (show(l.map sv).length=l.length from jK7 ..);clear hb hr hl FI;go_enter func25,ntmps25;go_wp2_with fail;refine HS.out.mono ?_;rintro e w1 ⟨rfl,FN⟩;have NZ:=G FN;clear FN HS Mt;go_wp2_with fail;go_loopw [7] (fun i wr=>∃k:Nat,l.length<=k/\k<=l.length+80/\i=.int .i64 k/\wr=w1) (fun i _=>l.length+80-(intOf i).toNat)
 case atStart=>exact⟨l.length,jL3 _,Nat.le_add_right _ _,rfl,rfl⟩
 case round=>
  obtain⟨k,GF,hU,rfl,rfl⟩:=hrel;by_cases hlt:k<l.length+80
  ·have hc:wr.cell? ⟨g,k,none⟩=some (Value.string ⟨#[109,97,114,107]⟩):=by
    rw[(Hb.out.old NZ.out).cell,jJ7,zY? _ _ k (by rw[Pp.out];exact GF) (by rw[Pp.out];exact hlt)]
   have b1:(0:Int)<=(k:Int):=(by omega);have b2:(k:Int)<(l.length:Int)+80:=(by omega);have b3:(k:Int).toNat=k:=(by omega);have b4:(k:Int)<=1000000000100:=by have:=Hl.out;omega
   go_wp2;go_roundw
   case rel=>exact⟨k+1,by omega,by omega,by go_num,by trivial⟩
   case measure=>simp[intOf];omega
  ·obtain rfl:k=l.length+80:=(by omega);go_wp2;go_ret;exact⟨rfl,NZ.out⟩
theorem jHa(w:World)(A B:OA)(c d:Nat)(l:LB)(hx:Rd w 1 A l.length (l.map bv))(hy:Rd w 1 B l.length (l.map bv))(hl:l.length<=9223372036854775807):
  Calls prog 61 #[.slice A l.length c,.slice B l.length d] w fun e w' =>e=.returned (.bool true)/\Old w w' :=by
 have h1:((l.length:Int) !=(l.length:Int))=false:=bne_eq_false_iff_eq.2 rfl;go_enter func61,ntmps61;go_wp2;go_loopw [5] (fun i wr=>∃k:Nat,k<=l.length/\i=.int .i64 k/\Old w wr) (fun i _=>l.length-(intOf i).toNat)
 case atStart=>exact⟨0,by omega,rfl,jQ0 _ _⟩
 case round=>
  obtain⟨k,hk,rfl,Hj⟩:=hrel;by_cases hlt:k<l.length
  ·obtain⟨b1,o1,u1,rfl,L3,G6⟩:=(hx.old Hj).at_ hlt;obtain⟨b2,o2,u2,rfl,G9,FE⟩:=(hy.old Hj).at_ hlt;rw[jM1,jJ9 hlt]at L3 G9;simp only[Option.map_some,Option.some.injEq,bv]at L3 G9;subst L3 G9;have b5:(k:Int)<=9223372036854775806:=(by omega);have b6:(0:Int)<=(k:Int):=(by omega);have b7:(k:Int)<(l.length:Int):=(by omega);have b8:(k:Int).toNat=k:=(by omega);have Ho:=G Hj;clear Hj;generalize l[k]=q at*;have hq:((q.toNat:Int)!=(q.toNat:Int))=false:=(by simp);go_wp2;go_quiet (fail);go_wp2;go_roundw
   case rel=>exact⟨k+1,by omega,by go_num,Ho.out.drewN _⟩
   case measure=>simp[intOf];omega
  ·obtain rfl:k=l.length:=(by omega);have Ho:=G Hj;clear Hj;go_wp2;go_ret;exact⟨rfl,Ho.out⟩
end Go.Proofs.YtmmjcbbogokmfaaGreatDoor

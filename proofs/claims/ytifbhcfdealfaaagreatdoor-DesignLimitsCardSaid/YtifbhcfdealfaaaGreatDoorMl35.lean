import Derived.Test.YtifbhcfdealfaaaGreatDoorMl34
import Derived.Laws.IdiomCopy
import Derived.Laws.MakeOwn
import Derived.Laws.OwnMore
set_option maxRecDepth 100000
set_option maxHeartbeats 25600000
namespace Go.Proofs.YtifbhcfdealfaaaGreatDoor
open Go.Proofs.Tryz
open Go.RowKit
theorem UU(sl el:TypeId)(hu:prog.underlying sl=some (.slice el))(NO:(prog.info? el).map (·.size)=some 1){w:World}{ops:Array Oper}{rest:List Oper}{o:Oper}{a:Act}{Q:Exit->Act->World->Prop}(d s:Operand){g dl dc:Nat}{cs:List Value}(hb:Blk w g el cs.toArray)(ML:cs.length=dl)
  {A:OA} {n c:Nat} {l:List Value} (hr:Rd w 1 A n l) (hn:l.length=n) (h1:∀u∈l,u.oneCell' =true) (Gx:n<=dl)
  (N7:o.guard=none) (ho:o.op=.call {callee:=.builtin .copy,args:= #[d,s],argTypes:= #[sl,sl]}) (hd:a.eval d=.slice (some ⟨g,0,none⟩) dl dc) (hs:a.eval s=.slice A n c)
  (hK:wpList prog ops Q rest (a.put o.dst (.int .i64 n)) (w.setCells g 0 l)):wpList prog ops Q (o::rest) a w:=by
 refine wpList_plain N7 fun K AZ=> ?_;have Ge:(Builtin.copy_ #[sl,sl] o.type #[.slice (some ⟨g,0,none⟩) dl dc,.slice A n c]).run prog w=.ok (.int .i64 n) (w.setCells g 0 l):=by
  cases A with
  |none=>
   have h0:n=0:=by
    rcases Nat.eq_zero_or_pos n with h|h
    ·exact h
    ·obtain⟨b,o,h',_⟩:=hr.2 h;cases h'
   subst h0;have:l=[]:=List.eq_nil_of_length_eq_zero hn;subst this;exact run_copy_none (P:=prog) w sl sl o.type el _ none dl dc 0 c hu NO (by simp)
  |some ad=>
   have:=run_copy_cells (P:=prog) w sl sl o.type el g 0 dl dc ad n c l hu NO (by rw[hn];exact(Nat.min_eq_left Gx).symm) (fun j v hv=>by
     have hj:j<n:=by rw[<-hn];exact(jM5 hv).1
     obtain⟨b,o,h',hc⟩:=hr.2 (by omega);injection h' with h';subst h';rw[Addr.add_lit];exact hc j v hv)
    (fun j hj=>by
     rw[Nat.zero_add,hb.cell,jJ7,jJ9 (by omega)];rfl)
    (fun j hj=>hb.frozen _) h1
   rw[hn]at this;exact this
 unfold Oper.wp execOp;simp only[ho,resolve,invoke,builtin,Sem.run_bind,Sem.run_pure,Result.andThen_ok,List.map_toArray,List.map_cons,List.map_nil,hd,hs,Ge];exact AZ _ _ hK
def Kx(xs:List Value)(n k:Nat)(v:Value):List Value:=xs.take k++List.replicate (n-k) v
theorem uj(xs:List Value)(v:Value):Kx xs xs.length xs.length v=xs:=by simp[Kx]
theorem UG(xs:List Value)(n k:Nat)(v:Value)(hk:k<n)(hx:k<xs.length):(Kx xs n k v).set k xs[k]=Kx xs n (k+1) v:=by
 unfold Kx;have hl:(xs.take k).length=k:=by rw[jK9];omega
 rw[List.set_append_right _ _ (by omega),hl,Nat.sub_self,jK2 hx];obtain⟨m,hm⟩:∃m,n-k=m+1:=⟨n-k-1,by omega⟩;rw[hm,List.replicate_succ,jJ2,show n-(k+1)=m by omega,jK1];rfl
theorem UH(xs:List Value)(n k:Nat)(v:Value)(hk:k<n)(hx:k<=xs.length):(Kx xs n k v)[k]? =some v:=by
 unfold Kx;have hl:(xs.take k).length=k:=by rw[jK9];omega
 rw[List.getElem?_append_right (by omega),hl,Nat.sub_self];obtain⟨m,hm⟩:∃m,n-k=m+1:=⟨n-k-1,by omega⟩;rw[hm,List.replicate_succ];rfl
def yo(l:List Value)(m:Value):List Value:=l++List.replicate 80 m
theorem Yu(l:List Value)(m:Value):(yo l m).length=l.length+80:=by simp[yo]
theorem JG? (l:List Value)(m:Value)(k:Nat)(h1:l.length<=k)(h2:k<l.length+80):(yo l m)[k]? =some m:=by
 unfold yo;rw[List.getElem?_append_right h1,List.getElem?_replicate,jJ6 (by omega)]
theorem JG(l:List Value)(m:Value)(k:Nat)(h1:l.length<=k)(h2:k<(yo l m).length):(yo l m)[k]=m:=by
 have h3:=JG? l m k h1 (by rw[Yu]at h2;exact h2);rw[jJ9 h2]at h3;injection h3
theorem Rd.of_blkV{w:World}{g:Nat}{t:TypeId}{xs:List Value}(h:Blk w g t xs.toArray):Rd w 1 (some ⟨g,0,none⟩) xs.length xs:=by
 refine⟨by simp,fun _=>⟨_,_,rfl,fun j u hu=> ?_⟩⟩;rw[Nat.zero_add,h.cell j];simpa using hu
theorem jAL{w:World}{g:Nat}{t:TypeId}{l:List Value}{m:Value}(h:Blk w g t (yo l m).toArray):Rd w 1 (some ⟨g,0,none⟩) l.length l:=by
 refine⟨by simp,fun _=>⟨_,_,rfl,fun j u hu=> ?_⟩⟩;have hj:=(jM5 hu).1;rw[Nat.zero_add,h.cell j,jJ7];unfold yo;rw[List.getElem?_append_left hj];exact hu
theorem jFL(l:List Int):∀u∈l.map iv,u.oneCell' =true:=by
 intro u hu;obtain⟨b,_,rfl⟩:=List.mem_map.1 hu;rfl
theorem jG0:(prog.info? 3).map (fun i=>(i.zero,i.size,i.bytes))=some (some (.int .i64 0),1,8):=by kernel_rfl
theorem jF3:(prog.info? 9).map (fun i=>(i.zero,i.size,i.bytes))=some (some (.string ⟨#[]⟩),1,16):=by kernel_rfl
theorem jG1:(prog.info? 5).map (fun i=>(i.zero,i.size,i.bytes))=some (some (.int .u8 0),1,1):=by kernel_rfl
theorem jFY:(prog.info? 9).map (·.size)=some 1:=by kernel_rfl
theorem jFs(n:Nat)(hn:n<=10000000000000)(W:World):
  (Instr.makeSlice 45 (.int .i64 (n:Int)) (.int .i64 (n:Int))).run prog W=.ok (.slice (some ⟨W.heap.size,0,none⟩) n n) (W.alloc (.cells (List.replicate n (Value.string ⟨#[]⟩)).toArray 9)):=by
 obtain⟨i,hi,FJ,Fv,FU⟩:=info_parts jF3;have hr:=run_make (P:=prog) W 45 9 i (Value.string ⟨#[]⟩) underlying45 hi FJ .i64 .i64 n n (by omega) (by omega) (by rw[FU];omega) (by omega);simp only[jL1,Fv,Nat.mul_one]at hr;have e:madeCells ((Value.string ⟨#[]⟩)).cells n=(List.replicate n (Value.string ⟨#[]⟩)).toArray:=by
  rw[show((Value.string ⟨#[]⟩)).cells= #[(Value.string ⟨#[]⟩)]from rfl];apply Array.toList_inj.1;rw[toList_madeCells_one]
 rw[hr,e]
theorem jGp(w:World)(A:OA)(c:Nat)(l:List BA)(hr:Rd w 1 A l.length (l.map sv))(hl:l.length<=1000000000000):
  Calls prog 92 #[.slice A l.length c,(Value.string ⟨#[109,97,114,107]⟩)] w fun e w' =>∃g,e=.returned (.slice (some ⟨g,0,none⟩) (l.length+80) (l.length+80))/\w.heap.size<=g/\Blk w' g 9 (yo (l.map sv) (Value.string ⟨#[109,97,114,107]⟩)).toArray/\Old w w' :=by
 have eR:(List.replicate (l.length+80) (Value.string ⟨#[]⟩)).toArray=Array.replicate (l.length+80) (Value.string ⟨#[]⟩):=List.toArray_replicate ..;have Rq:=jFs (l.length+80) (by omega);have ME:∀W:World,(Instr.makeSlice 45 (.int .i64 ((l.length:Int)+80)) (.int .i64 ((l.length:Int)+80))).run prog W=.ok (.slice (some ⟨W.heap.size,0,none⟩) (l.length+80) (l.length+80)) (W.alloc (.cells (Array.replicate (l.length+80) (Value.string ⟨#[]⟩)) 9)):=by
  intro W;have h:=Rq W;rw[show((l.length+80:Nat):Int)=(l.length:Int)+80 by simp,eR]at h;exact h
 clear Rq;have e80:IntKind.i64.wrap ((l.length:Int)+80)=(l.length:Int)+80:=jQ3 _ (by omega);have Hl:=G hl;have Rr:(l.map sv).length=l.length:=jK7 ..;have Hr:=G (hr.alloc (.cells (Array.replicate (l.length+80) (Value.string ⟨#[]⟩)) 9));have Hb:=G (show Blk (w.alloc (.cells (Array.replicate (l.length+80) (Value.string ⟨#[]⟩)) 9)) w.heap.size 9 (List.replicate (l.length+80) (Value.string ⟨#[]⟩)).toArray by rw[eR];exact jQ2 w _ _);have Hs:=G (show Blk ((w.alloc (.cells (Array.replicate (l.length+80) (Value.string ⟨#[]⟩)) 9)).setCells w.heap.size 0 (l.map sv)) w.heap.size 9 (Kx (yo (l.map sv) (Value.string ⟨#[109,97,114,107]⟩)) (l.length+80) l.length (Value.string ⟨#[]⟩)).toArray by
  have h1:Blk (w.alloc (.cells (Array.replicate (l.length+80) (Value.string ⟨#[]⟩)) 9)) w.heap.size 9 (([]:List Value)++(List.replicate l.length (Value.string ⟨#[]⟩)++List.replicate 80 (Value.string ⟨#[]⟩))).toArray:=by
   rw[jN8,List.replicate_append_replicate];exact Hb.out
  have h2:=Blk.setCells h1 (l.map sv) (by simp);have h3:Kx (yo (l.map sv) (Value.string ⟨#[109,97,114,107]⟩)) (l.length+80) l.length (Value.string ⟨#[]⟩)=([]:List Value)++(l.map sv++List.replicate 80 (Value.string ⟨#[]⟩)):=by
   simp[Kx,yo,Rr]
  rw[h3];exact h2)
 have Ho:=G (show Old w ((w.alloc (.cells (Array.replicate (l.length+80) (Value.string ⟨#[]⟩)) 9)).setCells w.heap.size 0 (l.map sv))from((jQ0 NoX w).alloc _).trans (Kp.setCells _ _ _ _) (fun b hb e=>by omega));have Hg:=G (fun k (h1:l.length<=k) (h2:k<(yo (l.map sv) (Value.string ⟨#[109,97,114,107]⟩)).length)=>JG (l.map sv) (Value.string ⟨#[109,97,114,107]⟩) k (by rw[Rr];exact h1) h2);have Hn:=G (show(yo (l.map sv) (Value.string ⟨#[109,97,114,107]⟩)).length=l.length+80 by rw[Yu,Rr]);have H1:=G (XC l);have Te:=G Rr;clear hr hl Rr;generalize l.map sv=vs at*;go_enter func92,ntmps92;go_wp2_with (first|refine UU 45 9 underlying45 jFY (.tmp 11) (.tmp 12) (dl:=l.length+80) (dc:=l.length+80) (c:=c) Hb.out List.length_replicate Hr.out Te.out H1.out (Nat.le_add_right _ _) rfl rfl rfl rfl ?_ |fail);generalize (w.alloc _).setCells _ _ _=W at*;go_loopw [6] (fun i wr=>∃k:Nat,l.length<=k/\k<=l.length+80/\i=.int .i64 k/\Blk wr w.heap.size 9 (Kx (yo vs (Value.string ⟨#[109,97,114,107]⟩)) (l.length+80) k (Value.string ⟨#[]⟩)).toArray/\Old w wr) (fun i _=>l.length+80-(intOf i).toNat)
 case atStart=>exact⟨l.length,jL3 _,Nat.le_add_right _ _,rfl,Hs.out,Ho.out⟩
 case round=>
  obtain⟨k,Wb,Fu,rfl,hb,ho⟩:=hrel;have HB:=G hb;have HO:=G ho;clear hb ho;by_cases hlt:k<l.length+80
  ·have hc:=HB.out.at_ k (v:=(Value.string ⟨#[]⟩)) (by rw[jJ7];exact UH _ _ k _ hlt (by rw[Hn.out];omega));have hz:=HB.out.frozen k;have b1:(0:Int)<=(k:Int):=(by omega);have b2:(k:Int)<(l.length:Int)+80:=(by omega);have b3:(k:Int).toNat=k:=(by omega);have b4:(k:Int)<=1000000000100:=by have:=Hl.out;omega
   go_wp2;go_roundw
   case rel=>
    refine⟨k+1,by omega,by omega,by go_num,?_,HO.out.setCell (p:=⟨w.heap.size,k,none⟩) (fun h=>absurd h (Nat.lt_irrefl _)) _⟩;have h1:=HB.out.set_ k (Value.string ⟨#[109,97,114,107]⟩);rw[jJ1]at h1;have h2:=UG (yo vs (Value.string ⟨#[109,97,114,107]⟩)) (l.length+80) k (Value.string ⟨#[]⟩) hlt (by rw[Hn.out];exact hlt);rw[Hg.out k Wb]at h2;rw[<-h2];exact h1
   case measure=>simp[intOf];omega
  ·obtain rfl:k=l.length+80:=(by omega);go_wp2;go_ret;refine⟨_,rfl,jL3 _,?_,HO.out⟩;have h2:=uj (yo vs (Value.string ⟨#[109,97,114,107]⟩)) (Value.string ⟨#[]⟩);rw[Hn.out]at h2;rw[<-h2];exact HB.out
theorem jG6:prog.underlying 37=some (.slice (prog.elem 37)):=by kernel_rfl
theorem jGV(w:World):(sizeOf (prog.elem 37)).run prog w=.ok 1 w:=by kernel_rfl
theorem jEJ(w:World)(A B:OA)(c d:Nat)(l:List Int)(hx:Rd w 1 A l.length (l.map iv))(hy:Rd w 1 B l.length (l.map iv))(hl:l.length<=9223372036854775807):
  Calls prog 60 #[.slice A l.length c,.slice B l.length d] w fun e w' =>e=.returned (.bool true)/\Old w w' :=by
 have h1:((l.length:Int) !=(l.length:Int))=false:=bne_eq_false_iff_eq.2 rfl;go_enter func60,ntmps60;go_wp2;go_loopw [5] (fun i wr=>∃k:Nat,k<=l.length/\i=.int .i64 k/\Old w wr) (fun i _=>l.length-(intOf i).toNat)
 case atStart=>exact⟨0,by omega,rfl,jQ0 _ _⟩
 case round=>
  obtain⟨k,hk,rfl,F2⟩:=hrel;by_cases hlt:k<l.length
  ·obtain⟨b1,o1,u1,rfl,Nc,FI⟩:=(hx.old F2).at_ hlt;obtain⟨b2,o2,u2,rfl,NA,Fm⟩:=(hy.old F2).at_ hlt;rw[jM1,jJ9 hlt]at Nc NA;simp only[Option.map_some,Option.some.injEq,iv]at Nc NA;subst Nc NA;have b5:(k:Int)<=9223372036854775806:=(by omega);have b6:(0:Int)<=(k:Int):=(by omega);have b7:(k:Int)<(l.length:Int):=(by omega);have b8:(k:Int).toNat=k:=(by omega);have Ho:=G F2;clear F2;generalize l[k]=q at*;have hq:((q:Int)!=q)=false:=(by simp);go_wp2;go_quiet (fail);go_wp2;go_roundw
   case rel=>exact⟨k+1,by omega,by go_num,Ho.out.drewN _⟩
   case measure=>simp[intOf];omega
  ·obtain rfl:k=l.length:=(by omega);have Ho:=G F2;clear F2;go_wp2;go_ret;exact⟨rfl,Ho.out⟩
theorem jGG:prog.underlying 45=some (.slice (prog.elem 45)):=by kernel_rfl
theorem jEF(w:World):(sizeOf (prog.elem 45)).run prog w=.ok 1 w:=by kernel_rfl
theorem jEI(w:World)(A B:OA)(c d:Nat)(l:List BA)(hx:Rd w 1 A l.length (l.map sv))(hy:Rd w 1 B l.length (l.map sv))(hl:l.length<=9223372036854775807):
  Calls prog 45 #[.slice A l.length c,.slice B l.length d] w fun e w' =>e=.returned (.bool true)/\Old w w' :=by
 have h1:((l.length:Int) !=(l.length:Int))=false:=bne_eq_false_iff_eq.2 rfl;go_enter func45,ntmps45;go_wp2;go_loopw [5] (fun i wr=>∃k:Nat,k<=l.length/\i=.int .i64 k/\Old w wr) (fun i _=>l.length-(intOf i).toNat)
 case atStart=>exact⟨0,by omega,rfl,jQ0 _ _⟩
 case round=>
  obtain⟨k,hk,rfl,F2⟩:=hrel;by_cases hlt:k<l.length
  ·obtain⟨b1,o1,u1,rfl,Nc,FI⟩:=(hx.old F2).at_ hlt;obtain⟨b2,o2,u2,rfl,NA,Fm⟩:=(hy.old F2).at_ hlt;rw[jM1,jJ9 hlt]at Nc NA;simp only[Option.map_some,Option.some.injEq,sv]at Nc NA;subst Nc NA;have b5:(k:Int)<=9223372036854775806:=(by omega);have b6:(0:Int)<=(k:Int):=(by omega);have b7:(k:Int)<(l.length:Int):=(by omega);have b8:(k:Int).toNat=k:=(by omega);have Ho:=G F2;clear F2;generalize l[k]=q at*;have hq:(q.toList==q.toList)=true:=(by simp);go_wp2;go_quiet (fail);go_wp2;go_roundw
   case rel=>exact⟨k+1,by omega,by go_num,Ho.out.drewN _⟩
   case measure=>simp[intOf];omega
  ·obtain rfl:k=l.length:=(by omega);have Ho:=G F2;clear F2;go_wp2;go_ret;exact⟨rfl,Ho.out⟩
theorem jG7:prog.underlying 22=some (.slice (prog.elem 22)):=by kernel_rfl
theorem jGW(w:World):(sizeOf (prog.elem 22)).run prog w=.ok 1 w:=by kernel_rfl
theorem jGo(w:World)(A B:OA)(c d:Nat)(l:LB)(hx:Rd w 1 A l.length (l.map bv))(hy:Rd w 1 B l.length (l.map bv))(hl:l.length<=9223372036854775807):
  Calls prog 51 #[.slice A l.length c,.slice B l.length d] w fun e w' =>e=.returned (.bool true)/\Old w w' :=by
 have h1:((l.length:Int) !=(l.length:Int))=false:=bne_eq_false_iff_eq.2 rfl;go_enter func51,ntmps51;go_wp2;go_loopw [5] (fun i wr=>∃k:Nat,k<=l.length/\i=.int .i64 k/\Old w wr) (fun i _=>l.length-(intOf i).toNat)
 case atStart=>exact⟨0,by omega,rfl,jQ0 _ _⟩
 case round=>
  obtain⟨k,hk,rfl,F2⟩:=hrel;by_cases hlt:k<l.length
  ·obtain⟨b1,o1,u1,rfl,Nc,FI⟩:=(hx.old F2).at_ hlt;obtain⟨b2,o2,u2,rfl,NA,Fm⟩:=(hy.old F2).at_ hlt;rw[jM1,jJ9 hlt]at Nc NA;simp only[Option.map_some,Option.some.injEq,bv]at Nc NA;subst Nc NA;have b5:(k:Int)<=9223372036854775806:=(by omega);have b6:(0:Int)<=(k:Int):=(by omega);have b7:(k:Int)<(l.length:Int):=(by omega);have b8:(k:Int).toNat=k:=(by omega);have Ho:=G F2;clear F2;generalize l[k]=q at*;have hq:((q.toNat:Int)!=(q.toNat:Int))=false:=(by simp);go_wp2;go_quiet (fail);go_wp2;go_roundw
   case rel=>exact⟨k+1,by omega,by go_num,Ho.out.drewN _⟩
   case measure=>simp[intOf];omega
  ·obtain rfl:k=l.length:=(by omega);have Ho:=G F2;clear F2;go_wp2;go_ret;exact⟨rfl,Ho.out⟩
theorem jF2(w:World)(g:Nat)(B:OA)(d:Nat)(l:List BA)(hb:Blk w g 9 (yo (l.map sv) (Value.string ⟨#[109,97,114,107]⟩)).toArray)(hr:Rd w 1 B l.length (l.map sv))(hl:l.length<=1000000000000):
  Calls prog 93 #[.slice (some ⟨g,0,none⟩) (l.length+80) (l.length+80),.slice B l.length d,(Value.string ⟨#[109,97,114,107]⟩)] w fun e w' =>e=.returned (.bool true)/\Old w w' :=by
 have LG:=jAL hb;rw[jK7]at LG;have HS:=G (jEI w (some ⟨g,0,none⟩) B (l.length+80) d l LG hr (by omega));have Nq:=fun W=>jBK (P:=prog) jGG jEF (some ⟨g,0,none⟩) (l.length+80) (l.length+80) l.length .i64 (l.length:Int) rfl (by omega) W;have e80:IntKind.i64.wrap ((l.length:Int)+80)=(l.length:Int)+80:=jQ3 _ (by omega);have Hl:=G hl;have Hb:=G hb;have Te:=G (show(l.map sv).length=l.length from jK7 ..);clear hb hr hl LG;go_enter func93,ntmps93;go_wp2_with fail;refine HS.out.mono ?_;rintro e w1 ⟨rfl,Ri⟩;have Ea:=G Ri;clear Ri HS Nq;go_wp2_with fail;go_loopw [7] (fun i wr=>∃k:Nat,l.length<=k/\k<=l.length+80/\i=.int .i64 k/\wr=w1) (fun i _=>l.length+80-(intOf i).toNat)
 case atStart=>exact⟨l.length,jL3 _,Nat.le_add_right _ _,rfl,rfl⟩
 case round=>
  obtain⟨k,Wb,Fu,rfl,rfl⟩:=hrel;by_cases hlt:k<l.length+80
  ·have hc:wr.cell? ⟨g,k,none⟩=some (Value.string ⟨#[109,97,114,107]⟩):=by
    rw[(Hb.out.old Ea.out).cell,jJ7,JG? _ _ k (by rw[Te.out];exact Wb) (by rw[Te.out];exact hlt)]
   have b1:(0:Int)<=(k:Int):=(by omega);have b2:(k:Int)<(l.length:Int)+80:=(by omega);have b3:(k:Int).toNat=k:=(by omega);have b4:(k:Int)<=1000000000100:=by have:=Hl.out;omega
   go_wp2;go_roundw
   case rel=>exact⟨k+1,by omega,by omega,by go_num,by trivial⟩
   case measure=>simp[intOf];omega
  ·obtain rfl:k=l.length+80:=(by omega);go_wp2;go_ret;exact⟨rfl,Ea.out⟩
theorem jAI(w:World)(vk vn:Int)(vt:BA)(vs:List BA)(A B:OA)(c d:Nat)(hx:Rd w 1 A vs.length (vs.map sv))(hy:Rd w 1 B vs.length (vs.map sv))(hl:vs.length<=9223372036854775807):
  Calls prog 95 #[.agg #[.int .i64 vk,.int .i64 vn,.string vt,.slice A vs.length c],.agg #[.int .i64 vk,.int .i64 vn,.string vt,.slice B vs.length d]] w fun e w' =>e=.returned (.bool true)/\Old w w' :=by
 have HS:=G (fun W (hO:Old w W)=>jEI W A B c d vs (hx.old hO) (hy.old hO) hl);have q1:(vt.toList==vt.toList)=true:=beq_self_eq_true _;clear hx hy hl;go_enter func95,ntmps95;go_wp2_with (first|(go_at_call 45;refine(HS.out _ (((jQ0 NoX w).alloc _).alloc _)).mono ?_;rintro e w1 ⟨rfl,hX⟩;have H1:=G hX;clear hX)|fail);go_ret;exact⟨rfl,(((jQ0 NoX w).alloc _).alloc _).trans H1.out (fun _ _ e=>e)⟩
structure Nd2(w:World)(x y:MNd):Prop where
 eq:x.n=y.n
 kx:Rd w 1 x.A x.n.kids.length (x.n.kids.map iv)
 ky:Rd w 1 y.A x.n.kids.length (x.n.kids.map iv)
 vx:Rd w 1 x.vA x.n.vs.length (x.n.vs.map sv)
 vy:Rd w 1 y.vA x.n.vs.length (x.n.vs.map sv)
 kl:x.n.kids.length<=1000000000
 vl:x.n.vs.length<=1000000000
theorem Nd2.old{w w' :World}{x y:MNd}(h:Nd2 w x y)(ho:Old w w'):Nd2 w' x y:=⟨h.eq,h.kx.old ho,h.ky.old ho,h.vx.old ho,h.vy.old ho,h.kl,h.vl⟩
theorem Qj(w:World)(x y:MNd)(h:Nd2 w x y):
  Calls prog 62 #[.agg (ndC x).toArray,.agg (ndC y).toArray] w fun e w' =>e=.returned (.bool true)/\Old w w' :=by
 obtain⟨⟨op,name,vk,vn,vt,vs,kids⟩,A,c,vA,vc⟩:=x;obtain⟨n2,A2,c2,vA2,vc2⟩:=y;obtain⟨rfl,kx,ky,vx,vy,kl,vl⟩:=h;simp only at kx ky vx vy kl vl;have HV:=G (fun W (hO:Old w W)=>jAI W vk vn vt vs vA vA2 vc vc2 (vx.old hO) (vy.old hO) (by omega));have HK:=G (fun W (hO:Old w W)=>jEJ W A A2 c c2 kids (kx.old hO) (ky.old hO) (by omega));have q1:(name.toList==name.toList)=true:=beq_self_eq_true _;have B1:=G ((jQ2 w 146 (ndC ⟨⟨op,name,vk,vn,vt,vs,kids⟩,A,c,vA,vc⟩).toArray).old ((jQ0 NoX _).alloc (.cells (ndC ⟨⟨op,name,vk,vn,vt,vs,kids⟩,A2,c2,vA2,vc2⟩).toArray 146)));have B2:=G (jQ2 (w.alloc (.cells (ndC ⟨⟨op,name,vk,vn,vt,vs,kids⟩,A,c,vA,vc⟩).toArray 146)) 146 (ndC ⟨⟨op,name,vk,vn,vt,vs,kids⟩,A2,c2,vA2,vc2⟩).toArray);rw[show(w.alloc (.cells (ndC ⟨⟨op,name,vk,vn,vt,vs,kids⟩,A,c,vA,vc⟩).toArray 146)).heap.size=w.heap.size+1 by simp]at B2;clear kx ky vx vy kl vl;unfold ndC iv at*;go_enter func62,ntmps62;go_wp2_with (first|(go_at_call 60;refine(HK.out _ ((((jQ0 NoX w).alloc _).alloc _).trans H1.out (fun _ _ e=>e))).mono ?_;rintro e w2 ⟨rfl,hX⟩;have H2:=G hX;clear hX)|(go_at_call 95;refine(HV.out _ (((jQ0 NoX w).alloc _).alloc _)).mono ?_;rintro e w1 ⟨rfl,hX⟩;have H1:=G hX;have n6:=(B1.out.old hX).at_ 6 (v:=.slice A kids.length c) rfl;have m6:=(B2.out.old hX).at_ 6 (v:=.slice A2 kids.length c2) rfl;clear hX)|fail);go_ret;exact⟨rfl,((((jQ0 NoX w).alloc _).alloc _).trans H1.out (fun _ _ e=>e)).trans H2.out (fun _ _ e=>e)⟩
structure St2(w:World)(x y:MSt):Prop where
 eq:x.s=y.s
 px:Rd w 3 x.pA x.s.params.length (x.s.params.flatMap prC)
 py:Rd w 3 y.pA x.s.params.length (x.s.params.flatMap prC)
 ex:Rd w 3 x.eA x.s.effects.length (x.s.effects.flatMap efC)
 ey:Rd w 3 y.eA x.s.effects.length (x.s.effects.flatMap efC)
 pl:x.s.params.length<=1000000000
 el:x.s.effects.length<=1000000000
theorem St2.old{w w' :World}{x y:MSt}(h:St2 w x y)(ho:Old w w'):St2 w' x y:=⟨h.eq,h.px.old ho,h.py.old ho,h.ex.old ho,h.ey.old ho,h.pl,h.el⟩
theorem Qi(w:World)(x y:MSt)(h:St2 w x y):
  Calls prog 64 #[.agg (stC x).toArray,.agg (stC y).toArray] w fun e w' =>e=.returned (.bool true)/\Old w w' :=by
 obtain⟨⟨name,at_,order,params,in_,inAt,when_,effects⟩,pA,pc,eA,ec⟩:=x;obtain⟨n2,pA2,pc2,eA2,ec2⟩:=y;obtain⟨rfl,px,py,ex,ey,pl,el⟩:=h;simp only at px py ex ey pl el;have HV:=G (fun W (hO:Old w W)=>qJ W pA pA2 pc pc2 params (px.old hO) (py.old hO) (by omega));have HK:=G (fun W (hO:Old w W)=>Ys W eA eA2 ec ec2 effects (ex.old hO) (ey.old hO) (by omega));have q1:(name.toList !=name.toList)=false:=bne_self_eq_false _;have q2:(in_.toList !=in_.toList)=false:=bne_self_eq_false _;have B1:=G ((jQ2 w 66 (stC ⟨⟨name,at_,order,params,in_,inAt,when_,effects⟩,pA,pc,eA,ec⟩).toArray).old ((jQ0 NoX _).alloc (.cells (stC ⟨⟨name,at_,order,params,in_,inAt,when_,effects⟩,pA2,pc2,eA2,ec2⟩).toArray 66)));have B2:=G (jQ2 (w.alloc (.cells (stC ⟨⟨name,at_,order,params,in_,inAt,when_,effects⟩,pA,pc,eA,ec⟩).toArray 66)) 66 (stC ⟨⟨name,at_,order,params,in_,inAt,when_,effects⟩,pA2,pc2,eA2,ec2⟩).toArray);rw[show(w.alloc (.cells (stC ⟨⟨name,at_,order,params,in_,inAt,when_,effects⟩,pA,pc,eA,ec⟩).toArray 66)).heap.size=w.heap.size+1 by simp]at B2;clear px py ex ey pl el;unfold stC iv at*;go_enter func64,ntmps64;go_wp2_with (first|(go_at_call 129;refine(HK.out _ ((((jQ0 NoX w).alloc _).alloc _).trans H1.out (fun _ _ e=>e))).mono ?_;rintro e w2 ⟨rfl,hX⟩;have H2:=G hX;clear hX)|(go_at_call 128;refine(HV.out _ (((jQ0 NoX w).alloc _).alloc _)).mono ?_;rintro e w1 ⟨rfl,hX⟩;have H1:=G hX;have n7:=(B1.out.old hX).at_ 7 (v:=.slice eA effects.length ec) rfl;have m7:=(B2.out.old hX).at_ 7 (v:=.slice eA2 effects.length ec2) rfl;clear hX)|fail);go_ret;exact⟨rfl,((((jQ0 NoX w).alloc _).alloc _).trans H1.out (fun _ _ e=>e)).trans H2.out (fun _ _ e=>e)⟩
theorem jFq(x:MNd):(ndC x).length=7:=rfl
theorem jFX(x:MSt):(stC x).length=8:=rfl
theorem VY:(prog.info? 146).map (·.size)=some 7:=by kernel_rfl
theorem VX:(prog.info? 66).map (·.size)=some 8:=by kernel_rfl
theorem qv(w:World)(A B:OA)(c d:Nat)(xs ys:List MNd)(hlen:ys.length=xs.length)(hx:Rd w 7 A xs.length (xs.flatMap ndC))(hy:Rd w 7 B xs.length (ys.flatMap ndC))(hl:xs.length<=1000000000000)
  (hp:∀(k:Nat) (x y:MNd),xs[k]? =some x->ys[k]? =some y->Nd2 w x y):
  Calls prog 61 #[.slice A xs.length c,.slice B xs.length d,.func (.func 62) #[] #[]] w fun e w' =>e=.returned (.bool true)/\Old w w' :=by
 have h1:((xs.length:Int) !=(xs.length:Int))=false:=bne_self_eq_false _;have Hx:=G hx;have Hy:=G hy;have Hp:=G hp;have FP:=G hlen;clear hx hy hp hlen;go_enter func61,ntmps61;go_wp2;go_loopw [7] (fun i wr=>∃k:Nat,k<=xs.length/\i=.int .i64 k/\Old w wr) (fun i _=>xs.length-(intOf i).toNat)
 case atStart=>exact⟨0,by omega,rfl,jQ0 _ _⟩
 case round=>
  obtain⟨k,hk,rfl,F2⟩:=hrel;by_cases hlt:k<xs.length
  ·have WZ:k<ys.length:=by rw[FP.out];exact hlt
   have ex:=jJ9 hlt;have ey:=jJ9 WZ;have HC:=G (fun W (hO:Old wr W)=>Qj W _ _ ((Hp.out k _ _ ex ey).old (F2.trans hO (fun _ _ e=>e))));obtain⟨b1,o1,rfl,FH⟩:=ju (C:=ndC) (fun x=>rfl) (Hx.out.old F2) ex hlt;obtain⟨b2,o2,rfl,FC⟩:=ju (C:=ndC) (fun x=>rfl) (Hy.out.old F2) ey hlt;have b5:(k:Int)<=1000000000000:=(by omega);have b6:(0:Int)<=(k:Int):=(by omega);have b7:(k:Int)<(xs.length:Int):=(by omega);have b8:(k:Int).toNat=k:=(by omega);have Ho:=G F2;have Pe:=G (show(prog.info? 146).map (·.size)=some (ndC xs[k]).length from VY);have NF:=G (show(prog.info? 146).map (·.size)=some (ndC ys[k]).length from VY);generalize ndC xs[k]=cs at*;generalize ndC ys[k]=ds at*;have W4:=G FH;have NZ:=G FC;clear F2 FH FC ex ey;go_upto_region 6 with(fail);refine je (S:=fun w' =>w'.rangeAt b1 (o1+k*7) cs/\w'.rangeAt b2 (o2+k*7) ds) 11 rfl (by kernel_rfl) ⟨jS W4.out (jQ0 NoX wr).drew,jS NZ.out (jQ0 NoX wr).drew⟩ (fun HU=> ?_)
   iterate 4 (refine' tOn rfl rfl (by kernel_rfl) (fun _ _ _ h=>h) rfl HU (fun w' F0=> ?_) ?_;rotate_left;(clear F0;go_simp<;>with_reducible rfl);simp only[Act.put,jJ1,jJ2,jJ3])
   refine' tOn rfl rfl (by kernel_rfl) (fun _ _ _ h=>h) rfl HU (fun w' F0=>jm 146 (.tmp 22) rfl b1 (o1+k*7) rfl cs _ F0.1 underlying146 rfl Pe.out) ?_;simp only[Act.put,jJ1,jJ2,jJ3]
   iterate 3 (refine' tOn rfl rfl (by kernel_rfl) (fun _ _ _ h=>h) rfl HU (fun w' F0=> ?_) ?_;rotate_left;(clear F0;go_simp<;>with_reducible rfl);simp only[Act.put,jJ1,jJ2,jJ3])
   refine' tOn rfl rfl (by kernel_rfl) (fun _ _ _ h=>h) rfl HU (fun w' F0=>jm 146 (.tmp 26) rfl b2 (o2+k*7) rfl ds _ F0.2 underlying146 rfl NF.out) ?_;simp only[Act.put,jJ1,jJ2,jJ3];refine jD9 rfl (by kernel_rfl) (by decide) (fun K hK=> ?_);go_simp;go_at_call 62;refine(HC.out _ ((jQ0 _ _).drew)).mono ?_;rintro e w1 ⟨rfl,hX⟩;have H1:=G ((Ho.out.drew).trans hX (fun _ _ e=>e));have Cf:=G (jS (jS W4.out (jQ0 NoX wr).drew) hX);have Ce:=G (jS (jS NZ.out (jQ0 NoX wr).drew) hX);clear hX;go_simp;refine hK.out _ _ ⟨Cf.out,Ce.out⟩ (fun HU=> ?_);clear hK K
   iterate 1 (refine' tOn rfl rfl (by kernel_rfl) (fun _ _ _ h=>h) rfl HU (fun w' F0=> ?_) ?_;rotate_left;(clear F0;go_simp<;>with_reducible rfl);simp only[Act.put,jJ1,jJ2,jJ3])
   refine wpAnyH_done (by kernel_rfl) ?_ _;go_wp2;go_roundw
   case rel=>exact⟨k+1,by omega,by go_num,H1.out⟩
   case measure=>simp[intOf];omega
  ·obtain rfl:k=xs.length:=(by omega);have Ho:=G F2;clear F2;go_wp2;go_ret;exact⟨rfl,Ho.out⟩
theorem qu(w:World)(A B:OA)(c d:Nat)(xs ys:List MSt)(hlen:ys.length=xs.length)(hx:Rd w 8 A xs.length (xs.flatMap stC))(hy:Rd w 8 B xs.length (ys.flatMap stC))(hl:xs.length<=1000000000000)
  (hp:∀(k:Nat) (x y:MSt),xs[k]? =some x->ys[k]? =some y->St2 w x y):
  Calls prog 63 #[.slice A xs.length c,.slice B xs.length d,.func (.func 64) #[] #[]] w fun e w' =>e=.returned (.bool true)/\Old w w' :=by
 have h1:((xs.length:Int) !=(xs.length:Int))=false:=bne_self_eq_false _;have Hx:=G hx;have Hy:=G hy;have Hp:=G hp;have FP:=G hlen;clear hx hy hp hlen;go_enter func63,ntmps63;go_wp2;go_loopw [7] (fun i wr=>∃k:Nat,k<=xs.length/\i=.int .i64 k/\Old w wr) (fun i _=>xs.length-(intOf i).toNat)
 case atStart=>exact⟨0,by omega,rfl,jQ0 _ _⟩
 case round=>
  obtain⟨k,hk,rfl,F2⟩:=hrel;by_cases hlt:k<xs.length
  ·have WZ:k<ys.length:=by rw[FP.out];exact hlt
   have ex:=jJ9 hlt;have ey:=jJ9 WZ;have HC:=G (fun W (hO:Old wr W)=>Qi W _ _ ((Hp.out k _ _ ex ey).old (F2.trans hO (fun _ _ e=>e))));obtain⟨b1,o1,rfl,FH⟩:=ju (C:=stC) (fun x=>rfl) (Hx.out.old F2) ex hlt;obtain⟨b2,o2,rfl,FC⟩:=ju (C:=stC) (fun x=>rfl) (Hy.out.old F2) ey hlt;have b5:(k:Int)<=1000000000000:=(by omega);have b6:(0:Int)<=(k:Int):=(by omega);have b7:(k:Int)<(xs.length:Int):=(by omega);have b8:(k:Int).toNat=k:=(by omega);have Ho:=G F2;have Pe:=G (show(prog.info? 66).map (·.size)=some (stC xs[k]).length from VX);have NF:=G (show(prog.info? 66).map (·.size)=some (stC ys[k]).length from VX);generalize stC xs[k]=cs at*;generalize stC ys[k]=ds at*;have W4:=G FH;have NZ:=G FC;clear F2 FH FC ex ey;go_upto_region 6 with(fail);refine je (S:=fun w' =>w'.rangeAt b1 (o1+k*8) cs/\w'.rangeAt b2 (o2+k*8) ds) 11 rfl (by kernel_rfl) ⟨jS W4.out (jQ0 NoX wr).drew,jS NZ.out (jQ0 NoX wr).drew⟩ (fun HU=> ?_)
   iterate 4 (refine' tOn rfl rfl (by kernel_rfl) (fun _ _ _ h=>h) rfl HU (fun w' F0=> ?_) ?_;rotate_left;(clear F0;go_simp<;>with_reducible rfl);simp only[Act.put,jJ1,jJ2,jJ3])
   refine' tOn rfl rfl (by kernel_rfl) (fun _ _ _ h=>h) rfl HU (fun w' F0=>jm 66 (.tmp 22) rfl b1 (o1+k*8) rfl cs _ F0.1 underlying66 rfl Pe.out) ?_;simp only[Act.put,jJ1,jJ2,jJ3]
   iterate 3 (refine' tOn rfl rfl (by kernel_rfl) (fun _ _ _ h=>h) rfl HU (fun w' F0=> ?_) ?_;rotate_left;(clear F0;go_simp<;>with_reducible rfl);simp only[Act.put,jJ1,jJ2,jJ3])
   refine' tOn rfl rfl (by kernel_rfl) (fun _ _ _ h=>h) rfl HU (fun w' F0=>jm 66 (.tmp 26) rfl b2 (o2+k*8) rfl ds _ F0.2 underlying66 rfl NF.out) ?_;simp only[Act.put,jJ1,jJ2,jJ3];refine jD9 rfl (by kernel_rfl) (by decide) (fun K hK=> ?_);go_simp;go_at_call 64;refine(HC.out _ ((jQ0 _ _).drew)).mono ?_;rintro e w1 ⟨rfl,hX⟩;have H1:=G ((Ho.out.drew).trans hX (fun _ _ e=>e));have Cf:=G (jS (jS W4.out (jQ0 NoX wr).drew) hX);have Ce:=G (jS (jS NZ.out (jQ0 NoX wr).drew) hX);clear hX;go_simp;refine hK.out _ _ ⟨Cf.out,Ce.out⟩ (fun HU=> ?_);clear hK K
   iterate 1 (refine' tOn rfl rfl (by kernel_rfl) (fun _ _ _ h=>h) rfl HU (fun w' F0=> ?_) ?_;rotate_left;(clear F0;go_simp<;>with_reducible rfl);simp only[Act.put,jJ1,jJ2,jJ3])
   refine wpAnyH_done (by kernel_rfl) ?_ _;go_wp2;go_roundw
   case rel=>exact⟨k+1,by omega,by go_num,H1.out⟩
   case measure=>simp[intOf];omega
  ·obtain rfl:k=xs.length:=(by omega);have Ho:=G F2;clear F2;go_wp2;go_ret;exact⟨rfl,Ho.out⟩
end Go.Proofs.YtifbhcfdealfaaaGreatDoor

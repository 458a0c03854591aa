import Derived.Test.YtnaolhjbapgjgaaGreatMg04
import Derived.Great.BuildSlice
import Derived.StillTailTactics
import Derived.Laws.Bits64
set_option maxRecDepth 100000
set_option maxHeartbeats 6400000
namespace Go.Proofs.YtnaolhjbapgjgaaGreat
open Go.Proofs.Tryz
open Go.RowKit
section
variable{α:Type}
theorem flat_len(f:α->List Value)(s:Nat):∀(xs:List α),(∀x∈xs,(f x).length=s)->(xs.flatMap f).length=xs.length*s
 |[],_=>by simp
 |x::xs,h=>by
  rw[jL9,jJ4,flat_len f s xs (fun y hy=>h y (List.mem_cons_of_mem _ hy)),h x (List.mem_cons_self),jK6,Nat.add_mul];omega
theorem us(f:α->List Value)(s:Nat):∀(xs:List α),(∀x∈xs,(f x).length=s)->∀(k:Nat) (hk:k<xs.length) (j:Nat),j<s->(xs.flatMap f)[k*s+j]? =(f xs[k])[j]?
 |[],_,k,hk,_,_=>by simp at hk
 |x::xs,h,0,_,j,hj=>by
  rw[jL9,Nat.zero_mul,Nat.zero_add,List.getElem?_append_left (by rw[h x List.mem_cons_self];exact hj)];rfl
 |x::xs,h,k+1,hk,j,hj=>by
  have h0:=h x List.mem_cons_self;rw[jL9,List.getElem?_append_right (by rw[h0,Nat.add_mul];omega),h0,show(k+1)*s+j-s=k*s+j by rw[Nat.add_mul];omega];rw[us f s xs (fun y hy=>h y (List.mem_cons_of_mem _ hy)) k (by simpa using hk) j hj];rfl
theorem Rd.elem{w:World}{s n:Nat}{A:OA}{xs:List α}{f:α->List Value}(h:Rd w s A n (xs.flatMap f))(hf:∀x∈xs,(f x).length=s)(hn:xs.length=n){k:Nat}(hk:k<xs.length):
  ∃b o,A=some ⟨b,o,none⟩/\w.rangeAt b (o+k*s) (f xs[k]):=by
 obtain⟨b,o,e,hc⟩:=h.2 (by omega);refine⟨b,o,e,fun j v hv=> ?_⟩;have hj:j<s:=by
  have:=(List.getElem?_eq_some_iff.1 hv).1;rw[hf _ (jL6 hk)]at this;exact this
 rw[Nat.add_assoc];exact hc _ v (by rw[us f s xs hf k hk j hj,hv])
end
def jA(d:LB):List Value:=d.map bv
theorem jB(d:LB):(jA d).length=d.length:=jK7 _
theorem kV(d:LB):(jA d).toArray.all (·.oneCell')=true:=all_oneCell_toArray (jf d)
def Dgs(ds:List LB):Prop:=∀d∈ds,d.length=32
theorem Dgs.cells{ds:List LB}(h:Dgs ds):∀d∈ds,(jA d).length=32:=fun d hd=>by rw[jB,h d hd]
theorem Dgs.flat{ds:List LB}(h:Dgs ds):ds.flatten.length=ds.length*32:=by
 induction ds with
 |nil=>rfl
 |cons d ds ih=>
  rw[List.flatten_cons,jJ4,ih (fun x hx=>h x (List.mem_cons_of_mem _ hx)),h d List.mem_cons_self,jK6];omega
theorem Dgs.take{ds:List LB}(h:Dgs ds)(k:Nat):Dgs (ds.take k):=fun d hd=>h d (List.mem_of_mem_take hd)
theorem yc(l:List LB)(k:Nat)(h:k<l.length):(l.take (k+1)).flatten=(l.take k).flatten++l[k]:=by
 rw[jK2 h,List.flatten_append];simp
theorem jO:(prog.info? 40).map (·.size)=some 32:=by kernel_rfl
theorem jK{ops:Array Oper}{rest:List Oper}{op:Oper}{a:Act}{w:World}{Q:Exit->Act->World->Prop}(hw:Region.wanted op (yielded ops a.tmps)=true)(ty:TypeId)(x:Operand)(ho:op.op=.load ty x)
  (b o:Nat) (hx:a.eval x=.pointer (some ⟨b,o,none⟩)) (cs:List Value) (d:TypeDesc) (hc:w.rangeAt b o cs)
  (hu:prog.underlying ty=some d) (hd:d.isRow=true) (hi:(prog.info? ty).map (·.size)=some cs.length)
  (h:wpList prog ops Q rest (a.put op.dst (.agg cs.toArray)) w):wpList prog ops Q (op::rest) a w:=
 wpList_step fun K hK=>by simp only[hw,if_true];exact wp_load_mid ty x ho b o hx cs d hc hu hd hi (hK _ _ h)
def zero32:List Value:=[.int .u8 0,.int .u8 0,.int .u8 0,.int .u8 0,.int .u8 0,.int .u8 0,.int .u8 0,.int .u8 0,.int .u8 0,.int .u8 0,.int .u8 0,.int .u8 0,.int .u8 0,.int .u8 0,.int .u8 0,.int .u8 0,.int .u8 0,.int .u8 0,.int .u8 0,.int .u8 0,.int .u8 0,.int .u8 0,.int .u8 0,.int .u8 0,.int .u8 0,.int .u8 0,.int .u8 0,.int .u8 0,.int .u8 0,.int .u8 0,.int .u8 0,.int .u8 0]
theorem yg(w:World)(g:Nat)(r:Option Nat)(bs:LB)(A:OA)(n c:Nat)(ds:List LB)(hn:ds.length=n)(hd:Dgs ds)(hW:Wr w g r bs)(hl:bs.length<=900000000000)(Fu:n<=2147483647)
  (Fa:Rd w 32 A n (ds.flatMap jA)) (FA:Av (WX g r) n A):
  Calls prog 103 #[.pointer (some ⟨g,0,none⟩),.slice A n c] w fun e w' =>e=.returned (.tuple #[])/\WStep w g r w' (bs++ds.flatten):=by
 have Hl:=G hl;have Hd:=G hd;have Hn:=G hn;clear hl hd hn;obtain⟨i0,hi,Fz,Ft,FC⟩:=info_parts kc;go_enter func103,ntmps103;go_wp2;go_loopw [8] (fun i wr=>∃k:Nat,k<=n/\i=.int .i64 k/\WStep w g r wr (bs++(ds.take k).flatten)) (fun i _=>n-(intOf i).toNat)
 case atStart=>exact⟨0,by omega,rfl,by simpa using hW.step⟩
 case round=>
  obtain⟨k,hk,rfl,HU⟩:=hrel;by_cases hM:k<n
  ·obtain⟨r',⟨A1,c1,hb,ho,Fd⟩,FQ,Nb⟩:=HU;have GY:k<ds.length:=by have:=Hn.out;omega
   obtain⟨b,o,rfl,FK⟩:=(Fa.kp FQ FA).elem Hd.out.cells Hn.out (k:=k) GY;have WZ:=Hd.out ds[k] (jL6 GY);have Gk:(bs++(ds.take k).flatten).length+32<=1000000000000:=by
    have h1:=Hl.out;have h2:=(Hd.out.take k).flat;rw[jK9]at h2;rw[jJ4];omega
   have Fm:=G (show bs++(ds.take (k+1)).flatten=(bs++(ds.take k).flatten)++ds[k]by
    rw[yc ds k GY];simp)
   generalize ds[k]=d at*;generalize M8:bs++(ds.take k).flatten=cs at*;have WH:=G Fd;have Fn:=G FK;have Fh:=G (show(prog.info? 40).map (·.size)=some (jA d).length by rw[jB,WZ];exact jO);have Lf:=G (jQ2 wr 40 zero32.toArray);have IO:=G (Lf.out.setWhole (jA d) (by rw[jB,WZ];rfl));have Gq:=G (show Old wr ((wr.alloc (.cells zero32.toArray 40)).setCells wr.heap.size 0 (jA d))from((jQ0 NoX wr).alloc _).trans (Kp.setCells _ _ _ _) (fun b hb e=>by omega));have hU:=G (show(wr.alloc (.cells zero32.toArray 40)).there wr.heap.size 0 (jA d).toArray.size from Lf.out.there 0 _ (by rw[jJ8,jB,WZ];decide));have FU:=G (show cs.length+32<=maxLen by unfold maxLen;omega);have FV:=G (show(cs.length+32)*1<=140737488355328 by omega);have EA:=G WZ;clear Fd M8 FK Gk WZ;unfold zero32 at Lf IO Gq hU;have b5:(k:Int)<=2147483647:=(by omega);have b1:(0:Int)<=(k:Int):=(by omega);have b2:(k:Int)<(n:Int):=(by omega);have b3:(k:Int).toNat=k:=(by omega);go_wp2_with (first|refine jK rfl 40 (.tmp 10) rfl b (o+k*32) rfl (jA d) _ Fn.out underlying40 rfl Fh.out ?_ |refine jQ1 rfl 40 (.tmp 5) (.tmp 11) rfl wr.heap.size 0 (jA d).toArray rfl rfl hU.out Fh.out (kV d) ?_ |fail);generalize (wr.alloc _).setCells _ _ _=W at*;have Nj:=hb.old Gq.out;have TA:=kG ho Gq.out (fun _ _ f=>f);have hc:=Nj.cell 0;have hz:=Nj.frozen 0;have TE:=Nj.lt;simp only[jJ7,List.getElem?_cons_zero]at hc;have Ff:some g≠(Value.slice A1 cs.length c1).ownBlock:=by
    have:=kx TA Nj (by decide);exact fun h=>this h.symm
   have Wn:=G (show Rd W 1 (some ⟨wr.heap.size,0,none⟩) 32 (d.map bv)from⟨by rw[jK7,EA.out],fun _=>⟨_,_,rfl,IO.out.range⟩⟩);go_region_law ((refine jg _ rfl (.tmp 16) (.tmp 17) 22 rfl 0 5 i0 (.int .u8 0) 1 1 underlying22 hi Fz Ft FC rfl (by decide) (.slice A1 cs.length c1) cs.length (cs.map bv) rfl TA (some ⟨wr.heap.size,0,none⟩) 32 32 (d.map bv) rfl Wn.out (jf _) FU.out FV.out (Nat.zero_le _) ?_;intro A' c' w2 Hi hgrow Fo;have FS:=hgrow.cell (a:=⟨g,0,none⟩) hc Ff;have Ft:w2.frozen? ⟨g,0,none⟩=false:=(World.frozen?_of_block (hgrow.block g TE Ff)).trans hz))
   all_goals
    have HU:=Wr.put Nj TA (jQ0 _ _).drew (news:=d) (m:=32) EA.out rfl Hi hgrow Fo;have HU:=WStep.trans (Gq.out.mono (Y:=WX g (A1.map (·.block))) (fun _ _ f=>f.elim)) (.inl rfl) HU;have Fq:=G (WStep.trans FQ (WH.out▸Nb) HU);clear HU Hi hgrow Fo hc hz FS Ft hb ho Nj TA Ff IO Lf hU Wn Gq;go_wp2;go_roundw
    case rel=>exact⟨k+1,by omega,by go_num,by rw[Fm.out];exact Fq.out⟩
    case measure=>simp[intOf];omega
  ·obtain rfl:k=n:=(by omega);go_wp2;go_end0;refine⟨rfl,?_⟩;rw[jK4 (by rw[Hn.out];omega)]at HU;exact HU
structure KF(w:World)(g:Nat)(r:Option Nat)(w' :World)(r' :Option Nat):Prop where
 kp:Kp (WX g r) w w'
 fr:Fr w r r'
theorem WStep.kf{w w' :World}{g:Nat}{r:Option Nat}{bs:LB}(h:WStep w g r w' bs):∃r',Wr w' g r' bs/\KF w g r w' r' :=by
 obtain⟨r',h1,h2,h3⟩:=h;exact⟨r',h1,h2,h3⟩
section
variable{w w1 w2:World}{g:Nat}{r r1 r2:Option Nat}{bs:LB}
theorem KF.step(h:KF w g r w1 r1)(hW:Wr w1 g r1 bs):WStep w g r w1 bs:=⟨r1,hW,h.kp,h.fr⟩
theorem KF.trans(h:KF w g r w1 r1)(k:KF w1 g r1 w2 r2):KF w g r w2 r2:=by
 refine⟨h.kp.trans k.kp (fun b hb hx=> ?_),?_⟩
 ·rcases hx with rfl|hx
  ·exact .inl rfl
  ·rcases h.fr with rfl|⟨k,rfl,Fu⟩
   ·exact .inr hx
   ·injection hx with hx;omega
 ·rcases k.fr with rfl|⟨j,rfl,Fu⟩
  ·exact h.fr
  ·exact .inr ⟨j,rfl,jL4 h.kp.size Fu⟩
theorem KF.old(h:KF w g r w1 r1)(ho:Old w1 w2):KF w g r w2 r1:=⟨h.kp.old ho,h.fr⟩
theorem KF.of(ho:Old w w1):KF w g r w1 r:=⟨ho.mono (fun _ _ f=>f.elim),.inl rfl⟩
theorem KF.blk{b:Nat}{t:TypeId}{cs:Array Value}(h:KF w g r w1 r1)(hb:Blk w b t cs)(hx:¬WX g r b):Blk w1 b t cs:=hb.kp h.kp hx
theorem KF.rd{s n:Nat}{A:OA}{xs:List Value}(h:KF w g r w1 r1)(hr:Rd w s A n xs)(ha:Av (WX g r) n A):Rd w1 s A n xs:=hr.kp h.kp ha
theorem KF.av{s n:Nat}{A:OA}{xs:List Value}(h:KF w g r w1 r1)(hr:Rd w s A n xs)(hs:0<s)(ha:Av (WX g r) n A):Av (WX g r1) n A:=ha.fresh h.fr hr hs
end
def LayP(w:World)(g:Nat)(r:Option Nat)(bs:LB)(o:Option LB)(m:Nat)(e:Ending)(w' :World):Prop:=
 (∃l,o=some l/\l.length<=m/\e=.returned (.bool true)/\WStep w g r w' (bs++l))\/(o=none/\e=.returned (.bool false)/\∃l,WStep w g r w' (bs++l))
def okT(l:List BA):Bool:=l.all fun s=>decide (s.size<=4194304)
theorem TextPost.lay{w w' :World}{g:Nat}{r:Option Nat}{bs:LB}{l:List BA}{e:Ending}(h:TextPost w g r bs l e w'):
  (e=.returned (.bool true)/\okT l=true/\WStep w g r w' (bs++YK l))\/(e=.returned (.bool false)/\okT l=false/\∃l',WStep w g r w' (bs++l')):=by
 obtain⟨k,hk,he,h1,h2,HU⟩:=h;by_cases GY:k=l.length
 ·subst GY;refine .inl ⟨by simpa using he,?_,by simpa using HU⟩;rw[okT,List.all_eq_true];intro s hs;obtain⟨j,hj,rfl⟩:=List.getElem_of_mem hs;have:=h1 j hj;simpa [List.getD,jJ9 hj]using this
 ·have hM:k<l.length:=(by omega);refine .inr ⟨by simpa [GY]using he,?_,_,HU⟩;have h3:=h2 hM;simp only[List.getD,jJ9 hM,Option.getD_some]at h3;rw[<-Bool.not_eq_true,okT,List.all_eq_true];intro h;have:=h _ (jL6 hM);simp only[decide_eq_true_eq]at this;omega
theorem jGK(l:List BA)(h:okT l=true):(YK l).length<=l.length*4194308:=by
 have:=VH l 4194304 l.length (jL3 _) (fun j hj=>by
  rw[okT,List.all_eq_true]at h;have:=h _ (jL6 hj);simpa [List.getD,jJ9 hj]using this)
 simpa using this
def JD(e:Int):Bool:=decide (e=240\/e=241\/e=242)
theorem jAv(w:World)(n:Int):Calls prog 27 #[.int .i64 n] w fun e w' =>e=.returned (.bool (JD n))/\w=w' :=by
 by_cases h1:n=240
 ·subst h1;go_enter func27,ntmps27;go_wp2;go_ret;exact⟨rfl,rfl⟩
 ·have b1:(n==240)=false:=(by simpa using h1);by_cases h2:n=241
  ·subst h2;go_enter func27,ntmps27;go_wp2;go_ret;exact⟨rfl,rfl⟩
  ·have b2:(n==241)=false:=(by simpa using h2);have hb:JD n=(n==242):=by
    rw[JD,Bool.eq_iff_iff];simp[h1,h2]
   rw[hb];go_enter func27,ntmps27;go_wp2;go_ret;exact⟨rfl,rfl⟩
def yo(l:List Int):Option LB:=if(l.all fun n=>decide (0<=n/\n<=4294967295))=true then some (l.flatMap fun n=>be 4 n.toNat)else none
theorem YP(l:List Int):(l.flatMap fun n=>be 4 n.toNat).length=l.length*4:=by
 induction l with
 |nil=>rfl
 |cons a l ih=>rw[jL9,jJ4,ih,jC,jK6];omega
theorem kD{α:Type}(f:α->LB)(l:List α)(k:Nat)(h:k<l.length):(l.take (k+1)).flatMap f=(l.take k).flatMap f++f l[k]:=by
 rw[jK2 h,List.flatMap_append];simp
theorem jBg(w:World)(g:Nat)(r:Option Nat)(bs:LB)(a b c:Int)(hW:Wr w g r bs)(hl:bs.length<=700000000000):
  Calls prog 28 #[.pointer (some ⟨g,0,none⟩),.agg #[.int .i64 a,.int .i64 b,.int .i64 c]] w (LayP w g r bs (yo [a,b,c]) 12):=by
 have Hl:=G hl;have ho:=(((jQ0 NoX w).alloc (.cells #[.int .i64 a,.int .i64 b,.int .i64 c] 37)).alloc (.cells #[.int .i64 a,.int .i64 b,.int .i64 c] 3));have hb:=jQ2 (w.alloc (.cells #[.int .i64 a,.int .i64 b,.int .i64 c] 37)) 3 #[.int .i64 a,.int .i64 b,.int .i64 c];rw[show(w.alloc (.cells #[.int .i64 a,.int .i64 b,.int .i64 c] 37)).heap.size=w.heap.size+1 by simp]at hb;have Hx:=G (yx hW (Nat.le_succ w.heap.size));clear hl;go_enter func28,ntmps28;go_wp2;generalize (w.alloc _).alloc _=W at*;have Hb:=G hb;have Ho:=G ho;clear hb ho;go_loopw [15] (fun i wr=>∃k:Nat,k<=3/\i=.int .i64 k/\(([a,b,c].take k).all fun n=>decide (0<=n/\n<=4294967295))=true/\WStep W g r wr (bs++([a,b,c].take k).flatMap fun n=>be 4 n.toNat)) (fun i _=>3-(intOf i).toNat)
 case atStart=>exact⟨0,by omega,rfl,rfl,by simpa using (hW.old Ho.out).step⟩
 case round=>
  obtain⟨k,hk,rfl,Fp,HU⟩:=hrel;by_cases hM:k<3
  ·obtain⟨r',Ml,Na,My⟩:=HU;have SW:=Hb.out.kp Na Hx.out;have GY:k< [a,b,c].length:=hM;have hc:=SW.at_ k (v:=.int .i64 [a,b,c][k]) (by
    have:k=0\/k=1\/k=2:=(by omega);rcases this with rfl|rfl|rfl<;>rfl)
   have Fm:=G (show bs++(([a,b,c].take (k+1)).flatMap fun n=>be 4 n.toNat)=(bs++([a,b,c].take k).flatMap fun n=>be 4 n.toNat)++be 4 [a,b,c][k].toNat by
    rw[kD (fun n:Int=>be 4 n.toNat) [a,b,c] k GY];simp)
   have Fv:=G (show(([a,b,c].take (k+1)).all fun n=>decide (0<=n/\n<=4294967295))=decide (0<=[a,b,c][k]/\ [a,b,c][k]<=4294967295)by
    rw[jK2 GY,List.all_append,Fp];simp)
   have Fi:=G (show(bs++([a,b,c].take k).flatMap fun n=>be 4 n.toNat).length<=800000000000 by
    have:=Hl.out;rw[jJ4,YP,jK9];omega)
   have hY:=G (show¬(0<=[a,b,c][k]/\ [a,b,c][k]<=4294967295)->yo [a,b,c]=none from fun hn=>by
    rw[yo,jJ5];intro h;rw[List.all_eq_true]at h;exact hn (by simpa using h _ (jL6 GY)))
   have Ng:=G (show∃l,(bs++([a,b,c].take k).flatMap fun n=>be 4 n.toNat)=bs++l from⟨_,rfl⟩);generalize [a,b,c][k]=y at*;generalize (bs++([a,b,c].take k).flatMap fun n=>be 4 n.toNat)=cs at*;generalize yo [a,b,c]=PB at*;clear Fp SW;have b1:(0:Int)<=(k:Int):=(by omega);have b2:(k:Int)<3:=(by omega);have b3:(k:Int).toNat=k:=(by omega);by_cases hy:0<=y/\y<=4294967295
   ·obtain⟨Lm,LM⟩:=hy;have LP:¬y<0:=(by omega);have SM:¬(4294967295:Int)<y:=(by omega);have O0:IntKind.u32.wrap y=y:=IntWalk.u32_in _ (by omega);go_wp2_with fail;refine(qW _ g r' cs y Lm LM Ml (jL4 Fi.out (by decide))).mono ?_;rintro e w2 ⟨rfl,HU⟩;have Fq:=G (WStep.trans Na My HU);clear HU hc;go_wp2;go_roundw
    case rel=>exact⟨k+1,by omega,by go_num,by rw[Fv.out];simp;omega,by rw[Fm.out];exact Fq.out⟩
    case measure=>simp[intOf];omega
   ·have HZ:=G (show LayP w g r bs PB 12 (.returned (.bool false)) wr from by
     obtain⟨l,hl⟩:=Ng.out;exact .inr ⟨hY.out hy,rfl,l,WStep.after Ho.out ⟨r',hl▸Ml,Na,My⟩⟩)
    by_cases Lm:y<0
    ·go_wp2;go_ret;exact HZ.out
    ·have LM:(4294967295:Int)<y:=(by omega);go_wp2;go_ret;exact HZ.out
  ·obtain rfl:k=3:=(by omega);have HZ:=G (show LayP w g r bs (yo [a,b,c]) 12 (.returned (.bool true)) wr from by
    refine .inl ⟨[a,b,c].flatMap fun n=>be 4 n.toNat,?_,by rw[YP];simp,rfl,?_⟩
    ·rw[yo,jJ6];exact Fp
    ·exact WStep.after Ho.out HU)
   go_wp2;go_ret;exact HZ.out
def kg(l:List BA):Option LB:=if l.length<=255/\okT l=true then some (be 1 l.length++YK l)else none
theorem qe(w:World)(g:Nat)(r:Option Nat)(bs:LB)(A:OA)(c:Nat)(l:List BA)(hW:Wr w g r bs)(hl:bs.length<=600000000000)
  (Fa:Rd w 1 A l.length (l.map sv)) (FA:Av (WX g r) l.length A) (Fj:∀k,k<l.length->(l.getD k ByteArray.empty).size<=2147483647) (hn:l.length<=1000000000000):
  Calls prog 104 #[.pointer (some ⟨g,0,none⟩),.slice A l.length c] w (LayP w g r bs (kg l) 1100000000):=by
 by_cases hm:l.length<=255
 ·have SN:¬((255:Int)<(l.length:Int)):=(by omega);have e8:IntKind.u8.wrap (l.length:Int)=l.length:=IntWalk.u8_in _ (by omega);have GS:=G Fj;have Fy:=G Fa;have FW:=G FA;have Hl:=G hl;clear Fj Fa FA hl;go_enter func104,ntmps104;go_wp2_with fail;refine(kY _ g r bs (l.length:Int) (by omega) (by omega) hW (by have:=Hl.out;omega)).mono ?_;rintro e w1 ⟨rfl,r1,FF,Fc,TW⟩;rw[jL1]at FF;have HT:=G (YT w1 g r1 (bs++be 1 l.length) A c l FF (by have:=Hl.out;rw[jJ4,jC];omega) (Fy.out.kp Fc FW.out) (FW.out.fresh TW Fy.out (by decide)) (by omega) GS.out);have V2:=G Fc;clear Fc FF;go_wp2_with fail;refine HT.out.mono ?_;intro e w2 ht;rcases ht.lay with⟨rfl,Hu,HU⟩|⟨rfl,Hu,l',HU⟩
  ·have HZ:=G (show LayP w g r bs (kg l) 1100000000 (.returned (.bool true)) w2 from by
    refine .inl ⟨be 1 l.length++YK l,by rw[kg,jJ6 ⟨hm,Hu⟩],?_,rfl,?_⟩
    ·have:=jGK l Hu;rw[jJ4,jC];omega
    ·have:=WStep.trans V2.out TW HU
     rwa [jK1]at this)
   clear ht HU Hu;go_wp2;go_ret;exact HZ.out
  ·have HZ:=G (show LayP w g r bs (kg l) 1100000000 (.returned (.bool false)) w2 from by
    refine .inr ⟨by rw[kg,jJ5 (fun h=>by rw[Hu]at h;exact absurd h.2 (by decide))],rfl,be 1 l.length++l',?_⟩;have:=WStep.trans V2.out TW HU
    rwa [jK1]at this)
   clear ht HU Hu;go_wp2;go_ret;exact HZ.out
 ·have SN:(255:Int)<(l.length:Int):=(by omega);have HZ:=G (show LayP w g r bs (kg l) 1100000000 (.returned (.bool false)) w from
   .inr ⟨by rw[kg,jJ5];exact fun h=>hm h.1,rfl,[],by rw[List.append_nil];exact hW.step⟩)
  clear Fj Fa FA;go_enter func104,ntmps104;go_wp2;go_ret;exact HZ.out
structure MHap where
 op:Int
 name:BA
def MHap.cells(h:MHap):List Value:=[.int .i64 h.op,.string h.name]
def okH(l:List MHap):Bool:=l.all fun h=>decide (0<=h.op/\h.op<=255/\h.name.size<=4194304)
def zM(h:MHap):LB:=be 1 h.op.toNat++lp 4 (sb h.name)
def zm(l:List MHap):Option LB:=if l.length<=65535/\okH l=true then some (be 2 l.length++l.flatMap zM)else none
theorem jAn(l:List MHap):∀k,k<=l.length->okH (l.take k)=true->((l.take k).flatMap zM).length<=k*4194309:=by
 intro k
 induction k with
 |zero=>intro _ _;simp
 |succ k ih=>
  intro hk h;have GY:k<l.length:=(by omega);rw[jK2 GY,okH,List.all_append,Bool.and_eq_true]at h;have h1:=ih (by omega) h.1;have h2:=h.2;simp only[List.all_cons,List.all_nil,Bool.and_true,decide_eq_true_eq]at h2;rw[kD zM l k GY,jJ4,zM,jJ4,jC,jV,jH];omega
theorem ZQ(w:World)(g:Nat)(r:Option Nat)(bs:LB)(A:OA)(c:Nat)(l:List MHap)(hW:Wr w g r bs)(hl:bs.length<=300000000000)
  (Fa:Rd w 2 A l.length (l.flatMap MHap.cells)) (FA:Av (WX g r) l.length A) (Fj:∀h∈l,h.name.size<=2147483647) (hn:l.length<=1000000000000):
  Calls prog 54 #[.pointer (some ⟨g,0,none⟩),.slice A l.length c] w (LayP w g r bs (zm l) 300000000000):=by
 by_cases hm:l.length<=65535
 ·have SN:¬((65535:Int)<(l.length:Int)):=(by omega);have e16:IntKind.u16.wrap (l.length:Int)=l.length:=IntWalk.u16_in _ (by omega);have GS:=G Fj;have Fy:=G Fa;have FW:=G FA;have Hl:=G hl;clear Fj Fa FA hl;go_enter func54,ntmps54;go_wp2_with fail;refine(YE _ g r bs (l.length:Int) (by omega) (by omega) hW (by have:=Hl.out;omega)).mono ?_;rintro e w1 ⟨rfl,Tu⟩;rw[jL1]at Tu;have I6:=G Tu;clear Tu;go_wp2;go_loopw [17] (fun i wr=>∃k:Nat,k<=l.length/\i=.int .i64 k/\okH (l.take k)=true/\WStep w g r wr (bs++(be 2 l.length++(l.take k).flatMap zM))) (fun i _=>l.length-(intOf i).toNat)
  case atStart=>exact⟨0,by omega,rfl,rfl,by simpa using I6.out⟩
  case round=>
   obtain⟨k,hk,rfl,Fp,HU⟩:=hrel;by_cases hM:k<l.length
   ·obtain⟨r',Ml,Na,My⟩:=HU;obtain⟨b,o,rfl,FK⟩:=(Fy.out.kp Na FW.out).elem (f:=MHap.cells) (fun _ _=>rfl) rfl hM;have hlen:=jAn l k hk Fp;have Fm:=G (show bs++(be 2 l.length++(l.take (k+1)).flatMap zM)=((bs++(be 2 l.length++(l.take k).flatMap zM))++be 1 l[k].op.toNat)++lp 4 (sb l[k].name)by
     rw[kD zM l k hM,zM];simp)
    have Fv:=G (show okH (l.take (k+1))=decide (0<=l[k].op/\l[k].op<=255/\l[k].name.size<=4194304)by
     rw[jK2 hM,okH,List.all_append];rw[okH]at Fp;rw[Fp];simp)
    have hY:=G (show¬(0<=l[k].op/\l[k].op<=255/\l[k].name.size<=4194304)->zm l=none from fun GH=>by
     rw[zm,jJ5];rintro ⟨_,h⟩;rw[okH,List.all_eq_true]at h;exact GH (by simpa using h _ (jL6 hM)))
    have M0:=GS.out _ (jL6 hM);have Ng:=G (show∃x,(bs++(be 2 l.length++(l.take k).flatMap zM))=bs++x from⟨_,rfl⟩);have Fi:=G (show(bs++(be 2 l.length++(l.take k).flatMap zM)).length<=600000000000 by
     have:=Hl.out;rw[jJ4,jJ4,jC];omega)
    generalize l[k]=y at*;obtain⟨op,name⟩:=y;have q0:=FK 0 _ rfl;have q1:=FK 1 _ rfl;simp only[Nat.add_zero]at q0 q1 Fm Fv hY M0;generalize bs++(be 2 l.length++(l.take k).flatMap zM)=cs at*;generalize zm l=HB at*;have Fn:=G FK;clear Fp FK hlen;have b1:(0:Int)<=(k:Int):=(by omega);have b2:(k:Int)<(l.length:Int):=(by omega);have b3:(k:Int).toNat=k:=(by omega);have b5:(k:Int)<=65535:=(by omega);by_cases hy:0<=op/\op<=255
    ·obtain⟨Lm,LM⟩:=hy;have LP:¬op<0:=(by omega);have SM:¬(255:Int)<op:=(by omega);have O0:IntKind.u8.wrap op=op:=IntWalk.u8_in _ (by omega);have ho:=(jQ0 NoX wr).alloc (.cells #[.int .i64 op,.string name] 105);have hb:=jQ2 wr 105 #[.int .i64 op,.string name];have Ho:=G ho;have Hx:=G (yx Ml (jL3 wr.heap.size));go_wp2_with fail;generalize wr.alloc _=W at*;refine(kY _ g r' cs op Lm LM (Ml.old Ho.out) (by have:=Fi.out;omega)).mono ?_;rintro e w2 ⟨rfl,r2,GE,hZ,Wy⟩;have d1:=(hb.kp hZ Hx.out).at_ 1 (v:=.string name) rfl;have HT:=G (fun w3 (Gj:Old w2 w3) B hr hv=>YT w3 g r2 (cs++be 1 op.toNat) B 1 [name] (GE.old Gj) (by have:=Fi.out;rw[jJ4,jC];omega) hr hv (by simp) (fun j hj=>by
      simp only[jK6,List.length_nil]at hj;obtain rfl:j=0:=(by omega);exact M0))
     have Hkf:=G ((KF.mk Na My).trans ((KF.of Ho.out).trans (KF.mk hZ Wy)));have LK:=G GE;have EJ:=G (HT.out _ ((jQ0 NoX w2).alloc (.cells #[.string name] 9)) _ (Rd.arr_new w2 _ [.string name]) (Av.new GE));have Gq:=G ((jQ0 NoX w2).alloc (.cells #[.string name] 9));clear hZ GE HT;go_wp2_with fail;refine EJ.out.mono ?_;intro e w3 ht;rcases ht.one with⟨rfl,hs,HU⟩|⟨rfl,hs,HU⟩
     ·obtain⟨r3,G8,f3⟩:=HU.kf;have Fq:=G ((Hkf.out.trans ((KF.of Gq.out).trans f3)).step G8);have Hs:=G hs;clear ht HU G8 f3 hs d1;go_wp2;go_roundw
      case rel=>exact⟨k+1,by omega,by go_num,by rw[Fv.out];have:=Hs.out;simp;omega,by rw[Fm.out];exact Fq.out⟩
      case measure=>simp[intOf];omega
     ·obtain⟨r3,G8,f3⟩:=HU.kf;have HZ:=G (show LayP w g r bs HB 300000000000 (.returned (.bool false)) w3 from by
       obtain⟨x,hx⟩:=Ng.out;rw[hx,jK1]at G8;exact .inr ⟨hY.out (fun h=>by omega),rfl,_,(Hkf.out.trans ((KF.of Gq.out).trans f3)).step G8⟩)
      clear ht HU G8 f3 hs d1;go_wp2;go_ret;exact HZ.out
    ·have HZ:=G (show LayP w g r bs HB 300000000000 (.returned (.bool false)) (wr.alloc (.cells #[.int .i64 op,.string name] 105))from by
      obtain⟨x,hx⟩:=Ng.out;exact .inr ⟨hY.out (fun h=>hy ⟨h.1,h.2.1⟩),rfl,x,WStep.old ⟨r',hx▸Ml,Na,My⟩ ((jQ0 NoX wr).alloc _)⟩)
     by_cases Lm:op<0
     ·go_wp2;go_ret;exact HZ.out
     ·have LM:(255:Int)<op:=(by omega);go_wp2;go_ret;exact HZ.out
   ·obtain rfl:k=l.length:=(by omega);have HZ:=G (show LayP w g r bs (zm l) 300000000000 (.returned (.bool true)) wr from by
     rw[jK4 (jL3 _)]at HU Fp;refine .inl ⟨be 2 l.length++l.flatMap zM,by rw[zm,jJ6 ⟨hm,Fp⟩],?_,rfl,HU⟩;have:=jAn l l.length (jL3 _) (by rw[jK4 (jL3 _)];exact Fp);rw[jK4 (jL3 _)]at this;rw[jJ4,jC];omega)
    go_wp2;go_ret;exact HZ.out
 ·have SN:(65535:Int)<(l.length:Int):=(by omega);have HZ:=G (show LayP w g r bs (zm l) 300000000000 (.returned (.bool false)) w from
   .inr ⟨by rw[zm,jJ5];exact fun h=>hm h.1,rfl,[],by rw[List.append_nil];exact hW.step⟩)
  clear Fj Fa FA;go_enter func54,ntmps54;go_wp2;go_ret;exact HZ.out
theorem jBv:∃i z,prog.info? 40=some i/\i.zero=some (.agg z)/\i.size=32/\i.bytes=32/\z.size=32:=by
 have h:(prog.info? 40).map (fun i=>(i.zero,i.size,i.bytes))=some (some (.agg zero32.toArray),32,32):=(by kernel_rfl);obtain⟨i,hi,h1,h2,h3⟩:=info_parts h;exact⟨i,_,hi,h1,h2,h3,rfl⟩
theorem jEo(W:World)(vs:List Value)(h:∀v∈vs,v.cells.size=32)(h0:0<vs.length)(h1:vs.length<=1000):
  (Instr.buildSlice 49 vs.length ((vs.zipIdx 0).map fun x=>(x.2,x.1)).toArray).run prog W=.ok (.slice (some ⟨W.heap.size,0,none⟩) vs.length vs.length) (W.alloc (.cells (vs.flatMap fun v=>v.cells.toList).toArray 40)):=by
 obtain⟨i,z,hi,hz,hs,hb,Ms⟩:=jBv;refine run_buildSlice W 49 40 vs.length _ _ i (.agg z) underlying49 hi hz (by rw[hs];simp;omega) (by rw[hs];omega) ?_;rw[hs];exact Great.fill_whole (by decide) vs _ h (by simp)
theorem jIN(W:World)(d:LB)(hd:d.length=32):
  (Instr.buildSlice 49 1 #[(0,.agg (jA d).toArray)]).run prog W=.ok (.slice (some ⟨W.heap.size,0,none⟩) 1 1) (W.alloc (.cells (jA d).toArray 40)):=by
 have:=jEo W [.agg (jA d).toArray] (fun v hv=>by
  rw[List.mem_singleton.1 hv];simp[Value.cells,jB,hd]) (by simp) (by simp)
 simpa [Value.cells]using this
theorem jIM(W:World)(d e:LB)(hd:d.length=32)(he:e.length=32):
  (Instr.buildSlice 49 2 #[(0,.agg (jA d).toArray),(1,.agg (jA e).toArray)]).run prog W=.ok (.slice (some ⟨W.heap.size,0,none⟩) 2 2) (W.alloc (.cells (jA d++jA e).toArray 40)):=by
 have:=jEo W [.agg (jA d).toArray,.agg (jA e).toArray] (fun v hv=>by
  rcases List.mem_cons.1 hv with rfl|hv
  ·simp[Value.cells,jB,hd]
  ·rw[List.mem_singleton.1 hv];simp[Value.cells,jB,he]) (by simp) (by simp)
 simpa [Value.cells]using this
theorem VK{ops:Array Oper}{rest:List Oper}{o:Oper}{a:Act}{w:World}{Q:Exit->Act->World->Prop}(hg:o.guard=none)(x:Operand)(ho:o.op=.buildSlice 49 1 #[(0,x)])(d:LB)(hd:d.length=32)
  (hx:a.eval x=.agg (jA d).toArray) (h:wpList prog ops Q rest (a.put o.dst (.slice (some ⟨w.heap.size,0,none⟩) 1 1)) (w.alloc (.cells (jA d).toArray 40))):wpList prog ops Q (o::rest) a w:=by
 refine wpList_plain hg fun K hK=> ?_;unfold Oper.wp execOp;simp only[ho,Sem.run_bind,List.map_toArray,List.map_cons,List.map_nil,hx,jIN w d hd,Result.andThen_ok];exact hK _ _ h
theorem jCw{ops:Array Oper}{rest:List Oper}{o:Oper}{a:Act}{w:World}{Q:Exit->Act->World->Prop}(hg:o.guard=none)(x y:Operand)(ho:o.op=.buildSlice 49 2 #[(0,x),(1,y)])(d e:LB)(hd:d.length=32)(he:e.length=32)
  (hx:a.eval x=.agg (jA d).toArray) (hy:a.eval y=.agg (jA e).toArray) (h:wpList prog ops Q rest (a.put o.dst (.slice (some ⟨w.heap.size,0,none⟩) 2 2)) (w.alloc (.cells (jA d++jA e).toArray 40))):wpList prog ops Q (o::rest) a w:=by
 refine wpList_plain hg fun K hK=> ?_;unfold Oper.wp execOp;simp only[ho,Sem.run_bind,List.map_toArray,List.map_cons,List.map_nil,hx,hy,jIM w d e hd he,Result.andThen_ok];exact hK _ _ h
theorem Ke{ops:Array Oper}{rest:List Oper}{o:Oper}{a:Act}{w:World}{Q:Act->Prop}(WY:o.guard=none)(ty:TypeId)(x:Operand)(ho:o.op=.load ty x)
  (b off:Nat) (hx:a.eval x=.pointer (some ⟨b,off,none⟩)) (cs:List Value) (d:TypeDesc) (hc:w.rangeAt b off cs) (hu:prog.underlying ty=some d) (hd:d.isRow=true) (hi:(prog.info? ty).map (·.size)=some cs.length)
  (h:wpStill prog ops w Q rest (a.put o.dst (.agg cs.toArray))):wpStill prog ops w Q (o::rest) a:=by
 have hw:Region.wanted o (yielded ops a.tmps)=true:=(by simp[Region.wanted,WY]);unfold wpStill;rw[jJ6 hw];unfold Oper.still execOp;simp only[ho,hx,Instr.loadAt,Instr.sureAddr,Sem.run_bind,Sem.run_pure,Result.andThen_ok,run_loadVar_mid w b off ty cs d hc hu hd hi];exact⟨rfl,h⟩
theorem Tryz.mixed:prog.follows .mixedOrders=true:=by kernel_rfl
theorem Rd.row_new(w:World)(t:TypeId)(s n:Nat)(l:List Value)(hl:l.length=n*s):Rd (w.alloc (.cells l.toArray t)) s (some ⟨w.heap.size,0,none⟩) n l:=by
 refine⟨hl,fun _=>⟨_,_,rfl,fun j u hu=> ?_⟩⟩;have hb:=jQ2 w t l.toArray;rw[Nat.zero_add,hb.cell j];simpa using hu
def Sub(cs:List Value)(o:Nat)(xs:List Value):Prop:=∀j v,xs[j]? =some v->cs[o+j]? =some v
theorem Sub.range{w:World}{g:Nat}{t:TypeId}{cs xs:List Value}{o:Nat}(h:Sub cs o xs)(hb:Blk w g t cs.toArray):w.rangeAt g o xs:=by
 intro j v hv;rw[hb.cell,jJ7];exact h j v hv
theorem Sub.mid(pre xs post:List Value):Sub (pre++(xs++post)) pre.length xs:=by
 intro j v hv;rw[List.getElem?_append_right (by omega),Nat.add_sub_cancel_left,List.getElem?_append_left (List.getElem?_eq_some_iff.1 hv).1,hv]
theorem Sub.mid_(pre xs post:List Value)(o:Nat)(h:pre.length=o):Sub (pre++(xs++post)) o xs:=h▸Sub.mid pre xs post
theorem Sub.end_(pre xs:List Value)(o:Nat)(h:pre.length=o):Sub (pre++xs) o xs:=by
 have:=Sub.mid_ pre xs [] o h;simpa using this
theorem Sub.trans{cs xs ys:List Value}{o p:Nat}(h:Sub cs o xs)(k:Sub xs p ys):Sub cs (o+p) ys:=fun j v hv=>by
 rw[Nat.add_assoc];exact h _ v (k j v hv)
def um(c:UInt8):Bool:=decide (97<=c.toNat/\c.toNat<=122\/48<=c.toNat/\c.toNat<=57\/c.toNat=45)
def uB(s:BA):Bool:=decide (0<s.size/\s.size<=64)&&(sb s).all um
def kT(s:BA):Bool:=decide (s.size<=64)&&(sb s).all um
theorem ZJ(s:BA)(k:Nat)(h:k<s.size):(sb s).take (k+1)=(sb s).take k++[s[k]]:=by
 have h' :k<(sb s).length:=by rw[jH];exact h
 rw[jK2 h'];rfl
theorem jEL(w:World)(s:BA)(hs:s.size<=9223372036854775807):Calls prog 180 #[.string s,.int .i64 64] w fun e w' =>e=.returned (.bool (uB s))/\w=w' :=by
 have HL:=G (show uB s=(decide (0<s.size/\s.size<=64)&&(sb s).all um)from rfl);generalize uB s=R at*;by_cases h0:s.size=0
 ·have hY:=G (show R=false by rw[HL.out,jK3 (by omega)];rfl);have b0:((s.size:Int)==0)=true:=by rw[h0];rfl
  have Hz:=G h0;clear h0;go_enter func180,ntmps180;go_wp2;go_ret;exact⟨by rw[hY.out];rfl,rfl⟩
 ·have b0:((s.size:Int)==0)=false:=beq_eq_false_iff_ne.2 (by omega);by_cases h1:s.size<=64
  ·have b1:¬(64:Int)<(s.size:Int):=(by omega);have Hc:=G (show R=(sb s).all um by rw[HL.out,jK5 (by omega)];rfl);clear hs;go_enter func180,ntmps180;go_wp2;go_loop [18] (fun i=>∃k:Nat,k<=s.size/\i=.int .i64 k/\((sb s).take k).all um=true) (fun i=>s.size-(intOf i).toNat)
   case atStart=>exact⟨0,Nat.zero_le _,rfl,rfl⟩
   case round=>
    obtain⟨k,hk,rfl,Fp⟩:=hrel;by_cases hM:k<s.size
    ·have Fv:=G (show((sb s).take (k+1)).all um=um s[k]by rw[ZJ s k hM,List.all_append,Fp];simp);have hY:=G (show um s[k]=false->R=false from fun h=>by
      rw[Hc.out,<-Bool.not_eq_true,List.all_eq_true];intro h';have:=h' s[k] (by
       have:s[k]=(sb s)[k]'(by rw[jH];exact hM):=rfl;rw[this];exact jL6 _)
      rw[h]at this;cases this)
     have Hy:=G (show um s[k]=decide (97<=s[k].toNat/\s[k].toNat<=122\/48<=s[k].toNat/\s[k].toNat<=57\/s[k].toNat=45)from rfl);have b2:(0:Int)<=(k:Int):=(by omega);have b3:(k:Int)<(s.size:Int):=(by omega);have b4:(k:Int).toNat=k:=(by omega);have WU:s[k].toNat<256:=s[k].toNat_lt;clear Fp;have M9:s[k].toNat<45\/s[k].toNat=45\/45<s[k].toNat/\s[k].toNat<48\/48<=s[k].toNat/\s[k].toNat<=57\/57<s[k].toNat/\s[k].toNat<97\/97<=s[k].toNat/\s[k].toNat<=122\/122<s[k].toNat:=(by omega);rcases M9 with hc|hc|hc|hc|hc|hc|hc
     ·have f1:(s[k].toNat:Int)<97:=(by omega);have f3:(s[k].toNat:Int)<48:=(by omega);have f5:((s[k].toNat:Int) !=45)=true:=bne_iff_ne.2 (by omega);have Hn:=G (hY.out (by rw[Hy.out,jK3 (by omega)]));clear hc Hy hY Fv WU;go_wp2;go_ret;exact⟨by rw[Hn.out];rfl,rfl⟩
     ·have f1:(s[k].toNat:Int)<97:=(by omega);have f3:(s[k].toNat:Int)<48:=(by omega);have f5:((s[k].toNat:Int) !=45)=false:=by rw[show(s[k].toNat:Int)=45 by omega];rfl
      have Hg:=G (show um s[k]=true by rw[Hy.out,jK5 (by omega)]);clear hc Hy hY WU;go_wp2;go_round
      case rel=>exact⟨k+1,by omega,by go_num,by rw[Fv.out,Hg.out]⟩
      case measure=>simp[intOf];omega
     ·have f1:(s[k].toNat:Int)<97:=(by omega);have f3:(s[k].toNat:Int)<48:=(by omega);have f5:((s[k].toNat:Int) !=45)=true:=bne_iff_ne.2 (by omega);have Hn:=G (hY.out (by rw[Hy.out,jK3 (by omega)]));clear hc Hy hY Fv WU;go_wp2;go_ret;exact⟨by rw[Hn.out];rfl,rfl⟩
     ·have f1:(s[k].toNat:Int)<97:=(by omega);have f3:¬(s[k].toNat:Int)<48:=(by omega);have f4:¬(57:Int)<(s[k].toNat:Int):=(by omega);have Hg:=G (show um s[k]=true by rw[Hy.out,jK5 (by omega)]);clear hc Hy hY WU;go_wp2;go_round
      case rel=>exact⟨k+1,by omega,by go_num,by rw[Fv.out,Hg.out]⟩
      case measure=>simp[intOf];omega
     ·have f1:(s[k].toNat:Int)<97:=(by omega);have f3:¬(s[k].toNat:Int)<48:=(by omega);have f4:(57:Int)<(s[k].toNat:Int):=(by omega);have f5:((s[k].toNat:Int) !=45)=true:=bne_iff_ne.2 (by omega);have Hn:=G (hY.out (by rw[Hy.out,jK3 (by omega)]));clear hc Hy hY Fv WU;go_wp2;go_ret;exact⟨by rw[Hn.out];rfl,rfl⟩
     ·have f1:¬(s[k].toNat:Int)<97:=(by omega);have f2:¬(122:Int)<(s[k].toNat:Int):=(by omega);have Hg:=G (show um s[k]=true by rw[Hy.out,jK5 (by omega)]);clear hc Hy hY WU;go_wp2;go_round
      case rel=>exact⟨k+1,by omega,by go_num,by rw[Fv.out,Hg.out]⟩
      case measure=>simp[intOf];omega
     ·have f1:¬(s[k].toNat:Int)<97:=(by omega);have f2:(122:Int)<(s[k].toNat:Int):=(by omega);have f3:¬(s[k].toNat:Int)<48:=(by omega);have f4:(57:Int)<(s[k].toNat:Int):=(by omega);have f5:((s[k].toNat:Int) !=45)=true:=bne_iff_ne.2 (by omega);have Hn:=G (hY.out (by rw[Hy.out,jK3 (by omega)]));clear hc Hy hY Fv WU;go_wp2;go_ret;exact⟨by rw[Hn.out];rfl,rfl⟩
    ·obtain rfl:k=s.size:=(by omega);have FT:=G (show R=true by rw[Hc.out,<-Fp,jK4 (by rw[jH];omega)]);clear Fp;go_wp2;go_ret;exact⟨by rw[FT.out];rfl,rfl⟩
  ·have b1:(64:Int)<(s.size:Int):=(by omega);have hY:=G (show R=false by rw[HL.out,jK3 (by omega)];rfl);go_enter func180,ntmps180;go_wp2;go_ret;exact⟨by rw[hY.out];rfl,rfl⟩
theorem jH2(s:BA):∀(n i:Nat) (r:LB),s.size-i=n->ByteArray.toList.loop s i r=r.reverse++s.data.toList.drop i:=by
 intro n
 induction n with
 |zero=>
  intro i r h;rw[ByteArray.toList.loop];have:¬i<s.size:=(by omega);rw[jJ5 this,List.drop_of_length_le (by rw[Array.length_toList];show s.size<=i;omega)];simp
 |succ n ih=>
  intro i r h;rw[ByteArray.toList.loop];have hi:i<s.size:=(by omega);rw[jJ6 hi,ih (i+1) _ (by omega)];have hl:i<s.data.toList.length:=by rw[Array.length_toList];exact hi
  rw[List.drop_eq_getElem_cons hl];simp[ByteArray.get!,hi]
theorem QI(s:BA):s.toList=sb s:=by
 rw[ByteArray.toList,jH2 s _ 0 [] rfl];simp[sb]
theorem KM(w:World)(s:BA)(hs:s.size<=9223372036854775807):Calls prog 153 #[.string s] w fun e w' =>e=.returned (.bool (kT s))/\w=w' :=by
 by_cases h0:s.size=0
 ·have h1:sb s=[]:=List.eq_nil_of_length_eq_zero (by rw[jH];exact h0);obtain rfl:s=⟨#[]⟩:=(by rw[<-qf s,h1]);go_enter func153,ntmps153;go_wp2;go_ret;exact⟨by rw[show kT ⟨#[]⟩=true from by decide];rfl,rfl⟩
 ·have b0:s.toList.isEmpty=false:=by
   rw[QI,List.isEmpty_eq_false_iff];intro h;have:=congrArg List.length h;rw[jH]at this;exact h0 this
  have b1:¬s.toList=[]:=by rw[<-List.isEmpty_iff,b0];simp
  have HL:=G (jEL w s hs);have Hn:=G (show kT s=uB s by
   rw[kT,uB]
   congr 1
   exact decide_eq_decide.2 (by omega))
  rw[Hn.out];generalize uB s=R at*;clear hs;go_enter func153,ntmps153;go_wp2_with fail;refine HL.out.mono ?_;rintro e w' ⟨rfl,rfl⟩;go_wp2;go_ret;exact⟨rfl,rfl⟩
def yw(size number:Nat):Nat->Nat->Nat->Nat
 |0,_,n=>n
 |f+1,lev,n=>if 2^lev<size then yw size number f (lev+1) (if(number/2^lev^^^1)*2^lev<size then n+1 else n)else n
def yA(size number:Int):Option Nat:=if 1<=size/\size<=1099511627776/\0<=number/\number<size then some (yw size.toNat number.toNat 41 0 0)else none
theorem Zs(size number:Nat):∀(f lev n:Nat),yw size number f lev n<=n+f
 |0,_,n=>jL3 n
 |f+1,lev,n=>by
  rw[yw];split
  ·generalize hm:(if(number/2^lev^^^1)*2^lev<size then n+1 else n)=m;have:=Zs size number f (lev+1) m;have hm' :m<=n+1:=by rw[<-hm];split<;>omega
   omega
  ·omega
theorem XG(a b:Nat)(ha:a<9223372036854775808)(hb:b<9223372036854775808):bits .xor .i64 (a:Int) (b:Int)=((a^^^b:Nat):Int):=by
 have hx:a^^^b<2^63:=Nat.xor_lt_two_pow (by omega) (by omega);have h1:(BitVec.ofInt 64 (a:Int)).toNat=a:=by
  rw[BitVec.ofInt_natCast,BitVec.toNat_ofNat];exact Nat.mod_eq_of_lt (by omega)
 have h2:(BitVec.ofInt 64 (b:Int)).toNat=b:=by
  rw[BitVec.ofInt_natCast,BitVec.toNat_ofNat];exact Nat.mod_eq_of_lt (by omega)
 show IntKind.i64.wrap ((BitVec.ofInt 64 (a:Int)^^^BitVec.ofInt 64 (b:Int)).toNat:Int)=_;rw[BitVec.toNat_xor,h1,h2];exact jQ3 _ (by omega)
theorem YF(lev:Nat)(h:lev<=40):2^lev<=1099511627776:=by
 have:(2:Nat)^lev<=2^40:=Nat.pow_le_pow_right (by decide) h;simpa using this
theorem Uu(lev:Nat)(h:lev<=40):wrap64 ((2:Int)^lev)=((2^lev:Nat):Int):=by
 have h1:=YF lev h;have e:((2:Int)^lev)=((2^lev:Nat):Int):=(by simp);rw[e];generalize 2^lev=P at*;exact IntWalk.wrap64_in _ (by omega)
theorem jFF(N lev:Nat)(h:lev<=40)(hN:N<=1099511627776):wrap64 (bits .xor .i64 ((N:Int)/2^lev) 1*2^lev)=(((N/2^lev^^^1)*2^lev:Nat):Int):=by
 have e1:((N:Int)/2^lev)=((N/2^lev:Nat):Int):=(by simp);have e2:bits .xor .i64 ((N/2^lev:Nat):Int) 1=((N/2^lev^^^1:Nat):Int):=XG _ 1 (by have:=Nat.div_le_self N (2^lev);omega) (by decide);have e3:((2:Int)^lev)=((2^lev:Nat):Int):=(by simp);rw[e1,e2,e3,<-Int.natCast_mul];have h1:=YF lev h;have h2:N/2^lev^^^1<=N/2^lev+1:=by
  have h1:(N/2^lev^^^1)/2=(N/2^lev)/2:=by rw[Nat.xor_div_two];simp
  omega
 have h3:(N/2^lev^^^1)*2^lev<=(N/2^lev+1)*2^lev:=Nat.mul_le_mul_right _ h2;have h4:N/2^lev*2^lev<=N:=Nat.div_mul_le_self _ _;have h5:(N/2^lev+1)*2^lev=N/2^lev*2^lev+2^lev:=(by rw[Nat.add_mul,Nat.one_mul]);exact IntWalk.wrap64_in _ (by omega)
theorem zh(size number:Nat)(f lev n:Nat)(h:¬2^lev<size):yw size number f lev n=n:=by
 cases f with
 |zero=>rfl
 |succ f=>rw[yw,jJ5 h]
def jFC(w:World)(o:Option Nat)(e:Ending)(w' :World):Prop:=(match o with|some n=>e=.returned (.tuple #[.int .i64 (n:Int),.bool true])|none=>e=.returned (.tuple #[.int .i64 0,.bool false]))/\w=w'
theorem Ku(w:World)(size number:Int):Calls prog 108 #[.int .i64 size,.int .i64 number] w (jFC w (yA size number)):=by
 by_cases Hu:1<=size/\size<=1099511627776/\0<=number/\number<size
 ·have Hb:=G (show yA size number=some (yw size.toNat number.toNat 41 0 0)by rw[yA,jJ6 Hu]);generalize yA size number=B at*;obtain⟨h1,h2,h3,h4⟩:=Hu;obtain⟨S,rfl⟩:=Int.eq_ofNat_of_zero_le (show 0<=size by omega);obtain⟨N,rfl⟩:=Int.eq_ofNat_of_zero_le h3;rw[jL1,jL1]at Hb;have g1:¬(S:Int)<1:=(by omega);have g2:¬(1099511627776:Int)<(S:Int):=(by omega);have g3:¬(N:Int)<0:=(by omega);have g4:¬(S:Int)<=(N:Int):=(by omega);go_enter func108,ntmps108;go_wp2;go_loop [6,7] (fun n l=>∃(lev m:Nat),lev<=40/\m<=lev/\l=.int .i64 lev/\n=.int .i64 m/\yw S N 41 0 0=yw S N (41-lev) lev m) (fun _ l=>41-(intOf l).toNat)
  case atStart=>exact⟨0,0,by omega,by omega,rfl,rfl,rfl⟩
  case round=>
   obtain⟨lev,m,hl,hm,rfl,rfl,FM⟩:=hrel;have Fs:=G FM;clear FM;have c1:(0:Int)<=(lev:Int):=(by omega);have c2:(lev:Int)<=40:=(by omega);have e1:=Uu lev hl;have e2:=jFF N lev hl (by omega);have Hp:=G (YF lev hl);have HZ:=G (fun h:¬2^lev<S=>zh S N (41-lev) lev m h);have LR:=G (fun(h:2^lev<S)=>show yw S N (41-lev) lev m=yw S N (41-(lev+1)) (lev+1) (if(N/2^lev^^^1)*2^lev<S then m+1 else m)by
    rw[show 41-lev=(41-(lev+1))+1 by omega,yw,jJ6 h])
   have J6:=G (fun(h:2^lev<S)=>show lev<40 by
    rcases Nat.lt_or_ge lev 40 with h' |h'
    ·exact h'
    ·exfalso;have:lev=40:=(by omega);subst this;omega)
   generalize (N/2^lev^^^1)*2^lev=X at*;generalize 2^lev=P at*;by_cases hP:P<S
   ·have p1:(P:Int)<(S:Int):=(by omega);have h40:=J6.out hP;have Hs:=G (LR.out hP);by_cases hX:X<S
    ·have p2:(X:Int)<(S:Int):=(by omega);go_wp2;go_round
     case rel=>exact⟨lev+1,m+1,by omega,by omega,by go_num,by go_num,by rw[Fs.out,Hs.out,jJ6 hX]⟩
     case measure=>simp[intOf];omega
    ·have p2:¬(X:Int)<(S:Int):=(by omega);go_wp2;go_round
     case rel=>exact⟨lev+1,m,by omega,by omega,by go_num,rfl,by rw[Fs.out,Hs.out,jJ5 hX]⟩
     case measure=>simp[intOf];omega
   ·have p1:¬(P:Int)<(S:Int):=(by omega);have Fm:=G (show B=some m by rw[Hb.out,Fs.out,HZ.out hP]);go_wp2
    go_ret2
    rw[Fm.out];exact⟨rfl,rfl⟩
 ·have Hb:=G (show yA size number=none by rw[yA,jJ5 Hu]);rw[Hb.out];by_cases h1:size<1
  ·go_enter func108,ntmps108;go_wp2
   go_ret2
   exact⟨rfl,rfl⟩
  ·by_cases h2:1099511627776<size
   ·go_enter func108,ntmps108;go_wp2
    go_ret2
    exact⟨rfl,rfl⟩
   ·by_cases h3:number<0
    ·go_enter func108,ntmps108;go_wp2
     go_ret2
     exact⟨rfl,rfl⟩
    ·have h4:size<=number:=(by omega);go_enter func108,ntmps108;go_wp2
     go_ret2
     exact⟨rfl,rfl⟩
structure Hd where
 log:LB
 size:Int
 root:LB
 index:LB
 clock:Int
def Hd.cells(h:Hd):List Value:=jA h.log++([.int .i64 h.size]++(jA h.root++(jA h.index++[.int .i64 h.clock])))
structure Hd.Ok(h:Hd):Prop where
 log:h.log.length=32
 root:h.root.length=32
 index:h.index.length=32
def vU(h:Hd):Bool:=decide (0<=h.size/\h.size<=1099511627776/\0<=h.clock/\h.clock<=4611686018427387904)
def vh(h:Hd):LB:=be 1 32++(h.log++(be8 h.size++(h.root++(h.index++be8 h.clock))))
section
variable{h:Hd}(k:h.Ok)
include k
theorem Hd.Ok.len:h.cells.length=98:=by
 simp[Hd.cells,jB,k.log,k.root,k.index]
omit k in
theorem Hd.s0:Sub h.cells 0 (jA h.log):=Sub.mid_ [] _ _ 0 rfl
theorem Hd.Ok.s32:h.cells[32]? =some (.int .i64 h.size):=by
 have:=(Sub.mid_ (jA h.log) [.int .i64 h.size] (jA h.root++(jA h.index++[.int .i64 h.clock])) 32 (by rw[jB,k.log])) 0 _ rfl;exact this
theorem Hd.Ok.s33:Sub h.cells 33 (jA h.root):=by
 have:=Sub.mid_ (jA h.log++[.int .i64 h.size]) (jA h.root) (jA h.index++[.int .i64 h.clock]) 33 (by simp[jB,k.log]);simpa [Hd.cells]using this
theorem Hd.Ok.s65:Sub h.cells 65 (jA h.index):=by
 have:=Sub.mid_ (jA h.log++([.int .i64 h.size]++jA h.root)) (jA h.index) [.int .i64 h.clock] 65 (by simp[jB,k.log,k.root]);simpa [Hd.cells]using this
theorem Hd.Ok.s97:h.cells[97]? =some (.int .i64 h.clock):=by
 have:=(Sub.end_ (jA h.log++([.int .i64 h.size]++(jA h.root++jA h.index))) [.int .i64 h.clock] 97 (by simp[jB,k.log,k.root,k.index])) 0 _ rfl;simpa [Hd.cells]using this
theorem JN:(vh h).length=113:=by simp[vh,jC,jG,k.log,k.root,k.index]
end
theorem jBy(w:World)(h:Hd)(hk:h.Ok):Calls prog 105 #[.agg h.cells.toArray] w fun e w' =>e=.returned (.bool (vU h))/\Old w w' :=by
 have hb:=jQ2 w 45 h.cells.toArray;have c32:=hb.at_ 32 (by rw[jJ7];exact hk.s32);have c97:=hb.at_ 97 (by rw[jJ7];exact hk.s97);have Ho:=G ((jQ0 NoX w).alloc (.cells h.cells.toArray 45));have HR:=G (show vU h=decide (0<=h.size/\h.size<=1099511627776/\0<=h.clock/\h.clock<=4611686018427387904)from rfl);generalize vU h=R at*;generalize h.cells=cs at*;generalize h.size=s at*;generalize h.clock=t at*;clear hb;by_cases h1:0<=s
 ·by_cases h2:s<=1099511627776
  ·by_cases h3:0<=t
   ·by_cases h4:t<=4611686018427387904
    ·go_enter func105,ntmps105;go_wp2;go_ret;exact⟨by rw[HR.out,jK5 (by omega)];rfl,Ho.out⟩
    ·go_enter func105,ntmps105;go_wp2;go_ret;exact⟨by rw[HR.out,jK3 (by omega)];rfl,Ho.out⟩
   ·go_enter func105,ntmps105;go_wp2;go_ret;exact⟨by rw[HR.out,jK3 (by omega)];rfl,Ho.out⟩
  ·go_enter func105,ntmps105;go_wp2;go_ret;exact⟨by rw[HR.out,jK3 (by omega)];rfl,Ho.out⟩
 ·go_enter func105,ntmps105;go_wp2;go_ret;exact⟨by rw[HR.out,jK3 (by omega)];rfl,Ho.out⟩
theorem jGY(w:World)(g:Nat)(r:Option Nat)(bs:LB)(h:Hd)(hk:h.Ok)(hW:Wr w g r bs)(hl:bs.length<=600000000000):
  Calls prog 107 #[.pointer (some ⟨g,0,none⟩),.agg h.cells.toArray] w fun e w' =>e=.returned (.tuple #[])/\WStep w g r w' (bs++vh h):=by
 have Hl:=G hl;have Hb:=G (jQ2 w 45 h.cells.toArray);have Ho:=G ((jQ0 NoX w).alloc (.cells h.cells.toArray 45));have Hx:=G (yx hW (jL3 w.heap.size));have S0:=G h.s0;have S33:=G hk.s33;have S65:=G hk.s65;have S32:=G hk.s32;have S97:=G hk.s97;have Hk:=G hk;have HW:=G hW;clear hl hk hW;have HB:=G (show vh h=be 1 32++(h.log++(be8 h.size++(h.root++(h.index++be8 h.clock))))from rfl);have R0:=G (show(prog.info? 40).map (·.size)=some (jA h.log).length by rw[jB,Hk.out.log];exact jO);have GV:=G (show(prog.info? 40).map (·.size)=some (jA h.root).length by rw[jB,Hk.out.root];exact jO);have I4:=G (show(prog.info? 40).map (·.size)=some (jA h.index).length by rw[jB,Hk.out.index];exact jO);generalize vh h=hB at*;generalize h.cells=cs at*;go_enter func107,ntmps107;go_wp2_with fail;refine(kY _ g r bs 32 (by decide) (by decide) (HW.out.old Ho.out) (by have:=Hl.out;omega)).mono ?_;rintro e w1 ⟨rfl,HU⟩;obtain⟨r1,FF,f1⟩:=HU.kf;generalize w.alloc _=W at*;have NC:=G FF;have F1:=G f1;have Fn:=G (S0.out.range (f1.blk Hb.out Hx.out));clear HU FF f1;go_wp2_with (first|refine jK rfl 40 (.tmp 7) rfl w.heap.size 0 rfl (jA h.log) _ Fn.out underlying40 rfl R0.out ?_ |refine VK rfl (.tmp 8) rfl h.log Hk.out.log rfl ?_ |fail);refine(yg _ g r1 _ _ 1 1 [h.log] rfl (fun d hd=>by rw[List.mem_singleton.1 hd];exact Hk.out.log) (NC.out.old ((jQ0 _ _).alloc _)) (by have:=Hl.out;rw[jJ4,jC];omega) (by omega) (by
  have:=Rd.row_new w1 40 32 1 (jA h.log) (by rw[jB,Hk.out.log]);simpa using this) (Av.new NC.out)).mono ?_
 rintro e w2 ⟨rfl,HU⟩;obtain⟨r2,GE,f2⟩:=HU.kf;rw[List.flatten_singleton]at GE;have LK:=G GE;have F2:=G (F1.out.trans ((KF.of ((jQ0 NoX w1).alloc _)).trans f2));have c32:=(F2.out.blk Hb.out Hx.out).at_ 32 (by rw[jJ7];exact S32.out);clear HU GE f2 F1 NC Fn;have FK:=yG h.size;have V1:=G (show(bs++be 1 ((32:Int)).toNat++h.log).length<=610000000000 by
  have:=Hl.out;rw[jJ4,jJ4,jC,Hk.out.log];omega)
 go_wp2_with fail;refine(JJ _ g r2 _ _ FK.1 FK.2 LK.out (by have:=V1.out;omega)).mono ?_;rintro e w3 ⟨rfl,HU⟩;obtain⟨r3,G8,f3⟩:=HU.kf;rw[IntKind.wrap_u64]at G8;have Mf:=G G8;have F3:=G (F2.out.trans f3);have L9:=F3.out.blk Hb.out Hx.out;have MZ:=G (S33.out.range L9);have MY:=G (S65.out.range L9);clear HU G8 f3 F2 LK c32 L9 FK;go_wp2_with (first|refine jK rfl 40 (.tmp 17) rfl w.heap.size 33 rfl (jA h.root) _ MZ.out underlying40 rfl GV.out ?_ |refine jK rfl 40 (.tmp 19) rfl w.heap.size 65 rfl (jA h.index) _ MY.out underlying40 rfl I4.out ?_ |refine jCw rfl (.tmp 18) (.tmp 20) rfl h.root h.index Hk.out.root Hk.out.index rfl rfl ?_ |fail);refine(yg _ g r3 _ _ 2 2 [h.root,h.index] rfl (fun d hd=>by
  rcases List.mem_cons.1 hd with rfl|hd
  ·exact Hk.out.root
  ·rw[List.mem_singleton.1 hd];exact Hk.out.index) (Mf.out.old ((jQ0 _ _).alloc _)) (by have:=V1.out;rw[jJ4,jC];omega) (by omega) (by
  have:=Rd.row_new w3 40 32 2 (jA h.root++jA h.index) (by rw[jJ4,jB,jB,Hk.out.root,Hk.out.index]);simpa using this) (Av.new Mf.out)).mono ?_
 rintro e w4 ⟨rfl,HU⟩;obtain⟨r4,M2,f4⟩:=HU.kf;have Lg:=G M2;have F4:=G (F3.out.trans ((KF.of ((jQ0 NoX w3).alloc _)).trans f4));have c97:=(F4.out.blk Hb.out Hx.out).at_ 97 (by rw[jJ7];exact S97.out);clear HU M2 f4 F3 Mf MZ MY;have FK:=yG h.clock;go_wp2_with fail;refine(JJ _ g r4 _ _ FK.1 FK.2 Lg.out (by have:=V1.out;simp only[jJ4,jC,List.flatten_cons,List.flatten_nil,List.append_nil,Hk.out.root,Hk.out.index]at*;omega)).mono ?_;rintro e w5 ⟨rfl,HU⟩;obtain⟨r5,NI,f5⟩:=HU.kf;rw[IntKind.wrap_u64]at NI;have HZ:=G (show WStep w g r w5 (bs++hB)from by
  have h1:=WStep.after Ho.out ((F4.out.trans f5).step NI);rw[HB.out];simpa [jK1,be8]using h1)
 clear HU NI f5 c97;go_wp2;go_end0;exact⟨rfl,HZ.out⟩
end Go.Proofs.YtnaolhjbapgjgaaGreat

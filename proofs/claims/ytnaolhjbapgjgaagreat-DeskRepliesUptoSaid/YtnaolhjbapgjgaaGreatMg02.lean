import Derived.Test.YtnaolhjbapgjgaaGreatMg01
import Derived.Laws.MakeOwn
import Derived.Laws.OwnMore
import Derived.Deep.MidRow
set_option maxRecDepth 100000
set_option maxHeartbeats 6400000
namespace Go.Proofs.YtnaolhjbapgjgaaGreat
open Go.Proofs.Tryz
open Go.RowKit
theorem Yw(n:Nat)(hn:n<=100000000000)(W:World):
  (Instr.makeSlice 22 (.int .i64 (n:Int)) (.int .i64 (n:Int))).run prog W=.ok (.slice (some ⟨W.heap.size,0,none⟩) n n) (W.alloc (.cells (List.replicate n (Value.int .u8 0)).toArray 5)):=by
 obtain⟨i,hi,Fz,Ft,FC⟩:=info_parts kc;have hr:=run_make (P:=prog) W 22 5 i (.int .u8 0) underlying22 hi Fz .i64 .i64 n n (by omega) (by omega) (by rw[FC];omega) (by omega);simp only[jL1,Ft,Nat.mul_one]at hr;have h0:(Value.int IntKind.u8 0).cells= #[.int .u8 0]:=rfl;have e:madeCells (Value.int IntKind.u8 0).cells n=(List.replicate n (Value.int .u8 0)).toArray:=by
  rw[h0];apply Array.toList_inj.1;rw[toList_madeCells_one]
 rw[hr,e]
def YR(xs:LB)(n k:Nat)(v:Value):List Value:=(xs.take k).map bv++List.replicate (n-k) v
theorem jB6(xs:LB)(n:Nat)(v:Value):YR xs n 0 v=List.replicate n v:=by simp[YR]
theorem uC(xs:LB)(v:Value):YR xs xs.length xs.length v=xs.map bv:=by simp[YR]
theorem Qr(xs:LB)(n k:Nat)(v:Value)(hk:k<n)(hx:k<xs.length):(YR xs n k v).set k (bv xs[k])=YR xs n (k+1) v:=by
 unfold YR;have hl:((xs.take k).map bv).length=k:=by rw[jK7,jK9];omega
 rw[List.set_append_right _ _ (by omega),hl,Nat.sub_self,jK2 hx];obtain⟨m,hm⟩:∃m,n-k=m+1:=⟨n-k-1,by omega⟩;rw[hm,List.replicate_succ,jJ2,show n-(k+1)=m by omega,List.map_append,jK1];rfl
theorem Qs(xs:LB)(n k:Nat)(v:Value)(hk:k<n)(hx:k<=xs.length):(YR xs n k v)[k]? =some v:=by
 unfold YR;have hl:((xs.take k).map bv).length=k:=by rw[jK7,jK9];omega
 rw[List.getElem?_append_right (by omega),hl,Nat.sub_self];obtain⟨m,hm⟩:∃m,n-k=m+1:=⟨n-k-1,by omega⟩;rw[hm,List.replicate_succ];rfl
def xF(xs:LB)(k:Nat)(v:Value):List Value:=List.replicate (xs.length-k) v++(xs.drop (xs.length-k)).map bv
theorem jCA(xs:LB)(v:Value):xF xs 0 v=List.replicate xs.length v:=by simp[xF]
theorem jCB(xs:LB)(v:Value):xF xs xs.length v=xs.map bv:=by simp[xF]
theorem jEZ(xs:LB)(k:Nat)(v:Value)(hk:k<xs.length):(xF xs k v).set (xs.length-1-k) (bv (xs[xs.length-1-k]'(by omega)))=xF xs (k+1) v:=by
 unfold xF;obtain⟨m,hm⟩:∃m,xs.length-k=m+1:=⟨xs.length-k-1,by omega⟩;have e1:xs.length-(k+1)=m:=(by omega);have e2:xs.length-1-k=m:=(by omega);simp only[e2,hm,e1];rw[List.replicate_succ',jK1,List.set_append_right _ _ (by simp),List.length_replicate,Nat.sub_self];rw[List.drop_eq_getElem_cons (i:=m) (by omega)];rfl
theorem jEa(xs:LB)(k:Nat)(v:Value)(hk:k<xs.length):(xF xs k v)[xs.length-1-k]? =some v:=by
 unfold xF;rw[List.getElem?_append_left (by simp;omega),List.getElem?_replicate,jJ6 (by omega)]
theorem Rd.of_blk{w:World}{g:Nat}{t:TypeId}{xs:List Value}(h:Blk w g t xs.toArray):Rd w 1 (some ⟨g,0,none⟩) xs.length xs:=by
 refine⟨by simp,fun _=>⟨_,_,rfl,fun j u hu=> ?_⟩⟩;rw[Nat.zero_add,h.cell j];simpa using hu
theorem xq{w:World}{g base:Nat}{t:TypeId}{xs:List Value}(h:Blk w g t xs.toArray)(hb:base<=g)(hm:xs.length<=maxLen):w.ownsRow base t 1 (.slice (some ⟨g,0,none⟩) xs.length xs.length) xs.length xs:=by
 refine⟨by simp,.inr ⟨g,xs.length,xs.toArray,rfl,hb,h,jL3 _,hm,by simp,by simp⟩⟩
section
variable{P:Program}
theorem VJ{t:TypeId}(ht:P.underlying t=some (.slice (P.elem t))){s:Nat}(hs:∀w,(sizeOf (P.elem t)).run P w=.ok s w)(A:OA)(len c l h:Nat)(kl kh:IntKind)(L H:Int)(hL:L=l)(hH:H=h)(hlh:l<=h)(hh:h<=c)(w:World):
  (Instr.slice t (.slice A len c) (some (.int kl L)) (some (.int kh H)) none).run P w=.ok (.slice (if c=l then A else A.map (·.add (l*s))) (h-l) (c-l)) w:=by
 subst hL;subst hH;rw[run_slice_lh (ht:=ht) (h0:=by omega) (h1:=by omega) (h2:=by omega),hs];simp[sliced]
theorem jCO{t:TypeId}(ht:P.underlying t=some (.slice (P.elem t))){s:Nat}(hs:∀w,(sizeOf (P.elem t)).run P w=.ok s w)(A:OA)(len c h:Nat)(kh:IntKind)(H:Int)(hH:H=h)(hh:h<=c)(w:World):
  (Instr.slice t (.slice A len c) none (some (.int kh H)) none).run P w=.ok (.slice A h c) w:=by
 subst hH;rw[run_slice_h (ht:=ht) (h0:=by omega) (h2:=by omega),hs];simp[sliced];intro _;cases A<;>rfl
theorem uv{t:TypeId}(ht:P.underlying t=some (.slice (P.elem t))){s:Nat}(hs:∀w,(sizeOf (P.elem t)).run P w=.ok s w)(A:OA)(len c l:Nat)(kl:IntKind)(L:Int)(hL:L=l)(hl:l<=len)(w:World):
  (Instr.slice t (.slice A len c) (some (.int kl L)) none none).run P w=.ok (.slice (if c=l then A else A.map (·.add (l*s))) (len-l) (c-l)) w:=by
 subst hL;rw[run_slice_l (ht:=ht) (h0:=by omega) (h1:=by omega),hs];simp[sliced]
end
def setL(w:World)(g:Nat):Nat->List Value->World
 |_,[]=>w
 |i,v::vs=>setL (w.setCell ⟨g,i,none⟩ v) g (i+1) vs
theorem Kp.setL(g:Nat):∀(vs:List Value) (w:World) (i:Nat),Kp (fun k=>k=g) w (setL w g i vs)
 |[],w,_=>jQ0 _ w
 |v::vs,w,i=>((jQ0 (fun k=>k=g) w).setCell (p:=⟨g,i,none⟩) (fun _=>rfl) v).trans (Kp.setL g vs _ (i+1)) (fun _ _ h=>h)
theorem Xk(g:Nat):∀(vs:List Value) (w:World) (i:Nat),setL w g i vs=w.setCells g i vs
 |[],_,_=>rfl
 |v::vs,w,i=>Xk g vs (w.setCell ⟨g,i,none⟩ v) (i+1)
theorem Kp.setCells(g o:Nat)(vs:List Value)(w:World):Kp (fun k=>k=g) w (w.setCells g o vs):=by
 rw[<-Xk];exact Kp.setL g vs w o
theorem Blk.setCells{w:World}{g:Nat}{t:TypeId}{pre mid post:List Value}(h:Blk w g t (pre++(mid++post)).toArray)(vs:List Value)(hl:mid.length=vs.length):
  Blk (w.setCells g pre.length vs) g t (pre++(vs++post)).toArray:=by
 rw[<-Xk]
 induction vs generalizing w pre mid with
 |nil=>
  have:mid=[]:=List.eq_nil_of_length_eq_zero (by simpa using hl);subst this;simpa [setL]using h
 |cons v vs ih=>
  cases mid with
  |nil=>simp at hl
  |cons r rest=>
   have h1:=h.set_ pre.length v;have e:(pre++(r::rest++post)).toArray.setIfInBounds pre.length v=((pre++[v])++(rest++post)).toArray:=by
    rw[jJ1,List.set_append_right _ _ (jL3 _)];simp
   rw[e]at h1;have h2:=ih h1 (by simpa using hl);simp only[jJ4,List.length_singleton]at h2;simpa [setL]using h2
theorem Blk.setWhole{w:World}{g:Nat}{t:TypeId}{cs:List Value}(h:Blk w g t cs.toArray)(vs:List Value)(hl:cs.length=vs.length):Blk (w.setCells g 0 vs) g t vs.toArray:=by
 have:=Blk.setCells (pre:=[]) (mid:=cs) (post:=[]) (by simpa using h) vs hl;simpa using this
theorem Blk.range{w:World}{g:Nat}{t:TypeId}{cs:List Value}(h:Blk w g t cs.toArray):w.rangeAt g 0 cs:=by
 intro j v hv;rw[Nat.zero_add,h.cell,jJ7,hv]
theorem Blk.there{w:World}{g:Nat}{t:TypeId}{cs:Array Value}(h:Blk w g t cs)(o n:Nat)(hn:o+n<=cs.size):w.there g o n:=by
 intro j hj;refine⟨?_,h.frozen _⟩;rw[h.cell,Array.getElem?_eq_getElem (by omega)];rfl
theorem jR{l:List Value}(h:l.all (·.oneCell')=true):l.toArray.all (·.oneCell')=true:=by simpa using h
abbrev jQ1:= @wpList_store_mid
attribute [local go_sem↓] Go.wp_at_zero Go.wp_at_succ
def jq(l:LB):Nat:=l.foldl (fun n b=>n*256+b.toNat) 0
theorem jEB(l:LB)(b:UInt8):jq (l++[b])=jq l*256+b.toNat:=by simp[jq]
theorem jEC(l:LB):∀n,l.foldl (fun n b=>n*256+b.toNat) n<(n+1)*256^l.length:=by
 induction l with
 |nil=>intro n;simp
 |cons a l ih=>
  intro n;have h:=ih (n*256+a.toNat);rw[List.foldl_cons,jK6];have ha:=a.toNat_lt;refine jL8 h ?_;rw[Nat.pow_succ,Nat.mul_comm (256^l.length) 256,<-Nat.mul_assoc];refine Nat.mul_le_mul_right _ ?_;omega
theorem Yt(l:LB):jq l<256^l.length:=by
 have:=jEC l 0;simpa [jq]using this
theorem ud(n y:Nat)(hn:n<72057594037927936)(hy:y<256):bits .or .u64 (IntKind.u64.wrap ((n:Int)*256)) (IntKind.u64.wrap (y:Int))=((n*256+y:Nat):Int):=by
 have e1:IntKind.u64.wrap ((n:Int)*256)=((n*256:Nat):Int):=by rw[IntWalk.u64_in _ (by omega)];simp
 have e2:IntKind.u64.wrap (y:Int)=(y:Int):=IntWalk.u64_in _ (by omega);rw[e1,e2,u64_or_nat _ _ (by omega) (by omega)];have:=Nat.two_pow_add_eq_or_of_lt (i:=8) (b:=y) (by omega) n;rw[show n*256=2^8*n by omega,<-this]
theorem ka(bs:LB)(p j:Nat)(h:p+j<bs.length):jq ((bs.drop p).take (j+1))=jq ((bs.drop p).take j)*256+(bs.getD (p+j) 0).toNat:=by
 have hl:j<(bs.drop p).length:=by rw[jK8];omega
 rw[jK2 hl,jEB,List.getElem_drop];simp[List.getD,jJ9 h]
theorem jm(l:LB)(k:Nat):jq (l.take k)<256^k:=by
 refine jL8 (Yt _) (Nat.pow_le_pow_right (by decide) ?_);rw[jK9];omega
theorem Vq{a a' b b' c c' :Value}(h1:a=a')(h2:b=b')(h3:c=c'):Ending.returned (.tuple #[a,b,c])=.returned (.tuple #[a',b',c']):=by rw[h1,h2,h3]
structure Rs where
 at_:Nat
 why:Int
def Rr(w:World)(g:Nat)(bs:LB)(s:Rs):Prop:=
 ∃A c,Blk w g 170 #[.slice A bs.length c,.int .i64 s.at_,.int .i64 s.why]/\Rd w 1 A bs.length (bs.map bv)/\Av (fun k=>g<=k) bs.length A/\bs.length<=c/\s.at_ <=bs.length/\bs.length<=100000000
def RX(g:Nat):Nat->Prop:=fun k=>k=g
section
variable{w w1:World}{g:Nat}{bs:LB}{s:Rs}
theorem Rr.old(h:Rr w g bs s)(ho:Old w w1):Rr w1 g bs s:=by
 obtain⟨A,c,hb,hr,ha,hc,hs,hl⟩:=h;exact⟨A,c,hb.old ho,hr.old ho,ha,hc,hs,hl⟩
theorem Rr.kp{X:Nat->Prop}(h:Rr w g bs s)(hk:Kp X w w1)(hX:∀k,k<=g->¬X k):Rr w1 g bs s:=by
 obtain⟨A,c,hb,hr,ha,hc,hs,hl⟩:=h;refine⟨A,c,hb.kp hk (hX g (jL3 _)),hr.kp hk (fun hn ad e hx=> ?_),ha,hc,hs,hl⟩;have:=ha hn ad e;exact hX ad.block (by omega) hx
theorem jJF{n:Nat}{A:OA}(h:Av (fun k=>g<=k) n A):Av (fun k=>k=g) n A:=fun hn ad e hx=>h hn ad e (by omega)
theorem Rr.lt(h:Rr w g bs s):g<w.heap.size:=by
 obtain⟨A,c,hb,_⟩:=h;exact hb.lt
theorem Rr.why(h:Rr w g bs s):w.cell? ⟨g,2,none⟩=some (.int .i64 s.why):=by
 obtain⟨A,c,hb,_⟩:=h;exact hb.at_ 2 rfl
theorem Rr.atc(h:Rr w g bs s):w.cell? ⟨g,1,none⟩=some (.int .i64 s.at_):=by
 obtain⟨A,c,hb,_⟩:=h;exact hb.at_ 1 rfl
theorem Rr.zer(h:Rr w g bs s)(i:Nat):w.frozen? ⟨g,i,none⟩=false:=by
 obtain⟨A,c,hb,_⟩:=h;exact hb.frozen i
theorem Rr.fits(h:Rr w g bs s):s.at_ <=bs.length/\bs.length<=100000000:=by
 obtain⟨A,c,_,_,_,_,hs,hl⟩:=h;exact⟨hs,hl⟩
theorem Rr.setAt(h:Rr w g bs s)(n:Nat)(hn:n<=bs.length):Rr (w.setCell ⟨g,1,none⟩ (.int .i64 n)) g bs ⟨n,s.why⟩:=by
 obtain⟨A,c,hb,hr,ha,hc,hs,hl⟩:=h;refine⟨A,c,hb.set_ 1 _,hr.kp ((jQ0 (fun k=>k=g) _).setCell (p:=⟨g,1,none⟩) (fun _=>rfl) _) (jJF ha),ha,hc,hn,hl⟩
theorem Rr.setWhy(h:Rr w g bs s)(n:Int):Rr (w.setCell ⟨g,2,none⟩ (.int .i64 n)) g bs ⟨s.at_,n⟩:=by
 obtain⟨A,c,hb,hr,ha,hc,hs,hl⟩:=h;refine⟨A,c,hb.set_ 2 _,hr.kp ((jQ0 (fun k=>k=g) _).setCell (p:=⟨g,2,none⟩) (fun _=>rfl) _) (jJF ha),ha,hc,hs,hl⟩
end
theorem uZ(w:World)(A:OA)(n c:Nat)(bs:LB)(hr:Rd w 1 A n (bs.map bv))(hn:n<=100000000):
  Calls prog 39 #[.slice A n c] w fun e w' =>∃g,e=.returned (.pointer (some ⟨g,0,none⟩))/\w.heap.size<=g/\Rr w' g bs ⟨0,0⟩/\Old w w' :=by
 have hl:bs.length=n:=(by simpa using hr.1);subst hl;have FU:=G (show 0+bs.length<=maxLen by unfold maxLen;omega);have FV:=G (show(0+bs.length)*1<=140737488355328 by omega);have Hn:=G hn;clear hn;obtain⟨i0,hi,Fz,Ft,FC⟩:=info_parts kc;go_enter func39,ntmps39;go_wp2_with (at_builtin;refine jJ _ rfl (.const (.slice none 0 0)) (.tmp 3) 22 rfl w.heap.size 5 i0 (.int .u8 0) 1 1 underlying22 hi Fz Ft FC rfl (by decide) (.slice none 0 0) 0 [] rfl (World.ownsRow_nil _ _ _ _) A bs.length c (bs.map bv) rfl hr (jf _) FU.out FV.out (jL3 _) ?_;intro A' c' w1 Hi hgrow Fo);go_ret;have F0:Old w w1:=(jQ0 _ _).grown hgrow (fun k e=>by simp[Value.ownBlock]at e);rw[Nat.zero_add,List.nil_append]at Hi;have Fa:=Rd.of_own Hi;refine⟨w1.heap.size,rfl,F0.size,⟨A',c',?_,Fa.alloc _,?_,?_,Nat.zero_le _,Hn.out⟩,F0.alloc _⟩
 ·exact jQ2 _ _ _
 ·intro hn ad e hx;have:=Fa.lt (by decide) hn e;omega
 ·rcases Hi.2 with⟨e,h0⟩|⟨g,cap,cur,e,_,_,TB,_⟩
  ·omega
  ·injection e with e1 e2 e3;omega
theorem jx(w:World)(g:Nat)(bs:LB)(s:Rs)(e:Int)(h:Rr w g bs s)(hw:s.why=0):
  Calls prog 83 #[.pointer (some ⟨g,0,none⟩),.int .i64 e] w fun x w' =>x=.returned (.tuple #[])/\Rr w' g bs ⟨s.at_,e⟩/\Kp (RX g) w w' :=by
 have Gz:=h.why;have FC:=h.zer 2;rw[hw]at Gz;have Hw:=G hw;clear hw;go_enter func83,ntmps83;go_wp2;go_end0;exact⟨rfl,h.setWhy e,(jQ0 (RX g) _).setCell (p:=⟨g,2,none⟩) (fun _=>rfl) _⟩
theorem XL(w:World)(g:Nat)(bs:LB)(s:Rs)(p:Nat)(h:Rr w g bs s)(hp:p<=bs.length)(hk:bs.length<p+1):
  Calls prog 82 #[.pointer (some ⟨g,0,none⟩),.int .i64 p] w fun e w' =>e=.returned (.tuple #[.int .u8 0,.int .i64 p,.bool false])/\w=w' :=by
 obtain⟨A,c,hb,hr,ha,hc,hs,hl⟩:=h;have GA:=hb.at_ 0 rfl;go_enter func82,ntmps82;go_wp2_with (go_at_call 49;refine(Yg _).mono ?_;rintro e w' ⟨rfl,rfl⟩)
 go_ret3
 exact⟨rfl,rfl⟩
theorem uO(w:World)(g:Nat)(bs:LB)(s:Rs)(p:Nat)(h:Rr w g bs s)(hk:p+1<=bs.length):
  Calls prog 82 #[.pointer (some ⟨g,0,none⟩),.int .i64 p] w fun e w' =>e=.returned (.tuple #[.int .u8 (jq ((bs.drop p).take 1)),.int .i64 ((p+1:Nat):Int),.bool true])/\w=w' :=by
 obtain⟨A,c,hb,hr,ha,hc,hs,hl⟩:=h;have GA:=hb.at_ 0 rfl;obtain⟨b,o,rfl,Fw⟩:=hr.2 (by omega);have Nn:=G Fw;clear Fw;go_enter func82,ntmps82;go_wp2_with (go_at_call 49;refine(Yg _).mono ?_;rintro e w' ⟨rfl,rfl⟩);go_loop [32,8] (fun i n=>∃j:Nat,j<=1/\i=.int .i64 j/\n=.int .u64 (jq ((bs.drop p).take j))) (fun i _=>1-(intOf i).toNat)
 case atStart=>exact⟨0,by omega,rfl,rfl⟩
 case round=>
  obtain⟨j,hj,rfl,rfl⟩:=hrel;by_cases hM:j<1
  ·have hx:w.cell? ⟨b,o+p+j,none⟩=some (.int .u8 ((bs.getD (p+j) 0).toNat:Int)):=by
    rw[Nat.add_assoc];refine Nn.out (p+j) _ ?_;rw[jM1,jJ9 (by omega)];simp[bv,List.getD,jJ9 (show p+j<bs.length by omega)]
   have Gu:=ka bs p j (by omega);have N9:jq ((bs.drop p).take j)<72057594037927936:=jL8 (jm _ _) (jL4 (Nat.pow_le_pow_right (n:=256) (by decide) (show j<=7 by omega)) (by decide));generalize bs.getD (p+j) 0=y at hx Gu;generalize jq ((bs.drop p).take j)=nn at*;have Hs:=G Gu;have Cn:=G N9;clear Gu N9;go_wp2;go_round
   case rel=>exact⟨j+1,by omega,by go_num,vT (by rw[ud nn y.toNat Cn.out y.toNat_lt,Hs.out])⟩
   case measure=>simp[intOf];omega
  ·obtain rfl:j=1:=(by omega);have hN:=jm (bs.drop p) 1;generalize WT:jq ((bs.drop p).take 1)=nn at*;have HN:=G hN;have Pc:=G WT;clear hN WT;go_wp2
   go_ret3
   have hN:=HN.out;refine⟨Vq (vT ?_) rfl rfl,rfl⟩;have WT:=Pc.out
   first|omega|(rw[WT];exact IntWalk.u8_in _ (by omega))
theorem ZG(w:World)(g:Nat)(bs:LB)(s:Rs)(p:Nat)(h:Rr w g bs s)(hp:p<=bs.length)(hk:bs.length<p+2):
  Calls prog 88 #[.pointer (some ⟨g,0,none⟩),.int .i64 p] w fun e w' =>e=.returned (.tuple #[.int .u16 0,.int .i64 p,.bool false])/\w=w' :=by
 obtain⟨A,c,hb,hr,ha,hc,hs,hl⟩:=h;have GA:=hb.at_ 0 rfl;go_enter func88,ntmps88;go_wp2_with (go_at_call 53;refine(VO _).mono ?_;rintro e w' ⟨rfl,rfl⟩)
 go_ret3
 exact⟨rfl,rfl⟩
theorem Vi(w:World)(g:Nat)(bs:LB)(s:Rs)(p:Nat)(h:Rr w g bs s)(hk:p+2<=bs.length):
  Calls prog 88 #[.pointer (some ⟨g,0,none⟩),.int .i64 p] w fun e w' =>e=.returned (.tuple #[.int .u16 (jq ((bs.drop p).take 2)),.int .i64 ((p+2:Nat):Int),.bool true])/\w=w' :=by
 obtain⟨A,c,hb,hr,ha,hc,hs,hl⟩:=h;have GA:=hb.at_ 0 rfl;obtain⟨b,o,rfl,Fw⟩:=hr.2 (by omega);have Nn:=G Fw;clear Fw;go_enter func88,ntmps88;go_wp2_with (go_at_call 53;refine(VO _).mono ?_;rintro e w' ⟨rfl,rfl⟩);go_loop [32,8] (fun i n=>∃j:Nat,j<=2/\i=.int .i64 j/\n=.int .u64 (jq ((bs.drop p).take j))) (fun i _=>2-(intOf i).toNat)
 case atStart=>exact⟨0,by omega,rfl,rfl⟩
 case round=>
  obtain⟨j,hj,rfl,rfl⟩:=hrel;by_cases hM:j<2
  ·have hx:w.cell? ⟨b,o+p+j,none⟩=some (.int .u8 ((bs.getD (p+j) 0).toNat:Int)):=by
    rw[Nat.add_assoc];refine Nn.out (p+j) _ ?_;rw[jM1,jJ9 (by omega)];simp[bv,List.getD,jJ9 (show p+j<bs.length by omega)]
   have Gu:=ka bs p j (by omega);have N9:jq ((bs.drop p).take j)<72057594037927936:=jL8 (jm _ _) (jL4 (Nat.pow_le_pow_right (n:=256) (by decide) (show j<=7 by omega)) (by decide));generalize bs.getD (p+j) 0=y at hx Gu;generalize jq ((bs.drop p).take j)=nn at*;have Hs:=G Gu;have Cn:=G N9;clear Gu N9;go_wp2;go_round
   case rel=>exact⟨j+1,by omega,by go_num,vT (by rw[ud nn y.toNat Cn.out y.toNat_lt,Hs.out])⟩
   case measure=>simp[intOf];omega
  ·obtain rfl:j=2:=(by omega);have hN:=jm (bs.drop p) 2;generalize WT:jq ((bs.drop p).take 2)=nn at*;have HN:=G hN;have Pc:=G WT;clear hN WT;go_wp2
   go_ret3
   have hN:=HN.out;refine⟨Vq (vT ?_) rfl rfl,rfl⟩;have WT:=Pc.out
   first|omega|(rw[WT];exact IntWalk.u16_in _ (by omega))
theorem uP(w:World)(g:Nat)(bs:LB)(s:Rs)(p:Nat)(h:Rr w g bs s)(hp:p<=bs.length)(hk:bs.length<p+4):
  Calls prog 97 #[.pointer (some ⟨g,0,none⟩),.int .i64 p] w fun e w' =>e=.returned (.tuple #[.int .u32 0,.int .i64 p,.bool false])/\w=w' :=by
 obtain⟨A,c,hb,hr,ha,hc,hs,hl⟩:=h;have GA:=hb.at_ 0 rfl;go_enter func97,ntmps97;go_wp2_with (go_at_call 115;refine(VN _).mono ?_;rintro e w' ⟨rfl,rfl⟩)
 go_ret3
 exact⟨rfl,rfl⟩
theorem qx(w:World)(g:Nat)(bs:LB)(s:Rs)(p:Nat)(h:Rr w g bs s)(hk:p+4<=bs.length):
  Calls prog 97 #[.pointer (some ⟨g,0,none⟩),.int .i64 p] w fun e w' =>e=.returned (.tuple #[.int .u32 (jq ((bs.drop p).take 4)),.int .i64 ((p+4:Nat):Int),.bool true])/\w=w' :=by
 obtain⟨A,c,hb,hr,ha,hc,hs,hl⟩:=h;have GA:=hb.at_ 0 rfl;obtain⟨b,o,rfl,Fw⟩:=hr.2 (by omega);have Nn:=G Fw;clear Fw;go_enter func97,ntmps97;go_wp2_with (go_at_call 115;refine(VN _).mono ?_;rintro e w' ⟨rfl,rfl⟩);go_loop [32,8] (fun i n=>∃j:Nat,j<=4/\i=.int .i64 j/\n=.int .u64 (jq ((bs.drop p).take j))) (fun i _=>4-(intOf i).toNat)
 case atStart=>exact⟨0,by omega,rfl,rfl⟩
 case round=>
  obtain⟨j,hj,rfl,rfl⟩:=hrel;by_cases hM:j<4
  ·have hx:w.cell? ⟨b,o+p+j,none⟩=some (.int .u8 ((bs.getD (p+j) 0).toNat:Int)):=by
    rw[Nat.add_assoc];refine Nn.out (p+j) _ ?_;rw[jM1,jJ9 (by omega)];simp[bv,List.getD,jJ9 (show p+j<bs.length by omega)]
   have Gu:=ka bs p j (by omega);have N9:jq ((bs.drop p).take j)<72057594037927936:=jL8 (jm _ _) (jL4 (Nat.pow_le_pow_right (n:=256) (by decide) (show j<=7 by omega)) (by decide));generalize bs.getD (p+j) 0=y at hx Gu;generalize jq ((bs.drop p).take j)=nn at*;have Hs:=G Gu;have Cn:=G N9;clear Gu N9;go_wp2;go_round
   case rel=>exact⟨j+1,by omega,by go_num,vT (by rw[ud nn y.toNat Cn.out y.toNat_lt,Hs.out])⟩
   case measure=>simp[intOf];omega
  ·obtain rfl:j=4:=(by omega);have hN:=jm (bs.drop p) 4;generalize WT:jq ((bs.drop p).take 4)=nn at*;have HN:=G hN;have Pc:=G WT;clear hN WT;go_wp2
   go_ret3
   have hN:=HN.out;refine⟨Vq (vT ?_) rfl rfl,rfl⟩;have WT:=Pc.out
   first|omega|(rw[WT];exact IntWalk.u32_in _ (by omega))
theorem jCn(w:World)(g:Nat)(bs:LB)(s:Rs)(p:Nat)(h:Rr w g bs s)(hp:p<=bs.length)(hk:bs.length<p+8):
  Calls prog 137 #[.pointer (some ⟨g,0,none⟩),.int .i64 p] w fun e w' =>e=.returned (.tuple #[.int .u64 0,.int .i64 p,.bool false])/\w=w' :=by
 obtain⟨A,c,hb,hr,ha,hc,hs,hl⟩:=h;have GA:=hb.at_ 0 rfl;go_enter func137,ntmps137;go_wp2_with (go_at_call 102;refine(VM _).mono ?_;rintro e w' ⟨rfl,rfl⟩)
 go_ret3
 exact⟨rfl,rfl⟩
theorem Ur(w:World)(g:Nat)(bs:LB)(s:Rs)(p:Nat)(h:Rr w g bs s)(hk:p+8<=bs.length):
  Calls prog 137 #[.pointer (some ⟨g,0,none⟩),.int .i64 p] w fun e w' =>e=.returned (.tuple #[.int .u64 (jq ((bs.drop p).take 8)),.int .i64 ((p+8:Nat):Int),.bool true])/\w=w' :=by
 obtain⟨A,c,hb,hr,ha,hc,hs,hl⟩:=h;have GA:=hb.at_ 0 rfl;obtain⟨b,o,rfl,Fw⟩:=hr.2 (by omega);have Nn:=G Fw;clear Fw;go_enter func137,ntmps137;go_wp2_with (go_at_call 102;refine(VM _).mono ?_;rintro e w' ⟨rfl,rfl⟩);go_loop [32,8] (fun i n=>∃j:Nat,j<=8/\i=.int .i64 j/\n=.int .u64 (jq ((bs.drop p).take j))) (fun i _=>8-(intOf i).toNat)
 case atStart=>exact⟨0,by omega,rfl,rfl⟩
 case round=>
  obtain⟨j,hj,rfl,rfl⟩:=hrel;by_cases hM:j<8
  ·have hx:w.cell? ⟨b,o+p+j,none⟩=some (.int .u8 ((bs.getD (p+j) 0).toNat:Int)):=by
    rw[Nat.add_assoc];refine Nn.out (p+j) _ ?_;rw[jM1,jJ9 (by omega)];simp[bv,List.getD,jJ9 (show p+j<bs.length by omega)]
   have Gu:=ka bs p j (by omega);have N9:jq ((bs.drop p).take j)<72057594037927936:=jL8 (jm _ _) (jL4 (Nat.pow_le_pow_right (n:=256) (by decide) (show j<=7 by omega)) (by decide));generalize bs.getD (p+j) 0=y at hx Gu;generalize jq ((bs.drop p).take j)=nn at*;have Hs:=G Gu;have Cn:=G N9;clear Gu N9;go_wp2;go_round
   case rel=>exact⟨j+1,by omega,by go_num,vT (by rw[ud nn y.toNat Cn.out y.toNat_lt,Hs.out])⟩
   case measure=>simp[intOf];omega
  ·obtain rfl:j=8:=(by omega);have hN:=jm (bs.drop p) 8;generalize WT:jq ((bs.drop p).take 8)=nn at*;have HN:=G hN;have Pc:=G WT;clear hN WT;go_wp2
   go_ret3
   have hN:=HN.out;refine⟨Vq (vT ?_) rfl rfl,rfl⟩;have WT:=Pc.out
   first|omega|(rw[WT];exact IntWalk.u64_in _ (by omega))
structure Val where
 kind:Int
 n:Int
 t:BA
 s:List BA
def blt(a b:BA):Bool:=Op.bytesLess a.toList b.toList
def yV(l:List BA):Bool:=(List.range (l.length-1)).all fun i=>blt (l.getD i ByteArray.empty) (l.getD (i+1) ByteArray.empty)
def jQ(v:Val):Bool:=
 !((v.kind !=3&& !v.t.toList.isEmpty)||(v.kind !=5&&decide (0<v.s.length)))&&
 (if v.kind=1\/v.kind=4 then true else if v.kind=2 then v.n==0||v.n==1 else if v.kind=0\/v.kind=3 then v.n==0 else if v.kind=5 then yV v.s&&v.n==0 else false)
def VW(v:Val):Bool:=decide (1024<v.t.size)||v.s.any fun x=>decide (1024<x.size)
def jS(v:Val):Int:=
 if jQ v=false then 8
 else if v.kind=4/\¬(0<=v.n/\v.n<=4611686018427387904)then 111
 else if VW v=true then 113
 else if 64<v.s.length then 114
 else 0
def lps(l:List BA):LB:=(l.map fun s=>lp 2 (sb s)).flatten
def yM(l:List BA):LB:=be 2 l.length++lps l
theorem zK(l:List BA)(k:Nat)(h:k<l.length):lps (l.take (k+1))=lps (l.take k)++lp 2 (sb (l.getD k ByteArray.empty)):=by
 have e:l.getD k ByteArray.empty=l[k]:=(by simp[List.getD,jJ9 h]);rw[e,jK2 h];unfold lps;rw[List.map_append,List.flatten_append]
 congr 1
 simp
theorem YJ(l:List BA)(h:∀k,k<l.length->(l.getD k ByteArray.empty).size<=65535):∀k,k<=l.length->(lps (l.take k)).length<=k*65537:=by
 intro k
 induction k with
 |zero=>intro _;simp[lps]
 |succ k ih=>
  intro hk;have h1:=ih (by omega);have h2:=h k (by omega);rw[zK l k (by omega),jJ4,jV,jH];omega
def yX(v:Val):LB:=
 be 1 v.kind.toNat++
 (if v.kind=1\/v.kind=4 then be 8 (v.n% 18446744073709551616).toNat else if v.kind=2 then [if v.n=1 then 1 else 0]else if v.kind=3 then lp 2 (sb v.t)else if v.kind=5 then yM v.s else [])
def vV(v:Val)(A:OA)(c:Nat):Value:=.agg #[.int .i64 v.kind,.int .i64 v.n,.string v.t,.slice A v.s.length c]
theorem kZ{a b:Bool}(h:a=b):Value.bool a=Value.bool b:=by rw[h]
theorem jA3(n:Int)(w:World):
  Calls prog 147 #[.int .i64 n] w fun e w' =>e=.returned (.bool (decide (0<=n/\n<=4611686018427387904)))/\w=w' :=by
 go_enter func147,ntmps147;go_wp2
 all_goals (go_ret;refine⟨kL (kZ ?_),rfl⟩;rw[Bool.eq_iff_iff];simp;omega)
theorem jEK(s:BA)(w:World):
  Calls prog 149 #[.string s] w fun e w' =>e=.returned (.bool (decide (1024<s.size)))/\w=w' :=by
 go_enter func149,ntmps149;go_wp2;go_ret;exact⟨kL (kZ (by rw[Bool.eq_iff_iff];simp;omega)),rfl⟩
theorem jGg(n:Int)(t:BA)(s:List BA)(A:OA)(c:Nat)(w:World):
  Calls prog 146 #[vV ⟨0,n,t,s⟩ A c] w fun e w' =>e=.returned (.bool (jQ ⟨0,n,t,s⟩))/\Old w w' :=by
 unfold vV;go_enter func146,ntmps146;go_wp2
 all_goals
  go_ret;refine⟨kL (kZ ?_),(jQ0 _ _).alloc _⟩;simp[jQ, *]
  done
theorem jGf(n:Int)(t:BA)(s:List BA)(A:OA)(c:Nat)(w:World):
  Calls prog 146 #[vV ⟨1,n,t,s⟩ A c] w fun e w' =>e=.returned (.bool (jQ ⟨1,n,t,s⟩))/\Old w w' :=by
 unfold vV;go_enter func146,ntmps146;go_wp2
 all_goals
  go_ret;refine⟨kL (kZ ?_),(jQ0 _ _).alloc _⟩;simp[jQ, *]
  done
theorem jGe(n:Int)(t:BA)(s:List BA)(A:OA)(c:Nat)(w:World):
  Calls prog 146 #[vV ⟨2,n,t,s⟩ A c] w fun e w' =>e=.returned (.bool (jQ ⟨2,n,t,s⟩))/\Old w w' :=by
 unfold vV;go_enter func146,ntmps146;go_wp2
 all_goals
  go_ret;refine⟨kL (kZ ?_),(jQ0 _ _).alloc _⟩;simp[jQ, *]
  done
theorem jGd(n:Int)(t:BA)(s:List BA)(A:OA)(c:Nat)(w:World):
  Calls prog 146 #[vV ⟨3,n,t,s⟩ A c] w fun e w' =>e=.returned (.bool (jQ ⟨3,n,t,s⟩))/\Old w w' :=by
 unfold vV;go_enter func146,ntmps146;go_wp2
 all_goals
  go_ret;refine⟨kL (kZ ?_),(jQ0 _ _).alloc _⟩;simp[jQ, *]
  done
theorem jGc(n:Int)(t:BA)(s:List BA)(A:OA)(c:Nat)(w:World):
  Calls prog 146 #[vV ⟨4,n,t,s⟩ A c] w fun e w' =>e=.returned (.bool (jQ ⟨4,n,t,s⟩))/\Old w w' :=by
 unfold vV;go_enter func146,ntmps146;go_wp2
 all_goals
  go_ret;refine⟨kL (kZ ?_),(jQ0 _ _).alloc _⟩;simp[jQ, *]
  done
theorem jB4(k n:Int)(t:BA)(s:List BA)(A:OA)(c:Nat)(w:World)(hk:k<0\/5<k):
  Calls prog 146 #[vV ⟨k,n,t,s⟩ A c] w fun e w' =>e=.returned (.bool (jQ ⟨k,n,t,s⟩))/\Old w w' :=by
 have h0:(k==0)=false:=beq_eq_false_iff_ne.2 (by omega);have h1:(k==1)=false:=beq_eq_false_iff_ne.2 (by omega);have h2:(k==2)=false:=beq_eq_false_iff_ne.2 (by omega);have h3:(k==3)=false:=beq_eq_false_iff_ne.2 (by omega);have h4:(k==4)=false:=beq_eq_false_iff_ne.2 (by omega);have h5:(k==5)=false:=beq_eq_false_iff_ne.2 (by omega);have LD:(k !=3)=true:=by rw[bne_iff_ne];omega
 have DF:(k !=5)=true:=by rw[bne_iff_ne];omega
 have Hf:=G (show jQ ⟨k,n,t,s⟩=false by
  simp only[jQ];rw[jJ5 (by omega),jJ5 (by omega),jJ5 (by omega),jJ5 (by omega)];simp)
 clear hk;unfold vV;go_enter func146,ntmps146;go_wp2
 all_goals
  go_ret;refine⟨kL (kZ ?_),(jQ0 _ _).alloc _⟩;rw[Hf.out]
def jIf(s:List BA)(k:Nat):Prop:=∀i,i+1<k->blt (s.getD i ByteArray.empty) (s.getD (i+1) ByteArray.empty)=true
theorem QU(s:List BA)(h:jIf s s.length):yV s=true:=by
 rw[yV,List.all_eq_true];intro i hi;exact h i (by rw[List.mem_range]at hi;omega)
theorem xw(s:List BA)(i:Nat)(hi:i+1<s.length)(h:blt (s.getD i ByteArray.empty) (s.getD (i+1) ByteArray.empty)=false):yV s=false:=by
 rw[<-Bool.not_eq_true,yV,List.all_eq_true];intro hf;have:=hf i (by rw[List.mem_range];omega);rw[h]at this;cases this
theorem QG(s:List BA)(k:Nat)(h:jIf s (k+1))(hk:blt (s.getD k ByteArray.empty) (s.getD (k+1) ByteArray.empty)=true):jIf s (k+2):=by
 intro i hi;by_cases e:i=k
 ·subst e;exact hk
 ·exact h i (by omega)
theorem Rd.text{w:World}{A:OA}{n:Nat}{l:List BA}(h:Rd w 1 A n (l.map sv)){k:Nat}(hk:k<n):∃b o,A=some ⟨b,o,none⟩/\w.cell? ⟨b,o+k,none⟩=some (.string (l.getD k ByteArray.empty)):=by
 obtain⟨b,o,u,rfl,hx,hc⟩:=h.at_ hk;refine⟨b,o,rfl,?_⟩;rw[hc];rw[jM1]at hx;obtain⟨b,hb,rfl⟩:=Option.map_eq_some_iff.1 hx;simp[sv,List.getD,hb]
theorem jGb(n:Int)(t:BA)(s:List BA)(A:OA)(c:Nat)(w:World)(hr:Rd w 1 A s.length (s.map sv))(hc:s.length<=c)(hs:s.length<=1000000000000):
  Calls prog 146 #[vV ⟨5,n,t,s⟩ A c] w fun e w' =>e=.returned (.bool (jQ ⟨5,n,t,s⟩))/\Old w w' :=by
 have Hs:=G hs;have Hc:=G hc;clear hs hc;unfold vV;by_cases ht:t.toList.isEmpty=true
 case neg=>
  have Cr:t.toList.isEmpty=false:=(by simpa using ht);clear ht;go_enter func146,ntmps146;go_wp2;go_ret;refine⟨kL (kZ ?_),(jQ0 _ _).alloc _⟩;simp[jQ, *]
 go_enter func146,ntmps146;go_wp2;go_loopw [3] (fun i wr=>∃k:Nat,k+1<=max 1 s.length/\i=.int .i64 ((k:Int)+1)/\jIf s (k+1)/\Blk wr w.heap.size 29 #[.int .i64 5,.int .i64 n,.string t,.slice A s.length c]/\Old w wr) (fun i _=>s.length-(intOf i).toNat)
 case atStart=>exact⟨0,by omega,rfl,fun i hi=>by omega,jQ2 _ _ _,(jQ0 _ _).alloc _⟩
 case round=>
  obtain⟨k,hk,rfl,PF,hb,ho⟩:=hrel;have FS:=hb.cell 1;have WN:=hb.cell 3;simp only[jJ7,List.getElem?_cons_zero,List.getElem?_cons_succ]at FS WN;by_cases hM:k+1<s.length
  ·obtain⟨b,o,rfl,hx⟩:=(hr.old ho).text (k:=k) (by omega);obtain⟨b',o',e,hy⟩:=(hr.old ho).text (k:=k+1) (by omega);obtain⟨rfl,rfl⟩:b=b' /\o=o' :=by injection e with e;injection e with e1 e2;exact⟨e1,e2⟩
   clear e;have b1:(0:Int)<=(k:Int):=(by omega);have b2:(k:Int)<(s.length:Int):=(by omega);have b3:(0:Int)<=(k:Int)+1:=(by omega);have b4:(k:Int)+1<(s.length:Int):=(by omega);have b5:(k:Int)<=1000000000000:=by have:=Hs.out;omega
   generalize hxx:s.getD k ByteArray.empty=x at hx;generalize hyy:s.getD (k+1) ByteArray.empty=y at hy;have Hx:=G hxx;have Hy:=G hyy;have HW:=G hb;clear hxx hyy hb;cases hlx:Op.bytesLess x.toList y.toList
   all_goals
    go_wp2;have e1:IntKind.i64.wrap (k:Int)=(k:Int):=jQ3 _ (by have:=Hs.out;omega);have e2:((k:Int)+1).toNat=k+1:=(by omega);go_quiet (fail);clear e1 e2;go_wp2
   ·go_ret;refine⟨kL (kZ ?_),ho.drewN _⟩;have:yV s=false:=xw s k (by omega) (by rw[Hx.out,Hy.out];exact hlx);simp[jQ,this]
   ·go_roundw
    case rel=>exact⟨k+1,by omega,by go_num,QG s k PF (by rw[Hx.out,Hy.out];exact hlx),HW.out,ho.drewN _⟩
    case measure=>simp[intOf];omega
  ·go_wp2;go_ret;refine⟨kL (kZ ?_),ho⟩;have hr:yV s=true:=QU s (fun i hi=>PF i (by omega));simp[jQ, *]
theorem jB5(v:Val)(A:OA)(c:Nat)(w:World)(hr:Rd w 1 A v.s.length (v.s.map sv))(hc:v.s.length<=c)(hs:v.s.length<=1000000000000):
  Calls prog 146 #[vV v A c] w fun e w' =>e=.returned (.bool (jQ v))/\Old w w' :=by
 obtain⟨k,n,t,s⟩:=v;by_cases h:k<0\/5<k
 ·exact jB4 k n t s A c w h
 ·have hk:k=0\/k=1\/k=2\/k=3\/k=4\/k=5:=(by omega);rcases hk with rfl|rfl|rfl|rfl|rfl|rfl
  ·exact jGg n t s A c w
  ·exact jGf n t s A c w
  ·exact jGe n t s A c w
  ·exact jGd n t s A c w
  ·exact jGc n t s A c w
  ·exact jGb n t s A c w hr hc hs
def jJQ(s:List BA)(w:World)(e:Ending)(w' :World):Prop:=
 ∃r:Int,e=.returned (.int .i64 r)/\decide (0<=r)=(s.any fun x=>decide (1024<x.size))/\w=w'
theorem jE4(s:List BA)(k:Nat)(hk:k<s.length)(h:1024<(s.getD k ByteArray.empty).size):(s.any fun x=>decide (1024<x.size))=true:=by
 rw[List.any_eq_true];refine⟨s[k],jL6 hk,?_⟩;simpa [List.getD,jJ9 hk]using h
theorem jED(s:List BA)(h:∀k,k<s.length->(s.getD k ByteArray.empty).size<=1024):(s.any fun x=>decide (1024<x.size))=false:=by
 rw[<-Bool.not_eq_true,List.any_eq_true];rintro ⟨x,hx,hl⟩;obtain⟨k,hk,rfl⟩:=List.getElem_of_mem hx;have:=h k hk;simp[List.getD,jJ9 hk]at this;simp at hl;omega
theorem jEO(s:List BA)(A:OA)(c:Nat)(w:World)(hr:Rd w 1 A s.length (s.map sv))(hs:s.length<=1000000000000):
  Calls prog 175 #[.slice A s.length c,.func (.func 149) #[] #[]] w (jJQ s w):=by
 have Hs:=G hs;clear hs;go_enter func175,ntmps175;go_wp2;go_loop [8] (fun i=>∃k:Nat,k<=s.length/\i=.int .i64 k/\∀j,j<k->(s.getD j ByteArray.empty).size<=1024) (fun i=>s.length-(intOf i).toNat)
 case atStart=>exact⟨0,by omega,rfl,fun j hj=>by omega⟩
 case round=>
  obtain⟨k,hk,rfl,GH⟩:=hrel;have hY:=G GH;clear GH;by_cases hM:k<s.length
  ·obtain⟨b,o,rfl,hx⟩:=hr.text (k:=k) hM;generalize hxx:s.getD k ByteArray.empty=x at hx;have Hx:=G hxx;clear hxx;have b5:(k:Int)<=1000000000000:=by have:=Hs.out;omega
   by_cases hl:1024<x.size
   ·have hd:decide (1024<x.size)=true:=(by simpa using hl);go_wp2_with (go_at_call 149;refine(jEK _ _).mono ?_;rintro e w' ⟨rfl,rfl⟩);go_ret;exact⟨k,rfl,by rw[jE4 s k hM (by rw[Hx.out];exact hl)];simp,rfl⟩
   ·have hd:decide (1024<x.size)=false:=(by simpa using hl);go_wp2_with (go_at_call 149;refine(jEK _ _).mono ?_;rintro e w' ⟨rfl,rfl⟩);go_round
    case rel=>
     refine⟨k+1,by omega,by go_num,fun j hj=> ?_⟩;by_cases e:j=k
     ·subst e;rw[Hx.out];omega
     ·exact hY.out j (by omega)
    case measure=>simp[intOf];omega
  ·go_wp2;go_ret;exact⟨-1,rfl,by rw[jED s (fun j hj=>hY.out j (by omega))];rfl,rfl⟩
theorem XD(s:List BA)(A:OA)(c:Nat)(w:World)(hr:Rd w 1 A s.length (s.map sv))(hs:s.length<=1000000000000):
  Calls prog 148 #[.slice A s.length c,.func (.func 149) #[] #[]] w fun e w' =>
   e=.returned (.bool (s.any fun x=>decide (1024<x.size)))/\w=w' :=by
 have Hs:=G hs;clear hs;go_enter func148,ntmps148;go_wp2_with fail;refine(jEO s A c w hr Hs.out).mono ?_;rintro e w' ⟨r,rfl,hd,rfl⟩;have Hd:=G hd;clear hd;go_wp2;go_ret;exact⟨kL (kZ Hd.out),rfl⟩
theorem yl(v:Val)(A:OA)(c:Nat)(w:World)(hr:Rd w 1 A v.s.length (v.s.map sv))(hc:v.s.length<=c)(hs:v.s.length<=1000000000000):
  Calls prog 98 #[vV v A c] w fun e w' =>e=.returned (.int .i64 (jS v))/\Old w w' :=by
 have Hs:=G hs;have Hc:=G hc;clear hs hc;have Hf:=G (fun W (h:Old w W)=>jB5 v A c W (hr.old h) Hc.out Hs.out);have Hk:=G (fun W (h:Old w W)=>XD v.s A c W (hr.old h) Hs.out);obtain⟨k,n,t,s⟩:=v;simp only[vV]at*;go_enter func98,ntmps98;go_wp2_with fail;refine(Hf.out _ ((jQ0 _ _).alloc _)).mono ?_;rintro e w1 ⟨rfl,F0⟩;have hb:=(jQ2 w 29 #[.int .i64 k,.int .i64 n,.string t,.slice A s.length c]).old F0;have GA:=hb.cell 0;have FS:=hb.cell 1;have Gz:=hb.cell 2;have WN:=hb.cell 3;have ho:=G (((jQ0 NoX w).alloc (.cells #[.int .i64 k,.int .i64 n,.string t,.slice A s.length c] 29)).old F0);simp only[jJ7,List.getElem?_cons_zero,List.getElem?_cons_succ]at GA FS Gz WN;clear F0;cases hf:jQ ⟨k,n,t,s⟩
 ·go_wp2;go_ret;exact⟨kL (vT (by simp[jS,hf])),ho.out⟩
 ·generalize ha:(s.any fun x=>decide (1024<x.size))=anyLong at Hk;have Ha:=G ha;have Hff:=G hf;clear ha hf;cases anyLong
  all_goals
   go_wp2_with (first|(go_at_call 147;refine(jA3 _ _).mono ?_;rintro e w' ⟨rfl,rfl⟩)|(go_at_call 148;refine(Hk.out _ ho.out).mono ?_;rintro e w' ⟨rfl,rfl⟩))
   all_goals
    go_ret;refine⟨kL (vT ?_),ho.out⟩;have hf:=Hff.out;have ha:=Ha.out;simp only[jS,VW,hf,ha]
    simp_all<;>omega
theorem jJC(s:List BA)(h:yV s=true)(k:Nat)(hk:k+1<s.length):Op.bytesLess (s.getD k ByteArray.empty).toList (s.getD (k+1) ByteArray.empty).toList=true:=by
 rw[yV,List.all_eq_true]at h;exact h k (by rw[List.mem_range];omega)
theorem jFP(w:World)(g:Nat)(r:Option Nat)(bs:LB)(A:OA)(c:Nat)(l:List BA)(hW:Wr w g r bs)(hl:bs.length<=900000000000)
  (Fa:Rd w 1 A l.length (l.map sv)) (FA:Av (WX g r) l.length A) (hn:l.length<=64) (hx:∀k,k<l.length->(l.getD k ByteArray.empty).size<=1024) (S4:yV l=true):
  Calls prog 100 #[.pointer (some ⟨g,0,none⟩),.slice A l.length c,.int .i64 64,.int .i64 1024] w fun e w' =>e=.returned (.int .i64 0)/\WStep w g r w' (bs++yM l):=by
 have Hl:=G hl;have Hx:=G hx;have Ic:=G S4;clear hl hx S4;have hmin:¬((64:Int)<(l.length:Int)):=(by omega);go_enter func100,ntmps100;go_wp2_with (go_at_call 101;refine(kn _ _ _ (by omega)).mono ?_;rintro e w' ⟨rfl,rfl⟩);go_loop [20] (fun i=>∃k:Nat,k<=l.length/\i=.int .i64 k) (fun i=>l.length-(intOf i).toNat)
 case atStart=>exact⟨0,by omega,rfl⟩
 case round=>
  obtain⟨k,hk,rfl⟩:=hrel;by_cases hM:k<l.length
  ·obtain⟨b,o,rfl,hy⟩:=Fa.text (k:=k) hM;have FJ:¬((1024:Int)<((l.getD k ByteArray.empty).size:Int)):=by have:=Hx.out k hM;omega
   rcases Nat.eq_zero_or_pos k with rfl|NE
   ·simp only[Nat.add_zero]at hy;generalize l.getD 0 ByteArray.empty=y at hy FJ;go_wp2_with (go_at_call 101;refine(kn _ _ _ (by omega)).mono ?_;rintro e w' ⟨rfl,rfl⟩);go_round
    case rel=>exact⟨1,by omega,rfl⟩
    case measure=>simp[intOf];omega
   ·obtain⟨j,rfl⟩:∃j,k=j+1:=⟨k-1,by omega⟩;obtain⟨b',o',e,hz⟩:=Fa.text (k:=j) (by omega);obtain⟨rfl,rfl⟩:b=b' /\o=o' :=by injection e with e;injection e with e1 e2;exact⟨e1,e2⟩
    have N0:=jJC l Ic.out j hM;clear e;generalize l.getD (j+1) ByteArray.empty=y at hy FJ N0;generalize l.getD j ByteArray.empty=z at hz N0;go_wp2_with (go_at_call 101;refine(kn _ _ _ (by omega)).mono ?_;rintro e w' ⟨rfl,rfl⟩);go_round
    case rel=>exact⟨j+1+1,by omega,by go_num⟩
    case measure=>simp[intOf];omega
  ·skip
   go_wp2_with fail;refine(YE _ g r bs _ (by omega) (by omega) hW (jL4 Hl.out (by decide))).mono ?_;rintro e w1 ⟨rfl,hw⟩;rw[jL1]at hw;go_wp2;go_loopw [49] (fun i wr=>∃k:Nat,k<=l.length/\i=.int .i64 k/\WStep w g r wr (bs++(be 2 l.length++lps (l.take k)))) (fun i _=>l.length-(intOf i).toNat)
   case atStart=>exact⟨0,by omega,rfl,by simpa [lps]using hw⟩
   case round=>
    obtain⟨k,hk,rfl,HU⟩:=hrel;by_cases hM:k<l.length
    ·obtain⟨r',Nv,FQ,Nb⟩:=HU;obtain⟨b,o,rfl,hy⟩:=(Fa.kp FQ FA).text (k:=k) hM;have FJ:=Hx.out k hM;have Wx:=YJ l (fun k hk=>jL4 (Hx.out k hk) (by decide)) k hk;have Gk:(bs++(be 2 l.length++lps (l.take k))).length<=1000000000000:=by
      have:=Hl.out;rw[jJ4,jJ4,jC];omega
     have Fm:=G (show bs++(be 2 l.length++lps (l.take (k+1)))=(bs++(be 2 l.length++lps (l.take k)))++lp 2 (sb (l.getD k ByteArray.empty))by
      rw[zK l k hM];simp)
     generalize l.getD k ByteArray.empty=y at hy FJ Fm;generalize bs++(be 2 l.length++lps (l.take k))=cs at Nv Gk Fm;have Wm:=G Gk;clear Gk Wx;go_wp2_with fail;refine(jC3 _ g r' cs y _ Nv Wm.out (by omega) (by omega)).mono ?_;rintro e w2 ⟨rfl,HU⟩;have Fq:=G (WStep.trans FQ Nb HU);clear HU;go_wp2;go_roundw
     case rel=>exact⟨k+1,by omega,by go_num,by rw[Fm.out];exact Fq.out⟩
     case measure=>simp[intOf];omega
    ·go_wp2;go_ret;refine⟨rfl,?_⟩;rw[jK4 (by omega)]at HU;exact HU
end Go.Proofs.YtnaolhjbapgjgaaGreat

import Derived.Test.YtnaolhjbapgjgaaGreatMg08
import Derived.DeepKeys
import Derived.Laws.StructEq
set_option maxRecDepth 100000
set_option maxHeartbeats 6400000
namespace Go.Proofs.YtnaolhjbapgjgaaGreat
open Go.Proofs.Tryz
open Go.RowKit
theorem xz{β:Type}(f:Nat->Option β)(g:Nat->β):∀n,(∀i,i<n->f i=some (g i))->(List.range n).mapM f=some ((List.range n).map g)
 |0,_=>rfl
 |n+1,h=>by
  rw[List.range_succ,List.mapM_append,xz f g n (fun i hi=>h i (by omega))];simp[h n (by omega)]
def yD(d:LB):List Lit:=d.map fun b=>Lit.int .u8 (b.toNat:Int)
theorem ye:∀{a b:LB},yD a=yD b->a=b
 |[],[],_=>rfl
 |[],_::_,h=>by simp[yD]at h
 |_::_,[],h=>by simp[yD]at h
 |x::a,y::b,h=>by
  simp only[yD,List.map_cons,List.cons.injEq,Lit.int.injEq,true_and]at h;have e:x=y:=by
   apply UInt8.toNat_inj.1;have:=h.1;omega
  rw[e,ye (a:=a) (b:=b) h.2]
theorem jGP(b:UInt8):(Lit.int .u8 (b.toNat:Int)).wf=true:=by
 have:=b.toNat_lt;simp[Lit.wf,IntKind.min,IntKind.max,IntKind.signed,IntKind.bits];omega
theorem yf:prog.cellsOf 40=32:=by kernel_rfl
theorem jEh:prog.cellsOf 5=1:=by kernel_rfl
theorem ql{α β:Type}(g:α->β):∀l:List α,(l.map fun i=>[g i]).flatten=l.map g
 |[]=>rfl
 |a::l=>by simp[ql g l]
theorem jGz(d:LB)(n:Nat)(hd:d.length=n):(List.range n).map (fun i=>d.getD i 0)=d:=by
 apply List.ext_getElem
 ·simp[hd]
 ·intro i h1 h2;simp[List.getD,h2]
theorem vS(D:Nat)(d:LB)(hd:d.length=32):prog.keyLits (D+2) 40 (jA d)=some (yD d):=by
 unfold Program.keyLits;rw[underlying40];simp only[jB,hd,yf,jEh,Nat.mul_one,if_true];rw[xz _ (fun i=>[Lit.int .u8 ((d.getD i 0).toNat:Int)]) 32 (fun i hi=>by
  have h1:(List.drop i (jA d)).take 1=[bv (d.getD i 0)]:=by
   have LQ:i<(jA d).length:=by rw[jB,hd];exact hi
   rw[List.drop_eq_getElem_cons LQ];simp[jA,List.getD,show i<d.length by omega]
  rw[h1];unfold Program.keyLits;rw[underlying5];simp[bv,jGP])]
 simp only[Option.map_some,Option.some.injEq];rw[ql];have e:=jGz d 32 hd;unfold yD
 conv=>rhs;rw[<-e]
 rw[List.map_map];rfl
theorem VZ(D:Nat)(n:Int)(hw:(Lit.int .i64 n).wf=true):prog.keyLits (D+1) 3 [.int .i64 n]=some [.int .i64 n]:=by
 unfold Program.keyLits;rw[underlying3];simp[hw]
theorem UK(n:Int)(h: -9223372036854775808<=n/\n<=9223372036854775807):(Lit.int .i64 n).wf=true:=by
 simp[Lit.wf,IntKind.min,IntKind.max,IntKind.signed,IntKind.bits];omega
theorem jHK:prog.cellsOf 3=1:=by kernel_rfl
theorem ZB:prog.cellsOf 55=33:=by kernel_rfl
theorem KW:prog.cellsOf 45=98:=by kernel_rfl
theorem YU(a b:List Value)(n:Nat)(h:a.length=n):(a++b).drop n=b:=by rw[<-h];simp
theorem ZY(a b:List Value)(n:Nat)(h:a.length=n):(a++b).take n=a:=by rw[<-h];simp
theorem YN(n:Int)(hn: -9223372036854775808<=n/\n<=9223372036854775807)(d:LB)(hd:d.length=32):prog.keyLits 3 55 (.int .i64 n::jA d)=some (.int .i64 n::yD d):=by
 unfold Program.keyLits;rw[underlying55];have h1:=VZ 1 n (UK n hn);have h2:=vS 0 d hd;have e:(jA d).take 32=jA d:=jK4 (by rw[jB,hd];omega);simp[jB,hd,ZB,jHK,yf,h1,h2,e]
theorem Qu(t:TypeId)(m:Nat)(hm:m<=10000)(hk:prog.keyTypeAt m t=true)(xs ys:List Value)(D D' :Nat)(lx ly:List Lit)(hx:prog.keyLits D t xs=some lx)(hy:prog.keyLits D' t ys=some ly)
  (fx:(Value.agg xs.toArray).formed prog t=true) (fy:(Value.agg ys.toArray).formed prog t=true) (w:World):∃r:Bool,(Op.equalIn 10000 t (.agg xs.toArray) (.agg ys.toArray)).run prog w=.ok r w/\(r=true↔lx=ly):=by
 have h:=run_equalIn_deep (10000-m) m t hk w D D' (.agg xs.toArray) (.agg ys.toArray) lx ly fx fy hx hy
 rwa [show 10000-m+m=10000 by omega]at h
theorem vq{t:TypeId}{xs:List Value}{n:Nat}{d:TypeDesc}(hu:prog.underlying t=some d)(hd:d.isRow=true)(hn:prog.cellsOf t=n)(hl:xs.length=n):(Value.agg xs.toArray).formed prog t=true:=by
 unfold Value.formed;rw[hu];cases d<;>simp_all [TypeDesc.isRow]
theorem jEc(w:World)(a b:LB)(ha:a.length=32)(hb:b.length=32):(Op.equalIn 10000 40 (.agg (jA a).toArray) (.agg (jA b).toArray)).run prog w=.ok (decide (a=b)) w:=by
 obtain⟨r,h1,h2⟩:=Qu 40 2 (by decide) (by kernel_rfl) (jA a) (jA b) 2 2 _ _ (vS 0 a ha) (vS 0 b hb) (vq underlying40 rfl yf (by rw[jB,ha])) (vq underlying40 rfl yf (by rw[jB,hb])) w;have e:r=decide (a=b):=by
  rw[Bool.eq_iff_iff,h2,decide_eq_true_eq];exact⟨ye,fun h=>by rw[h]⟩
 rw[h1,e]
theorem jAp(w:World)(n m:Int)(hn: -9223372036854775808<=n/\n<=9223372036854775807)(hm: -9223372036854775808<=m/\m<=9223372036854775807)(a b:LB)(ha:a.length=32)(hb:b.length=32):
  (Op.equalIn 10000 55 (.agg (.int .i64 n::jA a).toArray) (.agg (.int .i64 m::jA b).toArray)).run prog w=.ok (decide (n=m/\a=b)) w:=by
 obtain⟨r,h1,h2⟩:=Qu 55 3 (by decide) (by kernel_rfl) (.int .i64 n::jA a) (.int .i64 m::jA b) 3 3 _ _ (YN n hn a ha) (YN m hm b hb) (vq underlying55 rfl ZB (by rw[jK6,jB,ha])) (vq underlying55 rfl ZB (by rw[jK6,jB,hb])) w;have e:r=decide (n=m/\a=b):=by
  rw[Bool.eq_iff_iff,h2,decide_eq_true_eq];constructor
  ·intro h;simp only[List.cons.injEq,Lit.int.injEq,true_and]at h;exact⟨h.1,ye h.2⟩
  ·rintro ⟨rfl,rfl⟩;rfl
 rw[h1,e]
theorem zt(h:Hd)(hk:h.Ok)(hs: -9223372036854775808<=h.size/\h.size<=9223372036854775807)(hc: -9223372036854775808<=h.clock/\h.clock<=9223372036854775807):
  prog.keyLits 3 45 h.cells=some (yD h.log++(.int .i64 h.size::(yD h.root++(yD h.index++[.int .i64 h.clock])))):=by
 unfold Program.keyLits;rw[underlying45];have h1:=VZ 1 h.size (UK _ hs);have h2:=VZ 1 h.clock (UK _ hc);have d1:=vS 0 h.log hk.log;have d2:=vS 0 h.root hk.root;have d3:=vS 0 h.index hk.index;have e0:h.cells.length=prog.cellsOf 45:=(by rw[hk.len,KW]);have e1:(h.cells.drop 0).take 32=jA h.log:=(by rw[List.drop_zero,Hd.cells,ZY _ _ 32 (by rw[jB,hk.log])]);have e2:(h.cells.drop 32).take 1=[.int .i64 h.size]:=by rw[Hd.cells,YU _ _ 32 (by rw[jB,hk.log])];rfl
 have e3:(h.cells.drop 33).take 32=jA h.root:=by
  have:h.cells=(jA h.log++[.int .i64 h.size])++(jA h.root++(jA h.index++[.int .i64 h.clock])):=(by simp[Hd.cells]);rw[this,YU _ _ 33 (by simp[jB,hk.log]),ZY _ _ 32 (by rw[jB,hk.root])]
 have e4:(h.cells.drop 65).take 32=jA h.index:=by
  have:h.cells=(jA h.log++([.int .i64 h.size]++jA h.root))++(jA h.index++[.int .i64 h.clock]):=(by simp[Hd.cells]);rw[this,YU _ _ 65 (by simp[jB,hk.log,hk.root]),ZY _ _ 32 (by rw[jB,hk.index])]
 have e5:(h.cells.drop 97).take 1=[.int .i64 h.clock]:=by
  have:h.cells=(jA h.log++([.int .i64 h.size]++(jA h.root++jA h.index)))++[.int .i64 h.clock]:=(by simp[Hd.cells]);rw[this,YU _ _ 97 (by simp[jB,hk.log,hk.root,hk.index])];rfl
 rw[List.drop_zero]at e1;generalize h.cells=cs at*;simp[e0,jHK,yf,e1,e2,e3,e4,e5,h1,h2,d1,d2,d3]
theorem Vo{ops:Array Oper}{rest:List Oper}{op:Oper}{a:Act}{w:World}{Q:Exit->Act->World->Prop}(hw:Region.wanted op (yielded ops a.tmps)=true)(t t' :TypeId)(x y:Operand)(ho:op.op=.binOp .neq t x y t')
  (xs ys:Array Value) (hx:a.eval x=.agg xs) (hy:a.eval y=.agg ys) (hg:prog.eqGuardType prog.depth t=false) (r:Bool) (hr:(Op.equalIn 10000 t (.agg xs) (.agg ys)).run prog w=.ok r w)
  (h:wpList prog ops Q rest (a.put op.dst (.bool (!r))) w):wpList prog ops Q (op::rest) a w:=
 wpList_step fun K hK=>by
  simp only[hw,if_true];unfold Oper.wp execOp;simp only[ho,hx,hy,Sem.run_bind,run_eqGuard_agg w .neq t x y xs ys hg,run_neq_struct,hr,Result.andThen_ok];exact hK _ _ h
theorem jX{ops:Array Oper}{rest:List Oper}{op:Oper}{a:Act}{w:World}{Q:Exit->Act->World->Prop}(hw:Region.wanted op (yielded ops a.tmps)=true)(t:TypeId)(ho:op.op=.build t #[])
  (v:Value) (hr:(Instr.build t #[]).run prog w=.ok v w) (h:wpList prog ops Q rest (a.put op.dst v) w):wpList prog ops Q (op::rest) a w:=
 wpList_step fun K hK=>by
  simp only[hw,if_true];unfold Oper.wp execOp;simp only[ho,Sem.run_bind,List.map_toArray,List.map_nil,hr,Result.andThen_ok];exact hK _ _ h
theorem ji{P:Program}{ops:Array Oper}{rest:List Oper}{d:Option Tmp}{ty:TypeId}{pos:String}{after:Array Edge}{gd:Option (Nat×Bool)}{a:Act}{w:World}{Q:Exit->Act->World->Prop}(t:TypeId)(x:Operand)
  (h:wpList P ops Q (⟨d,.load t x,ty,pos,after,gd⟩::rest) a w):wpList P ops Q (⟨d,.load t x,ty,pos,after,gd⟩::rest) a w:=h
theorem jM{P:Program}{ops:Array Oper}{rest:List Oper}{d:Option Tmp}{ty:TypeId}{pos:String}{after:Array Edge}{gd:Option (Nat×Bool)}{a:Act}{w:World}{Q:Exit->Act->World->Prop}(t:TypeId)
  (h:wpList P ops Q (⟨d,.build t #[],ty,pos,after,gd⟩::rest) a w):wpList P ops Q (⟨d,.build t #[],ty,pos,after,gd⟩::rest) a w:=h
theorem zi{P:Program}{ops:Array Oper}{rest:List Oper}{d:Option Tmp}{ty:TypeId}{pos:String}{after:Array Edge}{gd:Option (Nat×Bool)}{a:Act}{w:World}{Q:Exit->Act->World->Prop}(o:BinOp)(t t' :TypeId)(x y:Operand)
  (h:wpList P ops Q (⟨d,.binOp o t x y t',ty,pos,after,gd⟩::rest) a w):wpList P ops Q (⟨d,.binOp o t x y t',ty,pos,after,gd⟩::rest) a w:=h
theorem uY(w:World)(d:LB)(hd:d.length=32)(k:Nat)(hk:k<32):(Instr.index 40 (.agg (jA d).toArray) (.int .i64 k)).run prog w=.ok (bv (d.getD k 0)) w:=by
 have h1:(0:Int)<=(k:Int)/\(k:Int)<((32:Nat):Int):=(by omega);have h2:(isAgg 5).run prog w=.ok false w:=(by kernel_rfl);have h3:(sizeOf 5).run prog w=.ok 1 w:=(by kernel_rfl);have hkd:k<(jA d).length:=by rw[jB,hd];exact hk
 have h4:(jA d)[k]? =some (bv (d[k]?.getD 0)):=by
  rw[jJ9 hkd];simp[jA,show k<d.length by omega]
 simp[Instr.index,asIntOf,run_underlying underlying40,part,h3];rw[jJ6 hk,h4];rfl
theorem jFI{ops:Array Oper}{rest:List Oper}{o:Oper}{a:Act}{w:World}{Q:Exit->Act->World->Prop}(hg:o.guard=none)(x y:Operand)(ho:o.op=.index 40 x y)(d:LB)(hd:d.length=32)(k:Nat)(hk:k<32)
  (hx:a.eval x=.agg (jA d).toArray) (hy:a.eval y=.int .i64 k) (h:wpList prog ops Q rest (a.put o.dst (bv (d.getD k 0))) w):wpList prog ops Q (o::rest) a w:=by
 refine wpList_plain hg fun K hK=> ?_;unfold Oper.wp execOp;simp only[ho,hx,hy,Sem.run_bind,uY w d hd k hk,Result.andThen_ok];exact hK _ _ h
def vM(d:LB):Nat:=(d.map fun b=>Lib.onesCount b.toNat).sum
theorem xt(d:LB)(k:Nat)(h:k<d.length):vM (d.take (k+1))=vM (d.take k)+Lib.onesCount (d.getD k 0).toNat:=by
 rw[jK2 h,vM,List.map_append,List.sum_append];simp[vM,List.getD,h]
theorem UF(b:UInt8):Lib.onesCount b.toNat<=8:=Lib.onesCount_le8 ⟨b.toNat,b.toNat_lt⟩
theorem Jf(d:LB):vM d<=d.length*8:=by
 induction d with
 |nil=>decide
 |cons a d ih=>
  have:=UF a;simp only[vM,List.map_cons,List.sum_cons,jK6]at*;omega
theorem Zc(w:World)(d:LB)(hd:d.length=32):Calls prog 145 #[.agg (jA d).toArray] w fun e w' =>e=.returned (.int .i64 (vM d))/\Old w w' :=by
 have Hb:=G (jQ2 w 40 (jA d).toArray);have Ho:=G ((jQ0 NoX w).alloc (.cells (jA d).toArray 40));have Fh:=G (show(prog.info? 40).map (·.size)=some (jA d).length by rw[jB,hd];exact jO);have Hd:=G hd;clear hd;go_enter func145,ntmps145;go_wp2_with (first|refine jK rfl 40 (.tmp 1) rfl w.heap.size 0 rfl (jA d) _ Hb.out.range underlying40 rfl Fh.out ?_ |fail);generalize w.alloc _=W at*;go_loop [3,7] (fun n i=>∃k:Nat,k<=32/\i=.int .i64 k/\n=.int .i64 (vM (d.take k))) (fun _ i=>32-(intOf i).toNat)
 case atStart=>exact⟨0,by omega,rfl,rfl⟩
 case round=>
  obtain⟨k,hk,rfl,rfl⟩:=hrel;have Fu:=Jf (d.take k);rw[jK9,Hd.out]at Fu;by_cases hM:k<32
  ·have Hs:=G (xt d k (by rw[Hd.out];exact hM));have h8:=UF (d.getD k 0);have hb:=(d.getD k 0).toNat_lt;have HO:=G (fun W=>show Calls prog 174 #[.int .u8 ((d.getD k 0).toNat:Int)] W fun e w' =>e=.returned (.int .i64 (Lib.onesCount (d.getD k 0).toNat))/\w' =W by
    have:=Any.bits_OnesCount8 jG1 ((d.getD k 0).toNat:Int) W (by omega) (by omega);rw[jL1]at this;exact this)
   generalize vM (d.take k)=m at*;have hm:(m:Int)<=256:=(by omega);have b2:(k:Int)<32:=(by omega);clear Fu;go_wp2_with (first|refine jFI rfl (.tmp 6) (.tmp 7) rfl d Hd.out k hM rfl rfl ?_ |fail);refine(HO.out W).mono ?_;rintro e w' ⟨rfl,rfl⟩;generalize Lib.onesCount (d.getD k 0).toNat=c at*;go_wp2;go_round
   case rel=>exact⟨k+1,by omega,by go_num,by rw[Hs.out];go_num⟩
   case measure=>simp[intOf];omega
  ·obtain rfl:k=32:=(by omega);have Hf:=G (show d.take 32=d from jK4 (by rw[Hd.out];omega));go_wp2;go_ret;exact⟨by rw[Hf.out];rfl,Ho.out⟩
structure Idx where
 case_:BA
 found:Bool
 count:Int
 chain:LB
 bitmap:LB
 way:List LB
structure Idx.Ok(x:Idx):Prop where
 chain:x.chain.length=32
 bitmap:x.bitmap.length=32
 way:Dgs x.way
 count: -9223372036854775808<=x.count/\x.count<=9223372036854775807
 big:x.way.length<=2147483647/\x.case_.size<=9223372036854775807
theorem JH:(prog.info? 55).map (·.size)=some 33:=by kernel_rfl
theorem Kl:prog.eqGuardType prog.depth 55=false:=by kernel_rfl
def zC:LB:=List.replicate 32 0
theorem Zv:jA zC=zero32:=by simp[jA,zC,zero32,bv,List.replicate]
def Idx.cells(x:Idx)(A:OA)(c:Nat):List Value:=[.string x.case_,.bool x.found,.int .i64 x.count]++(jA x.chain++(jA x.bitmap++[.slice A x.way.length c]))
def ze(x:Idx):Bool:=if x.found=true then decide (1<=x.count/\x.count<=1099511627776)else decide (x.count=0/\x.chain=zC)
def Ji(x:Idx):Bool:=ze x&&(kT x.case_ &&decide (vM x.bitmap=x.way.length))
section
variable{x:Idx}{A:OA}{c:Nat}(k:x.Ok)
include k
theorem Idx.Ok.len:(x.cells A c).length=68:=by simp[Idx.cells,jB,k.chain,k.bitmap]
theorem Idx.Ok.s35:Sub (x.cells A c) 35 (jA x.bitmap):=by
 have:=Sub.mid_ ([.string x.case_,.bool x.found,.int .i64 x.count]++jA x.chain) (jA x.bitmap) [.slice A x.way.length c] 35 (by simp[jB,k.chain]);simpa [Idx.cells]using this
theorem Idx.Ok.s67:(x.cells A c)[67]? =some (.slice A x.way.length c):=by
 have:=(Sub.end_ ([.string x.case_,.bool x.found,.int .i64 x.count]++(jA x.chain++jA x.bitmap)) [.slice A x.way.length c] 67 (by simp[jB,k.chain,k.bitmap])) 0 _ rfl;simpa [Idx.cells]using this
end
theorem Idx.s2(x:Idx)(A:OA)(c:Nat):Sub (x.cells A c) 2 (.int .i64 x.count::jA x.chain):=by
 have:=Sub.mid_ [.string x.case_,.bool x.found] (.int .i64 x.count::jA x.chain) (jA x.bitmap++[.slice A x.way.length c]) 2 rfl;simpa [Idx.cells]using this
theorem Idx.s3(x:Idx)(A:OA)(c:Nat):Sub (x.cells A c) 3 (jA x.chain):=Sub.mid_ [.string x.case_,.bool x.found,.int .i64 x.count] _ _ 3 rfl
theorem Zx(w:World):(Instr.build 55 #[]).run prog w=.ok (.agg (.int .i64 0::zero32).toArray) w:=by kernel_rfl
theorem ut(W:World)(n:Int)(hn: -9223372036854775808<=n/\n<=9223372036854775807)(d:LB)(hd:d.length=32)(r:Bool)(hr:decide (n=0/\d=zC)=r):
  (Op.equalIn 10000 55 (.agg (.int .i64 n::jA d).toArray) (.agg (.int .i64 0::zero32).toArray)).run prog W=.ok r W:=by
 have h:=jAp W n 0 hn (by omega) d zC hd rfl;rw[Zv,hr]at h;exact h
structure IdxAt(W:World)(B:Nat)(cl:List Value)(cs:BA)(A:OA)(n c:Nat)(bm:LB):Prop where
 blk:Blk W B 57 cl.toArray
 s0:cl[0]? =some (.string cs)
 s67:cl[67]? =some (.slice A n c)
 sB:Sub cl 35 (jA bm)
section
variable{W W' :World}{B:Nat}{cl:List Value}{cs:BA}{A:OA}{n c:Nat}{bm:LB}
theorem IdxAt.old(h:IdxAt W B cl cs A n c bm)(ho:Old W W'):IdxAt W' B cl cs A n c bm:=⟨h.blk.old ho,h.s0,h.s67,h.sB⟩
theorem IdxAt.all(h:IdxAt W B cl cs A n c bm):W.cell? ⟨B,0,none⟩=some (.string cs)/\W.cell? ⟨B,67,none⟩=some (.slice A n c)/\W.rangeAt B 35 (jA bm):=by
 have hc:∀(i:Nat) (v:Value),cl[i]? =some v->W.cell? ⟨B,i,none⟩=some v:=fun i v e=>h.blk.at_ i (by rw[jJ7];exact e);exact⟨hc 0 _ h.s0,hc 67 _ h.s67,h.sB.range h.blk⟩
end
theorem Va(w:World)(x:Idx)(A:OA)(c:Nat)(Hu:x.Ok):Calls prog 111 #[.agg (x.cells A c).toArray] w fun e w' =>e=.returned (.bool (Ji x))/\Old w w' :=by
 have Fe:=G Hu;have Hb:=jQ2 w 57 (x.cells A c).toArray;have HA:=G (show IdxAt (w.alloc (.cells (x.cells A c).toArray 57)) w.heap.size (x.cells A c) x.case_ A x.way.length c x.bitmap from⟨Hb,rfl,Hu.s67,Hu.s35⟩);have Ho:=G ((jQ0 NoX w).alloc (.cells (x.cells A c).toArray 57));have HI:=G (show Ji x=(ze x&&(kT x.case_ &&decide (vM x.bitmap=x.way.length)))from rfl);have HE:=G (show ze x=if x.found=true then decide (1<=x.count/\x.count<=1099511627776)else decide (x.count=0/\x.chain=zC)from rfl);have c1:=Hb.at_ 1 (v:=.bool x.found) (by rw[jJ7];rfl);have c2:=Hb.at_ 2 (v:=.int .i64 x.count) (by rw[jJ7];rfl);have Fn:=G ((x.s2 A c).range Hb);generalize Ji x=R at*;generalize ze x=E0 at*;clear Hu Hb;generalize x.cells A c=cl at*;cases hf:x.found with
 |true=>
  rw[hf]at c1 HE;clear hf;by_cases h1:x.count<1
  ·have hY:=G (show R=false by rw[HI.out,HE.out,jJ6 rfl,jK3 (by omega)];rfl);go_enter func111,ntmps111;go_wp2;go_ret;exact⟨by rw[hY.out];rfl,Ho.out⟩
  ·by_cases h2:1099511627776<x.count
   ·have hY:=G (show R=false by rw[HI.out,HE.out,jJ6 rfl,jK3 (by omega)];rfl);go_enter func111,ntmps111;go_wp2;go_ret;exact⟨by rw[hY.out];rfl,Ho.out⟩
   ·have Wn:=G (show R=(kT x.case_ &&decide (vM x.bitmap=x.way.length))by rw[HI.out,HE.out,jJ6 rfl,jK5 (by omega)];rfl);go_enter func111,ntmps111;go_wp2_with fail;generalize w.alloc _=W at*;clear c1 c2 Fn HI HE;by_cases hn:kT x.case_=true
    ·have HN:=G (fun W=>KM W x.case_ Fe.out.big.2);have HO:=G (fun W=>Zc W x.bitmap Fe.out.bitmap);have HR:=G (show R=((vM x.bitmap:Int)==(x.way.length:Int))by
      rw[Wn.out,hn,Bool.true_and,Bool.eq_iff_iff];simp;omega)
     rw[hn]at HN;have hu:=underlying40;have hi:(prog.info? 40).map (·.size)=some (jA x.bitmap).length:=by rw[jB,Fe.out.bitmap];exact jO
     have D:=(HA.out.old (jQ0 NoX W).drew).all;have J3:=G (HA.out.old (jQ0 NoX W).drew);generalize vM x.bitmap=on at*;clear hn;go_wp2_with fail
     go_region_held3 (fun w' =>w'.cell? ⟨w.heap.size,0,none⟩=some (.string x.case_)/\w'.cell? ⟨w.heap.size,67,none⟩=some (.slice A x.way.length c)/\w'.rangeAt w.heap.size 35 (jA x.bitmap)) (first|exact D|exact E)
      (first
       |(go_at_call 153;refine(HN.out _).mono ?_;rintro e w5 ⟨rfl,rfl⟩)
       |(go_at_call 145;refine(HO.out _).mono ?_;rintro e w6 ⟨rfl,FN⟩;have E:=(J3.out.old FN).all;have Cz:=G (Ho.out.drew.old FN))
       |fail)
     all_goals
      go_wp2;go_ret;exact⟨by rw[HR.out];rfl,Cz.out⟩
    ·have Wu:kT x.case_=false:=(by simpa using hn);have HN:=G (fun W=>KM W x.case_ Fe.out.big.2);rw[Wu]at HN;have hY:=G (show R=false by rw[Wn.out,Wu];rfl);have c0:=HA.out.all.1;clear hn Wu Wn;go_wp2_with fail;go_quiet ((go_at_call 153;exact Calls.quiet_of_same ((HN.out _).mono (fun _ _ h=>⟨h.1,h.2.symm⟩))));go_wp2;go_ret;exact⟨by rw[hY.out];rfl,Ho.out.drewN _⟩
 |false=>
  rw[hf]at c1 HE;clear hf;have Fh:=G (show(prog.info? 55).map (·.size)=some (Value.int .i64 x.count::jA x.chain).length by rw[jK6,jB,Fe.out.chain];exact JH);by_cases hz:x.count=0/\x.chain=zC
  ·have We:=G (fun W=>ut W x.count Fe.out.count x.chain Fe.out.chain true (jK5 hz));have Wn:=G (show R=(kT x.case_ &&decide (vM x.bitmap=x.way.length))by rw[HI.out,HE.out,jJ5 (by simp),jK5 hz];rfl);clear hz;go_enter func111,ntmps111;go_wp2_with (first|(with_reducible refine ji 55 (.tmp 22) ?_;refine jK rfl 55 (.tmp 22) rfl w.heap.size 2 rfl (.int .i64 x.count::jA x.chain) _ Fn.out underlying55 rfl Fh.out ?_)|(with_reducible refine jM 55 ?_;refine jX rfl 55 rfl _ (Zx _) ?_)|(with_reducible refine zi .neq 55 55 (.tmp 23) (.tmp 24) ?_;refine Vo rfl 55 55 (.tmp 23) (.tmp 24) rfl _ (.int .i64 0::zero32).toArray rfl rfl Kl true (We.out _) ?_)|fail);generalize w.alloc _=W at*;clear c1 c2 Fn HI HE;by_cases hn:kT x.case_=true
   ·have HN:=G (fun W=>KM W x.case_ Fe.out.big.2);have HO:=G (fun W=>Zc W x.bitmap Fe.out.bitmap);have HR:=G (show R=((vM x.bitmap:Int)==(x.way.length:Int))by
     rw[Wn.out,hn,Bool.true_and,Bool.eq_iff_iff];simp;omega)
    rw[hn]at HN;have hu:=underlying40;have hi:(prog.info? 40).map (·.size)=some (jA x.bitmap).length:=by rw[jB,Fe.out.bitmap];exact jO
    have D:=(HA.out.old (jQ0 NoX W).drew).all;have J3:=G (HA.out.old (jQ0 NoX W).drew);generalize vM x.bitmap=on at*;clear hn;go_wp2_with fail
    go_region_held3 (fun w' =>w'.cell? ⟨w.heap.size,0,none⟩=some (.string x.case_)/\w'.cell? ⟨w.heap.size,67,none⟩=some (.slice A x.way.length c)/\w'.rangeAt w.heap.size 35 (jA x.bitmap)) (first|exact D|exact E)
     (first
      |(go_at_call 153;refine(HN.out _).mono ?_;rintro e w5 ⟨rfl,rfl⟩)
      |(go_at_call 145;refine(HO.out _).mono ?_;rintro e w6 ⟨rfl,FN⟩;have E:=(J3.out.old FN).all;have Cz:=G (Ho.out.drew.old FN))
      |fail)
    all_goals
     go_wp2;go_ret;exact⟨by rw[HR.out];rfl,Cz.out⟩
   ·have Wu:kT x.case_=false:=(by simpa using hn);have HN:=G (fun W=>KM W x.case_ Fe.out.big.2);rw[Wu]at HN;have hY:=G (show R=false by rw[Wn.out,Wu];rfl);have c0:=HA.out.all.1;clear hn Wu Wn;go_wp2_with fail;go_quiet ((go_at_call 153;exact Calls.quiet_of_same ((HN.out _).mono (fun _ _ h=>⟨h.1,h.2.symm⟩))));go_wp2;go_ret;exact⟨by rw[hY.out];rfl,Ho.out.drewN _⟩
  ·have We:=G (fun W=>ut W x.count Fe.out.count x.chain Fe.out.chain false (jK3 hz));have hY:=G (show R=false by rw[HI.out,HE.out,jJ5 (by simp),jK3 hz];rfl);clear hz;go_enter func111,ntmps111;go_wp2_with (first|(with_reducible refine ji 55 (.tmp 22) ?_;refine jK rfl 55 (.tmp 22) rfl w.heap.size 2 rfl (.int .i64 x.count::jA x.chain) _ Fn.out underlying55 rfl Fh.out ?_)|(with_reducible refine jM 55 ?_;refine jX rfl 55 rfl _ (Zx _) ?_)|(with_reducible refine zi .neq 55 55 (.tmp 23) (.tmp 24) ?_;refine Vo rfl 55 55 (.tmp 23) (.tmp 24) rfl _ (.int .i64 0::zero32).toArray rfl rfl Kl false (We.out _) ?_)|fail);go_wp2;go_ret;exact⟨by rw[hY.out];rfl,Ho.out⟩
def vJ(x:Idx):LB:=(if x.found=true then be8 x.count++x.chain else [])++(x.bitmap++x.way.flatten)
def qj(x:Idx):Option LB:=if Ji x=true then some (be 1 50++(lp 1 (sb x.case_)++([if x.found=true then 1 else 0]++vJ x)))else none
theorem jd:(prog.info? 57).map (·.size)=some 68:=by kernel_rfl
theorem qh{x:Idx}(h:Ji x=true):x.case_.size<=64:=by
 unfold Ji kT at h;simp only[Bool.and_eq_true,decide_eq_true_eq]at h;exact h.2.1.1
theorem jCF(w:World)(x:Idx)(A:OA)(c:Nat)(Hu:x.Ok)(Fa:Rd w 32 A x.way.length (x.way.flatMap jA)):
  Calls prog 60 #[.agg (x.cells A c).toArray] w (XU w (qj x) 70000000000):=by
 have Fe:=G Hu;have Hb:=G (jQ2 w 57 (x.cells A c).toArray);have Ho:=G ((jQ0 NoX w).alloc (.cells (x.cells A c).toArray 57));have Fy:=G Fa;have Fh:=G (show(prog.info? 57).map (·.size)=some (x.cells A c).length by rw[Hu.len];exact jd);have HX:=G (fun W=>Va W x A c Hu);have HI:=G (show qj x=if Ji x=true then some (be 1 50++(lp 1 (sb x.case_)++([if x.found=true then 1 else 0]++vJ x)))else none from rfl);have S3:=G (x.s3 A c);have S35:=G (Hu.s35 (A:=A) (c:=c));have s0:=G (show(x.cells A c)[0]? =some (.string x.case_)from rfl);have s1:=G (show(x.cells A c)[1]? =some (.bool x.found)from rfl);have s2:=G (show(x.cells A c)[2]? =some (.int .i64 x.count)from rfl);have s67:=G (Hu.s67 (A:=A) (c:=c));have Sp:=G (show(prog.info? 40).map (·.size)=some (jA x.chain).length by rw[jB,Hu.chain];exact jO);have So:=G (show(prog.info? 40).map (·.size)=some (jA x.bitmap).length by rw[jB,Hu.bitmap];exact jO);generalize qj x=IB at*;clear Hu Fa;generalize x.cells A c=cl at*;go_enter func60,ntmps60;go_wp2_with (first|(with_reducible refine ji 57 (.tmp 1) ?_;refine jK rfl 57 (.tmp 1) rfl w.heap.size 0 rfl cl _ Hb.out.range underlying57 rfl Fh.out ?_)|fail);generalize w.alloc _=W at*;refine(HX.out W).mono ?_;rintro e w1 ⟨rfl,F0⟩;have Gt:=G (Hb.out.old F0);have FE:=G (Ho.out.old F0);clear F0 Hb Ho HX;by_cases hi:Ji x=true
 ·have Fm:=G (show IB=some (be 1 50++(lp 1 (sb x.case_)++([if x.found=true then 1 else 0]++vJ x)))by rw[HI.out,jJ6 hi]);have Mt:=qh hi;rw[hi];clear hi HI;go_wp2_with fail;refine(Yu _).mono ?_;rintro e w3 ⟨rfl,G8,Gj⟩;have GT:=G (Gt.out.old Gj);have Ny:=G ((Fy.out.old FE.out).old Gj);have FW:=G (Av.own (Fy.out.old FE.out) (by decide) (jL3 w1.heap.size));have hM:=Gt.out.lt;have Hx:=G (show¬WX w1.heap.size none w.heap.size from by
   rintro (e|e)
   ·omega
   ·cases e)
  have Gq:=G (FE.out.old Gj);have Mf:=G G8;have V4:=G (show w.heap.size<=w1.heap.size from FE.out.size);clear G8 Gj Gt;generalize w1.heap.size=g at*;go_wp2_with fail;refine(kY _ g none [] 50 (by decide) (by decide) Mf.out (by simp)).mono ?_;rintro e w4 ⟨rfl,HU⟩;obtain⟨r4,M2,f4⟩:=HU.kf;have F4:=G f4;have Lg:=G M2;have c0:=(f4.blk GT.out Hx.out).at_ 0 (by rw[jJ7];exact s0.out);clear HU M2 f4;go_wp2_with fail;refine(Qa _ g r4 _ x.case_ Lg.out (by simp[jC]) (by omega)).mono ?_;rintro e w5 ⟨rfl,HU⟩;obtain⟨r5,NI,f5⟩:=HU.kf;have F5:=G (F4.out.trans f5);have Ph:=G NI;have c1:=(F5.out.blk GT.out Hx.out).at_ 1 (by rw[jJ7];exact s1.out);have Le:=G (show([]++be 1 ((50:Int)).toNat++lp 1 (sb x.case_)).length<=1000 by simp only[jJ4,jC,jV,jH,List.length_nil];omega);clear HU NI f5 F4 Lg c0;go_wp2_with fail;refine(YQ _ g r5 _ x.found Ph.out (by have:=Le.out;omega)).mono ?_;rintro e w6 ⟨rfl,HU⟩;obtain⟨r6,MB,f6⟩:=HU.kf;have F6:=G (F5.out.trans f6);have PD:=G MB;have X9:=F6.out.blk GT.out Hx.out;have c1' :=X9.at_ 1 (by rw[jJ7];exact s1.out);have c2:=X9.at_ 2 (by rw[jJ7];exact s2.out);have Z4:=G (S3.out.range X9);clear HU MB f6 F5 Ph c1 X9;cases hf:x.found with
  |true=>
   rw[hf]at c1' PD;simp only[if_true]at PD;go_wp2_with (first|(with_reducible refine ji 40 (.tmp 26) ?_;refine jK rfl 40 (.tmp 26) rfl w.heap.size 3 rfl (jA x.chain) _ Z4.out underlying40 rfl Sp.out ?_)|refine VK rfl (.tmp 27) rfl x.chain Fe.out.chain rfl ?_ |fail);refine(vQ _ g r6 _ x.count _ 1 1 [x.chain] rfl (fun d hd=>by rw[List.mem_singleton.1 hd];exact Fe.out.chain) (PD.out.old ((jQ0 _ _).alloc _)) (by have:=Le.out;rw[jJ4,List.length_singleton];omega) (by omega) (by
    have:=Rd.row_new w6 40 32 1 (jA x.chain) (by rw[jB,Fe.out.chain]);simpa using this) (Av.new PD.out)).mono ?_
   rintro e w7 ⟨rfl,HU⟩;obtain⟨r7,P6,f7⟩:=HU.kf;have F7:=G (F6.out.trans ((KF.of ((jQ0 NoX w6).alloc _)).trans f7));generalize L0:[]++be 1 ((50:Int)).toNat++lp 1 (sb x.case_)++[1]++(be8 x.count++[x.chain].flatten)=pp at*;have RK:=G L0;have Pg:=G P6;clear HU P6 f7 F6 PD c1' c2 Z4 L0;have C7:=G (show pp.length<=2000 by have:=Le.out;rw[<-RK.out];simp only[jJ4,jK6,List.length_nil,jG,List.flatten_cons,List.flatten_nil,List.append_nil,Fe.out.chain]at*;omega);have Fn:=G (S35.out.range (F7.out.blk GT.out Hx.out));go_wp2_with (first|(with_reducible refine ji 40 (.tmp 31) ?_;refine jK rfl 40 (.tmp 31) rfl w.heap.size 35 rfl (jA x.bitmap) _ Fn.out underlying40 rfl So.out ?_)|refine VK rfl (.tmp 32) rfl x.bitmap Fe.out.bitmap rfl ?_ |fail);refine(yg _ g r7 pp _ 1 1 [x.bitmap] rfl (fun d hd=>by rw[List.mem_singleton.1 hd];exact Fe.out.bitmap) (Pg.out.old ((jQ0 _ _).alloc _)) (by have:=C7.out;omega) (by omega) (by
    have:=Rd.row_new w7 40 32 1 (jA x.bitmap) (by rw[jB,Fe.out.bitmap]);simpa using this) (Av.new Pg.out)).mono ?_
   rintro e w8 ⟨rfl,HU⟩;obtain⟨r8,MV,f8⟩:=HU.kf;rw[List.flatten_singleton]at MV;have F8:=G (F7.out.trans ((KF.of ((jQ0 NoX w7).alloc _)).trans f8));have c67:=(F8.out.blk GT.out Hx.out).at_ 67 (by rw[jJ7];exact s67.out);have HD:=G (yg w8 g r8 _ A x.way.length c x.way rfl Fe.out.way MV (by have:=C7.out;rw[jJ4,Fe.out.bitmap];omega) Fe.out.big.1 (F8.out.rd Ny.out FW.out) (F8.out.av Ny.out (by decide) FW.out));clear HU MV f8 F7 Pg Fn;go_wp2_with fail;refine HD.out.mono ?_;rintro e w9 ⟨rfl,HU⟩;obtain⟨r9,MA,f9⟩:=HU.kf;have Bx:=Fe.out.big.1;have SP:(pp++x.bitmap++x.way.flatten).length<=70000000000:=by
    have:=C7.out;rw[jJ4,jJ4,Fe.out.bitmap,Fe.out.way.flat];omega
   have Hq:=G (show IB=some (pp++x.bitmap++x.way.flatten)by
    rw[Fm.out,<-RK.out,vJ,hf];simp only[if_true,List.nil_append,jK1,List.cons_append,List.flatten_cons,List.flatten_nil,List.append_nil,Option.some.injEq];rfl)
   generalize pp++x.bitmap++x.way.flatten=q at*;have HO:=G (show Old w w9 from Gq.out.trans (F8.out.trans f9).kp (fun b hb hx=>by
    rcases hx with hx|hx
    ·have:=V4.out;omega
    ·cases hx))
   clear HU f9 c67 HD Bx;go_wp2_with fail;refine(JE _ g r9 q MA (by omega)).mono ?_;rintro e w10 ⟨A8,c8,rfl,Hi,NF⟩;have HZ:=G (show XU w IB 70000000000 (.returned (.tuple #[.slice A8 q.length c8,.int .i64 0])) w10 from
    .inl ⟨q,A8,c8,Hq.out,SP,rfl,Rd.of_own Hi,fun hn ad e hx=>vd Hi hn ad e (jL8 hx HO.out.size),HO.out.old NF⟩)
   clear Hi NF SP;go_wp2
   go_ret2
   exact HZ.out
  |false=>
   rw[hf]at c1' PD;simp only[Bool.false_eq_true,if_false]at PD;obtain⟨r7,rfl⟩:∃r7,r7=r6:=⟨_,rfl⟩;obtain⟨w7,rfl⟩:∃w7,w7=w6:=⟨_,rfl⟩;have F7:=G F6.out;generalize L0:[]++be 1 ((50:Int)).toNat++lp 1 (sb x.case_)++[0]=pp at*;have RK:=G L0;have Pg:=G PD.out;clear F6 PD c2 Z4 L0;have C7:=G (show pp.length<=2000 by have:=Le.out;rw[<-RK.out];simp only[jJ4,jK6,List.length_nil]at*;omega);have Fn:=G (S35.out.range (F7.out.blk GT.out Hx.out));go_wp2_with (first|(with_reducible refine ji 40 (.tmp 31) ?_;refine jK rfl 40 (.tmp 31) rfl w.heap.size 35 rfl (jA x.bitmap) _ Fn.out underlying40 rfl So.out ?_)|refine VK rfl (.tmp 32) rfl x.bitmap Fe.out.bitmap rfl ?_ |fail);refine(yg _ g r7 pp _ 1 1 [x.bitmap] rfl (fun d hd=>by rw[List.mem_singleton.1 hd];exact Fe.out.bitmap) (Pg.out.old ((jQ0 _ _).alloc _)) (by have:=C7.out;omega) (by omega) (by
    have:=Rd.row_new w7 40 32 1 (jA x.bitmap) (by rw[jB,Fe.out.bitmap]);simpa using this) (Av.new Pg.out)).mono ?_
   rintro e w8 ⟨rfl,HU⟩;obtain⟨r8,MV,f8⟩:=HU.kf;rw[List.flatten_singleton]at MV;have F8:=G (F7.out.trans ((KF.of ((jQ0 NoX w7).alloc _)).trans f8));have c67:=(F8.out.blk GT.out Hx.out).at_ 67 (by rw[jJ7];exact s67.out);have HD:=G (yg w8 g r8 _ A x.way.length c x.way rfl Fe.out.way MV (by have:=C7.out;rw[jJ4,Fe.out.bitmap];omega) Fe.out.big.1 (F8.out.rd Ny.out FW.out) (F8.out.av Ny.out (by decide) FW.out));clear HU MV f8 F7 Pg Fn;go_wp2_with fail;refine HD.out.mono ?_;rintro e w9 ⟨rfl,HU⟩;obtain⟨r9,MA,f9⟩:=HU.kf;have Bx:=Fe.out.big.1;have SP:(pp++x.bitmap++x.way.flatten).length<=70000000000:=by
    have:=C7.out;rw[jJ4,jJ4,Fe.out.bitmap,Fe.out.way.flat];omega
   have Hq:=G (show IB=some (pp++x.bitmap++x.way.flatten)by
    rw[Fm.out,<-RK.out,vJ,hf];simp only[Bool.false_eq_true,if_false,List.nil_append,jK1,List.cons_append,Option.some.injEq];rfl)
   generalize pp++x.bitmap++x.way.flatten=q at*;have HO:=G (show Old w w9 from Gq.out.trans (F8.out.trans f9).kp (fun b hb hx=>by
    rcases hx with hx|hx
    ·have:=V4.out;omega
    ·cases hx))
   clear HU f9 c67 HD Bx;go_wp2_with fail;refine(JE _ g r9 q MA (by omega)).mono ?_;rintro e w10 ⟨A8,c8,rfl,Hi,NF⟩;have HZ:=G (show XU w IB 70000000000 (.returned (.tuple #[.slice A8 q.length c8,.int .i64 0])) w10 from
    .inl ⟨q,A8,c8,Hq.out,SP,rfl,Rd.of_own Hi,fun hn ad e hx=>vd Hi hn ad e (jL8 hx HO.out.size),HO.out.old NF⟩)
   clear Hi NF SP;go_wp2
   go_ret2
   exact HZ.out
 ·have HZ:=G (show IB=none by rw[HI.out,jJ5 hi]);have LQ:Ji x=false:=(by simpa using hi);rw[LQ];clear hi LQ;go_wp2
  go_ret2
  exact .inr ⟨170,HZ.out,by decide,rfl,FE.out⟩
theorem Zo(place:Nat->Option (Nat×Nat))(i off n:Nat)(v:Value)(hp:place i=some (off,n))(hv:v.cells.size=n)(cs:Array Value)(hf:off+n<=cs.size)(rest:List (Nat×Value)):
  ∃r:Array Value,Instr.fill place cs ((i,v)::rest)=Instr.fill place r rest/\r.size=cs.size/\∀k,r[k]? =if off<=k/\k<off+n then v.cells[k-off]? else cs[k]? :=by
 obtain⟨g1,g2⟩:=Great.foldl_set off v.cells.toList 0 cs;refine⟨_,?_,g1,fun k=> ?_⟩
 ·conv=>lhs;unfold Instr.fill
  simp only[hp,hv];rw[jJ5 (by simp;omega)]
  congr 1
  rw[<-Array.foldl_toList,Array.toList_zipIdx]
 ·rw[g2 k];simp only[Nat.add_zero,Array.length_toList,hv,Array.getElem?_toList];by_cases h:off<=k/\k<off+n
  ·rw[jJ6 ⟨h.1,h.2,by omega⟩,jJ6 h]
  ·rw[jJ5 (fun hh=>h ⟨hh.1,hh.2.1⟩),jJ5 h]
theorem jGi(place:Nat->Option (Nat×Nat))(n m:Nat)(x y:Value)(h0:place 0=some (0,n))(h1:place 1=some (n,m))(hx:x.cells.size=n)(hy:y.cells.size=m)(z:Array Value)(hz:z.size=n+m):
  Instr.fill place z [(0,x),(1,y)]=some (x.cells++y.cells):=by
 obtain⟨r,e1,s1,k1⟩:=Zo place 0 0 n x h0 hx z (by omega) [(1,y)];obtain⟨r2,e2,s2,k2⟩:=Zo place 1 n m y h1 hy r (by omega) [];rw[e1,e2];simp only[Instr.fill,Option.some.injEq];apply Array.ext_getElem?;intro k;rw[k2 k,k1 k,Array.getElem?_append,hx];by_cases h:n<=k/\k<n+m
 ·rw[jJ6 h,jJ5 (by omega)]
 ·rw[jJ5 h];by_cases h' :k<n
  ·rw[jJ6 ⟨Nat.zero_le _,by omega⟩,jJ6 h',Nat.sub_zero]
  ·rw[jJ5 (by omega),jJ5 h',Array.getElem?_eq_none (by omega),Array.getElem?_eq_none (by omega)]
theorem qv{t:TypeId}{n m:Nat}{x y:Value}{fs:Array Field}(hu:prog.underlying t=some (.struct fs))
  (hp:fs.toList.mapM (fun f=>(prog.info? f.type).map fun i=>(f.offset,i.size))=some [(0,n),(n,m)])
  (hz:((prog.info? t).bind (·.zero)).map (·.cells.size)=some (n+m)) (hx:x.cells.size=n) (hy:y.cells.size=m):
  prog.built t [(0,x),(1,y)]=some (x.cells++y.cells):=by
 unfold Program.built;cases hi:prog.info? t with
 |none=>rw[hi]at hz;cases hz
 |some it=>
  cases Wo:it.zero with
  |none=>rw[hi]at hz;simp[Wo]at hz
  |some z=>
   rw[hi]at hz;simp only[jL2,Wo,Option.map_some,Option.some.injEq]at hz;simp only[hu,Wo,hp];exact jGi _ n m x y rfl rfl hx hy z.cells hz
theorem jE1{P:Program}{ops:Array Oper}{rest:List Oper}{d:Option Tmp}{ty:TypeId}{pos:String}{after:Array Edge}{gd:Option (Nat×Bool)}{a:Act}{w:World}{Q:Exit->Act->World->Prop}(t:TypeId)(x y:Operand)
  (h:wpList P ops Q (⟨d,.build t #[(0,x),(1,y)],ty,pos,after,gd⟩::rest) a w):wpList P ops Q (⟨d,.build t #[(0,x),(1,y)],ty,pos,after,gd⟩::rest) a w:=h
theorem jCu{ops:Array Oper}{rest:List Oper}{o:Oper}{a:Act}{w:World}{Q:Exit->Act->World->Prop}(hg:o.guard=none)(t:TypeId)(x y:Operand)(ho:o.op=.build t #[(0,x),(1,y)])
  (vx vy:Value) (hx:a.eval x=vx) (hy:a.eval y=vy) (cs:List Value) (hb:prog.built t [(0,vx),(1,vy)]=some cs.toArray)
  (h:wpList prog ops Q rest (a.put o.dst (.agg cs.toArray)) w):wpList prog ops Q (o::rest) a w:=
 wpList_buildTo hg t _ ho o.dst rfl cs.toArray (by simp only[List.map_toArray,List.map_cons,List.map_nil,hx,hy];exact hb) h
theorem jBf:∃fs,prog.underlying 165=some (.struct fs)/\fs.toList.mapM (fun f=>(prog.info? f.type).map fun i=>(f.offset,i.size))=some [(0,32),(32,32)]:=⟨_,underlying165,by kernel_rfl⟩
theorem jCZ(a b:LB)(ha:a.length=32)(hb:b.length=32):prog.built 165 [(0,.agg (jA a).toArray),(1,.agg (jA b).toArray)]=some (jA a++jA b).toArray:=by
 obtain⟨fs,hu,hp⟩:=jBf;rw[qv hu hp (by kernel_rfl) (by simp[Value.cells,jB,ha]) (by simp[Value.cells,jB,hb])];simp[Value.cells]
theorem xo:∃fs,prog.underlying 48=some (.struct fs)/\fs.toList.mapM (fun f=>(prog.info? f.type).map fun i=>(f.offset,i.size))=some [(0,98),(98,1)]:=⟨_,underlying48,by kernel_rfl⟩
theorem jCa(cs:List Value)(hl:cs.length=98)(v:Value)(hv:v.cells= #[v]):prog.built 48 [(0,.agg cs.toArray),(1,v)]=some (cs++[v]).toArray:=by
 obtain⟨fs,hu,hp⟩:=xo;rw[qv hu hp (by kernel_rfl) (by simp[Value.cells,hl]) (by simp[hv])];rw[hv,show(Value.agg cs.toArray).cells=cs.toArray from rfl];simp
theorem UB:∃fs,prog.underlying 55=some (.struct fs)/\fs.toList.mapM (fun f=>(prog.info? f.type).map fun i=>(f.offset,i.size))=some [(0,1),(1,32)]:=⟨_,underlying55,by kernel_rfl⟩
theorem Ug(n:Int)(d:LB)(hd:d.length=32):prog.built 55 [(0,.int .i64 n),(1,.agg (jA d).toArray)]=some (.int .i64 n::jA d).toArray:=by
 obtain⟨fs,hu,hp⟩:=UB;rw[qv hu hp (by kernel_rfl) rfl (by simp[Value.cells,jB,hd])];simp[Value.cells]
end Go.Proofs.YtnaolhjbapgjgaaGreat

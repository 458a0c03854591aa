import Derived.Test.YtnaolhjbapgjgaaGreatMg05
import Derived.Lib.Bytealg
import Derived.Lib.BytesEntry
import Derived.Laws.Externs
import Derived.Sort.Grow
import Derived.Shelf.SlGeneric
import Derived.Shelf.SlSortCmp.WholeK
import Derived.Shelf.Small.Bits
import Derived.Ground.SlsfProg
import Derived.Ground.NamesProg
import Derived.Test.YtnaolhjbapgjgaaGreatProg
set_option maxRecDepth 100000
set_option maxHeartbeats 6400000
namespace Go.Proofs.YtnaolhjbapgjgaaGreat
open Go.Proofs.Tryz
open Go.RowKit
theorem qL{P:Program}(w:World)(A:OA)(n c:Nat)(l:LB)(hr:Rd w 1 A n (l.map bv)):
  (Extern.Bytes.bytesOf (.slice A n c)).run P w=.ok ⟨l.toArray⟩ w:=by
 have hl:l.length=n:=(by simpa using hr.1);cases A with
 |none=>
  have h0:n=0:=by
   rcases Nat.eq_zero_or_pos n with h|h
   ·exact h
   ·obtain⟨b,o,h',_⟩:=hr.2 h;cases h'
  have:l=[]:=List.eq_nil_of_length_eq_zero (by omega);subst this;rfl
 |some ad=>
  subst hl;have:=Lib.run_loadBytesX (P:=P) w (l.map fun b=>(b.toNat:Int)) ad ByteArray.empty (fun j x hx=>by
   rw[jM1]at hx;obtain⟨b,hb,rfl⟩:=Option.map_eq_some_iff.1 hx;have hj:=(List.getElem?_eq_some_iff.1 hb).1;obtain⟨b',o,h',hc⟩:=hr.2 (by omega);injection h' with h';subst h';rw[Addr.add_lit];exact hc j _ (by rw[jM1,hb];rfl))
  rw[jK7]at this;have e:Lib.bytesOf (l.map fun b=>(b.toNat:Int))=l:=by
   unfold Lib.bytesOf;rw[List.map_map]
   conv=>rhs;rw[<-List.map_id l]
   apply List.map_congr_left;intro b _;simp
  rw[e]at this;simpa [Extern.Bytes.bytesOf]using this
theorem xG(args:Array Value)(w:World):(callFunc 196 args).run prog w=((Extern.BytealgCompare.compare args).run prog w).andThen fun v w' =>.ok (.value v) w' :=
 run_callFunc_extern func196 (by kernel_rfl) (by kernel_rfl) (by kernel_rfl) (by kernel_rfl) args w
theorem Xl(w:World)(A B:OA)(n c m d:Nat)(l k:LB)(hr:Rd w 1 A n (l.map bv))(hs:Rd w 1 B m (k.map bv)):
  (callFunc 196 #[.slice A n c,.slice B m d]).run prog w=.ok (.value (.int .i64 (Lib.compareBytes l k))) w:=by
 rw[xG];change (Sem.run prog (do pure (goInt (Extern.BytealgCompare.cmp (<-Extern.Bytes.bytesOf (.slice A n c)) (<-Extern.Bytes.bytesOf (.slice B m d))))) w).andThen _=_;simp only[Sem.run_bind,qL w A n c l hr,qL w B m d k hs,Sem.run_pure,Result.andThen_ok];rw[Lib.cmp_eq];rfl
theorem jG4(w:World)(A B:OA)(n c m d:Nat)(l k:LB)(hr:Rd w 1 A n (l.map bv))(hs:Rd w 1 B m (k.map bv)):
  Calls prog 177 #[.slice A n c,.slice B m d] w fun e w' =>e=.returned (.int .i64 (Lib.compareBytes l k))/\w' =w:=by
 have h:=Xl w A B n c m d l k hr hs;clear hr hs;generalize Lib.compareBytes l k=z at*;go_enter func177,ntmps177;go_wp2;go_ret;exact⟨rfl,rfl⟩
structure Sgn where
 key:LB
 tag:LB
 hk:key.length=32
 ht:tag.length=32
def Sgn.cells(s:Sgn):List Value:=jA s.key++jA s.tag
theorem Sgn.len(s:Sgn):s.cells.length=64:=by simp[Sgn.cells,jB,s.hk,s.ht]
theorem Sgn.s0(s:Sgn):Sub s.cells 0 (jA s.key):=by
 have:=Sub.mid_ [] (jA s.key) (jA s.tag) 0 rfl;simpa [Sgn.cells]using this
theorem Sgn.s32(s:Sgn):Sub s.cells 32 (jA s.tag):=Sub.end_ _ _ 32 (by rw[jB,s.hk])
theorem Sgn.one(s:Sgn):∀v∈s.cells,v.oneCell' =true:=by
 intro v hv;rcases List.mem_append.1 hv with h|h
 ·exact jf _ v h
 ·exact jf _ v h
theorem Rd.of_range{w:World}{b o:Nat}{d:LB}(h:w.rangeAt b o (jA d)):Rd w 1 (some ⟨b,o,none⟩) d.length (d.map bv):=
 ⟨by rw[jK7,Nat.mul_one],fun _=>⟨_,_,rfl,h⟩⟩
theorem XE(a b:Sgn)(w:World):Calls prog 151 #[.agg a.cells.toArray,.agg b.cells.toArray] w fun e w' =>e=.returned (.int .i64 (Lib.compareBytes a.key b.key))/\∃q os',w' =Sort.grow (w.drewN q) os' :=by
 have GC:=(jQ2 w 165 a.cells.toArray).alloc (.cells b.cells.toArray 165);have FG:=jQ2 (w.alloc (.cells a.cells.toArray 165)) 165 b.cells.toArray;rw[show(w.alloc (.cells a.cells.toArray 165)).heap.size=w.heap.size+1 by simp]at FG;have HC:=G (fun k=>jG4 ((((w.alloc (.cells a.cells.toArray 165)).alloc (.cells b.cells.toArray 165))).drewN k) (some ⟨w.heap.size,0,none⟩) (some ⟨w.heap.size+1,0,none⟩) 32 32 32 32 a.key b.key (by
  have:=Rd.of_range (a.s0.range GC);rw[a.hk]at this;exact this) (by
  have:=Rd.of_range (b.s0.range FG);rw[b.hk]at this;exact this))
 have Hw:=G (show∃os,(w.alloc (.cells a.cells.toArray 165)).alloc (.cells b.cells.toArray 165)=Sort.grow w os from⟨_,by rw[Sort.alloc_eq_grow,Sort.alloc_eq_grow,Sort.grow_grow]⟩);clear GC FG;generalize Lib.compareBytes a.key b.key=z at*;generalize a.cells=ca at*;generalize b.cells=cb at*;go_enter func151,ntmps151;go_wp2;generalize (w.alloc _).alloc _=W at*;go_quiet ((go_at_call 177;exact Calls.quiet_of_same (HC.out _)));go_wp2;go_ret;obtain⟨os,rfl⟩:=Hw.out;exact⟨rfl,nq,os,rfl⟩
def vP(ks:List LB):Bool:=(List.range (ks.length-1)).all fun j=>decide (Lib.compareBytes (ks.getD j []) (ks.getD (j+1) [])<0)
theorem Kf:(prog.info? 165).map (·.size)=some 64:=by kernel_rfl
theorem jAU(w:World)(q:Nat)(os:Array Obj):Old w (Sort.grow (w.drewN q) os):=
 ⟨rfl,rfl,rfl,by simp[Sort.grow],fun k hk _=>by
  show(w.heap++os)[k]? =w.heap[k]?;rw[Array.getElem?_append_left hk]⟩
theorem Km(l:List Sgn)(j:Nat)(h:j<l.length):(l.map (·.key)).getD j []=l[j].key:=by simp[List.getD,h]
theorem jAK(w:World)(A:OA)(c:Nat)(l:List Sgn)(Fa:Rd w 64 A l.length (l.flatMap Sgn.cells))(hn:l.length<=1000000000):
  Calls prog 141 #[.slice A l.length c] w fun e w' =>e=.returned (.bool (vP (l.map (·.key))))/\Old w w' :=by
 have Fy:=G Fa;have HR:=G (show vP (l.map (·.key))=(List.range (l.length-1)).all fun j=>decide (Lib.compareBytes ((l.map (·.key)).getD j []) ((l.map (·.key)).getD (j+1) [])<0)by simp[vP]);clear Fa;generalize vP (l.map (·.key))=R at*;go_enter func141,ntmps141;go_wp2;go_loopw [3] (fun i wr=>∃k:Nat,1<=k/\(k<=l.length\/k=1)/\i=.int .i64 k/\(∀j,j+1<k->Lib.compareBytes ((l.map (·.key)).getD j []) ((l.map (·.key)).getD (j+1) [])<0)/\Old w wr) (fun i _=>l.length-(intOf i).toNat)
 case atStart=>exact⟨1,by omega,by omega,rfl,fun j hj=>by omega,jQ0 _ _⟩
 case round=>
  obtain⟨k,h1,h2,rfl,PF,RG⟩:=hrel;have U9:=G PF;have Ld:=G RG;clear PF RG;by_cases hM:k<l.length
  ·have Fc:k-1<l.length:=(by omega);obtain⟨b,o,N7,S5⟩:=(Fy.out.old Ld.out).elem (f:=Sgn.cells) (fun s _=>s.len) rfl Fc;obtain⟨b',o',Y2,Fd⟩:=(Fy.out.old Ld.out).elem (f:=Sgn.cells) (fun s _=>s.len) rfl hM;obtain rfl:A=some ⟨b,o,none⟩:=N7;injection Y2 with Y2;injection Y2 with e1 e2;subst e1 e2;have Hc:=G (show Lib.compareBytes ((l.map (·.key)).getD (k-1) []) ((l.map (·.key)).getD (k-1+1) [])=Lib.compareBytes l[k-1].key l[k].key by
    rw[Km l _ Fc,show k-1+1=k by omega,Km l _ hM])
   have Hr0:=G (show wr.drew.rangeAt b (o+(k-1)*64) l[k-1].cells from S5);have WH:=G (show wr.drew.rangeAt b (o+k*64) l[k].cells from Fd);have HC:=G (fun W=>XE l[k-1] l[k] W);have Sq:=G (show(prog.info? 165).map (·.size)=some l[k-1].cells.length by rw[Sgn.len];exact Kf);have Sp:=G (show(prog.info? 165).map (·.size)=some l[k].cells.length by rw[Sgn.len];exact Kf);generalize Lib.compareBytes l[k-1].key l[k].key=z at*;generalize l[k-1].cells=c0 at*;generalize l[k].cells=c1 at*;clear S5 Fd;have b1:(0:Int)<=(k:Int):=(by omega);have b2:(k:Int)<(l.length:Int):=(by omega);have b3:(k:Int).toNat=k:=(by omega);have b5:(k:Int)<=1000000000:=(by omega);have b6:IntKind.i64.wrap ((k:Int)-1)=(k:Int)-1:=jQ3 _ (by omega);have b7:(0:Int)<=(k:Int)-1:=(by omega);have b7' :(1:Int)<=(k:Int):=(by omega);have b8:(k:Int)-1<(l.length:Int):=(by omega);have b9:((k:Int)-1).toNat=k-1:=(by omega);by_cases hz:0<=z
   ·have hY:=G (show R=false from by
     rw[HR.out,<-Bool.not_eq_true,List.all_eq_true];intro h;have:=h (k-1) (List.mem_range.2 (by omega));rw[Hc.out]at this;simp only[decide_eq_true_eq]at this;omega)
    go_wp2_with fail;refine wp_region_still_tail 9 Tryz.mixed (by kernel_rfl) ?_;simp only[List.take_succ_cons,List.take_zero,List.drop_succ_cons,List.drop_zero]
    repeat (first
     |refine Ke rfl 165 (.tmp 13) rfl b (o+(k-1)*64) rfl c0 _ Hr0.out underlying165 rfl Sq.out ?_
     |refine Ke rfl 165 (.tmp 17) rfl b (o+k*64) rfl c1 _ WH.out underlying165 rfl Sp.out ?_
     |still_step)
    refine wpStill_nil ?_;go_wp2_with fail;refine(HC.out _).mono ?_;rintro e w5 ⟨rfl,q,os,rfl⟩;have NM:=G (Ld.out.drew.old (jAU wr.drew q os));generalize Sort.grow _ _=w5 at*;go_wp2;go_ret;exact⟨by rw[hY.out];rfl,NM.out⟩
   ·go_wp2_with fail;refine wp_region_still_tail 9 Tryz.mixed (by kernel_rfl) ?_;simp only[List.take_succ_cons,List.take_zero,List.drop_succ_cons,List.drop_zero]
    repeat (first
     |refine Ke rfl 165 (.tmp 13) rfl b (o+(k-1)*64) rfl c0 _ Hr0.out underlying165 rfl Sq.out ?_
     |refine Ke rfl 165 (.tmp 17) rfl b (o+k*64) rfl c1 _ WH.out underlying165 rfl Sp.out ?_
     |still_step)
    refine wpStill_nil ?_;go_wp2_with fail;refine(HC.out _).mono ?_;rintro e w5 ⟨rfl,q,os,rfl⟩;have NM:=G (Ld.out.drew.old (jAU wr.drew q os));generalize Sort.grow _ _=w5 at*;go_wp2;go_roundw
    case rel=>
     refine⟨k+1,by omega,by omega,by go_num,fun j hj=> ?_,NM.out⟩;by_cases e:j+1<k
     ·exact U9.out j e
     ·obtain rfl:j=k-1:=(by omega);rw[Hc.out];omega
    case measure=>simp[intOf];omega
  ·have FT:=G (show R=true from by
    rw[HR.out,List.all_eq_true];intro j hj;have:=List.mem_range.1 hj;exact jK5 (U9.out j (by omega)))
   go_wp2;go_ret;exact⟨by rw[FT.out];rfl,Ld.out⟩
end Go.Proofs.YtnaolhjbapgjgaaGreat
namespace Go.Proofs
open Go.Proofs.Tryz
open Go.Shelf
def sortSign_ren:Go.Shelf.Ren:=⟨fun|6=>150|15=>152|14=>176|28=>178|29=>179|20=>188|21=>189|22=>190|23=>191|24=>192|25=>193|26=>194|27=>195|46=>199|47=>200|48=>201|49=>202|50=>203|57=>205|n=>n,fun|22=>46|24=>165|25=>247|3=>3|39=>192|0=>0|53=>97|55=>133|4=>4|46=>286|45=>285|50=>202|5=>5|9=>9|66=>293|70=>297|76=>300|77=>301|n=>n,fun|n=>n⟩
theorem jFW:Go.Proofs.SlLaysF0.n6 prog sortSign_ren:={
 mixed:=by kernel_rfl
 f6:=⟨f150.name,by decide,func150.trans (congrArg some (by kernel_rfl))⟩
 f14:=⟨f176.name,by decide,func176.trans (congrArg some (by kernel_rfl))⟩
 f15:=func152.trans (congrArg some (by kernel_rfl))
 f20:=⟨f188.name,by decide,func188.trans (congrArg some (by kernel_rfl))⟩
 f21:=⟨f189.name,by decide,func189.trans (congrArg some (by kernel_rfl))⟩
 f22:=⟨f190.name,by decide,func190.trans (congrArg some (by kernel_rfl))⟩
 f23:=⟨f191.name,by decide,func191.trans (congrArg some (by kernel_rfl))⟩
 f24:=⟨f192.name,by decide,func192.trans (congrArg some (by kernel_rfl))⟩
 f25:=⟨f193.name,by decide,func193.trans (congrArg some (by kernel_rfl))⟩
 f26:=⟨f194.name,by decide,func194.trans (congrArg some (by kernel_rfl))⟩
 f27:=⟨f195.name,by decide,func195.trans (congrArg some (by kernel_rfl))⟩
 f28:=func178.trans (congrArg some (by kernel_rfl))
 f29:=func179.trans (congrArg some (by kernel_rfl))
 f46:=⟨f199.name,by decide,func199.trans (congrArg some (by kernel_rfl))⟩
 f47:=func200.trans (congrArg some (by kernel_rfl))
 f48:=func201.trans (congrArg some (by kernel_rfl))
 f49:=⟨f202.name,by decide,func202.trans (congrArg some (by kernel_rfl))⟩
 f50:=⟨f203.name,by decide,func203.trans (congrArg some (by kernel_rfl))⟩
 f57:=⟨f205.name,by decide,func205.trans (congrArg some (by kernel_rfl))⟩
 t0:=underlying0
 a0:=isAgg0
 z0:=sizeOf0
 v0:=zeroValue0
 t3:=underlying3
 a3:=isAgg3
 z3:=sizeOf3
 v3:=zeroValue3
 t4:=underlying4
 a4:=isAgg4
 z4:=sizeOf4
 v4:=zeroValue4
 t5:=underlying5
 a5:=isAgg5
 z5:=sizeOf5
 v5:=zeroValue5
 t9:=underlying9
 a9:=isAgg9
 z9:=sizeOf9
 v9:=zeroValue9
 t22:=underlying46
 a22:=isAgg46
 z22:=sizeOf46
 v22:=zeroValue46
 t25:=underlying247
 a25:=isAgg247
 z25:=sizeOf247
 v25:=zeroValue247
 t39:=underlying192
 a39:=isAgg192
 z39:=sizeOf192
 v39:=zeroValue192
 t45:=underlying285
 a45:=isAgg285
 z45:=sizeOf285
 v45:=zeroValue285
 t46:=underlying286
 a46:=isAgg286
 z46:=sizeOf286
 v46:=zeroValue286
 t50:=underlying202
 a50:=isAgg202
 z50:=sizeOf202
 v50:=zeroValue202
 t53:=underlying97
 a53:=isAgg97
 z53:=sizeOf97
 v53:=zeroValue97
 t55:=underlying133
 a55:=isAgg133
 z55:=sizeOf133
 v55:=zeroValue133
 t66:=underlying293
 a66:=isAgg293
 z66:=sizeOf293
 v66:=zeroValue293
 t70:=underlying297
 a70:=isAgg297
 z70:=sizeOf297
 v70:=zeroValue297
 t76:=underlying300
 a76:=isAgg300
 z76:=sizeOf300
 v76:=zeroValue300
 t77:=underlying301
 a77:=isAgg301
 z77:=sizeOf301
 v77:=zeroValue301}
def Ui:Go.Shelf.Ren:=⟨fun|125=>152|128=>178|129=>179|n=>n,fun|46=>192|3=>3|51=>97|53=>133|4=>4|5=>5|9=>9|n=>n,fun|n=>n⟩
theorem jIQ:Go.Proofs.Lays.n125 prog Ui:={
 mixed:=by kernel_rfl
 f125:=func152.trans (congrArg some (by kernel_rfl))
 f128:=func178.trans (congrArg some (by kernel_rfl))
 f129:=func179.trans (congrArg some (by kernel_rfl))
 t3:=underlying3
 a3:=isAgg3
 z3:=sizeOf3
 v3:=zeroValue3
 t4:=underlying4
 a4:=isAgg4
 z4:=sizeOf4
 v4:=zeroValue4
 t5:=underlying5
 a5:=isAgg5
 z5:=sizeOf5
 v5:=zeroValue5
 t9:=underlying9
 a9:=isAgg9
 z9:=sizeOf9
 v9:=zeroValue9
 t46:=underlying192
 a46:=isAgg192
 z46:=sizeOf192
 v46:=zeroValue192
 t51:=underlying97
 a51:=isAgg97
 z51:=sizeOf97
 v51:=zeroValue97
 t53:=underlying133
 a53:=isAgg133
 z53:=sizeOf133
 v53:=zeroValue133}
def XH:Go.Shelf.Ren:=⟨fun|135=>174|n=>n,fun|5=>5|3=>3|9=>9|n=>n,fun|n=>n⟩
theorem jG1:Go.Proofs.Lays.n135 prog XH:={
 mixed:=by kernel_rfl
 f135:=func174.trans (congrArg some (by kernel_rfl))
 t3:=underlying3
 a3:=isAgg3
 z3:=sizeOf3
 v3:=zeroValue3
 t5:=underlying5
 a5:=isAgg5
 z5:=sizeOf5
 v5:=zeroValue5
 t9:=underlying9
 a9:=isAgg9
 z9:=sizeOf9
 v9:=zeroValue9}
end Go.Proofs
namespace Go.Proofs.YtnaolhjbapgjgaaGreat
open Go.Proofs.Tryz
open Go.RowKit Go.Sort
theorem Zr:∀a:LB,Lib.compareBytes a a=0
 |[]=>rfl
 |x::a=>by rw[Lib.compareBytes,jJ5 (by simp),jJ5 (by simp)];exact Zr a
theorem Jl:∀a b:LB,Lib.compareBytes b a= -Lib.compareBytes a b
 |[],[]=>rfl
 |[],_::_=>rfl
 |_::_,[]=>rfl
 |x::a,y::b=>by
  rw[Lib.compareBytes,Lib.compareBytes];by_cases h1:x<y
  ·have h2:¬y<x:=fun h=>absurd (UInt8.lt_trans h1 h) (UInt8.lt_irrefl _);rw[jJ6 h1,jJ5 h2,jJ6 h1];rfl
  ·by_cases h2:y<x
   ·rw[jJ6 h2,jJ5 h1,jJ6 h2]
   ·rw[jJ5 h1,jJ5 h2,jJ5 h2,jJ5 h1];exact Jl a b
theorem Ks:∀a b:LB,Lib.compareBytes a b=0->a=b
 |[],[],_=>rfl
 |[],_::_,h=>by simp[Lib.compareBytes]at h
 |_::_,[],h=>by simp[Lib.compareBytes]at h
 |x::a,y::b,h=>by
  rw[Lib.compareBytes]at h;split at h
  ·simp at h
  ·split at h
   ·simp at h
   ·rename_i h1 h2;have e:x=y:=by
     apply UInt8.toNat_inj.1;rw[UInt8.lt_iff_toNat_lt]at h1 h2;omega
    rw[e,Ks a b h]
theorem JP:∀a b c:LB,Lib.compareBytes a b<0->Lib.compareBytes b c<0->Lib.compareBytes a c<0
 |[],[],_,h,_=>by simp[Lib.compareBytes]at h
 |[],_::_,[],_,h=>by simp[Lib.compareBytes]at h
 |[],_::_,_::_,_,_=>by simp[Lib.compareBytes]
 |_::_,[],_,h,_=>by simp[Lib.compareBytes]at h
 |_::_,_::_,[],_,h=>by simp[Lib.compareBytes]at h
 |x::a,y::b,z::c,h1,h2=>by
  rw[Lib.compareBytes]at h1 h2⊢;simp only[UInt8.lt_iff_toNat_lt]at*;by_cases p:x.toNat<y.toNat
  ·by_cases q:y.toNat<z.toNat
   ·rw[jJ6 (by omega)];decide
   ·rw[jJ5 q]at h2;by_cases q' :z.toNat<y.toNat
    ·rw[jJ6 q']at h2;simp at h2
    ·rw[jJ6 (by omega)];decide
  ·rw[jJ5 p]at h1;by_cases p' :y.toNat<x.toNat
   ·rw[jJ6 p']at h1;simp at h1
   ·rw[jJ5 p']at h1;by_cases q:y.toNat<z.toNat
    ·rw[jJ6 (by omega)];decide
    ·rw[jJ5 q]at h2;by_cases q' :z.toNat<y.toNat
     ·rw[jJ6 q']at h2;simp at h2
     ·rw[jJ5 q']at h2;rw[jJ5 (by omega),jJ5 (by omega)];exact JP a b c h1 h2
def xW(x y:Sgn):Int:=Lib.compareBytes x.key y.key
instance:Inhabited Sgn:=⟨⟨List.replicate 32 0,List.replicate 32 0,by simp,by simp⟩⟩
theorem jAZ(x y:Sgn):ltOf xW x y=decide (Lib.compareBytes x.key y.key<0):=rfl
theorem jHU:Sort.SWO (ltOf xW):=by
 refine⟨fun x=>by rw[jAZ,Zr];rfl,fun x y z h1 h2=> ?_,fun x y z h1 h2=> ?_⟩
 ·rw[jAZ]at*;simp only[decide_eq_true_eq]at*;exact JP _ _ _ h1 h2
 ·rw[jAZ]at*;simp only[decide_eq_false_iff_not]at*;intro h3;have n1:=Jl x.key y.key;have n2:=Jl y.key z.key;have n3:=Jl x.key z.key;rcases Int.lt_trichotomy (Lib.compareBytes x.key y.key) 0 with a|a|a
  ·exact h1 a
  ·rw[Ks _ _ a]at h3;exact h2 h3
  ·rcases Int.lt_trichotomy (Lib.compareBytes y.key z.key) 0 with b|b|b
   ·exact h2 b
   ·rw[<-Ks _ _ b]at h3;omega
   ·have:=JP z.key y.key x.key (by omega) (by omega);omega
theorem jII(blk off size:Nat)(w:World):CmpLays prog 151 #[] Sgn.cells 64 xW blk off size w:=
 fun _ _ _ _ x y=>XE x y _
theorem jAC(l:List Sgn)(t:Nat)(ht:t<l.length*64):(l.flatMap Sgn.cells)[t]? =some ((Sgn.cells l.toArray[t/64]!)[t% 64]!):=by
 have hk:t/64<l.length:=(by omega);have e:t=t/64*64+t% 64:=(by omega);have h1:=us Sgn.cells 64 l (fun s _=>s.len) (t/64) hk (t% 64) (by omega);rw[<-e]at h1;rw[h1];have e2:l.toArray[t/64]! =l[t/64]:=(by simp[hk]);rw[e2];have hc:t% 64<l[t/64].cells.length:=by rw[Sgn.len];omega
 rw[jJ9 hc,List.getElem!_eq_getElem?_getD,jJ9 hc];rfl
theorem UP{w:World}{g:Nat}{l:List Sgn}(hr:Rd w 64 (some ⟨g,0,none⟩) l.length (l.flatMap Sgn.cells))(hz:∀j,w.frozen? ⟨g,j,none⟩=false):HoldsK Sgn.cells 64 w g 0 l.toArray:=by
 intro t ht;have Cr:t<l.length*64:=(by simpa using ht);refine⟨?_,by rw[Nat.zero_add];exact hz t⟩;obtain⟨b,o,e,hc⟩:=hr.2 (by omega);injection e with e;injection e with e1 e2;subst e1 e2;rw[hc t _ (jAC l t Cr),get_flatK _ _ _ _ (by simpa using Cr)];rfl
theorem Xw{w:World}{g:Nat}{d:Array Sgn}(h:HoldsK Sgn.cells 64 w g 0 d):Rd w 64 (some ⟨g,0,none⟩) d.size (d.toList.flatMap Sgn.cells):=by
 have hl:(d.toList.flatMap Sgn.cells).length=d.size*64:=(by rw[flat_len Sgn.cells 64 _ (fun s _=>s.len),Array.length_toList]);refine⟨hl,fun _=>⟨_,_,rfl,fun t u hu=> ?_⟩⟩;have ht:t<d.size*64:=by rw[<-hl];exact(List.getElem?_eq_some_iff.1 hu).1
 rw[jAC d.toList t (by rw[Array.length_toList];exact ht)]at hu;have h1:=(h t (by rw[size_flatK];exact ht)).1;rw[get_flatK _ _ _ _ ht]at h1;rw[h1];simpa using hu
theorem jGD(w:World)(g n:Nat)(d:Array Sgn)(os:Array Obj):Kp (fun k=>k=g) w (sortWorldK Sgn.cells 64 w g 0 n d os):=by
 refine⟨rfl,rfl,rfl,?_,fun k hk hx=> ?_⟩
 ·show w.heap.size<=(Sort.grow (putRowK Sgn.cells 64 (Sort.ahead w n) g 0 d) os).heap.size;rw[Sort.size_grow];show w.heap.size<=(Sort.putRow id (Sort.ahead w n) g 0 _).heap.size+os.size;rw[Sort.size_putRow];exact Nat.le_add_right _ _
 ·show(Sort.grow (putRowK Sgn.cells 64 (Sort.ahead w n) g 0 d) os).heap[k]? =_;rw[Sort.heap_grow_old _ _ (by
   show k<(Sort.putRow id (Sort.ahead w n) g 0 _).heap.size;rw[Sort.size_putRow];exact hk)]
  show((Sort.ahead w n).heap.modify g _)[k]? =_;rw[Array.getElem?_modify,jJ5 (fun e=>hx e.symm)];rfl
theorem jIb(w:World):(isAgg (sortSign_ren.t 24)).run prog w=.ok true w:=by kernel_rfl
theorem jBB(w:World):(Go.sizeOf (sortSign_ren.t 24)).run prog w=.ok 64 w:=by kernel_rfl
def jAy(w:World)(g:Nat)(d:Array Sgn)(e:Ending)(w' :World):Prop:=e=.returned (.tuple #[])/\∃d' n os,PermIn 0 d.size d d' /\SortedIn (ltOf xW) 0 d.size d' /\w' =sortWorldK Sgn.cells 64 w g 0 n d' os
theorem jFV(w:World)(g cap:Nat)(d:Array Sgn)(hH:HoldsK Sgn.cells 64 w g 0 d)(hb:g<w.heap.size)(hs:d.size<4611686018427387904):
  Calls prog 150 #[.slice (some ⟨g,0,none⟩) d.size cap,.func (.func 151) #[] #[]] w (jAy w g d):=by
 have eg:∀args w,(callFunc 151 args).run prog w=.ok (.enter 151 args) w:=enters_of func151 (by kernel_rfl) rfl;exact AnyQ.slices_SortFunc jFW 64 jIb jBB Sgn.cells Sgn.len Sgn.one xW jHU 151 #[] g 0 cap d w eg (jII g 0 d.size w) hH hb hs
theorem Zm:∃i z,prog.info? 165=some i/\i.zero=some (.agg z)/\i.size=64/\i.bytes=64/\z.size=64:=by
 have h:(prog.info? 165).map (fun i=>(i.zero,i.size,i.bytes))=some (some (.agg (zero32++zero32).toArray),64,64):=(by kernel_rfl);obtain⟨i,hi,h1,h2,h3⟩:=info_parts h;exact⟨i,_,hi,h1,h2,h3,rfl⟩
def jAz(w:World)(l:List Sgn)(e:Ending)(w' :World):Prop:=
 ∃(l' :List Sgn) (g c:Nat),l'.Perm l/\(∀i j (hi:i<l'.length) (hj:j<l'.length),i<j->0<=Lib.compareBytes l'[j].key l'[i].key)/\e=.returned (.tuple #[.slice (some ⟨g,0,none⟩) l'.length c,.bool (vP (l'.map (·.key)))])/\
  Rd w' 64 (some ⟨g,0,none⟩) l'.length (l'.flatMap Sgn.cells)/\w.heap.size<=g/\Old w w'
theorem ui(l:List Sgn):∀u∈l.flatMap Sgn.cells,u.oneCell' =true:=by
 intro u hu;obtain⟨s,_,hs⟩:=List.mem_flatMap.1 hu;exact s.one u hs
theorem jBA{w:World}{g n:Nat}{l:List Sgn}{d' :Array Sgn}{os:Array Obj}(hH:HoldsK Sgn.cells 64 w g 0 l.toArray)(hb:g<w.heap.size)(hp:PermIn 0 l.length l.toArray d'):
  Rd (sortWorldK Sgn.cells 64 w g 0 n d' os) 64 (some ⟨g,0,none⟩) d'.toList.length (d'.toList.flatMap Sgn.cells):=by
 have h1:HoldsK Sgn.cells 64 (putRowK Sgn.cells 64 (Sort.ahead w n) g 0 d') g 0 d' :=holdsK_putRowK Sgn.cells 64 (Sort.ahead w n) g 0 l.toArray d' (holdsK_ahead Sgn.cells 64 w n g 0 l.toArray hH) hp.1;have h2:HoldsK Sgn.cells 64 (grow (putRowK Sgn.cells 64 (Sort.ahead w n) g 0 d') os) g 0 d' :=holdsK_grow Sgn.cells 64 _ os g 0 d' (by
  show g<(putRow id (Sort.ahead w n) g 0 _).heap.size;rw[size_putRow];exact hb) h1
 have h3:=Xw h2;rw[Array.length_toList];exact h3
theorem jD4{l:List Sgn}{d' :Array Sgn}(h:PermIn 0 l.length l.toArray d'):d'.toList.Perm l:=by
 obtain⟨h1,_,h3⟩:=h;have e1:d'.extract 0 l.length=d' :=by
  have:l.length=d'.size:=by rw[h1];simp
  rw[this];simp
 have e2:l.toArray.extract 0 l.length=l.toArray:=(by simp);rw[e1,e2]at h3;simpa using h3
theorem Xe{n:Nat}{d' :Array Sgn}(h:SortedIn (ltOf xW) 0 n d')(hn:d'.size=n):∀i j (hi:i<d'.toList.length) (hj:j<d'.toList.length),i<j->0<=Lib.compareBytes d'.toList[j].key d'.toList[i].key:=by
 intro i j hi hj TS;have Dj:j<d'.size:=by rw[<-Array.length_toList];exact hj
 have LQ:i<d'.size:=(by omega);have h1:=h i j (Nat.zero_le _) TS (by omega);have ej:d'[j]! =d'[j]:=getElem!_pos d' j Dj;have ei:d'[i]! =d'[i]:=getElem!_pos d' i LQ;rw[jAZ,ej,ei]at h1;simp only[decide_eq_false_iff_not]at h1;rw[Array.getElem_toList,Array.getElem_toList];omega
theorem jBR(w:World)(A:OA)(c:Nat)(l:List Sgn)(Fa:Rd w 64 A l.length (l.flatMap Sgn.cells))(h0:0<l.length)(hn:l.length<=1000000):
  Calls prog 106 #[.slice A l.length c] w (jAz w l):=by
 obtain⟨i0,z0,hi,Fz,Ft,FC,Ms⟩:=Zm;have Fy:=G Fa;have FU:=G (show 0+l.length<=maxLen by unfold maxLen;omega);have FV:=G (show(0+l.length)*64<=140737488355328 by omega);have Gn:=G (World.ownsRow_nil w w.heap.size 165 64);clear Fa;go_enter func106,ntmps106;go_wp2_with (at_builtin;refine jJ _ rfl (.const (.slice none 0 0)) (.tmp 5) 46 rfl w.heap.size 165 i0 (.agg z0) 64 64 underlying46 hi Fz Ft FC Ms (by decide) (.slice none 0 0) 0 [] rfl Gn.out A l.length c (l.flatMap Sgn.cells) rfl Fy.out (ui l) FU.out FV.out (jL3 _) ?_;intro A' c' w2 Hi hgrow Fo;rw[Nat.zero_add,List.nil_append]at Hi);obtain⟨g,cap,hv,Gx,hM⟩:=Hi.form h0;injection hv with hv _ Mk;subst hv Mk;have Bp:∀j,w2.frozen? ⟨g,j,none⟩=false:=by
  rcases Hi.2 with⟨e,_⟩|⟨g',cap',cur,e,_,hb,_⟩
  ·cases e
  ·injection e with e _ _;injection e with e;injection e with e;subst e;exact fun j=>Blk.frozen (cs:=cur) hb j
 have hH:=UP (Rd.of_own Hi) Bp;have FH:=G (show Old w w2 from(jQ0 NoX w).grown hgrow (fun k e _=>by cases e));have HS:=G (show Calls prog 150 #[.slice (some ⟨g,0,none⟩) l.length c',.func (.func 151) #[] #[]] w2 (jAy w2 g l.toArray)by
  have:=jFV w2 g c' l.toArray hH hM (by simp;omega)
  rwa [jJ8]at this)
 have HH:=G hH;clear Hi hgrow Fo Bp hH;refine HS.out.mono ?_;rintro e w3 ⟨rfl,d',n,os,hp,hs,rfl⟩;rw[jJ8]at hp hs;have Gl:=jBA (n:=n) (os:=os) HH.out hM hp;have Hk3:=G (jGD w2 g n d' os);have FJ:d'.size=l.length:=by have:=hp.1;simpa using this
 have hlen:d'.toList.length=l.length:=by rw[Array.length_toList];exact FJ
 have Hp:=G (jD4 hp);have Hs:=G (Xe hs FJ);generalize sortWorldK Sgn.cells 64 w2 g 0 n d' os=w3 at*;have HR:=G (jAK w3 (some ⟨g,0,none⟩) c' d'.toList Gl (by omega));have Ny:=G Gl;have Gq:=G (show Old w w3 from FH.out.trans Hk3.out (fun b hb e=>by omega));clear hp hs Gl FJ;rw[hlen]at HR;generalize d'.toList=l' at*;have Fi:=G hlen;clear hlen;go_wp2_with fail;refine HR.out.mono ?_;rintro e w4 ⟨rfl,Gv⟩;have HZ:=G (show jAz w l (.returned (.tuple #[.slice (some ⟨g,0,none⟩) l.length c',.bool (vP (l'.map (·.key)))])) w4 from
  ⟨l',g,c',Hp.out,Hs.out,by rw[Fi.out],Ny.out.old Gv,Gx,Gq.out.old Gv⟩)
 generalize vP (l'.map (·.key))=R at*;clear Gv;go_wp2
 go_ret2
 exact HZ.out
def Ym(a b:Sgn):Bool:=decide (Lib.compareBytes a.key b.key<=0)
def KC(a b:Sgn):Prop:=Lib.compareBytes a.key b.key<0
theorem Xi(a b c:Sgn)(h1:Ym a b=true)(h2:Ym b c=true):Ym a c=true:=by
 unfold Ym at*;simp only[decide_eq_true_eq]at*;rcases Int.lt_or_eq_of_le h1 with p|p
 ·rcases Int.lt_or_eq_of_le h2 with q|q
  ·exact Int.le_of_lt (JP _ _ _ p q)
  ·rw[<-Ks _ _ q];exact h1
 ·rw[Ks _ _ p];exact h2
theorem Xj(a b:Sgn):(Ym a b||Ym b a)=true:=by
 unfold Ym;have:=Jl a.key b.key;rw[Bool.or_eq_true,decide_eq_true_eq,decide_eq_true_eq];omega
def zF(l:List Sgn):List Sgn:=l.mergeSort Ym
theorem zQ(l:List Sgn):(zF l).Perm l:=List.mergeSort_perm l Ym
theorem ZI(l:List Sgn):(zF l).Pairwise fun a b=>Ym a b=true:=List.pairwise_mergeSort Xi Xj l
theorem KE:∀l:List Sgn,vP (l.map (·.key))=true↔l.Pairwise KC:=by
 intro l;constructor
 ·intro h;rw[vP,List.all_eq_true]at h;have h1:∀j,(hj:j+1<l.length)->Lib.compareBytes l[j].key l[j+1].key<0:=by
   intro j hj;have:=h j (List.mem_range.2 (by rw[jK7];omega));rw[Km l j (by omega),Km l (j+1) hj]at this;exact of_decide_eq_true this
  rw[List.pairwise_iff_getElem];intro i j hi hj TS;obtain⟨d,rfl⟩:∃d,j=i+1+d:=⟨j-(i+1),by omega⟩;clear TS h
  induction d with
  |zero=>exact h1 i hj
  |succ d ih=>exact JP _ _ _ (ih (by omega)) (h1 (i+1+d) hj)
 ·intro h;rw[List.pairwise_iff_getElem]at h;rw[vP,List.all_eq_true];intro j hj;have Dj:=List.mem_range.1 hj;rw[jK7]at Dj;rw[Km l j (by omega),Km l (j+1) (by omega)];exact jK5 (h j (j+1) (by omega) (by omega) (by omega))
theorem zE:∀l k:List Sgn,l.Perm k->l.Pairwise KC->k.Pairwise (fun a b=>Ym a b=true)->l=k
 |[],k,hp,_,_=>by rw[List.nil_perm.1 hp]
 |a::l,[],hp,_,_=>by simpa using hp.length_eq
 |a::l,b::k,hp,h1,h2=>by
  rw[List.pairwise_cons]at h1 h2;have hb:b∈a::l:=hp.mem_iff.2 List.mem_cons_self;have ha:a∈b::k:=hp.mem_iff.1 List.mem_cons_self;have e:a=b:=by
   rcases List.mem_cons.1 hb with e|e
   ·exact e.symm
   ·rcases List.mem_cons.1 ha with e' |e'
    ·exact e'
    ·exfalso;have x:=h1.1 b e;have y:=h2.1 a e';have z:=Jl a.key b.key;unfold Ym at y;unfold KC at x;simp only[decide_eq_true_eq]at y;omega
  subst e;rw[zE l k hp.cons_inv h1.2 h2.2]
theorem QK{l l' :List Sgn}(hp:l'.Perm l)(hs:∀i j (hi:i<l'.length) (hj:j<l'.length),i<j->0<=Lib.compareBytes l'[j].key l'[i].key):
  vP (l'.map (·.key))=vP ((zF l).map (·.key))/\(vP (l'.map (·.key))=true->l' =zF l):=by
 have Tv:l'.Pairwise fun a b=>Ym a b=true:=by
  rw[List.pairwise_iff_getElem];intro i j hi hj TS;have h1:=hs i j hi hj TS;have h2:=Jl l'[i].key l'[j].key;exact jK5 (by omega)
 have L0:=hp.trans (zQ l).symm;have k1:vP (l'.map (·.key))=true->l' =zF l:=fun h=>zE _ _ L0 ((KE l').1 h) (ZI l);have k2:vP ((zF l).map (·.key))=true->zF l=l' :=fun h=>zE _ _ L0.symm ((KE _).1 h) Tv;refine⟨?_,k1⟩;rw[Bool.eq_iff_iff];exact⟨fun h=>by rw[<-k1 h];exact h,fun h=>by rw[<-k2 h];exact h⟩
structure MNote where
 head:Hd
 signs:List Sgn
 A:OA
 c:Nat
def MNote.cells(m:MNote):List Value:=m.head.cells++[.slice m.A m.signs.length m.c]
structure MNote.Ok(w:World)(X:Nat->Prop)(m:MNote):Prop where
 head:m.head.Ok
 rd:Rd w 64 m.A m.signs.length (m.signs.flatMap Sgn.cells)
 av:Av X m.signs.length m.A
 big:m.signs.length<=1000000000000
theorem MNote.Ok.old{w w' :World}{X:Nat->Prop}{m:MNote}(h:m.Ok w X)(ho:Old w w'):m.Ok w' X:=⟨h.head,h.rd.old ho,h.av,h.big⟩
def vY(s:Sgn):LB:=s.key++s.tag
def yU(h:Hd)(l:List Sgn):Option LB:=
 if vU h=true/\1<=l.length/\l.length<=16/\vP ((zF l).map (·.key))=true then some (be 1 33++(vh h++(be 1 l.length++(zF l).flatMap vY)))else none
def XU(w:World)(o:Option LB)(m:Nat)(e:Ending)(w' :World):Prop:=
 (∃l A c,o=some l/\l.length<=m/\e=.returned (.tuple #[.slice A l.length c,.int .i64 0])/\Rd w' 1 A l.length (l.map bv)/\Av (fun k=>k<w.heap.size) l.length A/\Old w w')\/
 (∃er:Int,o=none/\er≠0/\e=.returned (.tuple #[.slice none 0 0,.int .i64 er])/\Old w w')
theorem KA(l:List Sgn):(l.flatMap vY).length=l.length*64:=by
 induction l with
 |nil=>rfl
 |cons a l ih=>rw[jL9,jJ4,ih,vY,jJ4,a.hk,a.ht,jK6];omega
def zero64:List Value:=[.int .u8 0,.int .u8 0,.int .u8 0,.int .u8 0,.int .u8 0,.int .u8 0,.int .u8 0,.int .u8 0,.int .u8 0,.int .u8 0,.int .u8 0,.int .u8 0,.int .u8 0,.int .u8 0,.int .u8 0,.int .u8 0,.int .u8 0,.int .u8 0,.int .u8 0,.int .u8 0,.int .u8 0,.int .u8 0,.int .u8 0,.int .u8 0,.int .u8 0,.int .u8 0,.int .u8 0,.int .u8 0,.int .u8 0,.int .u8 0,.int .u8 0,.int .u8 0,.int .u8 0,.int .u8 0,.int .u8 0,.int .u8 0,.int .u8 0,.int .u8 0,.int .u8 0,.int .u8 0,.int .u8 0,.int .u8 0,.int .u8 0,.int .u8 0,.int .u8 0,.int .u8 0,.int .u8 0,.int .u8 0,.int .u8 0,.int .u8 0,.int .u8 0,.int .u8 0,.int .u8 0,.int .u8 0,.int .u8 0,.int .u8 0,.int .u8 0,.int .u8 0,.int .u8 0,.int .u8 0,.int .u8 0,.int .u8 0,.int .u8 0,.int .u8 0]
theorem Vy(g:Nat):∀(vs:List Value) (w:World) (o:Nat),(w.setCells g o vs).heap.size=w.heap.size
 |[],_,_=>rfl
 |v::vs,w,o=>by
  show((w.setCell ⟨g,o,none⟩ v).setCells g (o+1) vs).heap.size=_;rw[Vy g vs];simp[World.setCell]
theorem jFX:(prog.info? 45).map (·.size)=some 98:=by kernel_rfl
theorem qo(w:World)(m:MNote)(X:Nat->Prop)(Hu:m.Ok w X):Calls prog 56 #[.agg m.cells.toArray] w (XU w (yU m.head m.signs) 2000):=by
 have Hk:=G Hu.head;have Hb:=G (jQ2 w 48 m.cells.toArray);have Ho:=G ((jQ0 NoX w).alloc (.cells m.cells.toArray 48));have S0:=G (show Sub m.cells 0 m.head.cells from by
  have:=Sub.mid_ [] m.head.cells [.slice m.A m.signs.length m.c] 0 rfl;simpa [MNote.cells]using this)
 have s98:m.cells[98]? =some (.slice m.A m.signs.length m.c):=(Sub.end_ m.head.cells [.slice m.A m.signs.length m.c] 98 Hu.head.len) 0 _ rfl;have S98:=G s98;have Fh:=G (show(prog.info? 45).map (·.size)=some m.head.cells.length by rw[Hu.head.len];exact jFX);have Fy:=G Hu.rd;have GS:=G Hu.big;have HN:=G (show yU m.head m.signs=if vU m.head=true/\1<=m.signs.length/\m.signs.length<=16/\vP ((zF m.signs).map (·.key))=true then some (be 1 33++(vh m.head++(be 1 m.signs.length++(zF m.signs).flatMap vY)))else none from rfl);generalize yU m.head m.signs=NB at*;clear s98 Hu;generalize m.cells=cs at*;have c98:=Hb.out.at_ 98 (by rw[jJ7];exact S98.out);have Fn:=G (S0.out.range Hb.out);have HR:=G (fun W=>jBy W m.head Hk.out);go_enter func56,ntmps56;go_wp2_with (first|refine jK rfl 45 (.tmp 9) rfl w.heap.size 0 rfl m.head.cells _ Fn.out underlying45 rfl Fh.out ?_ |fail);generalize w.alloc _=W at*;refine(HR.out W).mono ?_;rintro e w1 ⟨rfl,F0⟩;have Gt:=G (Hb.out.old F0);have FE:=G (Ho.out.old F0);clear F0 Hb Fn Ho c98;have c98:=Gt.out.at_ 98 (by rw[jJ7];exact S98.out);by_cases hh:vU m.head=true
 ·have LP:((m.signs.length:Int)==0)=decide (m.signs.length=0):=by
   rw[Bool.eq_iff_iff];simp
  rw[hh];by_cases h0:m.signs.length=0
  ·have HZ:=G (show NB=none by rw[HN.out,jJ5 (by omega)]);rw[jK5 h0]at LP;have Hh:=G hh;have H0:=G h0;clear hh h0;go_wp2
   go_ret2
   exact .inr ⟨7,HZ.out,by decide,rfl,FE.out⟩
  ·rw[jK3 h0]at LP;by_cases h16:m.signs.length<=16
   ·have g16:¬(16:Int)<(m.signs.length:Int):=(by omega);have Hh:=G hh;clear hh;have EN:=G (jBR w1 m.A m.c m.signs (Fy.out.old FE.out) (by omega) (by omega));go_wp2_with fail;refine EN.out.mono ?_;rintro e w2 ⟨l',gr,cr,hp,hs,rfl,Fb,hgr,FL⟩;obtain⟨SI,Bs⟩:=QK hp hs;have hlen:l'.length=m.signs.length:=hp.length_eq;have Fi:=G hlen;have Ig:=G Fb;have PC:=G (Gt.out.old FL);have FH:=G (FE.out.old FL);have hgb:w.heap.size<w2.heap.size:=PC.out.lt;have Rb:=G SI;clear hp hs Fb FL Gt FE c98 EN SI;by_cases hri:vP (l'.map (·.key))=true
    ·have Hl' :=G (Bs hri);have Fm:=G (show NB=some (be 1 33++(vh m.head++(be 1 l'.length++l'.flatMap vY)))by
      rw[HN.out,jJ6 ⟨Hh.out,by omega,h16,by rw[<-Rb.out];exact hri⟩,<-Hl'.out,Fi.out])
     rw[hri];have hl16:l'.length<=16:=by have:=Fi.out;omega
     clear Bs hri hlen Hl' Rb h16 h0 LP g16;go_wp2_with fail;refine(Yu _).mono ?_;rintro e w3 ⟨rfl,G8,Gj⟩;have GT:=G (PC.out.old Gj);have Ny:=G (Ig.out.old Gj);have FW:=G (Av.own Ig.out (by decide) (jL3 w2.heap.size));have Hx:=G (show¬WX w2.heap.size none w.heap.size from by
      rintro (e|e)
      ·omega
      ·cases e)
     have Gq:=G (FH.out.old Gj);have Mf:=G G8;have Mx:w.heap.size<=w2.heap.size:=FH.out.size;have V4:=G (show w.heap.size<=w2.heap.size from Mx);clear G8 Gj PC Ig Mx;generalize w2.heap.size=g at*;go_wp2_with fail;refine(kY _ g none [] 33 (by decide) (by decide) Mf.out (by simp)).mono ?_;rintro e w4 ⟨rfl,HU⟩;obtain⟨r4,M2,f4⟩:=HU.kf;have F4:=G f4;have Lg:=G M2;have Fn:=G (S0.out.range (f4.blk GT.out Hx.out));clear HU M2 f4;go_wp2_with (first|refine jK rfl 45 (.tmp 35) rfl w.heap.size 0 rfl m.head.cells _ Fn.out underlying45 rfl Fh.out ?_ |fail);refine(jGY _ g r4 _ m.head Hk.out Lg.out (by simp[jC])).mono ?_;rintro e w5 ⟨rfl,HU⟩;obtain⟨r5,NI,f5⟩:=HU.kf;have F5:=G (F4.out.trans f5);have Ph:=G NI;clear HU NI f5 F4 Lg Fn;have e8:IntKind.u8.wrap (l'.length:Int)=l'.length:=IntWalk.u8_in _ (by omega);have Le:=G (show([]++be 1 ((33:Int)).toNat++vh m.head).length=114 by rw[jJ4,JN Hk.out];rfl);go_wp2_with fail;refine(kY _ g r5 _ (l'.length:Int) (by omega) (by omega) Ph.out (by have:=Le.out;omega)).mono ?_;rintro e w6 ⟨rfl,HU⟩;obtain⟨r6,MB,f6⟩:=HU.kf;rw[jL1]at MB;have I5:=G ((F5.out.trans f6).step MB);generalize L0:[]++be 1 ((33:Int)).toNat++vh m.head++be 1 l'.length=pp at*;have RK:=G L0;have St:=G (show pp.length=115 by rw[<-L0,jJ4,Le.out,jC]);clear HU MB f6 F5 Ph L0;go_wp2;go_loopw [45] (fun i wr=>∃k:Nat,k<=l'.length/\i=.int .i64 k/\WStep w3 g none wr (pp++(l'.take k).flatMap vY)) (fun i _=>l'.length-(intOf i).toNat)
     case atStart=>exact⟨0,by omega,rfl,by simpa using I5.out⟩
     case round=>
      obtain⟨k,hk,rfl,HU⟩:=hrel;by_cases hM:k<l'.length
      ·obtain⟨r7,P6,f7⟩:=HU.kf;obtain⟨b,o,N7,FK⟩:=(f7.rd Ny.out FW.out).elem (f:=Sgn.cells) (fun s _=>s.len) rfl hM;injection N7 with N7;injection N7 with e1 e2;subst e1 e2;rw[Nat.zero_add]at FK;have Hfk:=G (show pp++(l'.take (k+1)).flatMap vY=(pp++(l'.take k).flatMap vY)++[l'[k].key,l'[k].tag].flatten by
        rw[kD vY l' k hM,vY];simp)
       have Is:=G (show(pp++(l'.take k).flatMap vY).length<=2000 by
        rw[jJ4,KA,St.out,jK9];omega)
       generalize l'[k]=y at*;generalize pp++(l'.take k).flatMap vY=cc at*;have Fn:=G FK;have Hsy:=G (show(prog.info? 165).map (·.size)=some y.cells.length by rw[Sgn.len];exact Kf);have Lf:=G (jQ2 wr 165 zero64.toArray);have WQ:=G (Lf.out.setWhole y.cells (by rw[Sgn.len];rfl));have Au:=G (show Old wr ((wr.alloc (.cells zero64.toArray 165)).setCells wr.heap.size 0 y.cells)from((jQ0 NoX wr).alloc _).trans (Kp.setCells _ _ _ _) (fun b hb e=>by omega));have hU:=G (show(wr.alloc (.cells zero64.toArray 165)).there wr.heap.size 0 y.cells.toArray.size from Lf.out.there 0 _ (by rw[jJ8,Sgn.len];decide));have FD:=G (all_oneCell_toArray y.one);have F7:=G f7;have Pg:=G P6;unfold zero64 at Lf WQ Au hU;clear FK f7 P6 HU;have b1:(0:Int)<=(k:Int):=(by omega);have b2:(k:Int)<(l'.length:Int):=(by omega);have b3:(k:Int).toNat=k:=(by omega);have b5:(k:Int)<=16:=(by omega);go_wp2_with (first|refine jK rfl 165 (.tmp 47) rfl gr (k*64) rfl y.cells _ Fn.out underlying165 rfl Hsy.out ?_ |refine jQ1 rfl 165 (.tmp 8) (.tmp 48) rfl wr.heap.size 0 y.cells.toArray rfl rfl hU.out Hsy.out FD.out ?_ |refine jK rfl 40 (.tmp 50) rfl wr.heap.size 0 rfl (jA y.key) _ (y.s0.range WQ.out) underlying40 rfl (by rw[jB,y.hk];exact jO) ?_ |refine jK rfl 40 (.tmp 52) rfl wr.heap.size 32 rfl (jA y.tag) _ (y.s32.range WQ.out) underlying40 rfl (by rw[jB,y.ht];exact jO) ?_ |refine jCw rfl (.tmp 51) (.tmp 53) rfl y.key y.tag y.hk y.ht rfl rfl ?_ |fail);have U2:=G (show((wr.alloc (.cells zero64.toArray 165)).setCells wr.heap.size 0 y.cells).heap.size=wr.heap.size+1 by rw[Vy];simp);unfold zero64 at U2;generalize (wr.alloc _).setCells _ _ _=W7 at*;have Nt:=Rd.row_new W7 40 32 2 (jA y.key++jA y.tag) (by rw[jJ4,jB,jB,y.hk,y.ht]);have WB:=Av.new (n:=2) (Pg.out.old Au.out);rw[U2.out]at Nt WB;refine(yg _ g r7 cc _ 2 2 [y.key,y.tag] rfl (fun d hd=>by
        rcases List.mem_cons.1 hd with rfl|hd
        ·exact y.hk
        ·rw[List.mem_singleton.1 hd];exact y.ht) ((Pg.out.old Au.out).old ((jQ0 _ _).alloc _)) (by have:=Is.out;omega) (by omega) (by simpa using Nt) WB).mono ?_
       rintro e w8 ⟨rfl,HU⟩;obtain⟨r8,MV,f8⟩:=HU.kf;have Fq:=G ((F7.out.trans ((KF.of (Au.out.alloc _)).trans f8)).step MV);clear HU MV f8 Nt WB Lf WQ hU;go_wp2;go_roundw
       case rel=>exact⟨k+1,by omega,by go_num,by rw[Hfk.out];exact Fq.out⟩
       case measure=>simp[intOf];omega
      ·obtain rfl:k=l'.length:=(by omega);rw[jK4 (jL3 _)]at HU;obtain⟨r7,P6,f7⟩:=HU.kf;have Df:(pp++l'.flatMap vY).length<=2000:=by
        rw[jJ4,KA,St.out];omega
       have Hq:=G (show pp++l'.flatMap vY=be 1 33++(vh m.head++(be 1 l'.length++l'.flatMap vY))by
        rw[<-RK.out];simp only[List.nil_append,jK1];rfl)
       generalize pp++l'.flatMap vY=q at*;have HO:=G (show Old w wr from Gq.out.trans f7.kp (fun b hb hx=>by
        rcases hx with hx|hx
        ·have:=V4.out;omega
        ·cases hx))
       clear HU f7;go_wp2_with fail;refine(JE _ g r7 q P6 (by omega)).mono ?_;rintro e w8 ⟨A8,c8,rfl,Hi,NF⟩;have HZ:=G (show XU w NB 2000 (.returned (.tuple #[.slice A8 q.length c8,.int .i64 0])) w8 from
        .inl ⟨q,A8,c8,by rw[Fm.out,Hq.out],Df,rfl,Rd.of_own Hi,fun hn ad e hx=>vd Hi hn ad e (jL8 hx HO.out.size),HO.out.old NF⟩)
       clear Hi NF Df;go_wp2
       go_ret2
       exact HZ.out
    ·have Tw:vP (l'.map (·.key))=false:=(by simpa using hri);have HZ:=G (show NB=none by rw[HN.out,jJ5 (fun h=>by rw[<-Rb.out,Tw]at h;exact absurd h.2.2.2 (by decide))]);rw[Tw];clear hri Tw Bs hlen;go_wp2
     go_ret2
     exact .inr ⟨92,HZ.out,by decide,rfl,FH.out⟩
   ·have g16:(16:Int)<(m.signs.length:Int):=(by omega);have HZ:=G (show NB=none by rw[HN.out,jJ5 (by omega)]);have Hh:=G hh;clear hh;go_wp2
    go_ret2
    exact .inr ⟨7,HZ.out,by decide,rfl,FE.out⟩
 ·have HZ:=G (show NB=none by rw[HN.out,jJ5 (fun h=>hh h.1)]);have OB:vU m.head=false:=(by simpa using hh);rw[OB];clear hh OB;go_wp2
  go_ret2
  exact .inr ⟨1,HZ.out,by decide,rfl,FE.out⟩
structure Part where
 A:OA
 l:LB
 c:Nat
def Part.sl(p:Part):Value:=.slice p.A p.l.length p.c
def zI(ps:List Part):LB:=ps.flatMap Part.l
theorem KI(l:List Part)(k:Nat)(h:k<l.length):zI (l.take (k+1))=zI (l.take k)++l[k].l:=by
 rw[zI,jK2 h,List.flatMap_append,List.flatMap_singleton];rfl
theorem uc(l:List Part)(k:Nat):(zI (l.take k)).length<=(zI l).length:=by
 have:zI l=zI (l.take k)++zI (l.drop k):=by
  rw[zI,zI,zI,<-List.flatMap_append,List.take_append_drop]
 rw[this,jJ4];omega
theorem Rd.part{w:World}{A:OA}{n:Nat}{l:List Part}(h:Rd w 1 A n (l.map Part.sl)){k:Nat}(hk:k<n)(hl:k<l.length):∃b o,A=some ⟨b,o,none⟩/\w.cell? ⟨b,o+k,none⟩=some (l[k].sl):=by
 obtain⟨b,o,u,rfl,hx,hc⟩:=h.at_ hk;refine⟨b,o,rfl,?_⟩;rw[hc];rw[jM1,jJ9 hl]at hx;simpa using hx.symm
theorem Ut(w:World)(g:Nat)(r:Option Nat)(bs:LB)(A:OA)(n c:Nat)(ps:List Part)(hn:ps.length=n)(hW:Wr w g r bs)(hl:bs.length+(zI ps).length<=1000000000000)
  (Fa:Rd w 1 A n (ps.map Part.sl)) (FA:Av (WX g r) n A) (Fu:n<=1000000)
  (LO:∀p∈ps,Rd w 1 p.A p.l.length (p.l.map bv)/\Av (WX g r) p.l.length p.A):
  Calls prog 114 #[.pointer (some ⟨g,0,none⟩),.slice A n c] w fun e w' =>e=.returned (.tuple #[])/\WStep w g r w' (bs++zI ps):=by
 have Hl:=G hl;have ME:=G LO;have Hn:=G hn;clear hl LO hn;obtain⟨i0,hi,Fz,Ft,FC⟩:=info_parts kc;go_enter func114,ntmps114;go_wp2;go_loopw [8] (fun i wr=>∃k:Nat,k<=n/\i=.int .i64 k/\WStep w g r wr (bs++zI (ps.take k))) (fun i _=>n-(intOf i).toNat)
 case atStart=>exact⟨0,by omega,rfl,by simpa [zI]using hW.step⟩
 case round=>
  obtain⟨k,hk,rfl,HU⟩:=hrel;by_cases hM:k<n
  ·obtain⟨r',⟨A1,c1,hb,ho,Fd⟩,FQ,Nb⟩:=HU;have GY:k<ps.length:=by have:=Hn.out;omega
   obtain⟨b,o,rfl,hy⟩:=(Fa.kp FQ FA).part (k:=k) hM GY;have hp:=ME.out ps[k] (jL6 GY);have hrp:=hp.1.kp FQ hp.2;have Gk:(bs++zI (ps.take k)).length+ps[k].l.length<=1000000000000:=by
    have h1:=Hl.out;have h2:=uc ps (k+1);rw[KI ps k GY]at h2;rw[jJ4]at h2⊢;omega
   have Fm:=G (show bs++zI (ps.take (k+1))=(bs++zI (ps.take k))++ps[k].l by
    rw[KI ps k GY];simp)
   generalize ps[k]=p at*;obtain⟨pA,l,pc⟩:=p;simp only[Part.sl]at*;generalize M8:bs++zI (ps.take k)=cs at*;have WH:=G Fd;clear Fd hp;have hc:=hb.cell 0;have hz:=hb.frozen 0;have TE:=hb.lt;simp only[jJ7,List.getElem?_cons_zero]at hc;have FU:=G (show cs.length+l.length<=maxLen by unfold maxLen;omega);have FV:=G (show(cs.length+l.length)*1<=140737488355328 by omega);have Ff:some g≠(Value.slice A1 cs.length c1).ownBlock:=by
    have:=kx ho hb (by decide);exact fun h=>this h.symm
   clear Gk;have b5:(k:Int)<=1000000:=(by omega);go_wp2_with (at_builtin;refine jJ _ rfl (.tmp 16) (.tmp 17) 22 rfl 0 5 i0 (.int .u8 0) 1 1 underlying22 hi Fz Ft FC rfl (by decide) (.slice A1 cs.length c1) cs.length (cs.map bv) rfl ho pA l.length pc (l.map bv) rfl hrp (jf _) FU.out FV.out (Nat.zero_le _) ?_;intro A' c' w2 Hi hgrow Fo;have FS:=hgrow.cell (a:=⟨g,0,none⟩) hc Ff;have Ft:w2.frozen? ⟨g,0,none⟩=false:=(World.frozen?_of_block (hgrow.block g TE Ff)).trans hz);have Fq:=G (WStep.trans FQ (WH.out▸Nb) (Wr.put hb ho (jQ0 _ _) (news:=l) rfl rfl Hi hgrow Fo));clear Hi hgrow Fo hb ho;go_wp2;go_roundw
   case rel=>exact⟨k+1,by omega,by go_num,by rw[Fm.out];exact Fq.out⟩
   case measure=>simp[intOf];omega
  ·obtain rfl:k=n:=(by omega);go_wp2;go_end0;refine⟨rfl,?_⟩;rw[jK4 (by rw[Hn.out];omega)]at HU;exact HU
theorem kd(w:World)(g:Nat)(r:Option Nat)(bs:LB)(A:OA)(c:Nat)(l:LB)(er:Int)(hW:Wr w g r bs)(hl:bs.length+l.length<=1000000000000)
  (Fa:Rd w 1 A l.length (l.map bv)) (FA:Av (WX g r) l.length A):
  Calls prog 62 #[.pointer (some ⟨g,0,none⟩),.slice A l.length c,.int .i64 er] w fun e w' =>e=.returned (.bool (decide (er=0)))/\WStep w g r w' (bs++l):=by
 have Hl:=G hl;clear hl;go_enter func62,ntmps62;go_wp2_with fail;have ho:=(jQ0 NoX w).alloc (.cells #[.slice A l.length c] 22);refine(Ut _ g r bs _ 1 _ [⟨A,l,c⟩] rfl (hW.old ho) (by simpa [zI]using Hl.out) (Rd.arr_new w _ [.slice A l.length c]) (Av.new hW) (by omega) (fun p hp=>by
  rw[List.mem_singleton.1 hp];exact⟨Fa.old ho,FA⟩)).mono ?_
 rintro e w1 ⟨rfl,HU⟩;have Fq:=G (WStep.after ho HU);clear HU;go_wp2;go_ret;refine⟨kL (kZ ?_),by simpa [zI]using Fq.out⟩;by_cases h:er=0<;>simp[h]
theorem uz(w:World)(g:Nat)(r:Option Nat)(bs:LB)(cs:List Value)(n:Int)(hW:Wr w g r bs)(hl:bs.length<=900000000)(hn:cs[46]? =some (.int .i64 n)):
  Calls prog 26 #[.pointer (some ⟨g,0,none⟩),.int .i64 5,.agg cs.toArray] w fun e w' =>e=.returned (.bool true)/\WStep w g r w' (bs++xu [n]):=by
 have hb:=jQ2 w 63 cs.toArray;have h46:=hb.at_ 46 (v:=.int .i64 n) (by rw[jJ7];exact hn);have ho:=(jQ0 NoX w).alloc (.cells cs.toArray 63);have FF:=hW.old ho;have Fa:=Rd.arr_new (w.alloc (.cells cs.toArray 63)) 3 [.int .i64 n];have FA:=Av.new (n:=1) FF;rw[show(w.alloc (.cells cs.toArray 63)).heap.size=w.heap.size+1 by simp]at Fa FA;have FL:=ho.alloc (.cells #[.int .i64 n] 3);have Fy:=G Fa;have FW:=G FA;have FH:=G FL;clear Fa FA FL hb FF ho hn;go_enter func26,ntmps26;go_wp2_with fail;refine(Jk _ g r bs _ 1 _ [n] rfl (hW.old FH.out) (by omega) Fy.out FW.out (by omega)).mono ?_;rintro e w1 ⟨rfl,HU⟩;have HU:=WStep.after FH.out HU;obtain⟨r1,FF,Fc,TW⟩:=HU;have V2:=G Fc;clear Fc Fy FW FH h46;go_wp2_with fail;refine(kd _ g r1 _ none 0 [] 0 FF (by rw[jJ4,Jg];simp;omega) Rd.none_ (fun h=>absurd h (by simp))).mono ?_;rintro e w2 ⟨rfl,HU⟩;have Fq:=G (WStep.trans V2.out TW HU);clear HU;go_wp2;go_ret;exact⟨kL (kZ (by simp)),by simpa using Fq.out⟩
theorem kj:(prog.info? 63).map (·.size)=some 256:=by kernel_rfl
end Go.Proofs.YtnaolhjbapgjgaaGreat

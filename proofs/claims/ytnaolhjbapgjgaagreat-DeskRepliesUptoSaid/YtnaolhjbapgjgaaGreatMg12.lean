import Derived.Test.YtnaolhjbapgjgaaGreatMg11
set_option maxRecDepth 100000
set_option maxHeartbeats 6400000
namespace Go.Proofs.YtnaolhjbapgjgaaGreat
open Go.Proofs.Tryz
open Go.RowKit
theorem jIK(W:World)(s:Sgn):
  (Instr.buildSlice 46 1 #[(0,.agg s.cells.toArray)]).run prog W=.ok (.slice (some ⟨W.heap.size,0,none⟩) 1 1) (W.alloc (.cells s.cells.toArray 165)):=by
 obtain⟨i,z,hi,hz,hs,hb,Ms⟩:=Zm;have h:=run_buildSlice W 46 165 1 ((([.agg s.cells.toArray]:List Value).zipIdx 0).map fun x=>(x.2,x.1)).toArray _ i (.agg z) underlying46 hi hz (by rw[hs];simp) (by rw[hs];simp) (by
  rw[hs];exact Great.fill_whole (by decide) [.agg s.cells.toArray] _ (fun v hv=>by rw[List.mem_singleton.1 hv];simp[Value.cells,Sgn.len]) (by simp))
 simpa [Value.cells]using h
theorem jHN{P:Program}{ops:Array Oper}{rest:List Oper}{d:Option Tmp}{ty:TypeId}{pos:String}{after:Array Edge}{gd:Option (Nat×Bool)}{a:Act}{w:World}{Q:Exit->Act->World->Prop}(t:TypeId)(x:Operand)
  (h:wpList P ops Q (⟨d,.buildSlice t 1 #[(0,x)],ty,pos,after,gd⟩::rest) a w):wpList P ops Q (⟨d,.buildSlice t 1 #[(0,x)],ty,pos,after,gd⟩::rest) a w:=h
theorem jCv{ops:Array Oper}{rest:List Oper}{o:Oper}{a:Act}{w:World}{Q:Exit->Act->World->Prop}(hg:o.guard=none)(x:Operand)(ho:o.op=.buildSlice 46 1 #[(0,x)])(s:Sgn)
  (hx:a.eval x=.agg s.cells.toArray) (h:wpList prog ops Q rest (a.put o.dst (.slice (some ⟨w.heap.size,0,none⟩) 1 1)) (w.alloc (.cells s.cells.toArray 165))):wpList prog ops Q (o::rest) a w:=by
 refine wpList_plain hg fun K hK=> ?_;unfold Oper.wp execOp;simp only[ho,Sem.run_bind,List.map_toArray,List.map_cons,List.map_nil,hx,jIK w s,Result.andThen_ok];exact hK _ _ h
theorem jGj{op:Oper}{a:Act}{w:World}(t t' :TypeId)(x y:Operand)(ho:op.op=.binOp .eql t x y t')
  (xs ys:Array Value) (hx:a.eval x=.agg xs) (hy:a.eval y=.agg ys) (hg:prog.eqGuardType prog.depth t=false) (r:Bool) (hr:(Op.equalIn 10000 t (.agg xs) (.agg ys)).run prog w=.ok r w):
  (execOp a.eval op).run prog w=.ok (.value (.bool r)) w:=by
 unfold execOp;simp only[ho,hx,hy,Sem.run_bind,run_eqGuard_agg w .eql t x y xs ys hg,run_eql_struct,hr,Result.andThen_ok];rfl
def jKL(w:World)(r:Option (List Sgn))(e:Ending)(w' :World):Prop:=
 (∃(o:List Sgn) (A:OA) (c:Nat),r=some o/\e=.returned (.tuple #[.slice A o.length c,.bool false])/\Rd w' 64 A o.length (o.flatMap Sgn.cells)/\Old w w')\/(r=none/\e=.returned (.tuple #[.slice none 0 0,.bool true])/\Old w w')
theorem jGT{x:Sgn}{l:List Sgn}{j:Nat}(h:j<kt x l):∃hj:j<l.length,Lib.compareBytes l[j].key x.key<0:=by
 have hl:=jAg x l;refine⟨by omega,?_⟩;have hm:l[j]'(by omega)∈l.take (kt x l):=by
  rw[List.mem_take_iff_getElem];exact⟨j,by omega,rfl⟩
 rw[xR]at hm;have:=List.all_takeWhile (p:=fun y:Sgn=>decide (Lib.compareBytes y.key x.key<0)) (l:=l);rw[List.all_eq_true]at this;exact of_decide_eq_true (this _ hm)
theorem Zk{w:World}{A:OA}{n:Nat}{l:List Sgn}(h:Rd w 64 A n (l.flatMap Sgn.cells))(hn:l.length=n){k:Nat}(hk:k<l.length):∃b o,A=some ⟨b,o,none⟩/\w.rangeAt b (o+k*64) l[k].cells/\w.rangeAt b (o+k*64) (jA l[k].key):=by
 obtain⟨b,o,e,hr⟩:=h.elem (f:=Sgn.cells) (fun x _=>x.len) hn hk;refine⟨b,o,e,hr,fun j v hv=> ?_⟩;have:=l[k].s0 j v hv;rw[Nat.zero_add]at this;exact hr j v this
theorem jo{w w' :World}{b o:Nat}{xs:List Value}(h:w.rangeAt b o xs)(ho:Old w w'):w'.rangeAt b o xs:=fun j v hv=>by
 have:=h j v hv;exact(World.cell?_of_block (ho.block b (Jm this) (fun f=>f))).trans this
theorem jD5{w:World}{B B' :Nat}{e:TypeId}{size:Nat}{v:Value}{n:Nat}{xs:List Value}(h:w.ownsRow B e size v n xs)(hb:B' <=B):w.ownsRow B' e size v n xs:=by
 refine⟨h.1,?_⟩;rcases h.2 with hn|⟨g,cap,cur,rfl,P5,Ab,rest⟩
 ·exact .inl hn
 ·exact .inr ⟨g,cap,cur,rfl,jL4 hb P5,Ab,rest⟩
theorem Qo:∀(l:List Sgn) (j:Nat),(l.flatMap Sgn.cells).take (j*64)=(l.take j).flatMap Sgn.cells
 |[],j=>by simp
 |a::l,0=>by simp
 |a::l,j+1=>by
  rw[jL9,List.take_succ_cons,jL9,List.take_append,a.len,jK4 (by rw[a.len];omega),show(j+1)*64-64=j*64 by omega,Qo l j]
theorem Qp:∀(l:List Sgn) (j:Nat),(l.flatMap Sgn.cells).drop (j*64)=(l.drop j).flatMap Sgn.cells
 |[],j=>by simp
 |a::l,0=>by simp
 |a::l,j+1=>by
  rw[jL9,List.drop_succ_cons,List.drop_append,a.len,List.drop_of_length_le (by rw[a.len];omega),List.nil_append,show(j+1)*64-64=j*64 by omega,Qp l j]
theorem Un{P:Program}{ops:Array Oper}{rest:List Oper}{d:Option Tmp}{ty:TypeId}{pos:String}{after:Array Edge}{gd:Option (Nat×Bool)}{a:Act}{w:World}{Q:Exit->Act->World->Prop}(s x:Operand)(t:TypeId)
  (h:wpList P ops Q (⟨d,.call {callee:=.builtin .append,args:= #[s,x],argTypes:= #[t,t]},ty,pos,after,gd⟩::rest) a w):wpList P ops Q (⟨d,.call {callee:=.builtin .append,args:= #[s,x],argTypes:= #[t,t]},ty,pos,after,gd⟩::rest) a w:=h
theorem Xm(w:World)(A:OA)(c:Nat)(l:List Sgn)(Fa:Rd w 64 A l.length (l.flatMap Sgn.cells))(Fu:l.length<=1000):Calls prog 162 #[.slice A l.length c] w (jKL w (Kz l [])):=by
 have Fy:=G Fa;have Nz:=G Fu;clear Fa;generalize hR:Kz l []=R;have HR:=G hR;clear hR;go_enter func162,ntmps162;go_wp2;go_loopw [4,5] (fun out i wr=>∃(k:Nat) (o:List Sgn) (A' :OA) (c' :Nat),k<=l.length/\i=.int .i64 k/\out=.slice A' o.length c' /\Kz l []=Kz (l.drop k) o/\o.length=k/\wr.ownsRow w.heap.size 165 64 (.slice A' o.length c') o.length (o.flatMap Sgn.cells)/\Old w wr) (fun _ i _=>l.length-(intOf i).toNat)
 case atStart=>exact⟨0,[],none,0,by omega,rfl,rfl,by simp,rfl,World.ownsRow_nil _ _ _ _,jQ0 _ _⟩
 case round=>
  obtain⟨k,o,A',c',hk,rfl,rfl,FM,CX,Hi,Fk⟩:=hrel;obtain⟨wo,hwo⟩:∃wo,wo=wr:=⟨_,rfl⟩;subst hwo;have Fs:=G FM;have P9:=G CX;have Gn:=G Hi;have GR:=G Fk;clear FM CX Hi Fk;by_cases hM:k<l.length
  ·obtain⟨b,ob,hA,J7,J8⟩:=Zk (Fy.out.old GR.out) rfl hM;subst hA;have BV:=G (show Kz (l.drop k) o=if jAq l[k] o=true then none else Kz (l.drop (k+1)) (jAf l[k] o)by rw[List.drop_eq_getElem_cons hM,Kz]);generalize l[k]=x at*;have Hxr:=G J7;have U5:=G J8;clear J7 J8;have b1:(0:Int)<=(k:Int):=(by omega);have b2:(k:Int)<(l.length:Int):=(by omega);have b3:(k:Int).toNat=k:=(by omega);have b5:(k:Int)<=1000:=(by omega);have C8:=G (fun(j:Nat) (hj:j<o.length)=>Zk (Rd.of_own Gn.out) rfl hj);have PH:(prog.info? 40).map (·.size)=some (jA x.key).length:=by rw[jB,x.hk];exact jO
   go_wp2_with fail;go_loopw [6] (fun i wi=>∃j:Nat,j<=kt x o/\i=.int .i64 j/\Old wo wi) (fun i _=>o.length-(intOf i).toNat)
   case atStart=>exact⟨0,Nat.zero_le _,rfl,jQ0 _ _⟩
   case round=>
    obtain⟨j,hj,rfl,O5⟩:=hrel;have BX:=G O5;have IC:=G (jAg x o);have EZ:j<=o.length:=by have:=IC.out;omega
    have Hj:=G hj;have Hjo:=G EZ;clear O5;have d1:(0:Int)<=(j:Int):=(by omega);have d3:(j:Int).toNat=j:=(by omega);have d5:(j:Int)<=1000:=by have:=P9.out;omega
    go_upto_region 6 with(fail);go_cut [30] (fun v wx=>v=.bool (decide (j<kt x o))/\Old wo wx)
    case first=>
     by_cases hjl:j<o.length
     ·have TR:=hjl;have d2:(j:Int)<(o.length:Int):=(by omega);obtain⟨g,og,M3,AT,SG⟩:=C8.out j hjl;subst M3;have HL:=G (fun W=>QT W o[j].key x.key o[j].hk x.hk);have LY:(prog.info? 40).map (·.size)=some (jA o[j].key).length:=by rw[jB,o[j].hk];exact jO
      have HS:=G (fun W' (ho:Old wo W')=>show W'.rangeAt g (og+j*64) (jA o[j].key)/\W'.rangeAt b (ob+k*64) (jA x.key)from⟨jo SG ho,jo U5.out ho⟩);have Nd:=G (show decide (j<kt x o)=decide (Lib.compareBytes o[j].key x.key<0)from decide_eq_decide.2 ⟨fun h=>(jGT h).2,fun h=>by
       rcases Nat.lt_or_ge j (kt x o)with h' |h'
       ·exact h'
       ·exfalso;obtain rfl:j=kt x o:=(by omega);exact jAw hjl h⟩)
      have Pp:=HS.out wr.drew BX.out.drew;generalize hyy:o[j]=y at*;clear AT SG hyy hjl TR;refine je (S:=fun w' =>w'.rangeAt g (og+j*64) (jA y.key)/\w'.rangeAt b (ob+k*64) (jA x.key)) 17 rfl (by kernel_rfl) Pp (fun H9=> ?_);clear Pp
      iterate 9 (first|(refine qI rfl rfl (by kernel_rfl) (fun _ _ _ h=>h) rfl H9 ?_;simp only[Act.put,jJ1,jJ2,jJ3])|(refine' tOn rfl rfl (by kernel_rfl) (fun _ _ _ h=>h) rfl H9 (fun w' hJ=> ?_) ?_;rotate_left;(clear hJ;go_simp<;>with_reducible rfl);simp only[Act.put,jJ1,jJ2,jJ3]))
      refine' tOn rfl rfl (by kernel_rfl) (fun _ _ _ h=>h) rfl H9 (fun w' hJ=>jl 40 (.tmp 22) rfl g (og+j*64) rfl (jA y.key) _ hJ.1 underlying40 rfl LY) ?_;simp only[Act.put,jJ1,jJ2,jJ3]
      iterate 4 (first|(refine qI rfl rfl (by kernel_rfl) (fun _ _ _ h=>h) rfl H9 ?_;simp only[Act.put,jJ1,jJ2,jJ3])|(refine' tOn rfl rfl (by kernel_rfl) (fun _ _ _ h=>h) rfl H9 (fun w' hJ=> ?_) ?_;rotate_left;(clear hJ;go_simp<;>with_reducible rfl);simp only[Act.put,jJ1,jJ2,jJ3]))
      refine' tOn rfl rfl (by kernel_rfl) (fun _ _ _ h=>h) rfl H9 (fun w' hJ=>jl 40 (.tmp 27) rfl b (ob+k*64) rfl (jA x.key) _ hJ.2 underlying40 rfl PH) ?_;simp only[Act.put,jJ1,jJ2,jJ3];refine VP rfl (by kernel_rfl) (by decide) (fun K hK=> ?_);go_simp;go_at_call 167;refine(HL.out _).mono ?_;rintro e w2 ⟨rfl,FL⟩;have FH:=G (BX.out.drew.old FL);clear FL;go_simp;refine hK.out _ _ (HS.out _ FH.out) (fun H9=> ?_);clear hK K
      iterate 1 (first|(refine qI rfl rfl (by kernel_rfl) (fun _ _ _ h=>h) rfl H9 ?_;simp only[Act.put,jJ1,jJ2,jJ3])|(refine' tOn rfl rfl (by kernel_rfl) (fun _ _ _ h=>h) rfl H9 (fun w' hJ=> ?_) ?_;rotate_left;(clear hJ;go_simp<;>with_reducible rfl);simp only[Act.put,jJ1,jJ2,jJ3]))
      refine wpAnyH_done (by kernel_rfl) ?_ _;go_wp2_with fail;go_meet
      case rel=>exact⟨by rw[Nd.out],FH.out⟩
     ·have d2:¬(j:Int)<(o.length:Int):=(by omega);have hv:decide (j<kt x o)=false:=jK3 (by have:=IC.out;omega);have Hv:=G hv;clear hv;refine je (S:=fun _=>True) 17 rfl (by kernel_rfl) trivial (fun H9=> ?_)
      iterate 17 (first|(refine qI rfl rfl (by kernel_rfl) (fun _ _ _ h=>h) rfl H9 ?_;simp only[Act.put,jJ1,jJ2,jJ3])|(refine' tOn rfl rfl (by kernel_rfl) (fun _ _ _ h=>h) rfl H9 (fun w' hJ=> ?_) ?_;rotate_left;(clear hJ;go_simp<;>with_reducible rfl);simp only[Act.put,jJ1,jJ2,jJ3]))
      refine wpAnyH_done (by kernel_rfl) ?_ _;go_wp2_with fail;go_meet
      case rel=>exact⟨by rw[Hv.out],BX.out.drew⟩
    case rest=>
     obtain⟨rfl,AX⟩:=hcut;have An:=G AX;clear AX;by_cases hji:j<kt x o
     ·have Ay:=G hji;have hv:decide (j<kt x o)=true:=jK5 hji;rw[hv];go_wp2;go_roundw
      case rel=>exact⟨j+1,by have:=Ay.out;omega,by go_num,An.out⟩
      case measure=>
       have:=Ay.out;have:=IC.out;simp[intOf];omega
     ·have Ay:=G hji;have hv:decide (j<kt x o)=false:=jK3 hji;rw[hv];have Aa:kt x o=j:=by have:=Hj.out;have:=Ay.out;omega
      clear hji hv hj;go_upto_region 8 with(fail);obtain⟨wz,hwz⟩:∃wz,wz=wc:=⟨_,rfl⟩;subst hwz;go_cut [49] (fun v wx=>v=.bool (jAq x o)/\Old wo wx)
      case first=>
       by_cases hjl:j<o.length
       ·have TR:=hjl;have d2:(j:Int)<(o.length:Int):=(by omega);obtain⟨g,og,M3,AT,SG⟩:=C8.out j hjl;subst M3;have LY:(prog.info? 40).map (·.size)=some (jA o[j].key).length:=by rw[jB,o[j].hk];exact jO
        have HS:=G (fun W' (ho:Old wo W')=>show W'.rangeAt g (og+j*64) (jA o[j].key)/\W'.rangeAt b (ob+k*64) (jA x.key)from⟨jo SG ho,jo U5.out ho⟩);have Hd:=G (show jAq x o=decide (o[j].key=x.key)by rw[jAq,Aa,jJ9 hjl]);have Hq:=G (fun W=>jEc W o[j].key x.key o[j].hk x.hk);have Pp:=HS.out wz.drew An.out.drew;generalize jAq x o=dd at*;generalize hyy:o[j]=y at*;clear AT SG hyy hjl TR;refine je (S:=fun w' =>w'.rangeAt g (og+j*64) (jA y.key)/\w'.rangeAt b (ob+k*64) (jA x.key)) 17 rfl (by kernel_rfl) Pp (fun H9=> ?_);clear Pp
        iterate 9 (first|(refine qI rfl rfl (by kernel_rfl) (fun _ _ _ h=>h) rfl H9 ?_;simp only[Act.put,jJ1,jJ2,jJ3])|(refine' tOn rfl rfl (by kernel_rfl) (fun _ _ _ h=>h) rfl H9 (fun w' hJ=> ?_) ?_;rotate_left;(clear hJ;go_simp<;>with_reducible rfl);simp only[Act.put,jJ1,jJ2,jJ3]))
        refine' tOn rfl rfl (by kernel_rfl) (fun _ _ _ h=>h) rfl H9 (fun w' hJ=>jl 40 (.tmp 41) rfl g (og+j*64) rfl (jA y.key) _ hJ.1 underlying40 rfl LY) ?_;simp only[Act.put,jJ1,jJ2,jJ3]
        iterate 4 (first|(refine qI rfl rfl (by kernel_rfl) (fun _ _ _ h=>h) rfl H9 ?_;simp only[Act.put,jJ1,jJ2,jJ3])|(refine' tOn rfl rfl (by kernel_rfl) (fun _ _ _ h=>h) rfl H9 (fun w' hJ=> ?_) ?_;rotate_left;(clear hJ;go_simp<;>with_reducible rfl);simp only[Act.put,jJ1,jJ2,jJ3]))
        refine' tOn rfl rfl (by kernel_rfl) (fun _ _ _ h=>h) rfl H9 (fun w' hJ=>jl 40 (.tmp 46) rfl b (ob+k*64) rfl (jA x.key) _ hJ.2 underlying40 rfl PH) ?_;simp only[Act.put,jJ1,jJ2,jJ3];refine' tOn rfl rfl (by kernel_rfl) (fun _ _ _ h=>h) rfl H9 (fun w' hJ=>jGj 40 40 (.tmp 42) (.tmp 47) rfl _ _ rfl rfl yB _ (Hq.out _)) ?_;simp only[Act.put,jJ1,jJ2,jJ3]
        iterate 1 (first|(refine qI rfl rfl (by kernel_rfl) (fun _ _ _ h=>h) rfl H9 ?_;simp only[Act.put,jJ1,jJ2,jJ3])|(refine' tOn rfl rfl (by kernel_rfl) (fun _ _ _ h=>h) rfl H9 (fun w' hJ=> ?_) ?_;rotate_left;(clear hJ;go_simp<;>with_reducible rfl);simp only[Act.put,jJ1,jJ2,jJ3]))
        refine wpAnyH_done (by kernel_rfl) ?_ _;go_wp2_with fail;go_meet
        case rel=>exact⟨by rw[Hd.out],An.out.drew⟩
       ·have d2:¬(j:Int)<(o.length:Int):=(by omega);have Hv:=G (show jAq x o=false by rw[jAq,Aa,List.getElem?_eq_none (by omega)]);refine je (S:=fun _=>True) 17 rfl (by kernel_rfl) trivial (fun H9=> ?_)
        iterate 17 (first|(refine qI rfl rfl (by kernel_rfl) (fun _ _ _ h=>h) rfl H9 ?_;simp only[Act.put,jJ1,jJ2,jJ3])|(refine' tOn rfl rfl (by kernel_rfl) (fun _ _ _ h=>h) rfl H9 (fun w' hJ=> ?_) ?_;rotate_left;(clear hJ;go_simp<;>with_reducible rfl);simp only[Act.put,jJ1,jJ2,jJ3]))
        refine wpAnyH_done (by kernel_rfl) ?_ _;go_wp2_with fail;go_meet
        case rel=>exact⟨by rw[Hv.out],An.out.drew⟩
      case rest=>
       obtain⟨rfl,Cq⟩:=hcut;have DP:=G Cq;clear Cq C8;cases hdd:jAq x o with
       |true=>
        have Hn:=G (show R=none by rw[<-HR.out,Fs.out,BV.out,jJ6 hdd]);go_wp2
        go_ret2
        exact .inr ⟨Hn.out,rfl,GR.out.old DP.out⟩
       |false=>
        have Hn:=G (show Kz l []=Kz (l.drop (k+1)) (jAf x o)by rw[Fs.out,BV.out,jJ5 (by rw[hdd];simp)]);clear BV;obtain⟨i0,z0,hi,Fz,Ft,FC,Ms⟩:=Zm;have HoR:=G ((Rd.of_own Gn.out).old DP.out);have Pe:=G (zy Gn.out);have HrT:=G (show Rd wc 64 A' j ((o.take j).flatMap Sgn.cells)by rw[<-Qo];exact HoR.out.take_ EZ);have HrD:=G (show Rd wc 64 (if c' =j then A' else A'.map (·.add (j*64))) (o.length-j) ((o.drop j).flatMap Sgn.cells)by rw[<-Qp];exact HoR.out.cut EZ Pe.out);have CO:=fun W=>jCO (P:=prog) (t:=46) underlying46 (s:=64) (fun w=>by kernel_rfl) A' o.length c' j .i64 (j:Int) rfl (by have:=Pe.out;omega) W;have Nw:=fun W=>uv (P:=prog) (t:=46) underlying46 (s:=64) (fun w=>by kernel_rfl) A' o.length c' j .i64 (j:Int) rfl EZ W;have BU:=G (jo Hxr.out DP.out);have I3:=G (show(prog.info? 165).map (·.size)=some x.cells.length by rw[x.len];exact Kf);have CD:=G (show j<=1000/\o.length<=1000 by have:=P9.out;omega);go_wp2_with (first
         |((with_reducible refine Un (.tmp 50) (.tmp 53) 46 ?_);refine jJ _ rfl (.tmp 50) (.tmp 53) 46 rfl wc.heap.size 165 i0 (.agg z0) 64 64 underlying46 hi Fz Ft FC Ms (by decide) (.slice none 0 0) 0 [] rfl (World.ownsRow_nil _ _ _ _) A' j c' ((o.take j).flatMap Sgn.cells) rfl HrT.out (ui _) (by have:=CD.out;unfold maxLen;omega) (by have:=CD.out;omega) (jL3 _) ?_;intro A1 c1 w1 N8 Ac BE;rw[Nat.zero_add,List.nil_append]at N8;rw[Nat.zero_add];have NL:=G N8;have FE:=G (show Old wc w1 from(jQ0 NoX wc).grown Ac (fun k e _=>by cases e));clear N8 Ac BE)
         |((with_reducible refine jT 165 (.tmp 58) ?_);refine jK rfl 165 (.tmp 58) rfl b (ob+k*64) rfl x.cells _ (jo BU.out FE.out) underlying165 rfl I3.out ?_)
         |((with_reducible refine jHN 46 (.tmp 59) ?_);refine jCv rfl (.tmp 59) rfl x rfl ?_)
         |((with_reducible refine Un (.tmp 55) (.tmp 60) 46 ?_);refine jJ _ rfl (.tmp 55) (.tmp 60) 46 rfl wc.heap.size 165 i0 (.agg z0) 64 64 underlying46 hi Fz Ft FC Ms (by decide) (.slice A1 j c1) j ((o.take j).flatMap Sgn.cells) rfl (NL.out.alloc _) (some ⟨w1.heap.size,0,none⟩) 1 1 x.cells rfl (Rd.row_new _ _ 64 1 _ (by rw[x.len])) (Sgn.one x) (by have:=CD.out;unfold maxLen;omega) (by have:=CD.out;omega) (by have:=FE.out.size;simp;omega) ?_;intro A2 c2 w2 Ga Mx Q5;have GJ:=G Ga;have FH:=G (show Old wc w2 from(FE.out.alloc _).grown Mx (fun k e hk=>by have:=(NL.out.lt k e).1;omega));clear Ga Mx Q5)
         |((with_reducible refine Un (.tmp 62) (.tmp 65) 46 ?_);refine jJ _ rfl (.tmp 62) (.tmp 65) 46 rfl wc.heap.size 165 i0 (.agg z0) 64 64 underlying46 hi Fz Ft FC Ms (by decide) (.slice A2 (j+1) c2) (j+1) ((o.take j).flatMap Sgn.cells++x.cells) rfl GJ.out (if c' =j then A' else A'.map (·.add (j*64))) (o.length-j) (c' -j) ((o.drop j).flatMap Sgn.cells) rfl (HrD.out.old FH.out) (ui _) (by have:=CD.out;unfold maxLen;omega) (by have:=CD.out;omega) FH.out.size ?_;intro A3 c3 w3 SK OD BD;have Rg:=G SK;have Gq:=G (show Old wc w3 from FH.out.grown OD (fun k e hk=>by have:=(GJ.out.lt k e).1;omega));clear SK OD BD)
         |fail)
        have EQ:=G (show(jAf x o).length=j+1+(o.length-j)by
         rw[jAf,Aa,jJ4,jJ4,jK9,jK8,List.length_singleton];have:=Hjo.out;omega)
        have AN:=G (show(jAf x o).flatMap Sgn.cells=((o.take j).flatMap Sgn.cells++x.cells)++(o.drop j).flatMap Sgn.cells by rw[jAf,Aa];simp);go_roundw
        case rel=>exact⟨k+1,jAf x o,A3,c3,by omega,by go_num,by rw[EQ.out],Hn.out,by rw[EQ.out];have:=P9.out;have:=Hjo.out;omega,by rw[EQ.out,AN.out];exact jD5 Rg.out (GR.out.old DP.out).size,(GR.out.old DP.out).old Gq.out⟩
        case measure=>simp[intOf];omega
  ·obtain rfl:k=l.length:=(by omega);have Hf:=G (show R=some o by rw[<-HR.out,Fs.out,List.drop_of_length_le (jL3 _),Kz]);go_wp2
   go_ret2
   exact .inl ⟨o,A',c',Hf.out,rfl,Rd.of_own Gn.out,GR.out⟩
theorem ZP(s:Sgn):prog.keyLits 3 165 s.cells=some (yD s.key++yD s.tag):=by
 unfold Program.keyLits;rw[underlying165];have d1:=vS 0 s.key s.hk;have d2:=vS 0 s.tag s.ht;have e0:s.cells.length=prog.cellsOf 165:=by rw[s.len];kernel_rfl
 have e1:(s.cells.drop 0).take 32=jA s.key:=(by rw[List.drop_zero,Sgn.cells,ZY _ _ 32 (by rw[jB,s.hk])]);have e2:(s.cells.drop 32).take 32=jA s.tag:=by rw[Sgn.cells,YU _ _ 32 (by rw[jB,s.hk])];exact jK4 (by rw[jB,s.ht];omega)
 rw[List.drop_zero]at e1;generalize s.cells=cs at*;simp[e0,yf,e1,e2,d1,d2]
theorem jI8(s:Sgn)(w:World):(Op.equalIn 10000 165 (.agg s.cells.toArray) (.agg s.cells.toArray)).run prog w=.ok true w:=by
 obtain⟨r,h1,h2⟩:=Qu 165 3 (by decide) (by kernel_rfl) s.cells s.cells 3 3 _ _ (ZP s) (ZP s) (vq underlying165 rfl (by kernel_rfl) s.len) (vq underlying165 rfl (by kernel_rfl) s.len) w;rw[h1,h2.2 rfl]
theorem jI9(h:MHap)(w:World):(Op.equalIn 10000 105 (.agg h.cells.toArray) (.agg h.cells.toArray)).run prog w=.ok true w:=by
 obtain⟨op,nm⟩:=h;unfold MHap.cells;go_simp
theorem uu(d:LB)(hd:d.length=32)(w:World):(Op.equalIn 10000 40 (.agg (jA d).toArray) (.agg (jA d).toArray)).run prog w=.ok true w:=by
 rw[jEc w d d hd hd,jK5 rfl]
theorem jHW:(prog.info? 105).map (·.size)=some 2:=by kernel_rfl
theorem jGa:prog.eqGuardType prog.depth 105=false:=by kernel_rfl
theorem jEV:prog.eqGuardType prog.depth 165=false:=by kernel_rfl
abbrev Dg:=LB
theorem jFd(w:World)(A B:OA)(c d:Nat)(x:List MHap)(hx:Rd w 2 A x.length (x.flatMap MHap.cells))(hy:Rd w 2 B x.length (x.flatMap MHap.cells))(hl:x.length<=1000000000000)
  (hq:∀e∈x,∀W:World,(Op.equalIn 10000 105 (.agg (MHap.cells e).toArray) (.agg (MHap.cells e).toArray)).run prog W=.ok true W) (hn:∀e∈x,(MHap.cells e).length=2):
  Calls prog 76 #[.slice A x.length c,.slice B x.length d] w fun e w' =>e=.returned (.bool true)/\Old w w' :=by
 have h1:((x.length:Int) !=(x.length:Int))=false:=(by simp);have Hx:=G hx;have Hy:=G hy;have Hq:=G hq;have Hn:=G hn;clear hx hy hq hn;go_enter func76,ntmps76;go_wp2;go_loopw [5] (fun i wr=>∃k:Nat,k<=x.length/\i=.int .i64 k/\Old w wr) (fun i _=>x.length-(intOf i).toNat)
 case atStart=>exact⟨0,by omega,rfl,jQ0 _ _⟩
 case round=>
  obtain⟨k,hk,rfl,Fk⟩:=hrel;by_cases hM:k<x.length
  ·obtain⟨b1,o1,rfl,Fd⟩:=(Hx.out.old Fk).elem (f:=MHap.cells) Hn.out rfl hM;obtain⟨b2,o2,rfl,Fb⟩:=(Hy.out.old Fk).elem (f:=MHap.cells) Hn.out rfl hM;have b5:(k:Int)<=1000000000000:=(by omega);have b6:(0:Int)<=(k:Int):=(by omega);have b7:(k:Int)<(x.length:Int):=(by omega);have b8:(k:Int).toNat=k:=(by omega);have Ho:=G Fk;have FJ:(prog.info? 105).map (·.size)=some (MHap.cells x[k]).length:=by rw[Hn.out _ (jL6 hM)];exact jHW
   have We:=G (Hq.out _ (jL6 hM));generalize MHap.cells x[k]=cs at*;have Fh:=G FJ;have WH:=G Fd;have Ss:=G Fb;clear Fk FJ Fd Fb;go_upto_region 6 with(fail);refine je (S:=fun w' =>w'.rangeAt b1 (o1+k*2) cs/\w'.rangeAt b2 (o2+k*2) cs) 9 rfl (by kernel_rfl) ⟨jo WH.out (jQ0 NoX wr).drew,jo Ss.out (jQ0 NoX wr).drew⟩ (fun H9=> ?_)
   iterate 3 (refine' tOn rfl rfl (by kernel_rfl) (fun _ _ _ h=>h) rfl H9 (fun w' hJ=> ?_) ?_;rotate_left;(clear hJ;go_simp<;>with_reducible rfl);simp only[Act.put,jJ1,jJ2,jJ3])
   refine' tOn rfl rfl (by kernel_rfl) (fun _ _ _ h=>h) rfl H9 (fun w' hJ=>jl 105 (.tmp 19) rfl b1 (o1+k*2) rfl cs _ hJ.1 underlying105 rfl Fh.out) ?_;simp only[Act.put,jJ1,jJ2,jJ3]
   iterate 3 (refine' tOn rfl rfl (by kernel_rfl) (fun _ _ _ h=>h) rfl H9 (fun w' hJ=> ?_) ?_;rotate_left;(clear hJ;go_simp<;>with_reducible rfl);simp only[Act.put,jJ1,jJ2,jJ3])
   refine' tOn rfl rfl (by kernel_rfl) (fun _ _ _ h=>h) rfl H9 (fun w' hJ=>jl 105 (.tmp 23) rfl b2 (o2+k*2) rfl cs _ hJ.2 underlying105 rfl Fh.out) ?_;simp only[Act.put,jJ1,jJ2,jJ3];refine' tOn rfl rfl (by kernel_rfl) (fun _ _ _ h=>h) rfl H9 (fun w' hJ=>Zq 105 105 (.tmp 20) (.tmp 24) rfl _ _ rfl rfl jGa _ (We.out _)) ?_;simp only[Act.put,jJ1,jJ2,jJ3];refine wpAnyH_done (by kernel_rfl) ?_ _;go_wp2;go_roundw
   case rel=>exact⟨k+1,by omega,by go_num,Ho.out.drew⟩
   case measure=>simp[intOf];omega
  ·obtain rfl:k=x.length:=(by omega);have Ho:=G Fk;clear Fk;go_wp2;go_ret;exact⟨rfl,Ho.out⟩
theorem jFc(w:World)(A B:OA)(c d:Nat)(x:List Sgn)(hx:Rd w 64 A x.length (x.flatMap Sgn.cells))(hy:Rd w 64 B x.length (x.flatMap Sgn.cells))(hl:x.length<=1000000000000)
  (hq:∀e∈x,∀W:World,(Op.equalIn 10000 165 (.agg (Sgn.cells e).toArray) (.agg (Sgn.cells e).toArray)).run prog W=.ok true W) (hn:∀e∈x,(Sgn.cells e).length=64):
  Calls prog 78 #[.slice A x.length c,.slice B x.length d] w fun e w' =>e=.returned (.bool true)/\Old w w' :=by
 have h1:((x.length:Int) !=(x.length:Int))=false:=(by simp);have Hx:=G hx;have Hy:=G hy;have Hq:=G hq;have Hn:=G hn;clear hx hy hq hn;go_enter func78,ntmps78;go_wp2;go_loopw [5] (fun i wr=>∃k:Nat,k<=x.length/\i=.int .i64 k/\Old w wr) (fun i _=>x.length-(intOf i).toNat)
 case atStart=>exact⟨0,by omega,rfl,jQ0 _ _⟩
 case round=>
  obtain⟨k,hk,rfl,Fk⟩:=hrel;by_cases hM:k<x.length
  ·obtain⟨b1,o1,rfl,Fd⟩:=(Hx.out.old Fk).elem (f:=Sgn.cells) Hn.out rfl hM;obtain⟨b2,o2,rfl,Fb⟩:=(Hy.out.old Fk).elem (f:=Sgn.cells) Hn.out rfl hM;have b5:(k:Int)<=1000000000000:=(by omega);have b6:(0:Int)<=(k:Int):=(by omega);have b7:(k:Int)<(x.length:Int):=(by omega);have b8:(k:Int).toNat=k:=(by omega);have Ho:=G Fk;have FJ:(prog.info? 165).map (·.size)=some (Sgn.cells x[k]).length:=by rw[Hn.out _ (jL6 hM)];exact Kf
   have We:=G (Hq.out _ (jL6 hM));generalize Sgn.cells x[k]=cs at*;have Fh:=G FJ;have WH:=G Fd;have Ss:=G Fb;clear Fk FJ Fd Fb;go_upto_region 6 with(fail);refine je (S:=fun w' =>w'.rangeAt b1 (o1+k*64) cs/\w'.rangeAt b2 (o2+k*64) cs) 9 rfl (by kernel_rfl) ⟨jo WH.out (jQ0 NoX wr).drew,jo Ss.out (jQ0 NoX wr).drew⟩ (fun H9=> ?_)
   iterate 3 (refine' tOn rfl rfl (by kernel_rfl) (fun _ _ _ h=>h) rfl H9 (fun w' hJ=> ?_) ?_;rotate_left;(clear hJ;go_simp<;>with_reducible rfl);simp only[Act.put,jJ1,jJ2,jJ3])
   refine' tOn rfl rfl (by kernel_rfl) (fun _ _ _ h=>h) rfl H9 (fun w' hJ=>jl 165 (.tmp 19) rfl b1 (o1+k*64) rfl cs _ hJ.1 underlying165 rfl Fh.out) ?_;simp only[Act.put,jJ1,jJ2,jJ3]
   iterate 3 (refine' tOn rfl rfl (by kernel_rfl) (fun _ _ _ h=>h) rfl H9 (fun w' hJ=> ?_) ?_;rotate_left;(clear hJ;go_simp<;>with_reducible rfl);simp only[Act.put,jJ1,jJ2,jJ3])
   refine' tOn rfl rfl (by kernel_rfl) (fun _ _ _ h=>h) rfl H9 (fun w' hJ=>jl 165 (.tmp 23) rfl b2 (o2+k*64) rfl cs _ hJ.2 underlying165 rfl Fh.out) ?_;simp only[Act.put,jJ1,jJ2,jJ3];refine' tOn rfl rfl (by kernel_rfl) (fun _ _ _ h=>h) rfl H9 (fun w' hJ=>Zq 165 165 (.tmp 20) (.tmp 24) rfl _ _ rfl rfl jEV _ (We.out _)) ?_;simp only[Act.put,jJ1,jJ2,jJ3];refine wpAnyH_done (by kernel_rfl) ?_ _;go_wp2;go_roundw
   case rel=>exact⟨k+1,by omega,by go_num,Ho.out.drew⟩
   case measure=>simp[intOf];omega
  ·obtain rfl:k=x.length:=(by omega);have Ho:=G Fk;clear Fk;go_wp2;go_ret;exact⟨rfl,Ho.out⟩
theorem jFe(w:World)(A B:OA)(c d:Nat)(x:List Dg)(hx:Rd w 32 A x.length (x.flatMap jA))(hy:Rd w 32 B x.length (x.flatMap jA))(hl:x.length<=1000000000000)
  (hq:∀e∈x,∀W:World,(Op.equalIn 10000 40 (.agg (jA e).toArray) (.agg (jA e).toArray)).run prog W=.ok true W) (hn:∀e∈x,(jA e).length=32):
  Calls prog 81 #[.slice A x.length c,.slice B x.length d] w fun e w' =>e=.returned (.bool true)/\Old w w' :=by
 have h1:((x.length:Int) !=(x.length:Int))=false:=(by simp);have Hx:=G hx;have Hy:=G hy;have Hq:=G hq;have Hn:=G hn;clear hx hy hq hn;go_enter func81,ntmps81;go_wp2;go_loopw [5] (fun i wr=>∃k:Nat,k<=x.length/\i=.int .i64 k/\Old w wr) (fun i _=>x.length-(intOf i).toNat)
 case atStart=>exact⟨0,by omega,rfl,jQ0 _ _⟩
 case round=>
  obtain⟨k,hk,rfl,Fk⟩:=hrel;by_cases hM:k<x.length
  ·obtain⟨b1,o1,rfl,Fd⟩:=(Hx.out.old Fk).elem (f:=jA) Hn.out rfl hM;obtain⟨b2,o2,rfl,Fb⟩:=(Hy.out.old Fk).elem (f:=jA) Hn.out rfl hM;have b5:(k:Int)<=1000000000000:=(by omega);have b6:(0:Int)<=(k:Int):=(by omega);have b7:(k:Int)<(x.length:Int):=(by omega);have b8:(k:Int).toNat=k:=(by omega);have Ho:=G Fk;have FJ:(prog.info? 40).map (·.size)=some (jA x[k]).length:=by rw[Hn.out _ (jL6 hM)];exact jO
   have We:=G (Hq.out _ (jL6 hM));generalize jA x[k]=cs at*;have Fh:=G FJ;have WH:=G Fd;have Ss:=G Fb;clear Fk FJ Fd Fb;go_upto_region 6 with(fail);refine je (S:=fun w' =>w'.rangeAt b1 (o1+k*32) cs/\w'.rangeAt b2 (o2+k*32) cs) 9 rfl (by kernel_rfl) ⟨jo WH.out (jQ0 NoX wr).drew,jo Ss.out (jQ0 NoX wr).drew⟩ (fun H9=> ?_)
   iterate 3 (refine' tOn rfl rfl (by kernel_rfl) (fun _ _ _ h=>h) rfl H9 (fun w' hJ=> ?_) ?_;rotate_left;(clear hJ;go_simp<;>with_reducible rfl);simp only[Act.put,jJ1,jJ2,jJ3])
   refine' tOn rfl rfl (by kernel_rfl) (fun _ _ _ h=>h) rfl H9 (fun w' hJ=>jl 40 (.tmp 19) rfl b1 (o1+k*32) rfl cs _ hJ.1 underlying40 rfl Fh.out) ?_;simp only[Act.put,jJ1,jJ2,jJ3]
   iterate 3 (refine' tOn rfl rfl (by kernel_rfl) (fun _ _ _ h=>h) rfl H9 (fun w' hJ=> ?_) ?_;rotate_left;(clear hJ;go_simp<;>with_reducible rfl);simp only[Act.put,jJ1,jJ2,jJ3])
   refine' tOn rfl rfl (by kernel_rfl) (fun _ _ _ h=>h) rfl H9 (fun w' hJ=>jl 40 (.tmp 23) rfl b2 (o2+k*32) rfl cs _ hJ.2 underlying40 rfl Fh.out) ?_;simp only[Act.put,jJ1,jJ2,jJ3];refine' tOn rfl rfl (by kernel_rfl) (fun _ _ _ h=>h) rfl H9 (fun w' hJ=>Zq 40 40 (.tmp 20) (.tmp 24) rfl _ _ rfl rfl yB _ (We.out _)) ?_;simp only[Act.put,jJ1,jJ2,jJ3];refine wpAnyH_done (by kernel_rfl) ?_ _;go_wp2;go_roundw
   case rel=>exact⟨k+1,by omega,by go_num,Ho.out.drew⟩
   case measure=>simp[intOf];omega
  ·obtain rfl:k=x.length:=(by omega);have Ho:=G Fk;clear Fk;go_wp2;go_ret;exact⟨rfl,Ho.out⟩
theorem jCU{a b:BA}(h:a.toList=b.toList):a=b:=by
 rw[ByteArray.toList_eq,ByteArray.toList_eq]at h;exact jIg h
theorem QM(w:World)(A B:OA)(c d:Nat)(x y:List BA)(hx:Rd w 1 A x.length (x.map sv))(hy:Rd w 1 B y.length (y.map sv))(Cp:x.length<=1000000000000):
  Calls prog 134 #[.slice A x.length c,.slice B y.length d] w fun e w' =>e=.returned (.bool (decide (x=y)))/\Old w w' :=by
 by_cases hl:x.length=y.length
 case neg=>
  have Ff:x≠y:=fun e=>hl (by rw[e]);have h1:((x.length:Int) !=(y.length:Int))=true:=bne_iff_ne.2 (by omega);rw[jK3 Ff];go_enter func134,ntmps134;go_wp2;go_ret;exact⟨rfl,jQ0 _ _⟩
 have h1:((x.length:Int) !=(y.length:Int))=false:=bne_eq_false_iff_eq.2 (by omega);have Q7:=G hl;rw[<-hl]at hy⊢;clear hl;go_enter func134,ntmps134;go_wp2;go_loopw [5] (fun i wr=>∃k:Nat,k<=x.length/\i=.int .i64 k/\x.take k=y.take k/\Old w wr) (fun i _=>x.length-(intOf i).toNat)
 case atStart=>exact⟨0,by omega,rfl,rfl,jQ0 _ _⟩
 case round=>
  obtain⟨k,hk,rfl,Gc,Fk⟩:=hrel;by_cases hM:k<x.length
  ·have PT:k<y.length:=by have:=Q7.out;omega
   obtain⟨b1,o1,u1,rfl,Lo,FS⟩:=(hx.old Fk).at_ hM;obtain⟨b2,o2,u2,rfl,Ln,Gz⟩:=(hy.old Fk).at_ hM;rw[jM1,jJ9 hM]at Lo;rw[jM1,jJ9 PT]at Ln;simp only[Option.map_some,Option.some.injEq,sv]at Lo Ln;subst Lo Ln;have b5:(k:Int)<=1000000000000:=(by omega);have b6:(0:Int)<=(k:Int):=(by omega);have b7:(k:Int)<(x.length:Int):=(by omega);have b8:(k:Int).toNat=k:=(by omega);have Hp:=G Gc;have Ho:=G Fk;clear Gc Fk;by_cases he:x[k]=y[k]
   ·have hq:(x[k].toList==y[k].toList)=true:=by rw[he];simp
    have Fl:=G (show x.take (k+1)=y.take (k+1)by rw[jK2 hM,jK2 PT,Hp.out,he]);clear he;generalize x[k]=xa at*;generalize y[k]=ya at*;go_wp2;go_quiet (fail);go_wp2;go_roundw
    case rel=>exact⟨k+1,by omega,by go_num,Fl.out,Ho.out.drewN _⟩
    case measure=>simp[intOf];omega
   ·have hq:(x[k].toList==y[k].toList)=false:=by
     rw[beq_eq_false_iff_ne];intro h;exact he (jCU h)
    have Ff:x≠y:=fun e=>he (by subst e;rfl);clear he;generalize x[k]=xa at*;generalize y[k]=ya at*;go_wp2;go_quiet (fail);go_wp2;go_ret;exact⟨kL (kZ (jK3 Ff).symm),Ho.out.drewN _⟩
  ·obtain rfl:k=x.length:=(by omega);have he:x=y:=by
    rw[List.take_length,Q7.out,List.take_length]at Gc;exact Gc
   have Ho:=G Fk;clear Fk;go_wp2;go_ret;exact⟨kL (kZ (jK5 he).symm),Ho.out⟩
theorem jFZ(w:World)(v:Val)(A B:OA)(c d:Nat)(hx:Rd w 1 A v.s.length (v.s.map sv))(hy:Rd w 1 B v.s.length (v.s.map sv))(hl:v.s.length<=1000000000000):
  Calls prog 133 #[vV v A c,vV v B d] w fun e w' =>e=.returned (.bool true)/\Old w w' :=by
 obtain⟨k,n,t,s⟩:=v;have HS:=G (fun W (ho:Old w W)=>QM W A B c d s s (hx.old ho) (hy.old ho) hl);have Ho:=G (((jQ0 NoX w).alloc (.cells #[.int .i64 k,.int .i64 n,.string t,.slice A s.length c] 29)).alloc (.cells #[.int .i64 k,.int .i64 n,.string t,.slice B s.length d] 29));clear hx hy hl;simp only[vV]at*;go_enter func133,ntmps133;go_wp2_with fail;refine(HS.out _ Ho.out).mono ?_;rintro e w1 ⟨rfl,F0⟩;go_wp2;go_ret;exact⟨by simp,Ho.out.old F0⟩
structure Prow where
 A:OA
 n:Nat
 c:Nat
 size:Int
 num:Int
 P:OA
 k:Nat
 c2:Nat
def Prow.ev(r:Prow):Value:=.slice r.A r.n r.c
def Prow.pf(r:Prow):List Value:=[.int .i64 r.size,.int .i64 r.num,.slice r.P r.k r.c2]
structure Prow.Ok(r:Prow):Prop where
 n:r.n<=2147483647
 k:r.k<=2147483647
def zW(first size:Int)(i b:Nat)(prev:Int)(r:Prow):Bool:=
 decide (i=1000\/2097152<b\/Jb r.n r.size r.num r.k size=false\/size-i-1<first\/(0<i/\r.num<=prev))
def vH(first size:Int):Nat->Nat->Int->List Prow->Nat
 |i,_,_,[]=>i
 |i,b,prev,r::rs=>if zW first size i (b+(12+r.n+32*r.k)) prev r=true then i else vH first size (i+1) (b+(12+r.n+32*r.k)) r.num rs
def vp(rs:List Prow):Int:=match rs with|[]=>0|r::_=>r.size
def yQ(s:BA)(first:Int)(before:LB)(rs:List Prow):Nat:=
 if yE s first before=true then vH first (vp rs) 0 (54+s.size) 0 rs else 0
theorem xc{n k:Nat}{a b size:Int}(h:Jb n a b k size=true):1<=size/\size<=1099511627776:=by
 have h' :=of_decide_eq_true h;obtain⟨h1,rfl,_⟩:=h';unfold yA at h1;split at h1
 ·omega
 ·cases h1
theorem jDC:(prog.info? 51).map (·.size)=some 3:=by kernel_rfl
theorem Prow.rd0{w:World}{P:OA}{rs:List Prow}(h:Rd w 3 P rs.length (rs.flatMap Prow.pf)){k:Nat}(hk:k<rs.length):
  ∃b o,P=some ⟨b,o,none⟩/\w.rangeAt b (o+k*3) rs[k].pf/\w.cell? ⟨b,o,none⟩=some (.int .i64 (vp rs))/\w.cell? ⟨b,o+(k-1)*3+1,none⟩=some (.int .i64 (rs[k-1]'(by omega)).num):=by
 obtain⟨b,o,e,h1⟩:=h.elem (f:=Prow.pf) (fun _ _=>rfl) rfl hk;obtain⟨b',o',e',h0⟩:=h.elem (f:=Prow.pf) (fun _ _=>rfl) rfl (k:=0) (by omega);obtain⟨b2,o2,e2,h2⟩:=h.elem (f:=Prow.pf) (fun _ _=>rfl) rfl (k:=k-1) (by omega);rw[e]at e' e2;injection e' with e';injection e' with e1 e1';injection e2 with e2;injection e2 with e3 e3';subst e1 e1' e3 e3';refine⟨b,o,e,h1,?_,h2 1 _ rfl⟩;have:=h0 0 (.int .i64 rs[0].size) rfl;rw[Nat.zero_mul,Nat.add_zero]at this;rw[this];cases rs with
 |nil=>simp at hk
 |cons r rs=>rfl
theorem QZ{first size:Int}{rs:List Prow}{k b:Nat}{prev:Int}(hk:k<rs.length):
  vH first size k b prev (rs.drop k)=if zW first size k (b+(12+rs[k].n+32*rs[k].k)) prev rs[k]=true then k else vH first size (k+1) (b+(12+rs[k].n+32*rs[k].k)) rs[k].num (rs.drop (k+1)):=by
 rw[List.drop_eq_getElem_cons hk];rfl
theorem Xv{first size:Int}{rs:List Prow}{k b:Nat}{prev:Int}(hk:¬k<rs.length):vH first size k b prev (rs.drop k)=k:=by
 rw[List.drop_eq_nil_of_le (by omega)];rfl
structure ReachAt(w:World)(first:Int)(rs:List Prow)(R k b:Nat)(wr:World):Prop where
 le:k<=rs.length
 eq:∃prev,R=vH first (vp rs) k b prev (rs.drop k)/\(0<k->∀h2:k-1<rs.length,prev=rs[k-1].num)
 small:b<=281474976710656
 old:Old w wr
theorem zJ{w w' :World}{p:Addr}{v:Value}(ho:Old w w')(h:w.cell? p=some v):w'.cell? p=some v:=by
 rw[World.cell?_of_block (ho.block p.block (Jm h) (fun hf=>hf))];exact h
structure RowAt(w:World)(pb po k:Nat)(sz pv a nu:Int)(P:OA)(n c:Nat):Prop where
 c0:w.cell? ⟨pb,po,none⟩=some (.int .i64 sz)
 k0:w.cell? ⟨pb,po+k*3,none⟩=some (.int .i64 a)
 k1:w.cell? ⟨pb,po+k*3+1,none⟩=some (.int .i64 nu)
 k2:w.cell? ⟨pb,po+k*3+2,none⟩=some (.slice P n c)
 cp:w.cell? ⟨pb,po+(k-1)*3+1,none⟩=some (.int .i64 pv)
section
variable{w w' :World}{pb po k:Nat}{sz pv a nu:Int}{P:OA}{n c:Nat}
theorem RowAt.old(h:RowAt w pb po k sz pv a nu P n c)(ho:Old w w'):RowAt w' pb po k sz pv a nu P n c:=
 ⟨zJ ho h.c0,zJ ho h.k0,zJ ho h.k1,zJ ho h.k2,zJ ho h.cp⟩
theorem RowAt.all(h:RowAt w pb po k sz pv a nu P n c):w.cell? ⟨pb,po,none⟩=some (.int .i64 sz)/\w.cell? ⟨pb,po+k*3,none⟩=some (.int .i64 a)/\w.cell? ⟨pb,po+k*3+1,none⟩=some (.int .i64 nu)/\w.cell? ⟨pb,po+k*3+2,none⟩=some (.slice P n c):=
 ⟨h.c0,h.k0,h.k1,h.k2⟩
end
theorem QY(w:World)(s:BA)(first:Int)(d:LB)(hd:d.length=32)(hs:s.size<=140737488355328)(E P:OA)(ce cp:Nat)(rs:List Prow)(Ob:∀r∈rs,r.Ok)
  (he:Rd w 1 E rs.length (rs.map Prow.ev)) (hp:Rd w 3 P rs.length (rs.flatMap Prow.pf)) (hn:rs.length<=2147483647):
  Calls prog 113 #[.string s,.int .i64 first,.agg (jA d).toArray,.slice E rs.length ce,.slice P rs.length cp] w fun e w' =>e=.returned (.int .i64 (yQ s first d rs))/\Old w w' :=by
 have Hb:=G (jQ2 w 40 (jA d).toArray);have Ho:=G ((jQ0 NoX w).alloc (.cells (jA d).toArray 40));have Fh:=G (show(prog.info? 40).map (·.size)=some (jA d).length by rw[jB,hd];exact jO);have HN:=G (fun W=>jCc W s first d hd (by omega));have HH:=G (fun W=>ur W s hs);have HR:=G (show yQ s first d rs=if yE s first d=true then vH first (vp rs) 0 (54+s.size) 0 rs else 0 from rfl);have He:=G he;have Hp:=G hp;have Hrs:=G Ob;generalize yQ s first d rs=R at*
 clear he hp Ob hd;go_enter func113,ntmps113;go_wp2_with (first|(with_reducible refine ji 40 (.tmp 7) ?_;refine jK rfl 40 (.tmp 7) rfl w.heap.size 0 rfl (jA d) _ Hb.out.range underlying40 rfl Fh.out ?_)|fail);generalize w.alloc _=W at*;refine(HN.out W).mono ?_;rintro e w1 ⟨rfl,F0⟩;have FE:=G (Ho.out.old F0);clear F0;by_cases hb:yE s first d=true
 ·rw[hb]at HR⊢;rw[jJ6 rfl]at HR;clear hb;go_wp2_with fail;refine(HH.out w1).mono ?_;rintro e w2 ⟨rfl,rfl⟩;go_wp2_with fail;go_loopw [11,23] (fun q i wr=>∃k b:Nat,q=.int .i64 b/\i=.int .i64 k/\ReachAt w first rs R k b wr) (fun _ i _=>rs.length-(intOf i).toNat)
  case atStart=>exact⟨0,54+s.size,by simp,rfl,by omega,⟨0,HR.out,fun h=>absurd h (by omega)⟩,by omega,FE.out⟩
  case round=>
   obtain⟨k,b,rfl,rfl,Fo⟩:=hrel;have Me:=G Fo;have GY:=Fo.le;have Mz:=Fo.small;clear Fo;by_cases hM:k<rs.length
   ·obtain⟨prev,hR,SJ⟩:=Me.out.eq;rw[QZ hM]at hR;have WJ:=G hR;clear hR HR;obtain⟨eb,eo,u,rfl,hu,Q1⟩:=(He.out.old Me.out.old).at_ hM;obtain⟨pb,po,rfl,FK,GA,SV⟩:=Prow.rd0 (Hp.out.old Me.out.old) hM;have CL:u=.slice rs[k].A rs[k].n rs[k].c:=by
     rw[jM1,jJ9 hM]at hu;simpa [Prow.ev]using hu.symm
    subst CL;have Fe:=G (Hrs.out rs[k] (jL6 hM));have SM:=Fe.out.n;have Fc:=Fe.out.k;have HB:=G (fun W=>QP W rs[k].A rs[k].n rs[k].c rs[k].size rs[k].num rs[k].P rs[k].k rs[k].c2 Fe.out.n Fe.out.k);have HO:=G (fun W=>jHf W rs[k].A rs[k].n rs[k].c rs[k].size rs[k].num rs[k].P rs[k].k rs[k].c2 (vp rs));have HF:RowAt wr pb po k (vp rs) (rs[k-1]'(by omega)).num rs[k].size rs[k].num rs[k].P rs[k].k rs[k].c2:=⟨GA,FK 0 _ rfl,FK 1 _ rfl,FK 2 _ rfl,SV⟩;have F:=HF.all;have HF:=G HF;have Hz:=G (show Jb rs[k].n rs[k].size rs[k].num rs[k].k (vp rs)=true->1<=vp rs/\vp rs<=1099511627776 from fun hh=>xc hh);have HS:=G (show zW first (vp rs) k (b+(12+rs[k].n+32*rs[k].k)) prev rs[k]=decide (k=1000\/2097152<b+(12+rs[k].n+32*rs[k].k)\/Jb rs[k].n rs[k].size rs[k].num rs[k].k (vp rs)=false\/vp rs-k-1<first\/(0<k/\rs[k].num<=prev))from rfl);have Ar:=G (fun h:0<k=>SJ h (by omega));have N5:=G (show∀h2:k+1-1<rs.length,rs[k].num=rs[k+1-1].num from fun _=>rfl);clear FK GA SV SJ;generalize Jb rs[k].n rs[k].size rs[k].num rs[k].k (vp rs)=ok at*;generalize HU:zW first (vp rs) k (b+(12+rs[k].n+32*rs[k].k)) prev rs[k]=st at*
    generalize hnu:rs[k].num=nu at*;have HNU:=G hnu;clear hnu;generalize rs[k].n=en at*;generalize rs[k].k=ek at*;generalize rs[k].A=rA at*;generalize rs[k].c=rc at*;generalize rs[k].P=rP at*;generalize rs[k].c2=rc2 at*;generalize rs[k].size=ra at*;clear HU;go_wp2_with fail;refine(HB.out wr).mono ?_;rintro e w3 ⟨rfl,Gj⟩;have AN:=G (HF.out.old Gj);have Gq:=G (Me.out.old.old Gj);clear Gj HF F;have b1:(0:Int)<=(k:Int):=(by omega);have b2:(k:Int)<(rs.length:Int):=(by omega);have b0:(0:Int)<(rs.length:Int):=(by omega);have b0n:0<rs.length:=(by omega);have b3:(k:Int).toNat=k:=(by omega);by_cases h1:k=1000
    ·have t1:((k:Int)==1000)=true:=by simp;omega
     have Fq:=G (show R=k by rw[WJ.out,HS.out,jK5 (.inl h1)];rfl);clear h1;go_wp2_with fail;go_quiet (fail);go_wp2;go_ret;exact⟨by rw[Fq.out];rfl,Gq.out.drewN _⟩
    ·have t1:((k:Int)==1000)=false:=by simp;omega
     by_cases h2:2097152<b+(12+en+32*ek)
     ·have t2:(2097152:Int)<(b:Int)+(12+(en:Int)+32*(ek:Int)):=(by omega);have Fq:=G (show R=k by rw[WJ.out,HS.out,jK5 (.inr (.inl h2))];rfl);clear h1 h2;go_wp2_with fail;go_quiet (fail);go_wp2;go_ret;exact⟨by rw[Fq.out];rfl,Gq.out.drewN _⟩
     ·have t2:¬(2097152:Int)<(b:Int)+(12+(en:Int)+32*(ek:Int)):=(by omega);have t2' :decide ((2097152:Int)<(b:Int)+(12+(en:Int)+32*(ek:Int)))=false:=jK3 t2;have D:=(AN.out.old (jQ0 NoX w3).drew).all;have J2:=G (AN.out.old (jQ0 NoX w3).drew);cases ok with
      |false=>
       have Fq:=G (show R=k by rw[WJ.out,HS.out,jK5 (.inr (.inr (.inl rfl)))];rfl);clear h1 h2 t2 Hz;go_wp2_with fail;refine je (S:=fun w' =>w'.cell? ⟨pb,po,none⟩=some (.int .i64 (vp rs))/\w'.cell? ⟨pb,po+k*3,none⟩=some (.int .i64 ra)/\w'.cell? ⟨pb,po+k*3+1,none⟩=some (.int .i64 nu)/\w'.cell? ⟨pb,po+k*3+2,none⟩=some (.slice rP ek rc2)) 30 rfl (by kernel_rfl) D (fun H9=> ?_)
       iterate 16 (refine' tOn rfl rfl (by kernel_rfl) (fun _ _ _ h=>h) rfl H9 (fun w hJ=> ?_) ?_;rotate_left;((try dsimp only at hJ);go_simp<;>with_reducible rfl);simp only[Act.put,jJ1,jJ2,jJ3])
       refine VP rfl (by kernel_rfl) (by decide) (fun K hK=> ?_);go_simp;go_at_call 157;refine(HO.out _).mono ?_;rintro e w5 ⟨rfl,GX⟩;have D5:=(J2.out.old GX).all;have NM:=G (Gq.out.drew.old GX);go_wp2_with fail;refine hK.out _ _ D5 (fun H9=> ?_);clear hK K
       iterate 3 (refine' tOn rfl rfl (by kernel_rfl) (fun _ _ _ h=>h) rfl H9 (fun w hJ=> ?_) ?_;rotate_left;((try dsimp only at hJ);go_simp<;>with_reducible rfl);simp only[Act.put,jJ1,jJ2,jJ3])
       iterate 9 (refine qI rfl rfl (by kernel_rfl) (fun _ _ _ h=>h) rfl H9 ?_;simp only[Act.put,jJ1,jJ2,jJ3])
       iterate 1 (refine' tOn rfl rfl (by kernel_rfl) (fun _ _ _ h=>h) rfl H9 (fun w hJ=> ?_) ?_;rotate_left;((try dsimp only at hJ);go_simp<;>with_reducible rfl);simp only[Act.put,jJ1,jJ2,jJ3])
       refine wpAnyH_done (by kernel_rfl) ?_ _
       all_goals
        go_wp2;go_ret;exact⟨by rw[Fq.out];rfl,NM.out⟩
      |true=>
       obtain⟨z1,z2⟩:=Hz.out rfl;have SS:k<1000+2147483648:=(by omega);have y1:IntKind.i64.wrap (vp rs-(k:Int))=vp rs-(k:Int):=jQ3 _ (by omega);have y2:IntKind.i64.wrap (vp rs-(k:Int)-1)=vp rs-(k:Int)-1:=jQ3 _ (by omega);clear SS;go_wp2_with fail;refine je (S:=fun w' =>w'.cell? ⟨pb,po,none⟩=some (.int .i64 (vp rs))/\w'.cell? ⟨pb,po+k*3,none⟩=some (.int .i64 ra)/\w'.cell? ⟨pb,po+k*3+1,none⟩=some (.int .i64 nu)/\w'.cell? ⟨pb,po+k*3+2,none⟩=some (.slice rP ek rc2)) 30 rfl (by kernel_rfl) D (fun H9=> ?_)
       iterate 16 (refine' tOn rfl rfl (by kernel_rfl) (fun _ _ _ h=>h) rfl H9 (fun w hJ=> ?_) ?_;rotate_left;((try dsimp only at hJ);go_simp<;>with_reducible rfl);simp only[Act.put,jJ1,jJ2,jJ3])
       refine VP rfl (by kernel_rfl) (by decide) (fun K hK=> ?_);go_simp;go_at_call 157;refine(HO.out _).mono ?_;rintro e w5 ⟨rfl,GX⟩;have D5:=(J2.out.old GX).all;have NM:=G (Gq.out.drew.old GX);go_wp2_with fail;refine hK.out _ _ D5 (fun H9=> ?_);clear hK K
       iterate 13 (refine' tOn rfl rfl (by kernel_rfl) (fun _ _ _ h=>h) rfl H9 (fun w hJ=> ?_) ?_;rotate_left;((try dsimp only at hJ);go_simp<;>with_reducible rfl);simp only[Act.put,jJ1,jJ2,jJ3])
       refine wpAnyH_done (by kernel_rfl) ?_ _;clear y1 y2;have F5:=J2.out.old GX;have D6:=F5.k1;have D7:=F5.cp;have b4:IntKind.i64.wrap ((k:Int)-1)=(k:Int)-1:=jQ3 _ (by omega);by_cases h3:vp rs-k-1<first
       ·have Fq:=G (show R=k by rw[WJ.out,HS.out,jK5 (.inr (.inr (.inr (.inl h3))))];rfl);clear h1 h2 t2 Hz;go_wp2;go_ret;exact⟨by rw[Fq.out];rfl,NM.out⟩
       ·have LD:decide (vp rs-k-1<first)=false:=jK3 h3;by_cases h4:0<k
        ·have Cu:=Ar.out h4;have g4:(0:Int)<(k:Int):=(by omega);have g5:(0:Int)<=(k:Int)-1:=(by omega);have g6:(k:Int)-1<(rs.length:Int):=(by omega);have g7:((k:Int)-1).toNat=k-1:=(by omega);rw[<-Cu]at D7;by_cases h5:nu<=prev
         ·have Fq:=G (show R=k by rw[WJ.out,HS.out,jK5 (.inr (.inr (.inr (.inr ⟨h4,h5⟩))))];rfl);clear h1 h2 t2 Hz Cu;go_wp2_with fail;go_quiet (fail);go_wp2;go_ret;exact⟨by rw[Fq.out];rfl,NM.out.drewN _⟩
         ·have DF:decide (nu<=prev)=false:=jK3 h5;have Fs:=G (show R=vH first (vp rs) (k+1) (b+(12+en+32*ek)) nu (rs.drop (k+1))by rw[WJ.out,HS.out,jK3 (by simp;omega)];rfl);clear Hz Cu;go_wp2_with fail;go_quiet (fail);go_wp2;go_roundw
          case rel=>exact⟨k+1,b+(12+en+32*ek),by go_num,by go_num,by omega,⟨nu,Fs.out,fun _ h=>HNU.out.symm.trans (N5.out h)⟩,by omega,NM.out.drewN _⟩
          case measure=>simp[intOf];omega
        ·have g4:decide ((0:Int)<(k:Int))=false:=jK3 (by omega);have Fs:=G (show R=vH first (vp rs) (k+1) (b+(12+en+32*ek)) nu (rs.drop (k+1))by rw[WJ.out,HS.out,jK3 (by simp;omega)];rfl);clear Hz;go_wp2_with fail;go_quiet (fail);go_wp2;go_roundw
         case rel=>exact⟨k+1,b+(12+en+32*ek),by go_num,by go_num,by omega,⟨nu,Fs.out,fun _ h=>HNU.out.symm.trans (N5.out h)⟩,by omega,NM.out.drewN _⟩
         case measure=>simp[intOf];omega
   ·have HZ:=G (show R=rs.length by
     obtain⟨prev,hR,_⟩:=Me.out.eq;rw[hR,Xv hM];omega)
    go_wp2;go_ret;exact⟨by rw[HZ.out];rfl,Me.out.old⟩
 ·have Nj:yE s first d=false:=(by simpa using hb)
  have Hz:=G (show R=0 by rw[HR.out,jJ5 hb]);rw[Nj];clear hb Nj;go_wp2;go_ret;exact⟨by rw[Hz.out];rfl,FE.out⟩
end Go.Proofs.YtnaolhjbapgjgaaGreat

import Derived.Test.YtmmjcbbogokmfaaGreatDoorMb27
import Derived.Defers
import Derived.Recover
import Derived.Below
import Derived.OneCell
set_option maxRecDepth 100000
set_option maxHeartbeats 25600000
namespace Go.Proofs.YtmmjcbbogokmfaaGreatDoor
open Go.Proofs.Tryz
open Go.RowKit
theorem jHb(v:Value)(w:World):(Instr.typeAssert (.iface 215 v) 20 215 true).run prog w=.ok (.tuple #[v,.bool true]) w:=by
 simp[Instr.typeAssert,run_underlying underlying215]
theorem jI0(w:World)(pa pb:Addr)(x:Int)(y:Bool)(k:Nat)(ha:w.cell? pa=some (.int .i64 x))(hb:w.cell? pb=some (.bool y))(Ab:w.frozen? pa=false)(D9:w.frozen? pb=false)(Fa:pa.block≠pb.block):
  CallsD prog 133 #[.pointer (some pa),.pointer (some pb)] (.panicking (YS k)) w fun e u' w' =>
   e=.returned (.tuple #[])/\u' =.panicking [{v:=.iface 215 (.int .i64 (k:Int)),recovered:=true}]/\w' =(w.setCell pa (.int .i64 (k:Int))).setCell pb (.bool false):=by
 refine callsD_of_wpS func133 rfl fun c₀ cs hu=> ?_;unfold YS at hu;apply wpS_seq;apply wpS_region;simp[wpOpsS,go_sem,recoverD,hu,ntmps133,Exit.thenS];refine wpS_of_wp ?_;clear hu;simp only[Array.replicate_succ,Array.replicate_zero,List.push_toArray,List.append_toArray,jN8,jN6,jJ1,jJ2,jJ3];have PH:=fun w=>jHb (.int .i64 (k:Int)) w;have Fk:(w.setCell pa (.int .i64 (k:Int))).cell? pb=some (.bool y):=(World.cell?_of_block (Below.heap_setCell w pa _ pb.block (Ne.symm Fa))).trans hb;have D8:(w.setCell pa (.int .i64 (k:Int))).frozen? pb=false:=(World.frozen?_of_block (Below.heap_setCell w pa _ pb.block (Ne.symm Fa))).trans D9;go_wp2;simp[bodyPostS,results,results133]
theorem jAF(w:World)(pa pb:Addr):
  CallsD prog 133 #[.pointer (some pa),.pointer (some pb)] .returning w fun e u' w' =>e=.returned (.tuple #[])/\u' =.returning/\w' =w:=by
 refine callsD_of_wpS func133 rfl fun c₀ cs hu=> ?_;apply wpS_seq;apply wpS_region;simp[wpOpsS,go_sem,recoverD,hu,ntmps133,Exit.thenS];refine wpS_of_wp ?_;simp only[Array.replicate_succ,Array.replicate_zero,List.push_toArray,List.append_toArray,jN8,jN6,jJ1,jJ2,jJ3];go_wp2;cases c₀
 simp_all [bodyPostS,results,results133]
def jHf(w:World)(src:BA)(o:Out)(e:Ending)(w' :World):Prop:=
 match o with
 | .ok m=>∃g r A c,e=.returned (.tuple #[.pointer (some ⟨g,0,none⟩),.int .i64 (src.size:Int),.bool true])/\Mac w' g r src m A c/\Old w w' /\w.heap.size<=g/\(∀k,r=some k->w.heap.size<=k)
 | .error k=>∃p,e=.returned (.tuple #[.pointer p,.int .i64 (k:Int),.bool false])/\Old w w'
theorem jBw(w:World)(src:BA)(h8:8<=w.heap.size):
  Mac ((w.alloc (.cells #[.int .u8 5,.int .u8 58,.int .u8 4,.int .u8 1,.int .u8 23] 163)).alloc (.cells #[.string src,.int .i64 0,.slice (some ⟨w.heap.size,0,none⟩) 5 5,.int .u8 0,.int .i64 0] 162)) (w.heap.size+1) (some w.heap.size) src startM (some ⟨w.heap.size,0,none⟩) 5:=by
 have e1:(w.alloc (.cells #[.int .u8 5,.int .u8 58,.int .u8 4,.int .u8 1,.int .u8 23] 163)).heap.size=w.heap.size+1:=(by simp);refine⟨by omega,?_,?_,rfl,by decide⟩
 ·rw[<-e1];exact jQ2 _ _ _
 ·refine⟨rfl,.inr ⟨w.heap.size,5,#[.int .u8 5,.int .u8 58,.int .u8 4,.int .u8 1,.int .u8 23],rfl,h8,?_,by decide,by decide,rfl,rfl⟩⟩;exact(jQ2 w 163 #[.int .u8 5,.int .u8 58,.int .u8 4,.int .u8 1,.int .u8 23]).alloc _
theorem VA(w:World)(hg:Sg w)(src:BA)(hs:src.size<=60000)(h8:8<=w.heap.size):Calls prog 76 #[.string src] w (jHf w src (ka (sb src))):=by
 have DA:∀(fn:Fn) (first cap:Array Value) (w:World),(Instr.makeFunc fn first cap).run prog w=.ok (.func fn first cap) w:=fun _ _ _ _=>rfl
 go_enter_defers func76,ntmps76
 go_wp2_with fail;have hA:((w.alloc (.cells #[.int .i64 0] 3)).alloc (.cells #[.bool false] 4)).heap.size=w.heap.size+1+1:=(by simp);have hM:=jBw ((w.alloc (.cells #[.int .i64 0] 3)).alloc (.cells #[.bool false] 4)) src (by omega);rw[hA]at hM;have hO:Old w ((((w.alloc (.cells #[.int .i64 0] 3)).alloc (.cells #[.bool false] 4)).alloc (.cells #[.int .u8 5,.int .u8 58,.int .u8 4,.int .u8 1,.int .u8 23] 163)).alloc (.cells #[.string src,.int .i64 0,.slice (some ⟨w.heap.size+1+1,0,none⟩) 5 5,.int .u8 0,.int .i64 0] 162)):=((((jQ0 NoX w).alloc _).alloc _).alloc _).alloc _;have Gl:Blk ((((w.alloc (.cells #[.int .i64 0] 3)).alloc (.cells #[.bool false] 4)).alloc (.cells #[.int .u8 5,.int .u8 58,.int .u8 4,.int .u8 1,.int .u8 23] 163)).alloc (.cells #[.string src,.int .i64 0,.slice (some ⟨w.heap.size+1+1,0,none⟩) 5 5,.int .u8 0,.int .i64 0] 162)) w.heap.size 3 #[.int .i64 0]:=(((jQ2 w 3 #[.int .i64 0]).alloc _).alloc _).alloc _;have Fk:Blk ((((w.alloc (.cells #[.int .i64 0] 3)).alloc (.cells #[.bool false] 4)).alloc (.cells #[.int .u8 5,.int .u8 58,.int .u8 4,.int .u8 1,.int .u8 23] 163)).alloc (.cells #[.string src,.int .i64 0,.slice (some ⟨w.heap.size+1+1,0,none⟩) 5 5,.int .u8 0,.int .i64 0] 162)) (w.heap.size+1) 4 #[.bool false]:=by
  have:=jQ2 (w.alloc (.cells #[.int .i64 0] 3)) 4 #[.bool false];rw[show(w.alloc (.cells #[.int .i64 0] 3)).heap.size=w.heap.size+1 by simp]at this;exact(this.alloc _).alloc _
 generalize ((((w.alloc (.cells #[.int .i64 0] 3)).alloc (.cells #[.bool false] 4)).alloc (.cells #[.int .u8 5,.int .u8 58,.int .u8 4,.int .u8 1,.int .u8 23] 163)).alloc (.cells #[.string src,.int .i64 0,.slice (some ⟨w.heap.size+1+1,0,none⟩) 5 5,.int .u8 0,.int .i64 0] 162))=W at*;refine(jFt W (hg.old hO) _ _ src _ _ hM hs).mono ?_;clear hM hA;intro e w1 Rk;generalize ka (sb src)=X at*;generalize hS:w.heap.size=S at*;cases X with
 |ok m=>
  obtain⟨rfl,r2,A2,c2,Mx,hk,hf⟩:=Rk;have Gl:=Gl.kp hk (fun h=>by rcases h with e|e;omega;have:=jL5 e;omega);have Fk:=Fk.kp hk (fun h=>by rcases h with e|e;omega;have:=jL5 e;omega);have q1:w1.cell? ⟨S,0,none⟩=some (.int .i64 0):=Gl.at_ 0 rfl;have q2:w1.cell? ⟨S+1,0,none⟩=some (.bool false):=Fk.at_ 0 rfl;have z1:=Gl.frozen 0;have z2:=Fk.frozen 0;have Ph:=(Gl.set_ 0 (.int .i64 (src.size:Int))).far (p:=⟨S+1,0,none⟩) (by simp) (.bool true);have Pf:=(Fk.far (p:=⟨S,0,none⟩) (by simp) (.int .i64 (src.size:Int))).set_ 0 (.bool true);have Fg:Kp (fun k=>k=S\/k=S+1) w1 ((w1.setCell ⟨S,0,none⟩ (.int .i64 (src.size:Int))).setCell ⟨S+1,0,none⟩ (.bool true)):=
   ((jQ0 _ w1).setCell (p:=⟨S,0,none⟩) (fun _=>.inl rfl) _).setCell (p:=⟨S+1,0,none⟩) (fun _=>.inr rfl) _
  have Fy:∀k,r2=some k->¬(k=S\/k=S+1):=by
   intro k L4 he;rcases hf with rfl|⟨k2,rfl,Fc⟩
   ·have:=jL5 L4;omega
   ·have:=jL5 L4;have:=Fk.lt;have h9:=(‹Blk W (S+1) _ _›).lt;omega
  have FY:=G (show jHf w src (.ok m) (.returned (.tuple #[.pointer (some ⟨S+1+1+1,0,none⟩),.int .i64 (src.size:Int),.bool true])) ((w1.setCell ⟨S,0,none⟩ (.int .i64 (src.size:Int))).setCell ⟨S+1,0,none⟩ (.bool true))from by
   refine⟨S+1+1+1,r2,A2,c2,rfl,Mx.kp Fg (by omega) Fy,?_,by omega,fun k L4=> ?_⟩
   ·refine(hO.trans hk (fun b hb hx=> ?_)).trans Fg (fun b hb hx=> ?_)
    ·rcases hx with hx|hx
     ·omega
     ·have:=jL5 hx;omega
    ·rcases hx with hx|hx<;>omega
   ·have:=Fy k L4;rcases hf with rfl|⟨k2,rfl,Fc⟩
    ·have:=jL5 L4;omega
    ·have:=jL5 L4;have:=hO.size;omega)
  clear Mx hk hf Fg Fy hO;go_wp2;generalize ((w1.setCell ⟨S,0,none⟩ (.int .i64 (src.size:Int))).setCell ⟨S+1,0,none⟩ (.bool true))=WF at*;have f1:WF.cell? ⟨S,0,none⟩=some (.int .i64 (src.size:Int)):=Ph.at_ 0 rfl;have f2:WF.cell? ⟨S+1,0,none⟩=some (.bool true):=Pf.at_ 0 rfl;refine leaves_cons (f:=133) (args:= #[.pointer (some ⟨S,0,none⟩),.pointer (some ⟨S+1,0,none⟩)]) (by simp) (by simp[go_sem]) ?_;refine(jAF WF ⟨S,0,none⟩ ⟨S+1,0,none⟩).mono ?_;rintro e u' w'' ⟨rfl,rfl,rfl⟩;simp[Leaves,settle,results,results76,go_sem,f1,f2];exact FY.out
 |error k=>
  obtain⟨rfl,hk⟩:=Rk;have Gl:=Gl.kp hk (fun h=>by rcases h with e|e;omega;have:=jL5 e;omega);have Fk:=Fk.kp hk (fun h=>by rcases h with e|e;omega;have:=jL5 e;omega);have q1:w1.cell? ⟨S,0,none⟩=some (.int .i64 0):=Gl.at_ 0 rfl;have q2:w1.cell? ⟨S+1,0,none⟩=some (.bool false):=Fk.at_ 0 rfl;have z1:=Gl.frozen 0;have z2:=Fk.frozen 0;have Ph:=(Gl.set_ 0 (.int .i64 (k:Int))).far (p:=⟨S+1,0,none⟩) (by simp) (.bool false);have Pf:=(Fk.far (p:=⟨S,0,none⟩) (by simp) (.int .i64 (k:Int))).set_ 0 (.bool false);have Fg:Kp (fun k=>k=S\/k=S+1) w1 ((w1.setCell ⟨S,0,none⟩ (.int .i64 (k:Int))).setCell ⟨S+1,0,none⟩ (.bool false)):=
   ((jQ0 _ w1).setCell (p:=⟨S,0,none⟩) (fun _=>.inl rfl) _).setCell (p:=⟨S+1,0,none⟩) (fun _=>.inr rfl) _
  have FY:=G (show jHf w src (.error k) (.returned (.tuple #[.pointer (some ⟨S+1+1+1,0,none⟩),.int .i64 (k:Int),.bool false])) ((w1.setCell ⟨S,0,none⟩ (.int .i64 (k:Int))).setCell ⟨S+1,0,none⟩ (.bool false))from by
   refine⟨_,rfl,(hO.trans hk (fun b hb hx=> ?_)).trans Fg (fun b hb hx=> ?_)⟩
   ·rcases hx with hx|hx
    ·omega
    ·have:=jL5 hx;omega
   ·rcases hx with hx|hx<;>omega)
  have Hc:=G (jI0 w1 ⟨S,0,none⟩ ⟨S+1,0,none⟩ 0 false k q1 q2 z1 z2 (by simp));clear hk Fg hO;go_wp2;refine leaves_cons (f:=133) (args:= #[.pointer (some ⟨S,0,none⟩),.pointer (some ⟨S+1,0,none⟩)]) (by simp) (by simp[go_sem]) ?_;refine Hc.out.mono ?_;rintro e u' w'' ⟨rfl,rfl,rfl⟩;generalize ((w1.setCell ⟨S,0,none⟩ (.int .i64 (k:Int))).setCell ⟨S+1,0,none⟩ (.bool false))=WF at*;have f1:WF.cell? ⟨S,0,none⟩=some (.int .i64 (k:Int)):=Ph.at_ 0 rfl;have f2:WF.cell? ⟨S+1,0,none⟩=some (.bool false):=Pf.at_ 0 rfl;simp[Leaves,settle,results,results76,go_sem,f1,f2];exact FY.out
inductive Rp (w:World):OA->LB->Prop
 |nil:Rp w none []
 |cons (g:Nat) (p:BA) (nx:OA) (l:LB):0<p.size->Blk w g 225 #[.string p,.pointer nx,.int .i64 ((sb p++l).length:Int)]->Rp w nx l->Rp w (some ⟨g,0,none⟩) (sb p++l)
theorem Rp.old{w w1:World}{a:OA}{l:LB}(h:Rp w a l)(ho:Old w w1):Rp w1 a l:=by
 induction h with
 |nil=>exact .nil
 |cons g p nx l hp hb _ ih=>exact .cons g p nx l hp (hb.old ho) ih
theorem Rp.kp{X:Nat->Prop}{w w1:World}{n:Nat}{a:OA}{l:LB}(h:Rp w a l)(hn:w.heap.size<=n)(ho:Kp X w w1)(hx:∀b,b<n->¬X b):Rp w1 a l:=by
 induction h with
 |nil=>exact .nil
 |cons g p nx l hp hb _ ih=>exact .cons g p nx l hp (hb.kp ho (hx g (jL8 hb.lt hn))) ih
theorem Rp.nil_of{w:World}{l:LB}(h:Rp w none l):l=[]:=by cases h;rfl
theorem Rp.nil_iff{w:World}{a:OA}{l:LB}(h:Rp w a l):a=none↔l=[]:=by
 cases h with
 |nil=>simp
 |cons g p nx l hp _ _=>
  constructor
  ·intro e;cases e
  ·intro e;have:=congrArg List.length e;rw[jJ4,jB,jN2]at this;omega
theorem Vf(w:World)(a:OA)(l:LB)(h:Rp w a l):Calls prog 174 #[.pointer a] w fun e w' =>e=.returned (.int .i64 (l.length:Int))/\w=w' :=by
 cases h with
 |nil=>
  go_enter func174,ntmps174;go_wp2;go_ret;exact⟨rfl,rfl⟩
 |cons g p nx l hp hb _=>
  have h2:=hb.at_ 2 (v:=.int .i64 ((sb p++l).length:Int)) rfl;generalize (sb p++l).length=n at*;go_enter func174,ntmps174;go_wp2;go_ret;exact⟨rfl,rfl⟩
theorem je(w:World)(a:OA)(l:LB)(h:Rp w a l)(p:BA)(hl:p.size+l.length<=1000000000000):
  Calls prog 142 #[.pointer a,.string p] w fun e w' =>∃b,e=.returned (.pointer b)/\Rp w' b (sb p++l)/\Old w w' :=by
 have HL:=G (Vf w a l h);by_cases h0:p.size=0
 ·have Ts:p=⟨#[]⟩:=jFE (List.eq_nil_of_length_eq_zero (by rw[jB];exact h0));subst Ts;have Hr:=G h;clear h h0 HL;go_enter func142,ntmps142;go_wp2;go_ret;exact⟨a,rfl,Hr.out,jQ0 _ _⟩
 ·have Fa:(p.toList==[])=false:=jM3 (fun e=>h0 (by rw[ByteArray.toList_eq]at e;rw[<-jB];show(sb p).length=0;unfold sb;rw[e];rfl));have ew:IntKind.i64.wrap ((p.size:Int)+(l.length:Int))=(p.size:Int)+(l.length:Int):=jQ3 _ (by omega);have Hr:=G (show Rp (w.alloc (.cells #[.string p,.pointer a,.int .i64 ((p.size:Int)+(l.length:Int))] 225)) (some ⟨w.heap.size,0,none⟩) (sb p++l)from by
   refine .cons w.heap.size p a l (by omega) ?_ (h.old ((jQ0 _ _).alloc _));rw[jJ4,jB,show((p.size+l.length:Nat):Int)=(p.size:Int)+(l.length:Int)by omega];exact jQ2 _ _ _)
  clear h h0;generalize l.length=n at*;go_enter func142,ntmps142;go_wp2_with (go_at_call 174;refine HL.out.mono ?_;rintro e w1 ⟨rfl,rfl⟩);go_ret;exact⟨_,rfl,Hr.out,(jQ0 _ _).alloc _⟩
theorem Kn:(prog.info? 5).map (fun i=>(i.zero,i.size,i.bytes))=some (some (.int .u8 0),1,1):=by kernel_rfl
def rlen(v:Value)(w:World):Nat:=match v with| .pointer (some ad)=>(intOf ((w.cell? ⟨ad.block,2,none⟩).getD undef)).toNat|_=>0
theorem Rp.rlen{w:World}{a:OA}{l:LB}(h:Rp w a l):rlen (.pointer a) w=l.length:=by
 cases h with
 |nil=>rfl
 |cons g p nx l hp hb _=>
  show(intOf ((w.cell? ⟨g,2,none⟩).getD undef)).toNat=_;rw[hb.at_ 2 (v:=.int .i64 ((sb p++l).length:Int)) rfl];exact jL1 _
structure RopSt(w:World)(l:LB)(wr:World)(a:OA)(acc rest:LB)(A:OA)(c:Nat):Prop where
 eq:l=acc++rest
 own:wr.ownsRow w.heap.size 5 1 (.slice A acc.length c) acc.length (acc.map bv)
 old:Old w wr
 src:Rp w a rest
theorem Ui(w:World)(a:OA)(l:LB)(h:Rp w a l)(hl:l.length<=1000000000000):
  Calls prog 80 #[.pointer a] w fun e w' =>∃A c,e=.returned (.slice A l.length c)/\w'.ownsRow w.heap.size 5 1 (.slice A l.length c) l.length (l.map bv)/\Old w w' :=by
 obtain⟨i0,hi,FF,Gy,GI⟩:=info_parts Kn;have H0:=G (show RopSt w l w a [] l none 0 from⟨rfl,World.ownsRow_nil _ _ _ _,jQ0 _ _,h⟩);clear h;go_enter func80,ntmps80;go_wp2;go_loopw [0,3] (fun p v wr=>∃a acc rest A c,p=.pointer a/\v=.slice A acc.length c/\RopSt w l wr a acc rest A c) (fun p _ wr=>rlen p wr)
 case atStart=>exact⟨a,[],l,none,0,rfl,rfl,H0.out⟩
 case round=>
  clear H0;obtain⟨a,acc,rest,A,c,rfl,rfl,Hm⟩:=hrel;have Wf:=G ((Hm.src.old Hm.old).rlen);have Fi:=Hm.eq;have Hh:=Hm.own;have Tj:=Hm.src;have FX:=G Hm.old;clear Hm;cases Tj with
  |nil=>
   rw[jN7]at Fi;subst Fi;have Nf:=G Hh;clear Hh;go_wp2;go_ret;exact⟨A,c,rfl,Nf.out,FX.out⟩
  |cons g p nx l2 hp hb hn=>
   have Gs:=hb.old FX.out;have GY:=Gs.at_ 0 (v:=.string p) rfl;have Hb:=G hb;have Hn:=G hn;have WH:=G Fi;have hlen:acc.length+p.size<=1000000000000:=by
    have:=congrArg List.length Fi;rw[jJ4,jJ4,jB]at this;omega
   clear hb hn Fi Gs;have GB:=G (show acc.length+p.size<=maxLen by unfold maxLen;omega);have Y7:=G FX.out.size;generalize hk:acc.length=k at*;go_wp2_with (at_builtin;refine jq _ rfl (.tmp 10) (.tmp 14) 33 9 rfl w.heap.size 5 i0 underlying33 underlying9 hi FF Gy GI (.slice A k c) k (acc.map bv) rfl Hh p rfl GB.out (by omega) Y7.out ?_;intro A' c' w3 Fz hgrow Ff;have Mg:Old w w3:=FX.out.grown hgrow (fun k e hlt=>by have:=(Hh.lt k e).1;omega);have L9:w3.cell? ⟨g,1,none⟩=some (.pointer nx):=(Hb.out.old Mg).at_ 1 rfl;have LF:=G Mg;clear Mg);have Hm:RopSt w l w3 nx (acc++sb p) l2 A' c' :=⟨by rw[WH.out,jK1],by
    rw[jJ4,jB,hk,jN3];exact Fz,LF.out,Hn.out⟩
   refine⟨⟨nx,acc++sb p,l2,A',c',rfl,by rw[jJ4,jB,hk],Hm⟩,?_⟩;rw[Wf.out,(Hn.out.old LF.out).rlen,jJ4,jB];omega
theorem JO(w:World)(hg:Sg w)(n:Nat)(h1:1<=n)(h2:n<58):Calls prog 203 #[yv n] w fun e w' =>e=.returned (.string ⟨(ju n).toArray⟩)/\w=w' :=by
 unfold yv;by_cases e1:n=1
 ·subst e1;clear hg;go_enter func203,ntmps203;go_wp2;go_ret;exact⟨rfl,rfl⟩
 by_cases e2:n=2
 ·subst e2;clear hg;go_enter func203,ntmps203;go_wp2;go_ret;exact⟨rfl,rfl⟩
 by_cases e3:n=3
 ·subst e3;clear hg;go_enter func203,ntmps203;go_wp2;go_ret;exact⟨rfl,rfl⟩
 have b1:((n:Int)==1)=false:=jM3 (by omega);have b2:((n:Int)==2)=false:=jM3 (by omega);have b3:((n:Int)==3)=false:=jM3 (by omega);by_cases GZ:n<23
 ·obtain⟨j,rfl⟩:∃j,n=j+4:=⟨n-4,by omega⟩;have hj:j<19:=(by omega);have hc:=hg.sig j _ (YR signL j hj);rw[Nat.zero_add]at hc;have Hs:=G (show ju (j+4)=signL[j]'hj from by
   unfold ju;rw[jJ5 e1,jJ5 e2,jJ5 e3,jJ6 GZ,Nat.add_sub_cancel,List.getD,jJ9 (show j<signL.length from hj)];rfl)
  have b4:((j+4:Nat):Int)<23:=(by omega);have b5:IntKind.u8.wrap (((j+4:Nat):Int)-4)=(j:Int):=by rw[show((j+4:Nat):Int)-4=(j:Int)by omega];exact IntWalk.u8_in _ (by omega)
  have b6:(0:Int)<=(j:Int):=(by omega);have b7:(j:Int)<19:=(by omega);have b8:(j:Int).toNat=j:=(by omega);rw[Hs.out];clear hg e1 e2 e3 h1 h2 GZ Hs;generalize signL[j]'hj=x at*;generalize ((j+4:Nat):Int)=z at*;go_enter func203,ntmps203;go_wp2;go_ret;exact⟨rfl,rfl⟩
 ·obtain⟨j,rfl⟩:∃j,n=j+23:=⟨n-23,by omega⟩;have hj:j<35:=(by omega);have hc:=hg.res j _ (YR resL j hj);rw[Nat.zero_add]at hc;have Hs:=G (show ju (j+23)=resL[j]'hj from by
   unfold ju;rw[jJ5 e1,jJ5 e2,jJ5 e3,jJ5 GZ,Nat.add_sub_cancel,List.getD,jJ9 (show j<resL.length from hj)];rfl)
  have b4:¬((j+23:Nat):Int)<23:=(by omega);have b5:IntKind.u8.wrap (((j+23:Nat):Int)-23)=(j:Int):=by rw[show((j+23:Nat):Int)-23=(j:Int)by omega];exact IntWalk.u8_in _ (by omega)
  have b6:(0:Int)<=(j:Int):=(by omega);have b7:(j:Int)<35:=(by omega);have b8:(j:Int).toNat=j:=(by omega);rw[Hs.out];clear hg e1 e2 e3 h1 h2 GZ Hs;generalize resL[j]'hj=x at*;generalize ((j+23:Nat):Int)=z at*;go_enter func203,ntmps203;go_wp2;go_ret;exact⟨rfl,rfl⟩
theorem qe{w:World}{base base' :Nat}{e:TypeId}{size:Nat}{v:Value}{n:Nat}{xs:List Value}(h:w.ownsRow base e size v n xs)(hb:base' <=base):w.ownsRow base' e size v n xs:=by
 refine⟨h.1,?_⟩;rcases h.2 with hn|⟨g,cap,cur,rfl,hg,rest⟩
 ·exact .inl hn
 ·exact .inr ⟨g,cap,cur,rfl,jL4 hb hg,rest⟩
theorem Jd(w:World)(g:Nat)(r:Option Nat)(src:BA)(m:Mc)(A:OA)(c:Nat)(h:Mac w g r src m A c)(t n:Nat)(k:List Nat)(ht:t<58)(hT:Takes t n m.stack k)(hb:m.stack.length+11*n<=100000000):
  Calls prog 144 #[.pointer (some ⟨g,0,none⟩),yv t] w fun e w' =>∃g' r' A' c',e=.returned (.pointer (some ⟨g',0,none⟩))/\Mac w' g' r' ⟨#[]⟩ ⟨0,k,0,0⟩ A' c' /\Old w w' :=by
 obtain⟨i0,hi,FF,Gy,GI⟩:=info_parts jCM;have Fq:=h.c2;have Fx:=h.own.rd;have H8:=G (show 8<=w.heap.size from by have:=h.low;have:=h.blk.lt;omega);have H5:=G h.sym;have HT:=G hT;have Hb:=G hb;clear h hT;generalize m.stack=st at*;generalize hL:st.length=L at*;have HL:=G hL;clear hL;have GB:=G (show 0+L<=maxLen by unfold maxLen;omega);have GH:=G (show(0+L)*1<=140737488355328 by omega);unfold yv;go_enter func144,ntmps144;go_wp2_with (at_builtin;refine jF _ rfl (.const (.slice none 0 0)) (.tmp 9) 159 rfl w.heap.size 163 i0 (.int .u8 0) 1 1 underlying159 hi FF Gy GI rfl (by decide) (.slice none 0 0) 0 [] rfl (World.ownsRow_nil _ _ _ _) A L c (st.reverse.map yv) rfl Fx (jIF _) GB.out GH.out (jL3 _) ?_;intro A' c' w1 Hh hgrow Ff);have GS:Old w w1:=(jQ0 NoX w).grown hgrow (fun k e _=>by cases e);have hW:w1.heap.size>=w.heap.size:=GS.size;have Fy:∀k,A'.map (·.block)=some k->w.heap.size<=k:=fun k e=>(Hh.lt k (by rw[jC];exact e)).1;have hM:Mac (w1.alloc (.cells #[.string ⟨#[]⟩,.int .i64 0,.slice A' L c',.int .u8 0,.int .i64 0] 162)) w1.heap.size (A'.map (·.block)) ⟨#[]⟩ ⟨0,st,0,0⟩ A' c' :=by
  refine⟨by have:=H8.out;omega,?_,?_,rfl,H5.out⟩
  ·show Blk _ _ _ #[_,_,.slice A' st.length c',_,_];rw[HL.out];exact jQ2 _ _ _
  ·have h2:=qe Hh H8.out;rw[Nat.zero_add,jN8]at h2;unfold Stk;rw[HL.out];exact jW h2 ((jQ0 NoX w1).alloc _) (fun _ _ f=>f)
 have LJ:=G (yp _ _ _ _ _ _ _ hM t n k ht HT.out (by show st.length+_ <=_;rw[HL.out];exact Hb.out));unfold yv at LJ;have HO:=G (GS.alloc (.cells #[.string ⟨#[]⟩,.int .i64 0,.slice A' L c',.int .u8 0,.int .i64 0] 162));clear hM GS Hh hgrow Ff;go_wp2_with (go_at_call 179;refine LJ.out.mono ?_;rintro e w2 ⟨rfl,r2,A2,c2,Mx,Fg,MU⟩);go_ret;refine⟨_,r2,A2,c2,rfl,Mx,HO.out.trans Fg (fun b hb hx=> ?_)⟩;rcases hx with hx|hx
 ·omega
 ·have:=Fy b hx.symm;omega
structure Rw7 where
 aA:OA
 ac:Nat
 xa:List Atr
 gA:OA
 gc:Nat
 xg:List Stg
 mA:OA
 mc:Nat
 xm:List Mil
 pA:OA
 pc:Nat
 qs:List MSt
def brC(t:Tre)(s:Sl)(r:Rw7):List Value:=[.string t.name,iv 0,.slice r.aA r.xa.length r.ac,.slice r.gA r.xg.length r.gc,.slice r.mA r.xm.length r.mc,.slice r.pA r.qs.length r.pc,.slice s.nA t.nodes.length s.nc,.slice none 0 0]
structure OwP(base:Nat)(W:World)(x:MSt):Prop where
 p:W.ownsRow base 122 3 (.slice x.pA x.s.params.length x.pc) x.s.params.length (x.s.params.flatMap prC)
 e:W.ownsRow base 125 3 (.slice x.eA x.s.effects.length x.ec) x.s.effects.length (x.s.effects.flatMap efC)
structure Br(w:World)(t:Tre)(s:Sl)(r:Rw7)(W:World):Prop where
 ho:Old w W
 bt:Blk W w.heap.size 29 (jJ t s).toArray
 br:∃z:List Value,z.length=8/\Blk W (w.heap.size+1) 29 z.toArray
 bu:Blk W (w.heap.size+1+1) 29 (brC t s r).toArray
 rA:W.ownsRow (w.heap.size+1+1+1) 114 7 (.slice r.aA r.xa.length r.ac) r.xa.length (r.xa.flatMap atC)
 rG:W.ownsRow (w.heap.size+1+1+1) 117 7 (.slice r.gA r.xg.length r.gc) r.xg.length (r.xg.flatMap sgC)
 rM:W.ownsRow (w.heap.size+1+1+1) 64 6 (.slice r.mA r.xm.length r.mc) r.xm.length (r.xm.flatMap miC)
 rP:W.ownsRow (w.heap.size+1+1+1) 111 8 (.slice r.pA r.qs.length r.pc) r.qs.length (r.qs.flatMap stC)
 po:∀x∈r.qs,OwP (w.heap.size+1+1+1) W x
section
variable{w W W1:World}{t:Tre}{s:Sl}{r:Rw7}
theorem OwP.old{base:Nat}{x:MSt}(h:OwP base W x)(ho:Old W W1):OwP base W1 x:=⟨jW h.p ho (fun _ _ f=>f),jW h.e ho (fun _ _ f=>f)⟩
theorem Br.old(h:Br w t s r W)(ho:Old W W1):Br w t s r W1:=
 ⟨kU h.ho ho,h.bt.old ho,h.br.imp fun _ hz=>⟨hz.1,hz.2.old ho⟩,h.bu.old ho,jW h.rA ho (fun _ _ f=>f),jW h.rG ho (fun _ _ f=>f),jW h.rM ho (fun _ _ f=>f),jW h.rP ho (fun _ _ f=>f),fun x hx=>(h.po x hx).old ho⟩
theorem OwP.below{base:Nat}{x:MSt}(h:OwP base W x){a:Addr}(ha:a.block<base)(u:Value):OwP base (W.setCell a u) x:=⟨ownsRow_setCell_below h.p ha u,ownsRow_setCell_below h.e ha u⟩
theorem vV{base base2:Nat}{e e2:TypeId}{z z2 n n2:Nat}{v v2:Value}{xs xs2:List Value}(h:W.ownsRow base e z v n xs)(k:W.ownsRow base2 e2 z2 v2 n2 xs2)(Fa:e≠e2){a:Addr}(ha:v2.ownBlock=some a.block)(u:Value):(W.setCell a u).ownsRow base e z v n xs:=
 ownsRow_setCell_other h (fun e=>zc h k Fa _ e ha) u
theorem OwP.far{base base2:Nat}{x:MSt}(h:OwP base W x){e2:TypeId}{z2 n2:Nat}{v2:Value}{xs2:List Value}(k:W.ownsRow base2 e2 z2 v2 n2 xs2)(h1:122≠e2)(h2:125≠e2){a:Addr}(ha:v2.ownBlock=some a.block)(u:Value):OwP base (W.setCell a u) x:=
 ⟨vV h.p k h1 ha u,vV h.e k h2 ha u⟩
theorem Br.putA(h:Br w t s r W)(ho:Old W W1){A:OA}{c:Nat}{l:List Atr}(hr:W1.ownsRow (w.heap.size+1+1+1) 114 7 (.slice A l.length c) l.length (l.flatMap atC)):
  Br w t s {r with aA:=A,ac:=c,xa:=l} (W1.setCell ⟨w.heap.size+1+1,2,none⟩ (.slice A l.length c)):=by
 have k:=h.old ho;have hb:w.heap.size+1+1<w.heap.size+1+1+1:=(by omega);refine⟨k.ho.setCell (p:=⟨w.heap.size+1+1,2,none⟩) (fun hb=>absurd hb (by show¬w.heap.size+1+1<w.heap.size;omega)) _,k.bt.far (show w.heap.size≠w.heap.size+1+1 by omega) _,k.br.imp fun _ hz=>⟨hz.1,hz.2.far (show w.heap.size+1≠w.heap.size+1+1 by omega) _⟩,Blk.setL9 k.bu 2 _,?_,?_,?_,ownsRow_setCell_below k.rP hb _,fun x hx=>(k.po x hx).below hb _⟩
 ·first|exact ownsRow_setCell_below hr hb _ |exact ownsRow_setCell_below k.rA hb _
 ·first|exact ownsRow_setCell_below hr hb _ |exact ownsRow_setCell_below k.rG hb _
 ·first|exact ownsRow_setCell_below hr hb _ |exact ownsRow_setCell_below k.rM hb _
theorem Br.setA(h:Br w t s r W){b:Nat}(hA:r.aA=some ⟨b,0,none⟩)(j:Nat)(u:Value){l:List Atr}(hl:l.length=r.xa.length)(he:(r.xa.flatMap atC).set j u=l.flatMap atC):
  Br w t s {r with xa:=l} (W.setCell ⟨b,j,none⟩ u):=by
 have hr:=h.rA;have W5:=ye hr (b:=b) (by rw[hA];rfl);have No:(Value.slice r.aA r.xa.length r.ac).ownBlock=some (⟨b,j,none⟩:Addr).block:=by rw[hA];rfl
 have hs:(W.setCell ⟨b,j,none⟩ u).ownsRow (w.heap.size+1+1+1) 114 7 (.slice r.aA l.length r.ac) l.length (l.flatMap atC):=by
  rw[hA]at hr;have:=VT hr j u;rw[he,<-hl,<-hA]at this;exact this
 have RF:=h.bu;refine⟨h.ho.setCell (p:=⟨b,j,none⟩) (fun hb=>absurd hb (by show¬b<w.heap.size;omega)) _,h.bt.far (show w.heap.size≠b by omega) _,h.br.imp fun _ hz=>⟨hz.1,hz.2.far (show w.heap.size+1≠b by omega) _⟩,?_,?_,?_,?_,vV h.rP h.rA (by decide) No u,fun x hx=>(h.po x hx).far h.rA (by decide) (by decide) No u⟩
 ·have hf:=RF.far (g:=w.heap.size+1+1) (p:=⟨b,j,none⟩) (by show w.heap.size+1+1≠b;omega) u;unfold brC at hf⊢;simp only at hf⊢;rw[hl];exact hf
 ·first|exact hs|exact vV h.rA h.rA (by decide) No u
 ·first|exact hs|exact vV h.rG h.rA (by decide) No u
 ·first|exact hs|exact vV h.rM h.rA (by decide) No u
theorem Br.putG(h:Br w t s r W)(ho:Old W W1){A:OA}{c:Nat}{l:List Stg}(hr:W1.ownsRow (w.heap.size+1+1+1) 117 7 (.slice A l.length c) l.length (l.flatMap sgC)):
  Br w t s {r with gA:=A,gc:=c,xg:=l} (W1.setCell ⟨w.heap.size+1+1,3,none⟩ (.slice A l.length c)):=by
 have k:=h.old ho;have hb:w.heap.size+1+1<w.heap.size+1+1+1:=(by omega);refine⟨k.ho.setCell (p:=⟨w.heap.size+1+1,3,none⟩) (fun hb=>absurd hb (by show¬w.heap.size+1+1<w.heap.size;omega)) _,k.bt.far (show w.heap.size≠w.heap.size+1+1 by omega) _,k.br.imp fun _ hz=>⟨hz.1,hz.2.far (show w.heap.size+1≠w.heap.size+1+1 by omega) _⟩,Blk.setL9 k.bu 3 _,?_,?_,?_,ownsRow_setCell_below k.rP hb _,fun x hx=>(k.po x hx).below hb _⟩
 ·first|exact ownsRow_setCell_below hr hb _ |exact ownsRow_setCell_below k.rA hb _
 ·first|exact ownsRow_setCell_below hr hb _ |exact ownsRow_setCell_below k.rG hb _
 ·first|exact ownsRow_setCell_below hr hb _ |exact ownsRow_setCell_below k.rM hb _
theorem Br.setG(h:Br w t s r W){b:Nat}(hA:r.gA=some ⟨b,0,none⟩)(j:Nat)(u:Value){l:List Stg}(hl:l.length=r.xg.length)(he:(r.xg.flatMap sgC).set j u=l.flatMap sgC):
  Br w t s {r with xg:=l} (W.setCell ⟨b,j,none⟩ u):=by
 have hr:=h.rG;have W5:=ye hr (b:=b) (by rw[hA];rfl);have No:(Value.slice r.gA r.xg.length r.gc).ownBlock=some (⟨b,j,none⟩:Addr).block:=by rw[hA];rfl
 have hs:(W.setCell ⟨b,j,none⟩ u).ownsRow (w.heap.size+1+1+1) 117 7 (.slice r.gA l.length r.gc) l.length (l.flatMap sgC):=by
  rw[hA]at hr;have:=VT hr j u;rw[he,<-hl,<-hA]at this;exact this
 have RF:=h.bu;refine⟨h.ho.setCell (p:=⟨b,j,none⟩) (fun hb=>absurd hb (by show¬b<w.heap.size;omega)) _,h.bt.far (show w.heap.size≠b by omega) _,h.br.imp fun _ hz=>⟨hz.1,hz.2.far (show w.heap.size+1≠b by omega) _⟩,?_,?_,?_,?_,vV h.rP h.rG (by decide) No u,fun x hx=>(h.po x hx).far h.rG (by decide) (by decide) No u⟩
 ·have hf:=RF.far (g:=w.heap.size+1+1) (p:=⟨b,j,none⟩) (by show w.heap.size+1+1≠b;omega) u;unfold brC at hf⊢;simp only at hf⊢;rw[hl];exact hf
 ·first|exact hs|exact vV h.rA h.rG (by decide) No u
 ·first|exact hs|exact vV h.rG h.rG (by decide) No u
 ·first|exact hs|exact vV h.rM h.rG (by decide) No u
theorem Br.putM(h:Br w t s r W)(ho:Old W W1){A:OA}{c:Nat}{l:List Mil}(hr:W1.ownsRow (w.heap.size+1+1+1) 64 6 (.slice A l.length c) l.length (l.flatMap miC)):
  Br w t s {r with mA:=A,mc:=c,xm:=l} (W1.setCell ⟨w.heap.size+1+1,4,none⟩ (.slice A l.length c)):=by
 have k:=h.old ho;have hb:w.heap.size+1+1<w.heap.size+1+1+1:=(by omega);refine⟨k.ho.setCell (p:=⟨w.heap.size+1+1,4,none⟩) (fun hb=>absurd hb (by show¬w.heap.size+1+1<w.heap.size;omega)) _,k.bt.far (show w.heap.size≠w.heap.size+1+1 by omega) _,k.br.imp fun _ hz=>⟨hz.1,hz.2.far (show w.heap.size+1≠w.heap.size+1+1 by omega) _⟩,Blk.setL9 k.bu 4 _,?_,?_,?_,ownsRow_setCell_below k.rP hb _,fun x hx=>(k.po x hx).below hb _⟩
 ·first|exact ownsRow_setCell_below hr hb _ |exact ownsRow_setCell_below k.rA hb _
 ·first|exact ownsRow_setCell_below hr hb _ |exact ownsRow_setCell_below k.rG hb _
 ·first|exact ownsRow_setCell_below hr hb _ |exact ownsRow_setCell_below k.rM hb _
theorem Br.setM(h:Br w t s r W){b:Nat}(hA:r.mA=some ⟨b,0,none⟩)(j:Nat)(u:Value){l:List Mil}(hl:l.length=r.xm.length)(he:(r.xm.flatMap miC).set j u=l.flatMap miC):
  Br w t s {r with xm:=l} (W.setCell ⟨b,j,none⟩ u):=by
 have hr:=h.rM;have W5:=ye hr (b:=b) (by rw[hA];rfl);have No:(Value.slice r.mA r.xm.length r.mc).ownBlock=some (⟨b,j,none⟩:Addr).block:=by rw[hA];rfl
 have hs:(W.setCell ⟨b,j,none⟩ u).ownsRow (w.heap.size+1+1+1) 64 6 (.slice r.mA l.length r.mc) l.length (l.flatMap miC):=by
  rw[hA]at hr;have:=VT hr j u;rw[he,<-hl,<-hA]at this;exact this
 have RF:=h.bu;refine⟨h.ho.setCell (p:=⟨b,j,none⟩) (fun hb=>absurd hb (by show¬b<w.heap.size;omega)) _,h.bt.far (show w.heap.size≠b by omega) _,h.br.imp fun _ hz=>⟨hz.1,hz.2.far (show w.heap.size+1≠b by omega) _⟩,?_,?_,?_,?_,vV h.rP h.rM (by decide) No u,fun x hx=>(h.po x hx).far h.rM (by decide) (by decide) No u⟩
 ·have hf:=RF.far (g:=w.heap.size+1+1) (p:=⟨b,j,none⟩) (by show w.heap.size+1+1≠b;omega) u;unfold brC at hf⊢;simp only at hf⊢;rw[hl];exact hf
 ·first|exact hs|exact vV h.rA h.rM (by decide) No u
 ·first|exact hs|exact vV h.rG h.rM (by decide) No u
 ·first|exact hs|exact vV h.rM h.rM (by decide) No u
end
structure Rd7(W0:World)(g:Nat)(cs:List Value)(x:MSt)(W:World):Prop where
 ho:Old W0 W
 g0:W0.heap.size<=g
 bs:Blk W g 111 cs.toArray
 ow:OwP (g+1) W x
section
variable{W0 W W1:World}{g:Nat}{cs:List Value}{x:MSt}
theorem Rd7.old(h:Rd7 W0 g cs x W)(ho:Old W W1):Rd7 W0 g cs x W1:=⟨kU h.ho ho,h.g0,h.bs.old ho,h.ow.old ho⟩
theorem Rd7.setP(h:Rd7 W0 g cs x W){b:Nat}(hA:x.pA=some ⟨b,0,none⟩)(j:Nat)(u:Value){l:List Prm}(hl:l.length=x.s.params.length)(he:(x.s.params.flatMap prC).set j u=l.flatMap prC):
  Rd7 W0 g cs {x with s:={x.s with params:=l}} (W.setCell ⟨b,j,none⟩ u):=by
 have hr:=h.ow.p;have W5:=ye hr (b:=b) (by rw[hA];rfl);have No:(Value.slice x.pA x.s.params.length x.pc).ownBlock=some (⟨b,j,none⟩:Addr).block:=by rw[hA];rfl
 have:=h.g0;refine⟨h.ho.setCell (p:=⟨b,j,none⟩) (fun hb=>absurd hb (by show¬b<W0.heap.size;omega)) u,h.g0,h.bs.far (show g≠b by omega) u,?_,vV h.ow.e h.ow.p (by decide) No u⟩;rw[hA]at hr;have:=VT hr j u;rw[he,<-hl,<-hA]at this;exact this
theorem Rd7.setE(h:Rd7 W0 g cs x W){b:Nat}(hA:x.eA=some ⟨b,0,none⟩)(j:Nat)(u:Value){l:List Eff}(hl:l.length=x.s.effects.length)(he:(x.s.effects.flatMap efC).set j u=l.flatMap efC):
  Rd7 W0 g cs {x with s:={x.s with effects:=l}} (W.setCell ⟨b,j,none⟩ u):=by
 have hr:=h.ow.e;have W5:=ye hr (b:=b) (by rw[hA];rfl);have No:(Value.slice x.eA x.s.effects.length x.ec).ownBlock=some (⟨b,j,none⟩:Addr).block:=by rw[hA];rfl
 have:=h.g0;refine⟨h.ho.setCell (p:=⟨b,j,none⟩) (fun hb=>absurd hb (by show¬b<W0.heap.size;omega)) u,h.g0,h.bs.far (show g≠b by omega) u,vV h.ow.p h.ow.e (by decide) No u,?_⟩;rw[hA]at hr;have:=VT hr j u;rw[he,<-hl,<-hA]at this;exact this
end
theorem OwP.low{b1 b2:Nat}{W:World}{x:MSt}(h:OwP b1 W x)(hb:b2<=b1):OwP b2 W x:=⟨qe h.p hb,qe h.e hb⟩
theorem Br.push{w W0 W1 W:World}{t:Tre}{s:Sl}{r:Rw7}(h:Br w t s r W0){g:Nat}{x:MSt}(k:Rd7 W0 g (stC x) x W1){A:OA}{c:Nat}(hg:W1.grownBy W (r.pA.map (·.block)))
  (hr:W.ownsRow (w.heap.size+1+1+1) 111 8 (.slice A (r.qs++[x]).length c) (r.qs++[x]).length ((r.qs++[x]).flatMap stC)):
  Br w t s {r with pA:=A,pc:=c,qs:=r.qs++[x]} (W.setCell ⟨w.heap.size+1+1,5,none⟩ (.slice A (r.qs++[x]).length c)):=by
 have q:=h.old k.ho;have hk:=Kk hg;have G6:=jL4 h.ho.size k.ho.size;have MK:w.heap.size+1+1+1<=g:=by
  have h1:=h.bu.lt;have:=k.g0;omega
 have Sr:∀b,r.pA.map (·.block)=some b->w.heap.size+1+1+1<=b:=fun b e=>(ye q.rP e).1;have stay:∀{base z n:Nat} {e:TypeId} {v:Value} {xs:List Value},W1.ownsRow base e z v n xs->e≠111->W.ownsRow base e z v n xs:=fun ho Fa=>jW ho hk (fun b e1 e2=>zc ho q.rP Fa b e1 (by rw[jC];exact e2));have hb:w.heap.size+1+1<w.heap.size+1+1+1:=(by omega);have st2:∀y,OwP (w.heap.size+1+1+1) W1 y->OwP (w.heap.size+1+1+1) (W.setCell ⟨w.heap.size+1+1,5,none⟩ (.slice A (r.qs++[x]).length c)) y:=fun y hy=>OwP.below ⟨stay hy.p (by decide),stay hy.e (by decide)⟩ hb _;refine⟨(kU h.ho k.ho|>.trans hk (fun b hb e=>by have:=Sr b e;omega)).setCell (p:=⟨w.heap.size+1+1,5,none⟩) (fun hb=>absurd hb (by show¬w.heap.size+1+1<w.heap.size;omega)) _,(q.bt.kp hk (fun e=>by have:=Sr _ e;omega)).far (show w.heap.size≠w.heap.size+1+1 by omega) _,q.br.imp fun _ hz=>⟨hz.1,(hz.2.kp hk (fun e=>by have:=Sr _ e;omega)).far (show w.heap.size+1≠w.heap.size+1+1 by omega) _⟩,Blk.setL9 (q.bu.kp hk (fun e=>by have:=Sr _ e;omega)) 5 _,
  ownsRow_setCell_below (stay q.rA (by decide)) hb _,ownsRow_setCell_below (stay q.rG (by decide)) hb _,ownsRow_setCell_below (stay q.rM (by decide)) hb _,ownsRow_setCell_below hr hb _,fun y hy=> ?_⟩
 rcases jM6 hy with hy|hy
 ·exact st2 y (q.po y hy)
 ·rw[jM7 hy];exact st2 x (k.ow.low (by omega))
end Go.Proofs.YtmmjcbbogokmfaaGreatDoor

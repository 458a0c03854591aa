import Derived.Test.YtmmjcbbogokmfaaGreatDoorMb01
import Derived.Test.YtmmjcbbogokmfaaGreatDoorRows
set_option maxRecDepth 100000
set_option maxHeartbeats 25600000
namespace Go.Proofs.YtmmjcbbogokmfaaGreatDoor
open Go.Proofs.Tryz
open Go.RowKit
theorem jBT{a b:Bool}(h:a=true↔b=true):Ending.returned (.bool a)=Ending.returned (.bool b):=by rw[Bool.eq_iff_iff.2 h]
theorem Zw(w:World)(c:UInt8):Calls prog 128 #[bv c] w fun e w' =>e=.returned (.bool (Qe c))/\w=w' :=by
 have Hy:=G (show Qe c=decide (97<=c.toNat/\c.toNat<=122)from rfl);have h8:=c.toNat_lt;generalize Qe c=R at*;unfold bv;generalize c.toNat=k at*;go_enter func128,ntmps128;go_wp2
 all_goals (go_ret;refine⟨?_,rfl⟩;rw[Hy.out];refine jBT ?_;simp<;>omega)
theorem zh(w:World)(c:UInt8):Calls prog 158 #[bv c] w fun e w' =>e=.returned (.bool (yd c))/\w=w' :=by
 have Hy:=G (show yd c=decide (48<=c.toNat/\c.toNat<=57)from rfl);have h8:=c.toNat_lt;generalize yd c=R at*;unfold bv;generalize c.toNat=k at*;go_enter func158,ntmps158;go_wp2
 all_goals (go_ret;refine⟨?_,rfl⟩;rw[Hy.out];refine jBT ?_;simp<;>omega)
theorem vr(w:World)(c:UInt8):Calls prog 129 #[bv c] w fun e w' =>e=.returned (.bool (jS c))/\w=w' :=by
 have Hy:=G (show jS c=(Qe c||yd c||decide (c.toNat=95))from rfl);have H1:=G (Zw w c);have H2:=G (zh w c);have h8:=c.toNat_lt;generalize Qe c=L at*;generalize yd c=D at*;generalize jS c=R at*;unfold bv at*;generalize c.toNat=k at*;go_enter func129,ntmps129;go_wp2_with fail;refine H1.out.mono ?_;rintro e w1 ⟨rfl,rfl⟩;cases L
 ·go_wp2_with fail;refine H2.out.mono ?_;rintro e w1 ⟨rfl,rfl⟩;cases D
  ·go_wp2
   all_goals (go_ret;refine⟨?_,rfl⟩;rw[Hy.out];refine jBT ?_;simp<;>omega)
  ·go_wp2
   all_goals (go_ret;refine⟨?_,rfl⟩;rw[Hy.out];rfl)
 ·go_wp2
  all_goals (go_ret;refine⟨?_,rfl⟩;rw[Hy.out];rfl)
def wvs(l:List LB):List Value:=l.map fun s=>sv ⟨s.toArray⟩
structure Sg(w:World):Prop where
 res:w.rangeAt 0 0 (wvs resL)
 sig:w.rangeAt 2 0 (wvs signL)
theorem VR{X:Nat->Prop}{w w' :World}{b o:Nat}{cs:List Value}(h:w.rangeAt b o cs)(hk:Kp X w w')(hx:¬X b):w'.rangeAt b o cs:=fun j v hv=>by
 have h1:=h j v hv;rw[World.cell?_of_block (hk.block b (jg h1) hx)];exact h1
theorem Sg.kp{X:Nat->Prop}{w w' :World}(h:Sg w)(hk:Kp X w w')(h0:¬X 0)(h2:¬X 2):Sg w' :=⟨VR h.res hk h0,VR h.sig hk h2⟩
theorem Sg.old{w w' :World}(h:Sg w)(hk:Old w w'):Sg w' :=h.kp hk (fun f=>f) (fun f=>f)
theorem Vw(k:Nat)(w:LB)(l:List LB)(j:Nat)(hj:j<l.length):jl (k+j) w (l.drop j)=if l[j]=w then k+j else jl (k+(j+1)) w (l.drop (j+1)):=by
 rw[jM9 hj,jl];rfl
theorem YR(l:List LB)(j:Nat)(hj:j<l.length):(wvs l)[j]? =some (.string ⟨l[j].toArray⟩):=by
 unfold wvs;rw[jM1,jJ9 hj];rfl
theorem mk_eq{a:LB}{s:BA}:(⟨a.toArray⟩:BA)=s↔a=sb s:=⟨fun h=>by rw[<-h];rfl,fun h=>by rw[h,jBu]⟩
theorem qG{a b:BA}(h:a.toList=b.toList):a=b:=by
 rw[ByteArray.toList_eq,ByteArray.toList_eq]at h;exact jFE h
theorem VB{P:Program}{ops:Array Oper}{rest:List Oper}{d:Option Tmp}{ty:TypeId}{pos:String}{after:Array Edge}{gd:Option (Nat×Bool)}{a:Act}{w:World}{Q:Exit->Act->World->Prop}(t:TypeId)(x:Operand)
  (h:wpList P ops Q (⟨d,.load t x,ty,pos,after,gd⟩::rest) a w):wpList P ops Q (⟨d,.load t x,ty,pos,after,gd⟩::rest) a w:=h
theorem xO{P:Program}{ops:Array Oper}{rest:List Oper}{d:Option Tmp}{ty:TypeId}{pos:String}{after:Array Edge}{gd:Option (Nat×Bool)}{a:Act}{w:World}{Q:Exit->Act->World->Prop}(t:TypeId)(x y:Operand)
  (h:wpList P ops Q (⟨d,.store t x y,ty,pos,after,gd⟩::rest) a w):wpList P ops Q (⟨d,.store t x y,ty,pos,after,gd⟩::rest) a w:=h
theorem uG{ops:Array Oper}{rest:List Oper}{op:Oper}{a:Act}{w:World}{Q:Exit->Act->World->Prop}(hw:Region.wanted op (yielded ops a.tmps)=true)(ty:TypeId)(x:Operand)(ho:op.op=.load ty x)
  (b o:Nat) (hx:a.eval x=.pointer (some ⟨b,o,none⟩)) (cs:List Value) (d:TypeDesc) (hc:w.rangeAt b o cs)
  (hu:prog.underlying ty=some d) (hd:d.isRow=true) (hi:(prog.info? ty).map (·.size)=some cs.length)
  (h:wpList prog ops Q rest (a.put op.dst (.agg cs.toArray)) w):wpList prog ops Q (op::rest) a w:=
 wpList_step fun K hK=>by simp only[hw,if_true];exact wp_load_mid ty x ho b o hx cs d hc hu hd hi (hK _ _ h)
theorem jA6:(prog.info? 205).map (·.size)=some 35:=by kernel_rfl
theorem Qi(w:World)(cs:List Value)(j:Nat)(x:BA)(hx:cs[j]? =some (.string x))(hlt:j<35):(Instr.index 205 (.agg cs.toArray) (.int .i64 (j:Int))).run prog w=.ok (.string x) w:=by
 have h3:(sizeOf 9).run prog w=.ok 1 w:=(by kernel_rfl);simp[Instr.index,asIntOf,run_underlying underlying205,part,h3,hx,hlt]
theorem YU(w:World)(hg:Sg w)(s:BA):Calls prog 130 #[.string s] w fun e w' =>e=.returned (.int .u8 (yG (sb s):Nat))/\w=w' :=by
 have Hy:=G (show yG (sb s)=jl (23+0) (sb s) (resL.drop 0)from rfl);have Hv:=G hg.res;have Hx:=G (fun j (hj:j<35)=>YR resL j hj);have X7:=G (fun j (hj:j<35)=>Vw 23 (sb s) resL j hj);have GA:=G (show(prog.info? 205).map (·.size)=some (wvs resL).length from jA6);have NT:=G (show jl (23+35) (sb s) (resL.drop 35)=0 from rfl);generalize yG (sb s)=R at*;generalize WY:wvs resL=cs at*;clear WY hg;go_enter func130,ntmps130;go_wp2_with (first|((with_reducible refine VB 205 (.global 0) ?_);refine uG rfl 205 (.global 0) rfl 0 0 rfl cs _ Hv.out underlying205 rfl GA.out ?_)|fail);go_loop [6] (fun i=>∃j:Nat,j<=35/\i=.int .i64 j/\R=jl (23+j) (sb s) (resL.drop j)) (fun i=>35-(intOf i).toNat)
 case atStart=>exact⟨0,by omega,rfl,Hy.out⟩
 case round=>
  obtain⟨j,hj,rfl,hR⟩:=hrel;by_cases hlt:j<35
  ·have hx:=Hx.out j hlt;have Re:=X7.out j hlt;rw[Re]at hR;clear Re;generalize resL[j]'hlt=rw at*;have b1:(j:Int)<35:=(by omega);have b2:(0:Int)<=(j:Int):=(by omega);have b3:(j:Int).toNat=j:=(by omega);have Lw:=fun w' =>Qi w' cs j _ hx hlt;clear hx;by_cases he:rw=sb s
   ·rw[jJ6 he]at hR;rw[mk_eq.2 he]at Lw;clear he;have HR:=G hR;clear hR;have b4:IntKind.u8.wrap (j:Int)=(j:Int):=IntWalk.u8_in _ (by omega);have b5:IntKind.u8.wrap (23+(j:Int))=23+(j:Int):=IntWalk.u8_in _ (by omega);go_wp2;go_ret;exact⟨by rw[HR.out];simp,rfl⟩
   ·rw[jJ5 he]at hR;have Fa:¬(⟨rw.toArray⟩:BA)=s:=fun h=>he (mk_eq.1 h);clear he;generalize (⟨rw.toArray⟩:BA)=x at*;have HR:=G hR;clear hR;have Mj:(x.toList==s.toList)=false:=jM3 (fun h=>Fa (qG h));clear Fa;go_wp2;exact⟨⟨j+1,by omega,by go_num,HR.out⟩,by simp[intOf];omega⟩
  ·obtain rfl:j=35:=(by omega);rw[NT.out]at hR;have HR:=G hR;clear hR;go_wp2;go_ret;exact⟨by rw[HR.out];rfl,rfl⟩
theorem jHu:(prog.info? 252).map (·.size)=some 19:=by kernel_rfl
theorem jG8(w:World)(cs:List Value)(j:Nat)(x:BA)(hx:cs[j]? =some (.string x))(hlt:j<19):(Instr.index 252 (.agg cs.toArray) (.int .i64 (j:Int))).run prog w=.ok (.string x) w:=by
 have h3:(sizeOf 9).run prog w=.ok 1 w:=(by kernel_rfl);simp[Instr.index,asIntOf,run_underlying underlying252,part,h3,hx,hlt]
theorem JK(w:World)(hg:Sg w)(s:BA):Calls prog 145 #[.string s] w fun e w' =>e=.returned (.int .u8 (jc (sb s):Nat))/\w=w' :=by
 have Hy:=G (show jc (sb s)=jl (4+0) (sb s) (signL.drop 0)from rfl);have Hv:=G hg.sig;have Hx:=G (fun j (hj:j<19)=>YR signL j hj);have X7:=G (fun j (hj:j<19)=>Vw 4 (sb s) signL j hj);have GA:=G (show(prog.info? 252).map (·.size)=some (wvs signL).length from jHu);have NT:=G (show jl (4+19) (sb s) (signL.drop 19)=0 from rfl);generalize jc (sb s)=R at*;generalize WY:wvs signL=cs at*;clear WY hg;go_enter func145,ntmps145;go_wp2_with (first|((with_reducible refine VB 252 (.global 2) ?_);refine uG rfl 252 (.global 2) rfl 2 0 rfl cs _ Hv.out underlying252 rfl GA.out ?_)|fail);go_loop [6] (fun i=>∃j:Nat,j<=19/\i=.int .i64 j/\R=jl (4+j) (sb s) (signL.drop j)) (fun i=>19-(intOf i).toNat)
 case atStart=>exact⟨0,by omega,rfl,Hy.out⟩
 case round=>
  obtain⟨j,hj,rfl,hR⟩:=hrel;by_cases hlt:j<19
  ·have hx:=Hx.out j hlt;have Re:=X7.out j hlt;rw[Re]at hR;clear Re;generalize signL[j]'hlt=rw at*;have b1:(j:Int)<19:=(by omega);have b2:(0:Int)<=(j:Int):=(by omega);have b3:(j:Int).toNat=j:=(by omega);have Lw:=fun w' =>jG8 w' cs j _ hx hlt;clear hx;by_cases he:rw=sb s
   ·rw[jJ6 he]at hR;rw[mk_eq.2 he]at Lw;clear he;have HR:=G hR;clear hR;have b4:IntKind.u8.wrap (j:Int)=(j:Int):=IntWalk.u8_in _ (by omega);have b5:IntKind.u8.wrap (4+(j:Int))=4+(j:Int):=IntWalk.u8_in _ (by omega);go_wp2;go_ret;exact⟨by rw[HR.out];simp,rfl⟩
   ·rw[jJ5 he]at hR;have Fa:¬(⟨rw.toArray⟩:BA)=s:=fun h=>he (mk_eq.1 h);clear he;generalize (⟨rw.toArray⟩:BA)=x at*;have HR:=G hR;clear hR;have Mj:(x.toList==s.toList)=false:=jM3 (fun h=>Fa (qG h));clear Fa;go_wp2;exact⟨⟨j+1,by omega,by go_num,HR.out⟩,by simp[intOf];omega⟩
  ·obtain rfl:j=19:=(by omega);rw[NT.out]at hR;have HR:=G hR;clear hR;go_wp2;go_ret;exact⟨by rw[HR.out];rfl,rfl⟩
def yv(n:Nat):Value:=.int .u8 (n:Int)
theorem jAO(w:World)(t:Nat):Calls prog 239 #[yv t] w fun e w' =>e=.returned (.bool (vW t))/\w=w' :=by
 have Hy:=G (show vW t=decide (t=2\/t=46\/t=47\/t=3\/t=48\/t=1\/t=6\/t=4\/t=31\/(49<=t/\t<=57))from rfl);generalize vW t=R at*;unfold yv;go_enter func239,ntmps239;go_wp2
 all_goals (go_ret;refine⟨?_,rfl⟩;rw[Hy.out];refine jBT ?_;simp only[beq_iff_eq,beq_eq_false_iff_ne,ne_eq,decide_eq_true_eq,Bool.false_eq_true,true_iff,false_iff]at*;omega)
theorem Jb(w:World)(n:Nat):Calls prog 202 #[yv n] w fun e w' =>e=.returned (.bool (kX n))/\w=w' :=by
 have Hy:=G (show kX n=decide (n=58\/n=59\/n=61\/n=62\/n=63\/n=64\/n=65\/n=66\/n=67\/n=68\/n=71\/n=73\/n=76\/n=78\/n=80\/n=83\/n=84)from rfl);generalize kX n=R at*;unfold yv;go_enter func202,ntmps202;go_wp2
 all_goals (go_ret;refine⟨?_,rfl⟩;rw[Hy.out];refine jBT ?_;simp only[beq_iff_eq,beq_eq_false_iff_ne,ne_eq,decide_eq_true_eq,Bool.false_eq_true,true_iff,false_iff]at*;omega)
theorem vF{n:Nat}{l:List Nat}(h:n∉l)(z:Int)(hz:z.toNat∈l/\0<=z:=by decide):((n:Int)==z)=false:=
 jM3 (fun e=>h (by have:=hz.1;rw[<-e]at this;simpa using this))
theorem UV(w:World)(n t:Nat):Calls prog 229 #[yv n,yv t] w fun e w' =>e=.returned (.bool (vG n t))/\w=w' :=by
 have H:=G (jAO w t);generalize hR:vG n t=R;unfold vG at hR;generalize vW t=a at*;unfold yv at*;by_cases hn:n∈ [69,70,71,72,73,74,75,76,77,78,79,80,81,82,83]
 ·simp only[List.mem_cons,List.not_mem_nil,or_false]at hn;rcases hn with rfl|rfl|rfl|rfl|rfl|rfl|rfl|rfl|rfl|rfl|rfl|rfl|rfl|rfl|rfl
  all_goals
   have Hy:=G hR;clear hR;simp only[Int.cast_ofNat_Int];go_enter func229,ntmps229;go_wp2_with (go_at_call 239;refine H.out.mono ?_;rintro e w1 ⟨rfl,rfl⟩)
   all_goals (go_ret;refine⟨?_,rfl⟩;rw[<-Hy.out];refine jBT ?_;clear Hy H;cases a<;>(simp at*;try omega))
 ·have hm:=hn;simp only[List.mem_cons,List.not_mem_nil,or_false]at hm;have Hy:=G (show R=false by rw[<-hR];rw[jJ5 (by omega)];rw[jJ5 (by omega)];rw[jJ5 (by omega)];rw[jJ5 (by omega)];rw[jJ5 (by omega)];rw[jJ5 (by omega)];rw[jJ5 (by omega)];rw[jJ5 (by omega)];rw[jJ5 (by omega)]);clear hR hm;have b69:=vF hn 69;have b70:=vF hn 70;have b71:=vF hn 71;have b72:=vF hn 72;have b73:=vF hn 73;have b74:=vF hn 74;have b75:=vF hn 75;have b76:=vF hn 76;have b77:=vF hn 77;have b78:=vF hn 78;have b79:=vF hn 79;have b80:=vF hn 80;have b81:=vF hn 81;have b82:=vF hn 82;have b83:=vF hn 83;clear hn;go_enter func229,ntmps229;go_wp2;go_ret;exact⟨by rw[Hy.out];rfl,rfl⟩
theorem jCx{n t:Nat}(h:n∉ [58,59,60,61,62,63,64,65,66,67,68,84]):jE n t=(decide (n=t)||(decide (69<=n)&&vG n t)):=by
 simp only[List.mem_cons,List.not_mem_nil,or_false]at h;unfold jE;rw[jJ5 (by omega)];rw[jJ5 (by omega)];rw[jJ5 (by omega)];rw[jJ5 (by omega)];rw[jJ5 (by omega)];rw[jJ5 (by omega)];rw[jJ5 (by omega)];rw[jJ5 (by omega)];rw[jJ5 (by omega)];rw[jJ5 (by omega)];rw[jJ5 (by omega)]
theorem vv(w:World)(n t:Nat):Calls prog 206 #[yv n,yv t] w fun e w' =>e=.returned (.bool (jE n t))/\w=w' :=by
 by_cases hn:n∈ [58,59,60,61,62,63,64,65,66,67,68,84]
 ·simp only[List.mem_cons,List.not_mem_nil,or_false]at hn;generalize hR:jE n t=R;unfold jE at hR;unfold yv at*;rcases hn with rfl|rfl|rfl|rfl|rfl|rfl|rfl|rfl|rfl|rfl|rfl|rfl
  all_goals
   have Hy:=G hR;clear hR;simp only[Int.cast_ofNat_Int];go_enter func206,ntmps206;go_wp2
   all_goals (go_ret;refine⟨?_,rfl⟩;rw[<-Hy.out];refine jBT ?_;clear Hy;simp at*;try omega)
 have Hy:=G (jCx (t:=t) hn);have H:=G (UV w n t);generalize jE n t=R at*;generalize vG n t=a at*;have b58:=vF hn 58;have b59:=vF hn 59;have b60:=vF hn 60;have b61:=vF hn 61;have b62:=vF hn 62;have b63:=vF hn 63;have b64:=vF hn 64;have b65:=vF hn 65;have b66:=vF hn 66;have b67:=vF hn 67;have b68:=vF hn 68;have b84:=vF hn 84;clear hn;unfold yv at*;by_cases e:n=t
 ·have b1:((n:Int)==(t:Int))=true:=by rw[e];simp
  have Hr:=G (show R=true by rw[Hy.out,jK5 e];rfl);clear Hy e;go_enter func206,ntmps206;go_wp2;go_ret;exact⟨by rw[Hr.out];rfl,rfl⟩
 ·have b1:((n:Int)==(t:Int))=false:=jM3 (by omega);by_cases e9:69<=n
  ·have b2:¬(n:Int)<69:=(by omega);have Hr:=G (show R=a by rw[Hy.out,jK3 e,jK5 e9];simp);clear Hy e e9;go_enter func206,ntmps206;go_wp2_with (go_at_call 229;refine H.out.mono ?_;rintro e w1 ⟨rfl,rfl⟩);go_ret;exact⟨by rw[Hr.out];rfl,rfl⟩
  ·have b2:(n:Int)<69:=(by omega);have Hr:=G (show R=false by rw[Hy.out,jK3 e,jK3 e9];rfl);clear Hy e e9;go_enter func206,ntmps206;go_wp2;go_ret;exact⟨by rw[Hr.out];rfl,rfl⟩
theorem Zi(w:World)(n:Nat):Calls prog 205 #[yv n] w fun e w' =>e=.returned (.bool (decide (n<=2\/23<=n)))/\w=w' :=by
 unfold yv;go_enter func205,ntmps205;go_wp2
 all_goals (go_ret;refine⟨?_,rfl⟩;refine jBT ?_;simp at*;try omega)
theorem jCM:(prog.info? 163).map (fun i=>(i.zero,i.size,i.bytes))=some (some (.int .u8 0),1,1):=by kernel_rfl
def Stk(w:World)(st:List Nat)(A:OA)(c:Nat):Prop:=w.ownsRow 8 163 1 (.slice A st.length c) st.length (st.reverse.map yv)
structure Mac(w:World)(g:Nat)(r:Option Nat)(src:BA)(m:Mc)(A:OA)(c:Nat):Prop where
 low:8<=g
 blk:Blk w g 162 #[.string src,.int .i64 (m.at_:Int),.slice A m.stack.length c,.int .u8 (m.fin:Int),.int .i64 (m.from_:Int)]
 own:Stk w m.stack A c
 row:A.map (·.block)=r
 sym:∀n∈m.stack,n<85
def MX(g:Nat)(r:Option Nat):Nat->Prop:=fun k=>k=g\/some k=r
def MFr(w:World)(r r' :Option Nat):Prop:=r' =r\/∃k,r' =some k/\w.heap.size<=k
def MStep(w:World)(g:Nat)(r:Option Nat)(w' :World)(src:BA)(m:Mc):Prop:=∃r' A c,Mac w' g r' src m A c/\Kp (MX g r) w w' /\MFr w r r'
theorem jHl{a b:Nat}(h:yv a=yv b):a=b:=by
 unfold yv at h;injection h with _ h;omega
theorem Zv:∀{a b:List Nat},a.map yv=b.map yv->a=b
 |[],[],_=>rfl
 |[],_::_,h=>by cases h
 |_::_,[],h=>by cases h
 |x::a,y::b,h=>by
  rw[List.map_cons,List.map_cons]at h;injection h with h1 h2;rw[jHl h1,Zv h2]
theorem jIF(l:List Nat):∀u∈l.map yv,u.oneCell' =true:=by
 intro u hu;obtain⟨b,_,rfl⟩:=List.mem_map.1 hu;rfl
section
variable{w w1 w2:World}{g:Nat}{r r1:Option Nat}{src:BA}{m m' :Mc}{st:List Nat}{A:OA}{c n:Nat}
theorem Stk.pop(h:Stk w (n::st) A c):Stk w st A c:=by
 obtain⟨h1,h2⟩:=h;refine⟨by simp,?_⟩;rcases h2 with⟨_,h0⟩|⟨g,cap,cur,hv,hb,hg,hn,hm,hs,Nl⟩
 ·simp at h0
 ·injection hv with hA _ hc;subst hA hc;refine .inr ⟨g,c,cur,rfl,hb,hg,by simp at hn;omega,hm,hs,?_⟩;have e:cur.toList.take (st.length*1)=(cur.toList.take ((n::st).length*1)).take (st.length*1):=by
   rw[List.take_take,jK6,Nat.min_eq_left (by omega)]
  rw[e,Nl,List.reverse_cons,jN3];exact List.take_left' (by simp)
theorem Stk.cap(h:Stk w (n::st) A c):st.length<=c:=by
 rcases h.2 with⟨h1,h0⟩|⟨g',cap,cur,hv,_,_,h1,_⟩
 ·cases h0
 ·injection hv with _ _ hv;subst hv;simp only[jK6]at h1;omega
theorem Stk.rd(h:Stk w st A c):Rd w 1 A st.length (st.reverse.map yv):=Rd.of_own h
theorem Stk.kp{X:Nat->Prop}(h:Stk w st A c)(hk:Kp X w w1)(hx:∀k,A.map (·.block)=some k->¬X k):Stk w1 st A c:=
 jW h hk (fun k e=>hx k (by rw[<-jC A st.length c];exact e))
theorem Stk.at_(h:Stk w st A c)(j:Nat)(hj:j<st.length):∃b o,A=some ⟨b,o,none⟩/\w.cell? ⟨b,o+(st.length-1-j),none⟩=some (yv (st.getD j 0)):=by
 obtain⟨b,o,u,hA,hu,hc⟩:=h.rd.at_ (k:=st.length-1-j) (by omega);refine⟨b,o,hA,?_⟩;rw[jM1,List.getElem?_reverse (by omega),show st.length-1-(st.length-1-j)=j by omega,jJ9 hj]at hu;simp only[Option.map_some,Option.some.injEq]at hu;rw[hc,<-hu];simp[List.getD,List.getElem?_eq_getElem hj]
theorem Mac.c0(h:Mac w g r src m A c):w.cell? ⟨g,0,none⟩=some (.string src):=h.blk.at_ 0 rfl
theorem Mac.c1(h:Mac w g r src m A c):w.cell? ⟨g,1,none⟩=some (.int .i64 (m.at_:Int)):=h.blk.at_ 1 rfl
theorem Mac.c2(h:Mac w g r src m A c):w.cell? ⟨g,2,none⟩=some (.slice A m.stack.length c):=h.blk.at_ 2 rfl
theorem Mac.c3(h:Mac w g r src m A c):w.cell? ⟨g,3,none⟩=some (.int .u8 (m.fin:Int)):=h.blk.at_ 3 rfl
theorem Mac.c4(h:Mac w g r src m A c):w.cell? ⟨g,4,none⟩=some (.int .i64 (m.from_:Int)):=h.blk.at_ 4 rfl
theorem Mac.z(h:Mac w g r src m A c)(i:Nat):w.frozen? ⟨g,i,none⟩=false:=h.blk.frozen i
theorem Mac.ne(h:Mac w g r src m A c):r≠some g:=by
 have:=ja h.own h.blk (by decide);rw[jC,h.row]at this;exact this
theorem Mac.lt(h:Mac w g r src m A c):∀k,r=some k->8<=k/\k<w.heap.size:=fun k hk=>h.own.lt k (by rw[jC,h.row];exact hk)
theorem Mac.kp{X:Nat->Prop}(h:Mac w g r src m A c)(hk:Kp X w w1)(hg:¬X g)(hr:∀k,r=some k->¬X k):Mac w1 g r src m A c:=
 ⟨h.low,h.blk.kp hk hg,h.own.kp hk (fun k e=>hr k (by rw[<-h.row];exact e)),h.row,h.sym⟩
theorem Mac.old(h:Mac w g r src m A c)(hk:Old w w1):Mac w1 g r src m A c:=h.kp hk (fun f=>f) (fun _ _ f=>f)
theorem Mac.step(h:Mac w g r src m A c):MStep w g r w src m:=⟨r,A,c,h,jQ0 _ _,.inl rfl⟩
theorem MX.trans(hf:MFr w r r1):∀b,b<w.heap.size->MX g r1 b->MX g r b:=by
 intro b hb hx;rcases hx with rfl|hx
 ·exact .inl rfl
 ·rcases hf with rfl|⟨k,rfl,Fc⟩
  ·exact .inr hx
  ·injection hx with hx;omega
theorem MFr.trans{r2:Option Nat}(hf:MFr w r r1)(hs:w.heap.size<=w1.heap.size)(MU:MFr w1 r1 r2):MFr w r r2:=by
 rcases MU with rfl|⟨k,rfl,Fc⟩
 ·exact hf
 ·exact .inr ⟨k,rfl,jL4 hs Fc⟩
theorem MStep.trans(hk:Kp (MX g r) w w1)(hf:MFr w r r1)(h:MStep w1 g r1 w2 src m):MStep w g r w2 src m:=by
 obtain⟨r2,A,c,hw,Fg,MU⟩:=h;exact⟨r2,A,c,hw,hk.trans Fg (MX.trans hf),hf.trans hk.size MU⟩
theorem Sg.mx(h:Sg w)(hM:Mac w g r src m A c)(hk:Kp (MX g r) w w1):Sg w1:=by
 have:=hM.low;refine h.kp hk ?_ ?_
 ·rintro (e|e)
  ·omega
  ·have:=hM.lt 0 e.symm;omega
 ·rintro (e|e)
  ·omega
  ·have:=hM.lt 2 e.symm;omega
theorem Mac.setAt(h:Mac w g r src m A c)(k:Nat):Mac (w.setCell ⟨g,1,none⟩ (.int .i64 (k:Int))) g r src {m with at_:=k} A c/\Kp (MX g r) w (w.setCell ⟨g,1,none⟩ (.int .i64 (k:Int))):=by
 have hk:=(jQ0 (fun b=>b=g) w).setCell (p:=⟨g,1,none⟩) (fun _=>rfl) (.int .i64 (k:Int));exact⟨⟨h.low,by simpa using h.blk.set_ 1 (.int .i64 (k:Int)),h.own.kp hk (fun b e e' =>h.ne (by rw[<-h.row,e,e'])),h.row,h.sym⟩,hk.mono (fun _ _ e=>.inl e)⟩
theorem Mac.setFin(h:Mac w g r src m A c)(k:Nat):Mac (w.setCell ⟨g,3,none⟩ (.int .u8 (k:Int))) g r src {m with fin:=k} A c/\Kp (MX g r) w (w.setCell ⟨g,3,none⟩ (.int .u8 (k:Int))):=by
 have hk:=(jQ0 (fun b=>b=g) w).setCell (p:=⟨g,3,none⟩) (fun _=>rfl) (.int .u8 (k:Int));exact⟨⟨h.low,by simpa using h.blk.set_ 3 (.int .u8 (k:Int)),h.own.kp hk (fun b e e' =>h.ne (by rw[<-h.row,e,e'])),h.row,h.sym⟩,hk.mono (fun _ _ e=>.inl e)⟩
theorem Mac.setFrom(h:Mac w g r src m A c)(k:Nat):Mac (w.setCell ⟨g,4,none⟩ (.int .i64 (k:Int))) g r src {m with from_:=k} A c/\Kp (MX g r) w (w.setCell ⟨g,4,none⟩ (.int .i64 (k:Int))):=by
 have hk:=(jQ0 (fun b=>b=g) w).setCell (p:=⟨g,4,none⟩) (fun _=>rfl) (.int .i64 (k:Int));exact⟨⟨h.low,by simpa using h.blk.set_ 4 (.int .i64 (k:Int)),h.own.kp hk (fun b e e' =>h.ne (by rw[<-h.row,e,e'])),h.row,h.sym⟩,hk.mono (fun _ _ e=>.inl e)⟩
theorem Mac.setPop(h:Mac w g r src m A c)(hm:m.stack=n::st):Mac (w.setCell ⟨g,2,none⟩ (.slice A st.length c)) g r src {m with stack:=st} A c/\Kp (MX g r) w (w.setCell ⟨g,2,none⟩ (.slice A st.length c)):=by
 have hk:=(jQ0 (fun b=>b=g) w).setCell (p:=⟨g,2,none⟩) (fun _=>rfl) (.slice A st.length c);have ho:Stk w st A c:=(hm▸h.own:Stk w (n::st) A c).pop;exact⟨⟨h.low,by simpa using h.blk.set_ 2 (.slice A st.length c),ho.kp hk (fun b e e' =>h.ne (by rw[<-h.row,e,e'])),h.row,fun x hx=>h.sym x (by rw[hm];exact jN1 _ hx)⟩,hk.mono (fun _ _ e=>.inl e)⟩
theorem Mac.put{wr wx:World}{A' :OA}{c' k x:Nat}(h:Mac wr g r src m A c)(hk:m.stack.length=k)(hx:Old wr wx)(Ca:x<85)
  (Hh:w1.ownsRow 8 163 1 (.slice A' (k+1) c') (k+1) (m.stack.reverse.map yv++[yv x])) (hg:wx.grownBy w1 (Value.slice A k c).ownBlock)
  (Ff:A'.map (·.block)=(Value.slice A k c).ownBlock\/A'.map (·.block)=some wx.heap.size):
  MStep wr g r (w1.setCell ⟨g,2,none⟩ (.slice A' (k+1) c')) src {m with stack:=x::m.stack}:=by
 subst hk;rw[jC]at Ff hg;have Fa:=h.ne;rw[<-h.row]at Fa;have Gl:=(h.blk.old hx).grown hg (fun e=>Fa e.symm);have Fk:=Gl.set_ 2 (.slice A' (m.stack.length+1) c');have NV:=h.blk.lt;refine⟨A'.map (·.block),A',c',⟨h.low,by simpa using Fk,?_,rfl,?_⟩,?_,?_⟩
 ·show World.ownsRow _ 8 _ 1 (.slice A' (m.stack.length+1) c') (m.stack.length+1) _;rw[List.reverse_cons,jN3];refine jW Hh ((jQ0 (fun k=>k=g) _).setCell (p:=⟨g,2,none⟩) (fun _=>rfl) _) ?_;rw[jC];rintro k e rfl;rcases Ff with h1|h1
  ·rw[h1]at e;exact Fa e
  ·rw[h1]at e;injection e with e;have:=hx.size;omega
 ·intro n hn;rcases jN4 hn with rfl|hn
  ·exact Ca
  ·exact h.sym n hn
 ·rw[<-h.row];exact Kp.setCell (Kp.grown (hx.mono (Y:=MX g (A.map (·.block))) (fun _ _ f=>f.elim)) hg (fun k e _=>.inr e.symm)) (p:=⟨g,2,none⟩) (fun _=>.inl rfl) _
 ·rcases Ff with h1|h1
  ·exact .inl (by rw[h1,h.row])
  ·exact .inr ⟨_,h1,hx.size⟩
theorem Stk.uniq{st' :List Nat}(h:Stk w st A c)(h' :Stk w st' A c)(hl:st.length=st'.length):st=st' :=by
 have e:st.reverse.map yv=st'.reverse.map yv:=by
  apply List.ext_getElem?;intro j;by_cases hj:j<st.length
  ·obtain⟨b,o,u,hA,hu,hc⟩:=h.rd.at_ (k:=j) hj;obtain⟨b',o',u',SK,Dm,Cv⟩:=h'.rd.at_ (k:=j) (by omega);rw[hA]at SK;injection SK with SK;injection SK with h1 h2;subst h1 h2;rw[hc]at Cv;rw[hu,Dm,Cv]
  ·rw[List.getElem?_eq_none (by simpa using hj),List.getElem?_eq_none (by simp;omega)]
 have:=Zv e;exact List.reverse_inj.1 this
theorem Mac.uniq{src' :BA}{A' :OA}{c' :Nat}(h:Mac w g r src m A c)(h' :Mac w g r1 src' m' A' c'):m.stack=m'.stack:=by
 have hb:=h.blk;have Gs:=h'.blk;unfold Blk at hb Gs;rw[hb]at Gs;injection Gs with e;injection e with e _ _;have e2:(#[Value.string src,.int .i64 (m.at_:Int),.slice A m.stack.length c,.int .u8 (m.fin:Int),.int .i64 (m.from_:Int)])[2]? =(#[Value.string src',.int .i64 (m'.at_:Int),.slice A' m'.stack.length c',.int .u8 (m'.fin:Int),.int .i64 (m'.from_:Int)])[2]? :=(by rw[e]);simp only[jJ7,List.getElem?_cons_succ,List.getElem?_cons_zero,Option.some.injEq,Value.slice.injEq]at e2;obtain⟨rfl,hl,rfl⟩:=e2;exact h.own.uniq h'.own hl
end
def RowT(w:World)(l:List Nat)(e:Ending)(w' :World):Prop:=∃A c,e=.returned (.slice A l.length c)/\Rd w' 1 A l.length (l.map yv)/\Av (fun k=>k<w.heap.size) l.length A/\Old w w'
theorem RowT.none_(w:World){R:List Nat}(e:R=[]):RowT w R (.returned (.slice none 0 0)) w:=⟨none,0,by rw[e];rfl,by rw[e];exact Rd.none_,(fun _ _ h=>by cases h),jQ0 _ _⟩
theorem RowT.of(w:World)(l:List Nat){R:List Nat}(e:R=l){cs:Array Value}(hc:cs=(l.map yv).toArray){k:Nat}(hk:k=l.length):RowT w R (.returned (.slice (some ⟨w.heap.size,0,none⟩) k k)) (w.alloc (.cells cs 163)):=by
 subst e hc hk;refine⟨_,_,rfl,⟨by simp,fun _=>⟨_,_,rfl,fun j u hu=> ?_⟩⟩,(fun _ ad e hlt=>by injection e with e;subst e;exact Nat.lt_irrefl _ hlt),(jQ0 _ _).alloc _⟩;have:=(jQ2 w 163 (R.map yv).toArray).at_ j (v:=u) (by rw[jJ7];exact hu);rw[Nat.zero_add];exact this
theorem xK(w:World)(t:Nat):Calls prog 230 #[yv t] w (RowT w (yE t)):=by
 unfold yv;by_cases hn:t∈ [24,25,26,27]
 ·simp only[List.mem_cons,List.not_mem_nil,or_false]at hn;rcases hn with rfl|rfl|rfl|rfl
  all_goals
   simp only[Int.cast_ofNat_Int];go_enter func230,ntmps230;go_wp2;go_ret;exact RowT.of w _ rfl rfl rfl
 ·have hm:=hn;simp only[List.mem_cons,List.not_mem_nil,or_false]at hm;have Hy:=G (show yE t=[]by unfold yE;rw[jJ5 (by omega)];rw[jJ5 (by omega)];rw[jJ5 (by omega)];rw[jJ5 (by omega)]);clear hm;have b24:=vF hn 24;have b25:=vF hn 25;have b26:=vF hn 26;have b27:=vF hn 27;clear hn;go_enter func230,ntmps230;go_wp2;go_ret;exact RowT.none_ w Hy.out
theorem jC2(w:World)(t:Nat):Calls prog 231 #[yv t] w (RowT w (zU t)):=by
 unfold yv;by_cases hn:t∈ [1,2,3,4,6,31,46,47,48,49,50,51,52,53,54,55,56,57]
 ·simp only[List.mem_cons,List.not_mem_nil,or_false]at hn;rcases hn with rfl|rfl|rfl|rfl|rfl|rfl|rfl|rfl|rfl|rfl|rfl|rfl|rfl|rfl|rfl|rfl|rfl|rfl
  all_goals
   simp only[Int.cast_ofNat_Int];go_enter func231,ntmps231;go_wp2;go_ret;exact RowT.of w _ rfl rfl rfl
 ·have hm:=hn;simp only[List.mem_cons,List.not_mem_nil,or_false]at hm;have Hy:=G (show zU t=[]by unfold zU;rw[jJ5 (by omega)];rw[jJ5 (by omega)];rw[jJ5 (by omega)];rw[jJ5 (by omega)];rw[jJ5 (by omega)];rw[jJ5 (by omega)];rw[jJ5 (by omega)]);clear hm;have b1:=vF hn 1;have b2:=vF hn 2;have b3:=vF hn 3;have b4:=vF hn 4;have b6:=vF hn 6;have b31:=vF hn 31;have b46:=vF hn 46;have b47:=vF hn 47;have b48:=vF hn 48;have b49:=vF hn 49;have b50:=vF hn 50;have b51:=vF hn 51;have b52:=vF hn 52;have b53:=vF hn 53;have b54:=vF hn 54;have b55:=vF hn 55;have b56:=vF hn 56;have b57:=vF hn 57;clear hn;go_enter func231,ntmps231;go_wp2;go_ret;exact RowT.none_ w Hy.out
theorem Zc(w:World)(n t:Nat):Calls prog 232 #[yv n,yv t] w (RowT w (kZ n t)):=by
 unfold yv;by_cases hn:n∈ [69,70,71,72,73,74,75,76,77,78,79,80,81]
 ·have hm:n∈ [70,71,72,73,75,76,77,78,79,80]\/(∃k q:Nat,n=69/\k=40/\q=70\/n=74/\k=45/\q=75\/n=81/\k=19/\q=82):=by
   simp only[List.mem_cons,List.not_mem_nil,or_false]at hn⊢;by_cases h1:n=69
   ·exact .inr ⟨40,70,by omega⟩
   by_cases h2:n=74
   ·exact .inr ⟨45,75,by omega⟩
   by_cases h3:n=81
   ·exact .inr ⟨19,82,by omega⟩
   ·exact .inl (by omega)
  clear hn;rcases hm with hn|⟨k,q,h⟩
  ·simp only[List.mem_cons,List.not_mem_nil,or_false]at hn;rcases hn with rfl|rfl|rfl|rfl|rfl|rfl|rfl|rfl|rfl|rfl
   all_goals
    simp only[Int.cast_ofNat_Int];go_enter func232,ntmps232;go_wp2;go_ret;exact RowT.of w _ rfl rfl rfl
  ·by_cases ht:t=k
   ·subst ht;rcases h with⟨rfl,rfl,rfl⟩|⟨rfl,rfl,rfl⟩|⟨rfl,rfl,rfl⟩
    all_goals
     simp only[Int.cast_ofNat_Int];go_enter func232,ntmps232;go_wp2;go_ret;exact RowT.of w _ rfl rfl rfl
   ·have b1:((t:Int)==(k:Int))=false:=jM3 (by omega);have Hy:=G (show kZ n t=[q]by rcases h with⟨rfl,rfl,rfl⟩|⟨rfl,rfl,rfl⟩|⟨rfl,rfl,rfl⟩<;>simp[kZ,ht]);clear ht;rcases h with⟨rfl,rfl,rfl⟩|⟨rfl,rfl,rfl⟩|⟨rfl,rfl,rfl⟩
    all_goals
     simp only[Int.cast_ofNat_Int]at b1⊢;go_enter func232,ntmps232;go_wp2;go_ret;exact RowT.of w [_] Hy.out rfl rfl
 ·have hm:=hn;simp only[List.mem_cons,List.not_mem_nil,or_false]at hm;have Hy:=G (show kZ n t=[]by unfold kZ;rw[jJ5 (by omega)];rw[jJ5 (by omega)];rw[jJ5 (by omega)];rw[jJ5 (by omega)];rw[jJ5 (by omega)];rw[jJ5 (by omega)];rw[jJ5 (by omega)];rw[jJ5 (by omega)];rw[jJ5 (by omega)];rw[jJ5 (by omega)];rw[jJ5 (by omega)];rw[jJ5 (by omega)];rw[jJ5 (by omega)]);clear hm;have b69:=vF hn 69;have b70:=vF hn 70;have b71:=vF hn 71;have b72:=vF hn 72;have b73:=vF hn 73;have b74:=vF hn 74;have b75:=vF hn 75;have b76:=vF hn 76;have b77:=vF hn 77;have b78:=vF hn 78;have b79:=vF hn 79;have b80:=vF hn 80;have b81:=vF hn 81;clear hn;go_enter func232,ntmps232;go_wp2;go_ret;exact RowT.none_ w Hy.out
theorem Jk(n t:Nat)(h:jE n t=true)(X:List Nat)(e:(if n=58 then yE t
 else if n=59\/n=60 then [t]
 else if n=61\/n=62 then [t,69]
 else if n=63 then [t,1]
 else if n=64\/n=65 then [t,32,69,9]
 else if n=66 then [t,10,60,67]
 else if n=67 then [t,1,10,60,67]
 else if n=68 then(if t=33 then [t,1,9,68]else [t,11,69,9,68])
 else if n=83 then [69,84]
 else if n=84 then [t,69,84]
 else if n=82 then zU t
 else kZ n t)=X):jK n t=X:=by
 rw[jK,jJ5 (by rw[h];decide)];exact e
theorem jHy(w:World)(n t:Nat)(hn:n∈ [59,60,61,62,63,64,65,66,67,83,84])(hb:jE n t=true):Calls prog 208 #[yv n,yv t] w (RowT w (jK n t)):=by
 have Hy:=G (Jk n t hb _ rfl);have H:=G (vv w n t);rw[hb]at H;clear hb;generalize jK n t=R at*;unfold yv at*;simp only[List.mem_cons,List.not_mem_nil,or_false]at hn;rcases hn with rfl|rfl|rfl|rfl|rfl|rfl|rfl|rfl|rfl|rfl|rfl
 all_goals
  simp only[Int.cast_ofNat_Int]at H⊢;go_enter func208,ntmps208;go_wp2_with (go_at_call 206;refine H.out.mono ?_;rintro e w1 ⟨rfl,rfl⟩);go_ret;exact RowT.of w _ Hy.out rfl rfl
theorem jFy(w:World)(t:Nat)(hb:jE 68 t=true)(ht:t=33):Calls prog 208 #[.int .u8 68,yv t] w (RowT w (jK 68 t)):=by
 have Hy:=G (Jk 68 t hb [t,1,9,68] (by show(if t=33 then _ else _)=_;rw[jJ6 ht]));have H:=G (vv w 68 t);have b1:((t:Int)==33)=true:=by simp;omega
 rw[hb]at H;clear hb ht;generalize jK 68 t=R at*;unfold yv at*;go_enter func208,ntmps208;go_wp2_with (go_at_call 206;refine H.out.mono ?_;rintro e w1 ⟨rfl,rfl⟩);go_ret;exact RowT.of w [t,1,9,68] Hy.out rfl rfl
theorem jFx(w:World)(t:Nat)(hb:jE 68 t=true)(ht:¬t=33):Calls prog 208 #[.int .u8 68,yv t] w (RowT w (jK 68 t)):=by
 have Hy:=G (Jk 68 t hb [t,11,69,9,68] (by show(if t=33 then _ else _)=_;rw[jJ5 ht]));have H:=G (vv w 68 t);have b1:((t:Int)==33)=false:=by simp;omega
 rw[hb]at H;clear hb ht;generalize jK 68 t=R at*;unfold yv at*;go_enter func208,ntmps208;go_wp2_with (go_at_call 206;refine H.out.mono ?_;rintro e w1 ⟨rfl,rfl⟩);go_ret;exact RowT.of w [t,11,69,9,68] Hy.out rfl rfl
theorem jHz(w:World)(t:Nat)(hb:jE 58 t=true):Calls prog 208 #[.int .u8 58,yv t] w (RowT w (jK 58 t)):=by
 have Hy:=G (Jk 58 t hb (yE t) rfl);have H:=G (vv w 58 t);have H2:=G (xK w t);rw[hb]at H;clear hb;generalize jK 58 t=R at*;generalize yE t=l at*;unfold yv at*;go_enter func208,ntmps208;go_wp2_with (first|(go_at_call 206;refine H.out.mono ?_;rintro e w1 ⟨rfl,rfl⟩)|(go_at_call 230;refine H2.out.mono ?_;rintro e w1 ⟨A,c,rfl,Fx,Lz,Ht⟩));go_ret;exact⟨A,c,by rw[Hy.out];rfl,by rw[Hy.out];exact Fx,by rw[Hy.out];exact Lz,Ht⟩
theorem jHx(w:World)(t:Nat)(hb:jE 82 t=true):Calls prog 208 #[.int .u8 82,yv t] w (RowT w (jK 82 t)):=by
 have Hy:=G (Jk 82 t hb (zU t) rfl);have H:=G (vv w 82 t);have H2:=G (jC2 w t);rw[hb]at H;clear hb;generalize jK 82 t=R at*;generalize zU t=l at*;unfold yv at*;go_enter func208,ntmps208;go_wp2_with (first|(go_at_call 206;refine H.out.mono ?_;rintro e w1 ⟨rfl,rfl⟩)|(go_at_call 231;refine H2.out.mono ?_;rintro e w1 ⟨A,c,rfl,Fx,Lz,Ht⟩));go_ret;exact⟨A,c,by rw[Hy.out];rfl,by rw[Hy.out];exact Fx,by rw[Hy.out];exact Lz,Ht⟩
theorem jDi(w:World)(n t:Nat):Calls prog 208 #[yv n,yv t] w (RowT w (jK n t)):=by
 by_cases hb:jE n t=true
 case neg=>
  rw[Bool.not_eq_true]at hb;have Hy:=G (show jK n t=[]by rw[jK,jJ6 hb]);have H:=G (vv w n t);rw[hb]at H;clear hb;generalize jK n t=R at*;unfold yv at*;go_enter func208,ntmps208;go_wp2_with (go_at_call 206;refine H.out.mono ?_;rintro e w1 ⟨rfl,rfl⟩);go_ret;exact RowT.none_ w Hy.out
 by_cases h1:n∈ [59,60,61,62,63,64,65,66,67,83,84]
 ·exact jHy w n t h1 hb
 by_cases hJ:n=58
 ·subst hJ;exact jHz w t hb
 by_cases h68:n=68
 ·subst h68;by_cases ht:t=33
  ·exact jFy w t hb ht
  ·exact jFx w t hb ht
 by_cases h82:n=82
 ·subst h82;exact jHx w t hb
 have hn:n∉ [58,59,60,61,62,63,64,65,66,67,68,82,83,84]:=by
  simp only[List.mem_cons,List.not_mem_nil,or_false]at h1⊢;omega
 simp only[List.mem_cons,List.not_mem_nil,or_false]at h1;have Hy:=G (Jk n t hb (kZ n t) (by rw[jJ5 (by omega)];rw[jJ5 (by omega)];rw[jJ5 (by omega)];rw[jJ5 (by omega)];rw[jJ5 (by omega)];rw[jJ5 (by omega)];rw[jJ5 (by omega)];rw[jJ5 (by omega)];rw[jJ5 (by omega)];rw[jJ5 (by omega)];rw[jJ5 (by omega)]));have H:=G (vv w n t);have H2:=G (Zc w n t);rw[hb]at H;clear hb;generalize jK n t=R at*;generalize kZ n t=l at*;have b58:=vF hn 58;have b59:=vF hn 59;have b60:=vF hn 60;have b61:=vF hn 61;have b62:=vF hn 62;have b63:=vF hn 63;have b64:=vF hn 64;have b65:=vF hn 65;have b66:=vF hn 66;have b67:=vF hn 67;have b68:=vF hn 68;have b82:=vF hn 82;have b83:=vF hn 83;have b84:=vF hn 84;clear h1 hJ h68 h82 hn;unfold yv at*;go_enter func208,ntmps208;go_wp2_with (first|(go_at_call 206;refine H.out.mono ?_;rintro e w1 ⟨rfl,rfl⟩)|(go_at_call 232;refine H2.out.mono ?_;rintro e w1 ⟨A,c,rfl,Fx,Lz,Ht⟩));go_ret;exact⟨A,c,by rw[Hy.out];rfl,by rw[Hy.out];exact Fx,by rw[Hy.out];exact Lz,Ht⟩
theorem jEE(t:Nat)(st:List Nat)(j:Nat)(hj:j<st.length):kI t (st.drop j)=if jE (st.getD j 0) t=true then true else if kX (st.getD j 0)=true then kI t (st.drop (j+1))else false:=by
 rw[jM9 hj,kI];simp only[List.getD,jJ9 hj,Option.getD_some]
theorem Stk.most{w:World}{st:List Nat}{A:OA}{c:Nat}(h:Stk w st A c):st.length<=9223372036854775807:=by
 rcases h.2 with⟨_,h0⟩|⟨g,cap,cur,_,_,_,h1,h2,_⟩
 ·omega
 ·unfold maxLen at h2;omega
theorem KE(w:World)(g:Nat)(r:Option Nat)(src:BA)(m:Mc)(A:OA)(c:Nat)(h:Mac w g r src m A c)(t:Nat):
  Calls prog 176 #[.pointer (some ⟨g,0,none⟩),yv t] w fun e w' =>e=.returned (.bool (kI t m.stack))/\w=w' :=by
 have Nf:=G h.own;have Fq:=h.blk.at_ 2 rfl;have X3:=G h.sym;have Cj:=h.own.most;clear h;generalize m.stack=st at*;have HR:=G (show kI t st=kI t (st.drop (st.length-st.length))by rw[Nat.sub_self,List.drop_zero]);have RX:=G (jEE t st);generalize hL:st.length=L at*;have HL:=G hL;clear hL;generalize kI t st=R at*;have ew:IntKind.i64.wrap ((L:Int)-1)=(L:Int)-1:=jQ3 _ (by omega);go_enter func176,ntmps176;go_wp2;go_loop [5] (fun i=>∃p:Nat,p<=L/\i=.int .i64 ((p:Int)-1)/\R=kI t (st.drop (L-p))) (fun i=>(intOf i+1).toNat)
 case atStart=>exact⟨L,jL3 _,rfl,HR.out⟩
 case round=>
  obtain⟨p,hp,rfl,hR⟩:=hrel;by_cases h0:0<p
  ·obtain⟨q,rfl⟩:∃q,p=q+1:=⟨p-1,by omega⟩;have hlt:q<L:=(by omega);obtain⟨b,o,rfl,FH⟩:=Nf.out.at_ (L-1-q) (by rw[HL.out];omega);rw[HL.out,show L-1-(L-1-q)=q by omega]at FH;have hd:=RX.out (L-1-q) (by omega);rw[show L-1-q+1=L-q by omega]at hd;rw[show L-(q+1)=L-1-q by omega,hd]at hR;clear hd;have Q1:st.getD (L-1-q) 0<85:=X3.out _ (by
    have:L-1-q<st.length:=by rw[HL.out];omega
    simp[List.getD,List.getElem?_eq_getElem this])
   generalize st.getD (L-1-q) 0=n at*;rw[show((q+1:Nat):Int)-1=(q:Int)by omega];have B:=G (vv w n t);have Em:=G (Jb w n);have GQ:=G hR;clear hR;generalize FI:jE n t=bb at*;generalize L7:kX n=ee at*;clear FI L7;have b1:(0:Int)<=(q:Int):=(by omega);have b2:(q:Int)<(L:Int):=(by omega);have b3:(q:Int).toNat=q:=(by omega);have b4:IntKind.i64.wrap ((q:Int)-1)=(q:Int)-1:=jQ3 _ (by omega);unfold yv at*;cases bb
   ·cases ee
    ·have HF:=G (show R=false by have:=GQ.out;simpa using this);go_wp2_with (first|(go_at_call 206;refine B.out.mono ?_;rintro e w1 ⟨rfl,rfl⟩)|(go_at_call 202;refine Em.out.mono ?_;rintro e w1 ⟨rfl,rfl⟩));go_ret;exact⟨by rw[HF.out];rfl,rfl⟩
    ·have HF:=G (show R=kI t (st.drop (L-q))by have:=GQ.out;simpa using this);go_wp2_with (first|(go_at_call 206;refine B.out.mono ?_;rintro e w1 ⟨rfl,rfl⟩)|(go_at_call 202;refine Em.out.mono ?_;rintro e w1 ⟨rfl,rfl⟩));go_round
     case rel=>exact⟨q,by omega,by go_num,HF.out⟩
     case measure=>simp[intOf]
   ·have HF:=G (show R=true by have:=GQ.out;simpa using this);go_wp2_with (first|(go_at_call 206;refine B.out.mono ?_;rintro e w1 ⟨rfl,rfl⟩)|(go_at_call 202;refine Em.out.mono ?_;rintro e w1 ⟨rfl,rfl⟩));go_ret;exact⟨by rw[HF.out];rfl,rfl⟩
  ·obtain rfl:p=0:=(by omega);have HF:=G (show R=false by rw[hR,Nat.sub_zero,<-HL.out,List.drop_length];rfl);clear hR;go_wp2;go_ret;exact⟨by rw[HF.out];rfl,rfl⟩
section
variable{P:Program}
theorem jIw{t:TypeId}(ht:P.underlying t=some (.slice (P.elem t))){s:Nat}(hs:∀w,(sizeOf (P.elem t)).run P w=.ok s w)(A:OA)(len c h:Nat)(kh:IntKind)(H:Int)(hH:H=h)(hh:h<=c)(w:World):
  (Instr.slice t (.slice A len c) none (some (.int kh H)) none).run P w=.ok (.slice A h c) w:=by
 subst hH;rw[run_slice_h (ht:=ht) (h0:=by omega) (h2:=by omega),hs];simp[sliced];intro _;cases A<;>rfl
end
end Go.Proofs.YtmmjcbbogokmfaaGreatDoor

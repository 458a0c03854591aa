import Derived.Test.YtifbhcfdealfaaaGreatDoorMl01
import Derived.Test.YtifbhcfdealfaaaGreatDoorRows
set_option maxRecDepth 100000
set_option maxHeartbeats 25600000
namespace Go.Proofs.YtifbhcfdealfaaaGreatDoor
open Go.Proofs.Tryz
open Go.RowKit
theorem jBp{a b:Bool}(h:a=true↔b=true):Ending.returned (.bool a)=Ending.returned (.bool b):=by rw[Bool.eq_iff_iff.2 h]
theorem Vf(w:World)(c:UInt8):Calls prog 164 #[bv c] w fun e w' =>e=.returned (.bool (Zr c))/\w=w' :=by
 have Hy:=G (show Zr c=decide (97<=c.toNat/\c.toNat<=122)from rfl);have h8:=c.toNat_lt;generalize Zr c=R at*;unfold bv;generalize c.toNat=k at*;go_enter func164,ntmps164;go_wp2
 all_goals (go_ret;refine⟨?_,rfl⟩;rw[Hy.out];refine jBp ?_;simp<;>omega)
theorem zJ(w:World)(c:UInt8):Calls prog 219 #[bv c] w fun e w' =>e=.returned (.bool (yU c))/\w=w' :=by
 have Hy:=G (show yU c=decide (48<=c.toNat/\c.toNat<=57)from rfl);have h8:=c.toNat_lt;generalize yU c=R at*;unfold bv;generalize c.toNat=k at*;go_enter func219,ntmps219;go_wp2
 all_goals (go_ret;refine⟨?_,rfl⟩;rw[Hy.out];refine jBp ?_;simp<;>omega)
theorem kw(w:World)(c:UInt8):Calls prog 165 #[bv c] w fun e w' =>e=.returned (.bool (jR c))/\w=w' :=by
 have Hy:=G (show jR c=(Zr c||yU c||decide (c.toNat=95))from rfl);have H1:=G (Vf w c);have H2:=G (zJ w c);have h8:=c.toNat_lt;generalize Zr c=L at*;generalize yU c=D at*;generalize jR c=R at*;unfold bv at*;generalize c.toNat=k at*;go_enter func165,ntmps165;go_wp2_with fail;refine H1.out.mono ?_;rintro e w1 ⟨rfl,rfl⟩;cases L
 ·go_wp2_with fail;refine H2.out.mono ?_;rintro e w1 ⟨rfl,rfl⟩;cases D
  ·go_wp2
   all_goals (go_ret;refine⟨?_,rfl⟩;rw[Hy.out];refine jBp ?_;simp<;>omega)
  ·go_wp2
   all_goals (go_ret;refine⟨?_,rfl⟩;rw[Hy.out];rfl)
 ·go_wp2
  all_goals (go_ret;refine⟨?_,rfl⟩;rw[Hy.out];rfl)
def wvs(l:List LB):List Value:=l.map fun s=>sv ⟨s.toArray⟩
structure Sg(w:World):Prop where
 res:w.rangeAt 1 0 (wvs resL)
 sig:w.rangeAt 3 0 (wvs signL)
theorem Jc{X:Nat->Prop}{w w' :World}{b o:Nat}{cs:List Value}(h:w.rangeAt b o cs)(hk:Kp X w w')(hx:¬X b):w'.rangeAt b o cs:=fun j v hv=>by
 have h1:=h j v hv;rw[World.cell?_of_block (hk.block b (jU h1) hx)];exact h1
theorem Sg.kp{X:Nat->Prop}{w w' :World}(h:Sg w)(hk:Kp X w w')(h0:¬X 1)(h2:¬X 3):Sg w' :=⟨Jc h.res hk h0,Jc h.sig hk h2⟩
theorem Sg.old{w w' :World}(h:Sg w)(hk:Old w w'):Sg w' :=h.kp hk (fun f=>f) (fun f=>f)
theorem Jp(k:Nat)(w:LB)(l:List LB)(j:Nat)(hj:j<l.length):jq (k+j) w (l.drop j)=if l[j]=w then k+j else jq (k+(j+1)) w (l.drop (j+1)):=by
 rw[jM9 hj,jq];rfl
theorem qx(l:List LB)(j:Nat)(hj:j<l.length):(wvs l)[j]? =some (.string ⟨l[j].toArray⟩):=by
 unfold wvs;rw[jM1,jJ9 hj];rfl
theorem jFV(l:List LB):(wvs l).length=l.length:=jK7 _
theorem mk_eq{a:LB}{s:BA}:(⟨a.toArray⟩:BA)=s↔a=sb s:=⟨fun h=>by rw[<-h];rfl,fun h=>by rw[h,XP]⟩
theorem Vn{a b:BA}(h:a.toList=b.toList):a=b:=by
 rw[ByteArray.toList_eq,ByteArray.toList_eq]at h;exact jBj h
theorem yN{P:Program}{ops:Array Oper}{rest:List Oper}{d:Option Tmp}{ty:TypeId}{pos:String}{after:Array Edge}{gd:Option (Nat×Bool)}{a:Act}{w:World}{Q:Exit->Act->World->Prop}(t:TypeId)(x:Operand)
  (h:wpList P ops Q (⟨d,.load t x,ty,pos,after,gd⟩::rest) a w):wpList P ops Q (⟨d,.load t x,ty,pos,after,gd⟩::rest) a w:=h
theorem JU{P:Program}{ops:Array Oper}{rest:List Oper}{d:Option Tmp}{ty:TypeId}{pos:String}{after:Array Edge}{gd:Option (Nat×Bool)}{a:Act}{w:World}{Q:Exit->Act->World->Prop}(t:TypeId)(x y:Operand)
  (h:wpList P ops Q (⟨d,.store t x y,ty,pos,after,gd⟩::rest) a w):wpList P ops Q (⟨d,.store t x y,ty,pos,after,gd⟩::rest) a w:=h
theorem Jo{ops:Array Oper}{rest:List Oper}{op:Oper}{a:Act}{w:World}{Q:Exit->Act->World->Prop}(hw:Region.wanted op (yielded ops a.tmps)=true)(ty:TypeId)(x:Operand)(ho:op.op=.load ty x)
  (b o:Nat) (hx:a.eval x=.pointer (some ⟨b,o,none⟩)) (cs:List Value) (d:TypeDesc) (hc:w.rangeAt b o cs)
  (hu:prog.underlying ty=some d) (hd:d.isRow=true) (hi:(prog.info? ty).map (·.size)=some cs.length)
  (h:wpList prog ops Q rest (a.put op.dst (.agg cs.toArray)) w):wpList prog ops Q (op::rest) a w:=
 wpList_step fun K hK=>by simp only[hw,if_true];exact wp_load_mid ty x ho b o hx cs d hc hu hd hi (hK _ _ h)
theorem jBh:(prog.info? 248).map (·.size)=some 35:=by kernel_rfl
theorem Xt(w:World)(cs:List Value)(j:Nat)(x:BA)(hx:cs[j]? =some (.string x))(hlt:j<35):(Instr.index 248 (.agg cs.toArray) (.int .i64 (j:Int))).run prog w=.ok (.string x) w:=by
 have h3:(sizeOf 9).run prog w=.ok 1 w:=(by kernel_rfl);simp[Instr.index,asIntOf,run_underlying underlying248,part,h3,hx,hlt]
theorem KR(w:World)(hg:Sg w)(s:BA):Calls prog 166 #[.string s] w fun e w' =>e=.returned (.int .u8 (vO (sb s):Nat))/\w=w' :=by
 have Hy:=G (show vO (sb s)=jq (23+0) (sb s) (resL.drop 0)from rfl);have Fc:=G hg.res;have Hx:=G (fun j (hj:j<35)=>qx resL j hj);have Cc:=G (fun j (hj:j<35)=>Jp 23 (sb s) resL j hj);have FA:=G (show(prog.info? 248).map (·.size)=some (wvs resL).length from jBh);have Nh:=G (show jq (23+35) (sb s) (resL.drop 35)=0 from rfl);generalize vO (sb s)=R at*;generalize ML:wvs resL=cs at*;clear ML hg;go_enter func166,ntmps166;go_wp2_with (first|((with_reducible refine yN 248 (.global 1) ?_);refine Jo rfl 248 (.global 1) rfl 1 0 rfl cs _ Fc.out underlying248 rfl FA.out ?_)|fail);go_loop [6] (fun i=>∃j:Nat,j<=35/\i=.int .i64 j/\R=jq (23+j) (sb s) (resL.drop j)) (fun i=>35-(intOf i).toNat)
 case atStart=>exact⟨0,by omega,rfl,Hy.out⟩
 case round=>
  obtain⟨j,hj,rfl,hR⟩:=hrel;by_cases hlt:j<35
  ·have hx:=Hx.out j hlt;have NN:=Cc.out j hlt;rw[NN]at hR;clear NN;generalize resL[j]'hlt=rw at*;have b1:(j:Int)<35:=(by omega);have b2:(0:Int)<=(j:Int):=(by omega);have b3:(j:Int).toNat=j:=(by omega);have Wc:=fun w' =>Xt w' cs j _ hx hlt;clear hx;by_cases he:rw=sb s
   ·rw[jJ6 he]at hR;rw[mk_eq.2 he]at Wc;clear he;have HR:=G hR;clear hR;have b4:IntKind.u8.wrap (j:Int)=(j:Int):=IntWalk.u8_in _ (by omega);have b5:IntKind.u8.wrap (23+(j:Int))=23+(j:Int):=IntWalk.u8_in _ (by omega);go_wp2;go_ret;exact⟨by rw[HR.out];simp,rfl⟩
   ·rw[jJ5 he]at hR;have Fe:¬(⟨rw.toArray⟩:BA)=s:=fun h=>he (mk_eq.1 h);clear he;generalize (⟨rw.toArray⟩:BA)=x at*;have HR:=G hR;clear hR;have WT:(x.toList==s.toList)=false:=jM3 (fun h=>Fe (Vn h));clear Fe;go_wp2;exact⟨⟨j+1,by omega,by go_num,HR.out⟩,by simp[intOf];omega⟩
  ·obtain rfl:j=35:=(by omega);rw[Nh.out]at hR;have HR:=G hR;clear hR;go_wp2;go_ret;exact⟨by rw[HR.out];rfl,rfl⟩
theorem jEG:(prog.info? 329).map (·.size)=some 19:=by kernel_rfl
theorem jDS(w:World)(cs:List Value)(j:Nat)(x:BA)(hx:cs[j]? =some (.string x))(hlt:j<19):(Instr.index 329 (.agg cs.toArray) (.int .i64 (j:Int))).run prog w=.ok (.string x) w:=by
 have h3:(sizeOf 9).run prog w=.ok 1 w:=(by kernel_rfl);simp[Instr.index,asIntOf,run_underlying underlying329,part,h3,hx,hlt]
theorem JF(w:World)(hg:Sg w)(s:BA):Calls prog 210 #[.string s] w fun e w' =>e=.returned (.int .u8 (jf (sb s):Nat))/\w=w' :=by
 have Hy:=G (show jf (sb s)=jq (4+0) (sb s) (signL.drop 0)from rfl);have Fc:=G hg.sig;have Hx:=G (fun j (hj:j<19)=>qx signL j hj);have Cc:=G (fun j (hj:j<19)=>Jp 4 (sb s) signL j hj);have FA:=G (show(prog.info? 329).map (·.size)=some (wvs signL).length from jEG);have Nh:=G (show jq (4+19) (sb s) (signL.drop 19)=0 from rfl);generalize jf (sb s)=R at*;generalize ML:wvs signL=cs at*;clear ML hg;go_enter func210,ntmps210;go_wp2_with (first|((with_reducible refine yN 329 (.global 3) ?_);refine Jo rfl 329 (.global 3) rfl 3 0 rfl cs _ Fc.out underlying329 rfl FA.out ?_)|fail);go_loop [6] (fun i=>∃j:Nat,j<=19/\i=.int .i64 j/\R=jq (4+j) (sb s) (signL.drop j)) (fun i=>19-(intOf i).toNat)
 case atStart=>exact⟨0,by omega,rfl,Hy.out⟩
 case round=>
  obtain⟨j,hj,rfl,hR⟩:=hrel;by_cases hlt:j<19
  ·have hx:=Hx.out j hlt;have NN:=Cc.out j hlt;rw[NN]at hR;clear NN;generalize signL[j]'hlt=rw at*;have b1:(j:Int)<19:=(by omega);have b2:(0:Int)<=(j:Int):=(by omega);have b3:(j:Int).toNat=j:=(by omega);have Wc:=fun w' =>jDS w' cs j _ hx hlt;clear hx;by_cases he:rw=sb s
   ·rw[jJ6 he]at hR;rw[mk_eq.2 he]at Wc;clear he;have HR:=G hR;clear hR;have b4:IntKind.u8.wrap (j:Int)=(j:Int):=IntWalk.u8_in _ (by omega);have b5:IntKind.u8.wrap (4+(j:Int))=4+(j:Int):=IntWalk.u8_in _ (by omega);go_wp2;go_ret;exact⟨by rw[HR.out];simp,rfl⟩
   ·rw[jJ5 he]at hR;have Fe:¬(⟨rw.toArray⟩:BA)=s:=fun h=>he (mk_eq.1 h);clear he;generalize (⟨rw.toArray⟩:BA)=x at*;have HR:=G hR;clear hR;have WT:(x.toList==s.toList)=false:=jM3 (fun h=>Fe (Vn h));clear Fe;go_wp2;exact⟨⟨j+1,by omega,by go_num,HR.out⟩,by simp[intOf];omega⟩
  ·obtain rfl:j=19:=(by omega);rw[Nh.out]at hR;have HR:=G hR;clear hR;go_wp2;go_ret;exact⟨by rw[HR.out];rfl,rfl⟩
def yv(n:Nat):Value:=.int .u8 (n:Int)
theorem QF(w:World)(t:Nat):Calls prog 317 #[yv t] w fun e w' =>e=.returned (.bool (yC t))/\w=w' :=by
 have Hy:=G (show yC t=decide (t=2\/t=46\/t=47\/t=3\/t=48\/t=1\/t=6\/t=4\/t=31\/(49<=t/\t<=57))from rfl);generalize yC t=R at*;unfold yv;go_enter func317,ntmps317;go_wp2
 all_goals (go_ret;refine⟨?_,rfl⟩;rw[Hy.out];refine jBp ?_;simp only[beq_iff_eq,beq_eq_false_iff_ne,ne_eq,decide_eq_true_eq,Bool.false_eq_true,true_iff,false_iff]at*;omega)
theorem UP(w:World)(n:Nat):Calls prog 285 #[yv n] w fun e w' =>e=.returned (.bool (vw n))/\w=w' :=by
 have Hy:=G (show vw n=decide (n=58\/n=59\/n=61\/n=62\/n=63\/n=64\/n=65\/n=66\/n=67\/n=68\/n=71\/n=73\/n=76\/n=78\/n=80\/n=83\/n=84)from rfl);generalize vw n=R at*;unfold yv;go_enter func285,ntmps285;go_wp2
 all_goals (go_ret;refine⟨?_,rfl⟩;rw[Hy.out];refine jBp ?_;simp only[beq_iff_eq,beq_eq_false_iff_ne,ne_eq,decide_eq_true_eq,Bool.false_eq_true,true_iff,false_iff]at*;omega)
theorem jF4{p:Prop}[Decidable p]{b:Bool}(h:b=true↔p):b=decide p:=by
 rw[Bool.eq_iff_iff,decide_eq_true_iff];exact h
theorem kO{n:Nat}{l:List Nat}(h:n∉l)(z:Int)(hz:z.toNat∈l/\0<=z:=by decide):((n:Int)==z)=false:=
 jM3 (fun e=>h (by have:=hz.1;rw[<-e]at this;simpa using this))
theorem xu(w:World)(n t:Nat):Calls prog 300 #[yv n,yv t] w fun e w' =>e=.returned (.bool (km n t))/\w=w' :=by
 have H:=G (QF w t);generalize hR:km n t=R;unfold km at hR;generalize yC t=a at*;unfold yv at*;by_cases hn:n∈ [69,70,71,72,73,74,75,76,77,78,79,80,81,82,83]
 ·simp only[List.mem_cons,List.not_mem_nil,or_false]at hn;rcases hn with rfl|rfl|rfl|rfl|rfl|rfl|rfl|rfl|rfl|rfl|rfl|rfl|rfl|rfl|rfl
  all_goals
   have Hy:=G hR;clear hR;simp only[Int.cast_ofNat_Int];go_enter func300,ntmps300;go_wp2_with (go_at_call 317;refine H.out.mono ?_;rintro e w1 ⟨rfl,rfl⟩)
   all_goals (go_ret;refine⟨?_,rfl⟩;rw[<-Hy.out];refine jBp ?_;clear Hy H;cases a<;>(simp at*;try omega))
 ·have hm:=hn;simp only[List.mem_cons,List.not_mem_nil,or_false]at hm;have Hy:=G (show R=false by rw[<-hR];rw[jJ5 (by omega)];rw[jJ5 (by omega)];rw[jJ5 (by omega)];rw[jJ5 (by omega)];rw[jJ5 (by omega)];rw[jJ5 (by omega)];rw[jJ5 (by omega)];rw[jJ5 (by omega)];rw[jJ5 (by omega)]);clear hR hm;have b69:=kO hn 69;have b70:=kO hn 70;have b71:=kO hn 71;have b72:=kO hn 72;have b73:=kO hn 73;have b74:=kO hn 74;have b75:=kO hn 75;have b76:=kO hn 76;have b77:=kO hn 77;have b78:=kO hn 78;have b79:=kO hn 79;have b80:=kO hn 80;have b81:=kO hn 81;have b82:=kO hn 82;have b83:=kO hn 83;clear hn;go_enter func300,ntmps300;go_wp2;go_ret;exact⟨by rw[Hy.out];rfl,rfl⟩
theorem Ud{n t:Nat}(h:n∉ [58,59,60,61,62,63,64,65,66,67,68,84]):jE n t=(decide (n=t)||(decide (69<=n)&&km n t)):=by
 simp only[List.mem_cons,List.not_mem_nil,or_false]at h;unfold jE;rw[jJ5 (by omega)];rw[jJ5 (by omega)];rw[jJ5 (by omega)];rw[jJ5 (by omega)];rw[jJ5 (by omega)];rw[jJ5 (by omega)];rw[jJ5 (by omega)];rw[jJ5 (by omega)];rw[jJ5 (by omega)];rw[jJ5 (by omega)];rw[jJ5 (by omega)]
theorem kz(w:World)(n t:Nat):Calls prog 284 #[yv n,yv t] w fun e w' =>e=.returned (.bool (jE n t))/\w=w' :=by
 by_cases hn:n∈ [58,59,60,61,62,63,64,65,66,67,68,84]
 ·simp only[List.mem_cons,List.not_mem_nil,or_false]at hn;generalize hR:jE n t=R;unfold jE at hR;unfold yv at*;rcases hn with rfl|rfl|rfl|rfl|rfl|rfl|rfl|rfl|rfl|rfl|rfl|rfl
  all_goals
   have Hy:=G hR;clear hR;simp only[Int.cast_ofNat_Int];go_enter func284,ntmps284;go_wp2
   all_goals (go_ret;refine⟨?_,rfl⟩;rw[<-Hy.out];refine jBp ?_;clear Hy;simp at*;try omega)
 have Hy:=G (Ud (t:=t) hn);have H:=G (xu w n t);generalize jE n t=R at*;generalize km n t=a at*;have b58:=kO hn 58;have b59:=kO hn 59;have b60:=kO hn 60;have b61:=kO hn 61;have b62:=kO hn 62;have b63:=kO hn 63;have b64:=kO hn 64;have b65:=kO hn 65;have b66:=kO hn 66;have b67:=kO hn 67;have b68:=kO hn 68;have b84:=kO hn 84;clear hn;unfold yv at*;by_cases e:n=t
 ·have b1:((n:Int)==(t:Int))=true:=by rw[e];simp
  have Hr:=G (show R=true by rw[Hy.out,jK5 e];rfl);clear Hy e;go_enter func284,ntmps284;go_wp2;go_ret;exact⟨by rw[Hr.out];rfl,rfl⟩
 ·have b1:((n:Int)==(t:Int))=false:=jM3 (by omega);by_cases e9:69<=n
  ·have b2:¬(n:Int)<69:=(by omega);have Hr:=G (show R=a by rw[Hy.out,jK3 e,jK5 e9];simp);clear Hy e e9;go_enter func284,ntmps284;go_wp2_with (go_at_call 300;refine H.out.mono ?_;rintro e w1 ⟨rfl,rfl⟩);go_ret;exact⟨by rw[Hr.out];rfl,rfl⟩
  ·have b2:(n:Int)<69:=(by omega);have Hr:=G (show R=false by rw[Hy.out,jK3 e,jK3 e9];rfl);clear Hy e e9;go_enter func284,ntmps284;go_wp2;go_ret;exact⟨by rw[Hr.out];rfl,rfl⟩
inductive TxR where
 |wrong (k:Nat)
 |shut (k:Nat)
 |ends (e:Nat)
def Vi(c:UInt8):Bool:=yU c||decide (97<=c.toNat/\c.toNat<=102)
def jj:LB->Nat->Nat->TxR
 |[],_,e=>.ends e
 |c::l,k,e=>
  if e=4 then
   (if c.toNat=34 then .shut (k+1)else if c.toNat=92 then jj l (k+1) 5 else if c.toNat<32\/126<c.toNat then .wrong k else jj l (k+1) 4)
  else if e=5 then
   (if c.toNat=120 then jj l (k+1) 6 else if c.toNat=34\/c.toNat=92\/c.toNat=110\/c.toNat=116 then jj l (k+1) 4 else .wrong k)
  else(if Vi c=false then .wrong k else jj l (k+1) (if e=7 then 4 else e+1))
def yn(st:List Nat):List LB->Nat->List LB
 |[],_=>[]
 |r::l,i=>if jz (23+i) st=true then r::yn st l (i+1)else yn st l (i+1)
def UE(name int:Bool)(ws:List LB)(w:LB):Bool:=(name&&ji w)||(int&&jZ w)||ws.any (fun r=>w.isPrefixOf r)
def vD(name int:Bool)(ws:List LB):LB->LB->Nat->Option Nat
 |_,[],_=>none
 |w,c::l,k=>if jR c=false then some k else if UE name int ws (w++[c])=true then vD name int ws (w++[c]) l (k+1)else some k
def jv(w:LB):Nat:=if yU (w.headD 0)=true then 2 else if vO w=0 then 1 else vO w
def vZ(w:LB):Bool:=(yU (w.headD 0)&&jZ w)||decide (vO w≠0)||kY w
def lfC(c:UInt8):Bool:=decide (c.toNat=10)
def vM(c:UInt8):Bool:=decide (c.toNat=32\/c.toNat=9\/c.toNat=10\/c.toNat=13)
abbrev Out:=Except Nat Mc
def vI(t:Nat)(m:Mc)(k:Nat):Out:=match kB t (m.stack.length+100) m.stack with
 |some s=>.ok {m with at_:=k,stack:=s}
 |none=>.error 1000000
def vS(m:Mc)(l:LB):Out:=
 let r:=l.takeWhile (fun c=> !lfC c)
 .ok (if r.length=l.length then{m with at_:=m.at_ +l.length,fin:=1}else{m with at_:=m.at_ +r.length})
def vU(m:Mc)(l:LB):Out:=
 match vD (jz 1 m.stack) (jz 2 m.stack) (yn m.stack resL 0) [] l m.at_ with
 |some k=>.error k
 |none=>.ok {m with at_:=m.at_ +l.length,fin:=2}
def kU(m:Mc)(l:LB):Out:=
 let w:=l.takeWhile jR
 let m1:={m with from_:=m.at_}
 if w.length<l.length/\vZ w=true/\jz (jv w) m.stack=true then vI (jv w) m1 (m.at_ +w.length)else vU m1 l
def ke(m:Mc)(l:LB):Out:=
 if jz 3 m.stack=false then .error m.at_
 else match jj (l.drop 1) (m.at_ +1) 4 with
  | .wrong k=>.error k
  | .shut k=>vI 3 {m with from_:=m.at_,fin:=0} k
  | .ends e=>.ok {m with from_:=m.at_,at_:=m.at_ +l.length,fin:=e}
def kf(m:Mc)(c:UInt8)(l:LB):Out:=
 let one:=jf [c]
 let two:=jf [c,61]
 let m1:={m with from_:=m.at_}
 if one≠0/\jz one m.stack=true then
  (if two≠0/\jz two m.stack=true/\l.headD 0=61 then vI two m1 (m.at_ +2)else vI one m1 (m.at_ +1))
 else if two=0\/jz two m.stack=false then .error m.at_
 else if l=[]then .ok {m1 with at_:=m.at_ +1,fin:=3}
 else if l.headD 0≠61 then .error (m.at_ +1)
 else vI two m1 (m.at_ +2)
def vP(m:Mc):LB->Out
 |[]=>.ok m
 |c::l=>
  if vM c=true then .ok {m with at_:=m.at_ +1}
  else if c.toNat=35 then vS m (c::l)
  else if c.toNat=34 then ke m (c::l)
  else if jR c=true then kU m (c::l)
  else kf m c l
def VZ(src:LB):Nat->Mc->Out
 |0,m=>.ok m
 |f+1,m=>if src.length<=m.at_ then .ok m else match vP m (src.drop m.at_)with
  | .error k=>.error k
  | .ok m' =>VZ src f m'
def startM:Mc:=⟨0,[23,1,4,58,5],0,0⟩
def kC(src:LB):Out:=VZ src (src.length+1) startM
def jFj(src:LB):Option Nat:=match kC src with
 | .error k=>some k
 | .ok m=>if m.stack=[]then none else some src.length
theorem zW(w:LB):∀(l:List LB) (k:Nat),jq k w l<k+l.length+1
 |[],k=>by rw[jq];omega
 |r::l,k=>by
  rw[jq,jK6];split
  ·omega
  ·have:=zW w l (k+1);omega
theorem kD(w:LB):jf w<58:=by
 have:=zW w signL 4;have e:signL.length=19:=rfl;unfold jf;omega
theorem Ut(w:LB):vO w<59:=by
 have:=zW w resL 23;have e:resL.length=35:=rfl;unfold vO;omega
theorem zB(w:LB):jv w<58:=by
 have:=Ut w;unfold jv;have Fx:vO w<58:=by
  have h:=zW w resL 23;unfold vO;have e:resL.length=35:=rfl;rcases Nat.lt_or_ge (jq 23 w resL) 58 with h1|h1
  ·exact h1
  ·exfalso;have:∀(l:List LB) (k:Nat),jq k w l≠0->jq k w l<k+l.length:=by
    intro l
    induction l with
    |nil=>intro k h;rw[jq]at h;exact absurd rfl h
    |cons a l ih=>
     intro k h;rw[jq]at h⊢;rw[jK6];split
     ·omega
     ·rename_i Fe;rw[jJ5 Fe]at h;have:=ih (k+1) h;omega
   have:=this resL 23 (by omega);omega
 split
 ·omega
 ·split<;>omega
theorem yX(t:Nat):∀(f:Nat) (l k m:List Nat),kB t f l=some k->kB t f (l++m)=some (k++m)
 |0,l,k,m,h=>by cases h
 |f+1,[],k,m,h=>by cases h
 |f+1,n::l,k,m,h=>by
  rw[jN6];rw[kB]at h⊢;split at h
  ·rename_i hn;rw[jJ6 hn];obtain rfl:=jL5 h;rfl
  ·rename_i hn;rw[jJ5 hn,<-jK1];exact yX t f _ k m h
theorem ve(t:Nat):∀(f g:Nat) (l k:List Nat),f<=g->kB t f l=some k->kB t g l=some k
 |0,g,l,k,hg,h=>by cases h
 |f+1,0,l,k,hg,h=>by omega
 |f+1,g+1,[],k,hg,h=>by cases h
 |f+1,g+1,n::l,k,hg,h=>by
  rw[kB]at h⊢;split at h
  ·rename_i hn;rw[jJ6 hn];exact h
  ·rename_i hn;rw[jJ5 hn];exact ve t f g _ k (by omega) h
def jE2(n t:Nat):Bool:= !jE n t||(kB t 30 [n]).isSome
theorem Xy:∀n:Fin 85,∀t:Fin 58,jE2 n.val t.val=true:=by decide+kernel
theorem YN(n t:Nat)(ht:t<58)(h:jE n t=true):∃k,kB t 30 [n]=some k:=by
 by_cases hn:n<85
 ·have h1:=Xy ⟨n,hn⟩ ⟨t,ht⟩;simp only[jE2,h,Bool.not_true,Bool.false_or]at h1;exact Option.isSome_iff_exists.1 h1
 ·exfalso;unfold jE km at h;simp only[show¬n=58 by omega,show¬n=59 by omega,show¬n=60 by omega,show¬n=61 by omega,show¬n=62 by omega,show¬n=63 by omega,show¬n=64 by omega,show¬n=65 by omega,show¬n=66 by omega,show¬(n=67\/n=84)by omega,show¬n=68 by omega,
   show¬(n=83\/n=69)by omega,show¬(n=70\/n=72\/n=74)by omega,show¬(n=75\/n=77\/n=79\/n=81)by omega,show¬n=82 by omega,show¬n=71 by omega,show¬n=73 by omega,show¬n=76 by omega,show¬n=78 by omega,show¬n=80 by omega,show¬n=t by omega,
   if_false,decide_false,Bool.false_or,Bool.and_false]at h
  cases h
theorem JD(n t:Nat)(h:jE n t=false):jX n t=[]:=by
 rw[jX,jJ6 h]
theorem KK(n:Nat)(h:vw n=true):58<=n:=by
 have:=jM8 h;omega
theorem Yk(t:Nat)(ht:t<58):∀(st:List Nat),jz t st=true->∃k,kB t (st.length+30) st=some k
 |[],h=>by cases h
 |n::l,h=>by
  rw[jz]at h;split at h
  ·rename_i hb;obtain⟨k,hk⟩:=YN n t ht hb;have h1:=yX t 30 [n] k l hk;exact⟨k++l,ve t 30 _ _ _ (by simp) h1⟩
  ·rename_i hb;split at h
   ·rename_i he;obtain⟨k,hk⟩:=Yk t ht l h;refine⟨k,?_⟩;rw[jK6,show l.length+1+30=(l.length+30)+1 by omega,kB];have NB:=KK n he;rw[jJ5 (by omega),JD n t (by simpa using hb),jN8];exact hk
   ·cases h
theorem KU(t:Nat)(ht:t<58)(m:Mc)(k:Nat)(h:jz t m.stack=true):∃s,kB t (m.stack.length+100) m.stack=some s/\vI t m k=.ok {m with at_:=k,stack:=s}:=by
 obtain⟨s,hs⟩:=Yk t ht m.stack h;have h1:=ve t _ (m.stack.length+100) _ _ (by omega) hs;refine⟨s,h1,?_⟩;unfold vI;rw[h1]
theorem KT:∀(l:LB) (k e j:Nat),jj l k e=.shut j->k<j/\j<=k+l.length
 |[],k,e,j,h=>by rw[jj]at h;cases h
 |c::l,k,e,j,h=>by
  rw[jj]at h;rw[jK6];have ih:=fun e' =>KT l (k+1) e' j;split at h
  ·split at h
   ·injection h with h;omega
   ·split at h
    ·have:=ih _ h;omega
    ·split at h
     ·cases h
     ·have:=ih _ h;omega
  ·split at h
   ·split at h
    ·have:=ih _ h;omega
    ·split at h
     ·have:=ih _ h;omega
     ·cases h
   ·split at h
    ·cases h
    ·have:=ih _ h;omega
theorem zx{t:Nat}{m m' :Mc}{k:Nat}(h:vI t m k=.ok m'):m'.at_=k:=by
 unfold vI at h;split at h
 ·injection h with h;rw[<-h]
 ·cases h
theorem kt(p:UInt8->Bool)(l:LB):(l.takeWhile p).length<=l.length:=(List.takeWhile_sublist p).length_le
theorem kV(p:UInt8->Bool)(c:UInt8)(l:LB)(h:p c=true):0<((c::l).takeWhile p).length:=by
 rw[List.takeWhile_cons,jJ6 h];simp
theorem Vs{m m' :Mc}{c:UInt8}{l:LB}(h:vP m (c::l)=.ok m'):m.at_ <m'.at_ /\m'.at_ <=m.at_ +(c::l).length:=by
 have hl:(c::l).length=l.length+1:=jK6;rw[vP]at h;split at h
 ·injection h with h;rw[<-h];simp only;omega
 ·split at h
  ·rename_i hc;unfold vS at h;simp only at h;injection h with h;have h1:=kt (fun c=> !lfC c) (c::l);have h2:=kV (fun c=> !lfC c) c l (by simp only[lfC];rw[jK3 (by omega)];rfl);split at h
   ·rw[<-h];simp only;omega
   ·rw[<-h];simp only;omega
  ·split at h
   ·unfold ke at h;split at h
    ·cases h
    ·split at h
     ·cases h
     ·rename_i j hj;have h1:=zx h;have h2:=KT _ _ _ _ hj;rw[List.drop_one,List.tail_cons]at h2;omega
     ·injection h with h;rw[<-h];simp only;omega
   ·split at h
    ·rename_i hw;have h1:=kt jR (c::l);have h2:=kV jR c l hw;unfold kU at h;simp only at h;split at h
     ·have h3:=zx h;omega
     ·unfold vU at h;split at h
      ·cases h
      ·injection h with h;rw[<-h];simp only;omega
    ·unfold kf at h;simp only at h;split at h
     ·split at h
      ·rename_i hh;have h3:=zx h;have:l≠ []:=fun e=>by rw[e]at hh;exact absurd hh.2.2 (by decide)
       have:=List.length_pos_iff.2 this;omega
      ·have h3:=zx h;omega
     ·split at h
      ·cases h
      ·split at h
       ·injection h with h;rw[<-h];simp only;omega
       ·rename_i Fe;have:=List.length_pos_iff.2 Fe;split at h
        ·cases h
        ·have h3:=zx h;omega
theorem yw(s:BA)(k:Nat)(h:k<s.size):(sb s).take (k+1)=(sb s).take k++[s[k]]:=by
 have h' :k<(sb s).length:=by rw[jB];exact h
 rw[jK2 h'];rfl
theorem qH(s:BA)(h:0<s.size):(sb s).headD 0=s[0]:=by
 have h' :0<(sb s).length:=by rw[jB];exact h
 have:(sb s)[0]'h' =s[0]:=rfl;refine Eq.trans ?_ this;rw[List.headD_eq_head?_getD,List.head?_eq_getElem?,jJ9 h'];rfl
theorem jBi(s:BA)(k:Nat)(h:k<s.size):s[k]∈sb s:=by
 have:s[k]=(sb s)[k]'(by rw[jB];exact h):=rfl;rw[this];exact jL6 _
theorem zf(w:World)(s:BA):Calls prog 113 #[.string s] w fun e w' =>e=.returned (.bool (ji (sb s)))/\w=w' :=by
 have HL:=G (show ji (sb s)=(decide (0<s.size/\s.size<=64)&&Zr ((sb s).headD 0)&&(sb s).all jR)by unfold ji;rw[jB]);generalize ji (sb s)=R at*;by_cases h0:s.size=0
 ·have Gs:=G (show R=false by rw[HL.out,jK3 (by omega)];rfl);have b0:((s.size:Int)==0)=true:=by rw[h0];rfl
  have Hz:=G h0;clear h0;go_enter func113,ntmps113;go_wp2;go_ret;exact⟨by rw[Gs.out];rfl,rfl⟩
 ·have b0:((s.size:Int)==0)=false:=jM3 (by omega);by_cases h1:s.size<=64
  ·have b1:¬(64:Int)<(s.size:Int):=(by omega);have hp:0<s.size:=(by omega);have Iw:(0:Int)<(s.size:Int):=(by omega);have Hc:=G (show R=(Zr s[0]&&(sb s).all jR)by rw[HL.out,jK5 (by omega),qH s hp];rfl);have H0:=G (Vf w s[0]);unfold bv at H0;clear HL;generalize hl:Zr s[0]=L at*;clear hl;cases L
   ·have Gs:=G (show R=false by rw[Hc.out];rfl);go_enter func113,ntmps113;go_wp2_with (go_at_call 164;refine H0.out.mono ?_;rintro e w1 ⟨rfl,rfl⟩);go_ret;exact⟨by rw[Gs.out];rfl,rfl⟩
   ·have Hc:=G (show R=(sb s).all jR by rw[Hc.out];rfl);have IG:(s.size:Int)<=64:=(by omega);go_enter func113,ntmps113;go_wp2_with (go_at_call 164;refine H0.out.mono ?_;rintro e w1 ⟨rfl,rfl⟩);clear H0;go_loop [20] (fun i=>∃k:Nat,k<=s.size/\i=.int .i64 k/\((sb s).take k).all jR=true) (fun i=>s.size-(intOf i).toNat)
    case atStart=>exact⟨0,Nat.zero_le _,rfl,rfl⟩
    case round=>
     obtain⟨k,hk,rfl,FL⟩:=hrel;by_cases hlt:k<s.size
     ·have G9:=G (show((sb s).take (k+1)).all jR=jR s[k]by rw[yw s k hlt,List.all_append,FL];simp);have Gs:=G (show jR s[k]=false->R=false from fun h=>by
       rw[Hc.out,<-Bool.not_eq_true,List.all_eq_true];intro h';have:=h' s[k] (jBi s k hlt);rw[h]at this;cases this)
      have b2:(0:Int)<=(k:Int):=(by omega);have b3:(k:Int)<(s.size:Int):=(by omega);have b4:(k:Int).toNat=k:=(by omega);have Hw:=G (kw w s[k]);unfold bv at Hw;clear FL;generalize hw:jR s[k]=W at*;clear hw;cases W
      ·have Hn:=G (Gs.out rfl);go_wp2_with (go_at_call 165;refine Hw.out.mono ?_;rintro e w1 ⟨rfl,rfl⟩);go_ret;exact⟨by rw[Hn.out];rfl,rfl⟩
      ·go_wp2_with (go_at_call 165;refine Hw.out.mono ?_;rintro e w1 ⟨rfl,rfl⟩);exact⟨⟨k+1,by omega,by go_num,G9.out⟩,by simp[intOf];omega⟩
     ·obtain rfl:k=s.size:=(by omega);have Hy:=G (show R=true by rw[Hc.out,<-FL,<-jB,List.take_length]);clear FL;go_wp2;go_ret;exact⟨by rw[Hy.out];rfl,rfl⟩
  ·have b1:(64:Int)<(s.size:Int):=(by omega);have Gs:=G (show R=false by rw[HL.out,jK3 (by omega)];rfl);clear HL h0 h1;go_enter func113,ntmps113;go_wp2;go_ret;exact⟨by rw[Gs.out];rfl,rfl⟩
theorem VP(w:World)(hg:Sg w)(s:BA):Calls prog 114 #[.string s] w fun e w' =>e=.returned (.bool (decide (vO (sb s)≠0)))/\w=w' :=by
 have H:=G (KR w hg s);generalize vO (sb s)=n at*;clear hg;go_enter func114,ntmps114;go_wp2_with (go_at_call 166;refine H.out.mono ?_;rintro e w1 ⟨rfl,rfl⟩)
 all_goals (go_ret;refine⟨?_,rfl⟩;refine jBp ?_;clear H;simp at*;try omega)
theorem vg(w:World)(hg:Sg w)(s:BA):Calls prog 54 #[.string s] w fun e w' =>e=.returned (.bool (kY (sb s)))/\w=w' :=by
 have Hy:=G (show kY (sb s)=(ji (sb s)&&decide (vO (sb s)=0))from rfl);have H:=G (zf w s);have H2:=G (VP w hg s);generalize vO (sb s)=n at*;generalize ji (sb s)=a at*;generalize kY (sb s)=R at*;clear hg;cases a
 ·have Hn:=G (show R=false by rw[Hy.out];rfl);go_enter func54,ntmps54;go_wp2_with (go_at_call 113;refine H.out.mono ?_;rintro e w1 ⟨rfl,rfl⟩);go_ret;exact⟨by rw[Hn.out];rfl,rfl⟩
 ·have Hn:=G (show R= !(decide (n≠0))by rw[Hy.out];simp);generalize decide (n≠0)=b at*;go_enter func54,ntmps54;go_wp2_with (first|(go_at_call 113;refine H.out.mono ?_;rintro e w1 ⟨rfl,rfl⟩)|(go_at_call 114;refine H2.out.mono ?_;rintro e w1 ⟨rfl,rfl⟩))
  all_goals (go_ret;exact⟨by rw[Hn.out];rfl,rfl⟩)
theorem VW{t f g:Nat}{l k k' :List Nat}(h:kB t f l=some k)(h' :kB t g l=some k'):k=k' :=by
 have h1:=ve t f (max f g) l k (by omega) h;have h2:=ve t g (max f g) l k' (by omega) h';rw[h1]at h2;exact jL5 h2
def xe(n t:Nat):Bool:= !jE n t||(match kB t 30 [n]with|some k=>decide (k.length<=12)|none=>true)
theorem ZU:∀n:Fin 85,∀t:Fin 58,xe n.val t.val=true:=by decide+kernel
theorem Yl(t:Nat)(ht:t<58):∀(st:List Nat) (f:Nat) (k:List Nat),(∀n∈st,n<85)->jz t st=true->kB t f st=some k->k.length<=st.length+12
 |[],f,k,_,h,_=>by cases h
 |n::l,f,k,h5,h,hk=>by
  rw[jz]at h;split at h
  ·rename_i hb;obtain⟨k0,Wj⟩:=YN n t ht hb;have h1:=yX t 30 [n] k0 l Wj;obtain rfl:=VW hk h1;have h2:=ZU ⟨n,h5 n List.mem_cons_self⟩ ⟨t,ht⟩;simp only[xe,hb,Bool.not_true,Bool.false_or,Wj]at h2;have h3:=jM8 h2;rw[jJ4,jK6];omega
  ·rename_i hb;split at h
   ·rename_i he;cases f with
    |zero=>cases hk
    |succ f=>
     rw[kB]at hk;have NB:=KK n he;rw[jJ5 (by omega),JD n t (by simpa using hb),jN8]at hk;have:=Yl t ht l f k (fun x hx=>h5 x (jN1 _ hx)) h hk;rw[jK6];omega
   ·cases h
theorem yq{t:Nat}(ht:t<58){m m' :Mc}{a k f:Nat}{fin:Nat}(h5:∀n∈m.stack,n<85)(hm:jz t m.stack=true)(h:vI t {at_:=a,stack:=m.stack,fin:=fin,from_:=f} k=.ok m'):m'.stack.length<=m.stack.length+12:=by
 unfold vI at h;split at h
 ·rename_i s hs;injection h with h;rw[<-h];exact Yl t ht m.stack _ s h5 hm hs
 ·cases h
end Go.Proofs.YtifbhcfdealfaaaGreatDoor

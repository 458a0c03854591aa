import Derived.Test.YtmmjcbbogokmfaaGreatDoorMp02
import Derived.Lib.LaidTab
import Derived.LaidLaws
set_option maxRecDepth 100000
set_option maxHeartbeats 25600000
namespace Go.Proofs.YtmmjcbbogokmfaaGreatDoor
open Go.Proofs.Tryz
open Go.RowKit
theorem YH(w:World)(c:UInt8):Calls prog 131 #[bv c] w fun e w' =>e=.returned (.bool (qG c))/\w=w' :=by
 have Hy:=G (show qG c=decide (97<=c.toNat/\c.toNat<=122)from rfl);have h8:=c.toNat_lt;generalize qG c=R at*;unfold bv;generalize c.toNat=k at*;go_enter func131,ntmps131;go_wp2
 all_goals (go_ret;refine⟨?_,rfl⟩;rw[Hy.out];refine QI ?_;simp<;>omega)
theorem XP(w:World)(c:UInt8):Calls prog 159 #[bv c] w fun e w' =>e=.returned (.bool (zS c))/\w=w' :=by
 have Hy:=G (show zS c=decide (48<=c.toNat/\c.toNat<=57)from rfl);have h8:=c.toNat_lt;generalize zS c=R at*;unfold bv;generalize c.toNat=k at*;go_enter func159,ntmps159;go_wp2
 all_goals (go_ret;refine⟨?_,rfl⟩;rw[Hy.out];refine QI ?_;simp<;>omega)
theorem Za(w:World)(c:UInt8):Calls prog 132 #[bv c] w fun e w' =>e=.returned (.bool (ju c))/\w=w' :=by
 have Hy:=G (show ju c=(qG c||zS c||decide (c.toNat=95))from rfl);have H1:=G (YH w c);have H2:=G (XP w c);have h8:=c.toNat_lt;generalize qG c=L at*;generalize zS c=D at*;generalize ju c=R at*;unfold bv at*;generalize c.toNat=k at*;go_enter func132,ntmps132;go_wp2_with fail;refine H1.out.mono ?_;rintro e w1 ⟨rfl,rfl⟩;cases L
 ·go_wp2_with fail;refine H2.out.mono ?_;rintro e w1 ⟨rfl,rfl⟩;cases D
  ·go_wp2
   all_goals (go_ret;refine⟨?_,rfl⟩;rw[Hy.out];refine QI ?_;simp<;>omega)
  ·go_wp2
   all_goals (go_ret;refine⟨?_,rfl⟩;rw[Hy.out];rfl)
 ·go_wp2
  all_goals (go_ret;refine⟨?_,rfl⟩;rw[Hy.out];rfl)
theorem Yn(w:World)(s:BA):Calls prog 71 #[.string s] w fun e w' =>e=.returned (.bool (jd (sb s)))/\w=w' :=by
 have HL:=G (show jd (sb s)=(decide (0<s.size/\s.size<=64)&&qG ((sb s).headD 0)&&(sb s).all ju)by unfold jd;rw[jB]);generalize jd (sb s)=R at*;by_cases h0:s.size=0
 ·have Ww:=G (show R=false by rw[HL.out,jK3 (by omega)];rfl);have b0:((s.size:Int)==0)=true:=by rw[h0];rfl
  have Hz:=G h0;clear h0;go_enter func71,ntmps71;go_wp2;go_ret;exact⟨by rw[Ww.out];rfl,rfl⟩
 ·have b0:((s.size:Int)==0)=false:=jM3 (by omega);by_cases h1:s.size<=64
  ·have b1:¬(64:Int)<(s.size:Int):=(by omega);have hp:0<s.size:=(by omega);have Ar:(0:Int)<(s.size:Int):=(by omega);have Hc:=G (show R=(qG s[0]&&(sb s).all ju)by rw[HL.out,jK5 (by omega),YA s hp];rfl);have H0:=G (YH w s[0]);unfold bv at H0;clear HL;generalize hl:qG s[0]=L at*;clear hl;cases L
   ·have Ww:=G (show R=false by rw[Hc.out];rfl);go_enter func71,ntmps71;go_wp2_with (go_at_call 131;refine H0.out.mono ?_;rintro e w1 ⟨rfl,rfl⟩);go_ret;exact⟨by rw[Ww.out];rfl,rfl⟩
   ·have Hc:=G (show R=(sb s).all ju by rw[Hc.out];rfl);have Bh:(s.size:Int)<=64:=(by omega);go_enter func71,ntmps71;go_wp2_with (go_at_call 131;refine H0.out.mono ?_;rintro e w1 ⟨rfl,rfl⟩);clear H0;go_loop [3] (fun i=>∃k:Nat,k<=s.size/\i=.int .i64 k/\((sb s).take k).all ju=true) (fun i=>s.size-(intOf i).toNat)
    case atStart=>exact⟨0,Nat.zero_le _,rfl,rfl⟩
    case round=>
     obtain⟨k,hk,rfl,Gk⟩:=hrel;by_cases hlt:k<s.size
     ·have Wx:=G (show((sb s).take (k+1)).all ju=ju s[k]by rw[yN s k hlt,List.all_append,Gk];simp);have Ww:=G (show ju s[k]=false->R=false from fun h=>by
       rw[Hc.out,<-Bool.not_eq_true,List.all_eq_true];intro h';have:=h' s[k] (jAA s k hlt);rw[h]at this;cases this)
      have b2:(0:Int)<=(k:Int):=(by omega);have b3:(k:Int)<(s.size:Int):=(by omega);have b4:(k:Int).toNat=k:=(by omega);have Hw:=G (Za w s[k]);unfold bv at Hw;clear Gk;generalize hw:ju s[k]=W at*;clear hw;cases W
      ·have Hn:=G (Ww.out rfl);go_wp2_with (go_at_call 132;refine Hw.out.mono ?_;rintro e w1 ⟨rfl,rfl⟩);go_ret;exact⟨by rw[Hn.out];rfl,rfl⟩
      ·go_wp2_with (go_at_call 132;refine Hw.out.mono ?_;rintro e w1 ⟨rfl,rfl⟩);exact⟨⟨k+1,by omega,by go_num,Wx.out⟩,by simp[intOf];omega⟩
     ·obtain rfl:k=s.size:=(by omega);have Hy:=G (show R=true by rw[Hc.out,<-Gk,<-jB,List.take_length]);clear Gk;go_wp2;go_ret;exact⟨by rw[Hy.out];rfl,rfl⟩
  ·have b1:(64:Int)<(s.size:Int):=(by omega);have Ww:=G (show R=false by rw[HL.out,jK3 (by omega)];rfl);clear HL h0 h1;go_enter func71,ntmps71;go_wp2;go_ret;exact⟨by rw[Ww.out];rfl,rfl⟩
def resR:List LB:=[[116,121,112,101],[97,116,116,114,105,98,117,116,101],[115,116,97,103,101],[109,105,108,101,115,116,111,110,101],[115,116,101,112],[105,110],[111,112,101,110,115],[99,108,111,115,101,115],[114,101,97,99,104,101,100],[119,104,101,110],[114,101,111,112,101,110],[105,110,116],[98,111,111,108],[116,101,120,116],[116,105,109,101],[115,101,116],[111,112,116,105,111,110,97,108],[105,102],[116,104,101,110],[101,108,115,101],[111,114],[97,110,100],[110,111,116],[116,114,117,101],[102,97,108,115,101],[110,111,116,104,105,110,103],[104,97,115],[115,105,122,101],[106,111,105,110],[111,112,101,110],[99,108,111,99,107],[115,116,101,112,115],[109,105,110],[109,97,120],[100,101,102,97,117,108,116]]
theorem Ql(w:LB):∀(l:List LB) (k:Nat),0<k->(kO k w l=0↔w∉l)
 |[],k,_=>by rw[kO];simp
 |x::l,k,hk=>by
  rw[kO];by_cases e:x=w
  ·rw[jJ6 e];simp[e];omega
  ·rw[jJ5 e,Ql w l (k+1) (by omega)];rw[List.mem_cons];exact⟨fun h h2=>h2.elim (fun e2=>e e2.symm) h,fun h h2=>h (.inr h2)⟩
theorem jCo(w:LB):w∈resR↔w∈resL:=by
 have h1:∀x∈resR,x∈resL:=(by decide+kernel);have h2:∀x∈resL,x∈resR:=(by decide+kernel);exact⟨h1 w,h2 w⟩
theorem jCI(w:LB):yT w=0↔w∉resR:=by
 rw[jCo,<-Ql w resL 23 (by decide)];rfl
def SgR(w:World):Prop:=w.rangeAt 1 0 (wvs resR)
theorem SgR.kp{X:Nat->Prop}{w w' :World}(h:SgR w)(hk:Kp X w w')(h1:¬X 1):SgR w' :=Ko h hk h1
theorem SgR.old{w w' :World}(h:SgR w)(hk:Old w w'):SgR w' :=h.kp hk (fun f=>f)
theorem jCS{w:LB}{l:List LB}{k:Nat}(hk:k<l.length)(h:w∉l.take k)(hn:l[k]≠w):w∉l.take (k+1):=by
 rw[jK2 hk,List.mem_append];rintro (e|e)
 ·exact h e
 ·rw[jL7]at e;exact hn e.symm
theorem YI(w:World)(hg:SgR w)(s:BA):Calls prog 72 #[.string s] w fun e w' =>e=.returned (.bool (decide (yT (sb s)≠0)))/\w=w' :=by
 have Hr:=G hg;have Hy:=G (jCI (sb s));have Hx:=G (fun j (hj:j<35)=>VJ resR j hj);clear hg;generalize yT (sb s)=n at*;have Df:=G (show resR.take 35=resR from rfl);have Db:=G (fun(j:Nat) (hj:j<35) (e:resR[j]'hj=sb s)=>(show sb s∈resR from e▸jL6 _));have Pm:=G (fun(j:Nat) (hj:j<35)=>jCS (w:=sb s) (l:=resR) (k:=j) hj);have CZ:=G (show sb s∉resR.take 0 from by simp);unfold SgR at Hr;obtain⟨R,MS⟩:∃R,decide (n≠0)=R:=⟨_,rfl⟩;rw[MS];have EJ:=G MS;clear MS;go_enter func72,ntmps72;go_wp2_with fail;go_loop [3] (fun i=>∃j:Nat,j<=35/\i=.int .i64 j/\sb s∉resR.take j) (fun i=>35-(intOf i).toNat)
 case atStart=>exact⟨0,by omega,rfl,CZ.out⟩
 case round=>
  obtain⟨j,hj,rfl,hR⟩:=hrel;by_cases hlt:j<35
  ·have hc:w.cell? ⟨1,j,none⟩=some (.string ⟨(resR[j]'hlt).toArray⟩):=by
    have:=Hr.out j _ (Hx.out j hlt)
    rwa [Nat.zero_add]at this
   have Rg:=Db.out j hlt;have Ng:=Pm.out j hlt hR;generalize resR[j]'hlt=rw at*;have b1:(j:Int)<35:=(by omega);have b2:(0:Int)<=(j:Int):=(by omega);have b3:(j:Int).toNat=j:=(by omega);by_cases he:rw=sb s
   ·have Gc:=Rg he;rw[mk_eq.2 he]at hc;have HN:=G (show R=true from EJ.out.symm.trans<|jK5 (fun e=>Hy.out.1 e Gc));clear he Gc Rg Ng hR;go_wp2;go_ret;exact⟨by rw[HN.out];rfl,rfl⟩
   ·have Fh:¬(⟨rw.toArray⟩:BA)=s:=fun h=>he (mk_eq.1 h);have HT:=G (Ng he);clear he Rg Ng hR;generalize (⟨rw.toArray⟩:BA)=x at*;have Mv:(x.toList==s.toList)=false:=jM3 (fun h=>Fh (VH h));clear Fh;go_wp2;exact⟨⟨j+1,by omega,by go_num,HT.out⟩,by simp[intOf];omega⟩
  ·obtain rfl:j=35:=(by omega);rw[Df.out]at hR;have HN:=G (show R=false from EJ.out.symm.trans<|jK3 (fun e=>e (Hy.out.2 hR)));clear hR;go_wp2;go_ret;exact⟨by rw[HN.out];rfl,rfl⟩
theorem ZC(w:World)(hg:SgR w)(s:BA):Calls prog 21 #[.string s] w fun e w' =>e=.returned (.bool (js (sb s)))/\w=w' :=by
 have Hy:=G (show js (sb s)=(jd (sb s)&&decide (yT (sb s)=0))from rfl);have H:=G (Yn w s);have H2:=G (YI w hg s);generalize yT (sb s)=n at*;generalize jd (sb s)=a at*;generalize js (sb s)=R at*;clear hg;cases a
 ·have Hn:=G (show R=false by rw[Hy.out];rfl);go_enter func21,ntmps21;go_wp2_with (go_at_call 71;refine H.out.mono ?_;rintro e w1 ⟨rfl,rfl⟩);go_ret;exact⟨by rw[Hn.out];rfl,rfl⟩
 ·have Hn:=G (show R= !(decide (n≠0))by rw[Hy.out];simp);generalize decide (n≠0)=b at*;go_enter func21,ntmps21;go_wp2_with (first|(go_at_call 71;refine H.out.mono ?_;rintro e w1 ⟨rfl,rfl⟩)|(go_at_call 72;refine H2.out.mono ?_;rintro e w1 ⟨rfl,rfl⟩))
  all_goals (go_ret;exact⟨by rw[Hn.out];rfl,rfl⟩)
def VA(op:Int):Int:=if op<1\/34<=op then-2 else if op=6 then-1 else if op=23 then 3 else if op=7\/op=8\/op=27 then 1 else if op<=5\/op=24\/op=25\/op=26\/op=29\/op=30 then 0 else 2
theorem jAK(w:World)(op:Int):Calls prog 73 #[.int .i64 op] w fun e w' =>e=.returned (.int .i64 (VA op))/\w=w' :=by
 by_cases h1:op<1
 ·rw[show VA op= -2 by unfold VA;rw[jJ6 (.inl h1)]];go_enter func73,ntmps73;go_wp2;go_ret;exact⟨rfl,rfl⟩
 by_cases h2:34<=op
 ·rw[show VA op= -2 by unfold VA;rw[jJ6 (.inr h2)]];go_enter func73,ntmps73;go_wp2;go_ret;exact⟨rfl,rfl⟩
 have h3:op=1\/op=2\/op=3\/op=4\/op=5\/op=6\/op=7\/op=8\/op=9\/op=10\/op=11\/op=12\/op=13\/op=14\/op=15\/op=16\/op=17\/op=18\/op=19\/op=20\/op=21\/op=22\/op=23\/op=24\/op=25\/op=26\/op=27\/op=28\/op=29\/op=30\/op=31\/op=32\/op=33:=(by omega);clear h1 h2;rcases h3 with rfl|rfl|rfl|rfl|rfl|rfl|rfl|rfl|rfl|rfl|rfl|rfl|rfl|rfl|rfl|rfl|rfl|rfl|rfl|rfl|rfl|rfl|rfl|rfl|rfl|rfl|rfl|rfl|rfl|rfl|rfl|rfl|rfl
 all_goals
  go_enter func73,ntmps73;go_wp2;go_ret;exact⟨rfl,rfl⟩
open Go.RowKit Go.ChangeShapes
theorem JY{P:Program}{w:World}:∀{l:List (String×DataW Unit)} {ps:List MemPlace},DataW.LaidVars P w l ps->∀n d,(n,d)∈l->∃g t cs fuel p,P.globalNamed n=some g/\(P.globals[g]?).map (·.type)=some t/\w.var? P n=some cs/\DataW.trod (fun _=>()) P w 0 (fun _=>true) false fuel t cs.toList=some (d,p)
 |[],_,_,_,_,hm=>by cases hm
 |(n',d')::r,ps,h,n,d,hm=>by
  obtain⟨g,t,cs,fuel,p,q,h1,h2,h3,h4,h5,_⟩:=h;rcases jN4 hm with e|e
  ·cases e;exact⟨g,t,cs,fuel,p,h1,h2,h3,h4⟩
  ·exact JY h5 n d e
theorem Yu{H:Type}{enc:TypeId×Value->H}{P:Program}{w:World}{base:Nat}{sp:Nat->Bool}{held:Bool}{fuel:Nat}{t e:TypeId}{n:Nat}{cs:List Value}{ts:List LB}{p:List MemPlace}
  (ht:P.underlying t=some (.array n e)) (he:P.underlying e=some .string) (AS:P.cellsOf e=1) (Sk:P.cellsOf t=n)
  (h:DataW.trod enc P w base sp held fuel t cs=some (.agg (ts.map fun s=>.lit (.string s)),p)):cs=wvs ts:=by
 cases fuel with
 |zero=>simp[DataW.trod]at h
 |succ fuel=>
  simp only[DataW.trod,ht,AS,Sk,Nat.mul_one]at h;split at h
  ·rename_i hl;obtain⟨xs,hm,hx⟩:=jM4 h;have WD:xs.map (·.1)=ts.map fun s=>(DataW.lit (.string s):DataW H):=by
    have:=congrArg Prod.fst hx;simpa using this
   have DD:xs.length=n:=(by simpa using Lib.mapM_length hm);have PF:ts.length=n:=by
    have:=congrArg List.length WD;simp at this;omega
   unfold wvs;apply List.ext_getElem?;intro i;by_cases hi:i<n
   ·obtain⟨b,hb,hf⟩:=Lib.mapM_at hm i i (by simp[hi]);obtain⟨s,hc,rfl,_⟩:=DataW.trod_string he hf;have h1:cs[i]? =some (.string s):=by
     have:=congrArg (·[0]?) hc;simpa [List.getElem?_take,List.getElem?_drop]using this
    have h2:(xs.map (·.1))[i]? =some (DataW.lit (.string s.data.toList):DataW H):=(by simp[hb]);rw[WD]at h2;simp only[jM1,Option.map_eq_some_iff,DataW.lit.injEq,Lit.string.injEq]at h2;obtain⟨s',DI,e'⟩:=h2;rw[h1,jM1,DI,e'];rfl
   ·rw[List.getElem?_eq_none (by omega),List.getElem?_eq_none (by simp;omega)]
  ·cases h
theorem jH8:prog.globalNamed "docket/text.reserved" =some 0:=by kernel_rfl
theorem jH1:prog.globalNamed "docket/docketref9.reserved" =some 1:=by kernel_rfl
theorem jH7:prog.globalNamed "docket/text.signs" =some 2:=by kernel_rfl
theorem jH9:prog.globalNamed "math/bits.deBruijn64tab" =some 7:=by kernel_rfl
theorem jH0:(prog.globals[0]?).map (·.type)=some 205:=by kernel_rfl
theorem jG6:(prog.globals[1]?).map (·.type)=some 205:=by kernel_rfl
theorem jHz:(prog.globals[2]?).map (·.type)=some 252:=by kernel_rfl
theorem jBu:prog.cellsOf 205=35:=by kernel_rfl
theorem jFq:prog.cellsOf 252=19:=by kernel_rfl
theorem jDy:prog.cellsOf 9=1:=by kernel_rfl
theorem Kk{W:World}{l:List (String×DataW Unit)}{n:String}{g m:Nat}{T:TypeId}{ts:List LB}(h:laidMet prog l W)(hm:(n,.agg (ts.map fun s=>.lit (.string s)))∈l)(hg:prog.globalNamed n=some g)(hT:(prog.globals[g]?).map (·.type)=some T)(hu:prog.underlying T=some (.array m 9))(hc:prog.cellsOf T=m):W.rangeAt g 0 (wvs ts):=by
 obtain⟨ps,hv,_⟩:=h;obtain⟨g',t',cs,fuel,p,h1,h2,h3,h4⟩:=JY hv n _ hm;obtain rfl:=jL5 (hg.symm.trans h1);obtain rfl:=jL5 (hT.symm.trans h2);have e:=Yu hu underlying9 jDy hc h4;intro j v hj;rw[Nat.zero_add,World.var?_cell hg h3 j,<-Array.getElem?_toList,e];exact hj
theorem jEb{W:World}{l:List (String×DataW Unit)}(h:laidMet prog l W)(h1:("docket/text.reserved",Rows.laid_docket_text_reserved)∈l)(h2:("docket/text.signs",Rows.laid_docket_text_signs)∈l)(h3:("math/bits.deBruijn64tab",Rows.laid_math_bits_deBruijn64tab)∈l):Sg W/\8<=W.heap.size:=by
 refine⟨⟨Kk (ts:=resL) h h1 jH8 jH0 underlying205 jBu,Kk (ts:=signL) h h2 jH7 jHz underlying252 jFq⟩,?_⟩;obtain⟨ps,hv,_⟩:=h;obtain⟨g',t',cs,fuel,p,e1,e2,e3,e4⟩:=JY hv _ _ h3;have hlt:7<W.heap.size:=by
  unfold World.var? at e3;rw[jH9]at e3;rcases Nat.lt_or_ge 7 W.heap.size with hl|hl
  ·exact hl
  ·simp[Array.getElem?_eq_none hl]at e3
 exact hlt
theorem jCg{W:World}{l:List (String×DataW Unit)}(h:laidMet prog l W)(h1:("docket/docketref9.reserved",Rows.laid_docket_docketref9_reserved)∈l):SgR W:=Kk (ts:=resR) h h1 jH1 jG6 underlying205 jBu
noncomputable def low:Nat:=(World.holding prog default ⟨#[],#[],[]⟩).heap.size
def pow10:List Int:=[1,10,100,1000,10000,100000,1000000,10000000,100000000,1000000000,10000000000,100000000000,1000000000000,10000000000000,100000000000000,1000000000000000,10000000000000000,100000000000000000,1000000000000000000,10000000000000000000]
def bru32:List Int:=[0,1,28,2,29,14,24,3,30,22,20,15,25,17,4,8,31,27,13,23,21,19,16,7,26,12,18,6,11,5,10,9]
def bru64:List Int:=[0,1,56,2,57,49,28,3,61,58,42,50,38,29,17,4,62,47,59,36,45,43,51,22,53,39,33,30,24,18,12,5,63,55,48,27,60,41,37,16,46,35,44,21,52,32,23,11,54,26,40,15,34,20,31,10,25,14,19,9,13,8,7,6]
noncomputable def laidWorld (os:Os):World:=
 let w0:=World.holding prog os ⟨#[.cells #[.string ⟨#[105,110,118,97,108,105,100,32,115,121,110,116,97,120]⟩] 320,.cells #[.string ⟨#[118,97,108,117,101,32,111,117,116,32,111,102,32,114,97,110,103,101]⟩] 320],#[],[]⟩
 let put (h:Array Obj) (g:Nat) (cs:Array Value):Array Obj:=h.modify g fun
  | .cells _ t frozen=>.cells cs t frozen
  |o=>o
 let h0:=put w0.heap 0 (wvs resL).toArray
 let h1:=put h0 1 (wvs resR).toArray
 let h2:=put h1 2 (wvs signL).toArray
 let h3:=put h2 3 (pow10.map fun z=>Value.int .u64 z).toArray
 let h4:=put h3 4 #[.iface 318 (.pointer (some ⟨low,0,none⟩))]
 let h5:=put h4 5 #[.iface 318 (.pointer (some ⟨low+1,0,none⟩))]
 let h6:=put h5 6 (bru32.map fun z=>Value.int .u8 z).toArray
 let h7:=put h6 7 (bru64.map fun z=>Value.int .u8 z).toArray
 {w0 with heap:=h7}
end Go.Proofs.YtmmjcbbogokmfaaGreatDoor

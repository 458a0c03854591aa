import Derived.Test.YtmmjcbbogokmfaaGreatDoorMb02
import Derived.Test.YtmmjcbbogokmfaaGreatDoorMb18
import Derived.Deep.CutRange
set_option maxRecDepth 100000
set_option maxHeartbeats 25600000
namespace Go.Proofs.YtmmjcbbogokmfaaGreatDoor
open Go.Proofs.Tryz
open Go.RowKit
theorem jG7:(prog.info? 9).map (fun i=>(i.zero,i.size,i.bytes))=some (some (.string ByteArray.empty),1,16):=by kernel_rfl
theorem YT(st:List Nat)(j:Nat)(hj:j<35):zV st (resL.drop j) j=if kI (23+j) st=true then resL[j]'hj::zV st (resL.drop (j+1)) (j+1)else zV st (resL.drop (j+1)) (j+1):=by
 rw[jM9 (show j<resL.length from hj),zV];rfl
structure Wds(w:World)(j:Nat)(st:List Nat)(wr:World)(acc:List LB)(A:OA)(c:Nat):Prop where
 go:zV st resL 0=acc++zV st (resL.drop j) j
 own:wr.ownsRow w.heap.size 9 1 (.slice A acc.length c) acc.length (wvs acc)
 old:Old w wr
 len:acc.length<=j
theorem Wds.skip{w wr:World}{j:Nat}{st:List Nat}{acc:List LB}{A:OA}{c:Nat}(h:Wds w j st wr acc A c)(hj:j<35)(hm:kI (23+j) st=false):Wds w (j+1) st wr acc A c:=
 ⟨by rw[h.go,YT st j hj,jJ5 (by rw[hm];decide)],h.own,h.old,Nat.le_succ_of_le h.len⟩
theorem Wds.next{w wr wx w1:World}{j k:Nat}{st:List Nat}{acc:List LB}{A A' :OA}{c c' :Nat}(h:Wds w j st wr acc A c)(hj:j<35)(hm:kI (23+j) st=true)(hk:acc.length=k)(hx:Old wr wx)
  (Hh:w1.ownsRow w.heap.size 9 1 (.slice A' (k+1) c') (k+1) (wvs acc++[.string ⟨(resL[j]'hj).toArray⟩])) (hg:wx.grownBy w1 (Value.slice A k c).ownBlock):
  ∃acc',Wds w (j+1) st w1 acc' A' c' /\acc'.length=k+1:=by
 subst hk;refine⟨acc++[resL[j]'hj],⟨by rw[h.go,YT st j hj,jJ6 hm,jK1];rfl,?_,?_,by rw[jJ4];have:=h.len;simp;omega⟩,by simp⟩
 ·rw[jJ4,wvs,jN3];exact Hh
 ·exact(h.old.old hx).grown hg (fun k e hlt=>by have:=(h.own.lt k e).1;omega)
theorem jBg:∀(u r:LB),u.isPrefixOf r=(decide (u.length<=r.length)&&(r.take u.length==u))
 |[],r=>by simp
 |a::u,[]=>by simp
 |a::u,b::r=>by
  rw[List.isPrefixOf,jBg u r];by_cases h:u.length<=r.length
  ·by_cases e:a=b
   ·subst e;simp[h]
   ·have e1:(a==b)=false:=jM3 e;have e2:(b==a)=false:=jM3 (fun h=>e h.symm);simp[h,e1,e2]
  ·simp[h]
theorem Uc(s:BA)(a p:Nat)(h1:a<=p)(h2:p<s.size):((sb s).drop a).take (p-a)++[s[p]]=((sb s).drop a).take (p+1-a):=by
 have hl:p-a<((sb s).drop a).length:=by rw[jK8,jB];omega
 have he:((sb s).drop a)[p-a]? =some s[p]:=by
  rw[List.getElem?_drop,show a+(p-a)=p by omega];exact jFr s p h2
 rw[show p+1-a=(p-a)+1 by omega,jK2 hl,(jM5 he).2]
structure SpSt(w:World)(g:Nat)(r:Option Nat)(src:BA)(m:Mc)(A:OA)(c:Nat)(B:OA)(ws:List LB)(nm it:Bool)(X:Option Nat)(p:Nat)(wr:World):Prop where
 le:m.at_ <=p/\p<=src.size
 go:X=zP nm it ws (((sb src).drop m.at_).take (p-m.at_)) ((sb src).drop p) p
 mac:Mac wr g r src {m with at_:=p} A c
 kp:Kp (MX g r) w wr
 rd:Rd wr 1 B ws.length (wvs ws)
 av:Av (MX g r) ws.length B
theorem SpSt.next{w wr W:World}{g:Nat}{r:Option Nat}{src:BA}{m:Mc}{A:OA}{c:Nat}{B:OA}{ws:List LB}{nm it:Bool}{X:Option Nat}{p:Nat}(h:SpSt w g r src m A c B ws nm it X p wr)(hlt:p<src.size)
  (hX:X=zP nm it ws (((sb src).drop m.at_).take (p+1-m.at_)) ((sb src).drop (p+1)) (p+1)) (hW:Old wr W):
  SpSt w g r src m A c B ws nm it X (p+1) (W.setCell ⟨g,1,none⟩ (.int .i64 ((p:Int)+1)))/\src.size-atOf g (W.setCell ⟨g,1,none⟩ (.int .i64 ((p:Int)+1)))<src.size-atOf g wr:=by
 obtain⟨m1,k1⟩:=(h.mac.old hW).setAt (p+1);rw[show((p+1:Nat):Int)=(p:Int)+1 by omega]at m1 k1;refine⟨⟨⟨by have:=h.le.1;omega,hlt⟩,hX,m1,(h.kp.old hW).trans k1 (fun _ _ h=>h),(h.rd.old hW).kp k1 h.av,h.av⟩,?_⟩;rw[m1.atOf,h.mac.atOf];simp only;omega
theorem jA3(w:World)(hg:Sg w)(g:Nat)(r:Option Nat)(src:BA)(m:Mc)(A:OA)(c:Nat)(h:Mac w g r src m A c)(hs:src.size<=1000000)(ha:m.at_ <src.size)(hf:m.from_=m.at_):
  Calls prog 199 #[.pointer (some ⟨g,0,none⟩)] w (MOut w g r src (yR m ((sb src).drop m.at_))):=by
 obtain⟨i0,hi,FF,Gy,GI⟩:=info_parts jG7;have My:=G (fun W (hO:Old w W) t=>KE W g r src m A c (h.old hO) t);have Hv:=G hg.res;have GA:=G (show(prog.info? 205).map (·.size)=some (wvs resL).length from jA6);have Hx:=G (fun j (hj:j<35)=>YR resL j hj);have H0:=G (show Wds w 0 m.stack w [] none 0 from⟨rfl,World.ownsRow_nil _ _ _ _,jQ0 _ _,jL3 _⟩);generalize WY:wvs resL=cs at Hv GA Hx;clear WY;generalize NW:yR m ((sb src).drop m.at_)=R;have CS:=G NW;clear NW;go_enter func199,ntmps199;unfold yv at My;go_wp2_with (first|(go_at_call_of 176 (Value.int .u8 1);refine(My.out _ (jQ0 _ _) 1).mono ?_;rintro e w1 ⟨rfl,rfl⟩)|(go_at_call_of 176 (Value.int .u8 2);refine(My.out _ (jQ0 _ _) 2).mono ?_;rintro e w1 ⟨rfl,rfl⟩)|((with_reducible refine VB 205 (.global 0) ?_);refine uG rfl 205 (.global 0) rfl 0 0 rfl cs _ Hv.out underlying205 rfl GA.out ?_)|fail);go_loopw [4,16] (fun v i wr=>∃(j:Nat) (acc:List LB) (A:OA) (c:Nat),j<=35/\i=.int .i64 j/\v=.slice A acc.length c/\Wds w j m.stack wr acc A c) (fun _ i _=>35-(intOf i).toNat)
 case atStart=>exact⟨0,[],none,0,by omega,rfl,rfl,H0.out⟩
 case round=>
  clear H0;obtain⟨j,acc,Aw,cw,hj,rfl,rfl,hw⟩:=hrel;by_cases hlt:j<35
  ·have Lw:=fun w' =>Qi w' cs j _ (Hx.out j hlt) hlt;have b1:(j:Int)<35:=(by omega);have b2:(0:Int)<=(j:Int):=(by omega);have b3:(j:Int).toNat=j:=(by omega);have b4:IntKind.u8.wrap (j:Int)=(j:Int):=IntWalk.u8_in _ (by omega);have b5:IntKind.u8.wrap (23+(j:Int))=23+(j:Int):=IntWalk.u8_in _ (by omega);have HM:=G (My.out wr hw.old (23+j));rw[show((23+j:Nat):Int)=23+(j:Int)by omega]at HM;cases hm:kI (23+j) m.stack with
   |false=>
    have Hn:=G (hw.skip hlt hm);rw[hm]at HM;clear hw hm;generalize resL[j]'hlt=rj at*;go_wp2_with (go_at_call 176;refine HM.out.mono ?_;rintro e w1 ⟨rfl,rfl⟩);exact⟨⟨j+1,acc,Aw,cw,by omega,by go_num,rfl,Hn.out⟩,by simp[intOf];omega⟩
   |true=>
    have Hn:=G (fun wx w3 A' c' hx h1 h2=>hw.next (wx:=wx) (w1:=w3) (A' :=A') (c' :=c') hlt hm rfl hx h1 h2);have Hh:=hw.own;have FX:=G hw.old;have Fe:=G hw.len;rw[hm]at HM;clear hw hm;generalize hrj:resL[j]'hlt=rj at*;clear hrj;generalize hK:acc.length=K at*;generalize wvs acc=wl at*;clear hK;have GB:=G (show K+1<=maxLen by have:=Fe.out;unfold maxLen;omega);have GH:=G (show(K+1)*16<=140737488355328 by have:=Fe.out;omega);go_wp2_with (first|(go_at_call 176;refine HM.out.mono ?_;rintro e w1 ⟨rfl,rfl⟩)|(at_builtin;refine jF _ rfl (.tmp 25) (.tmp 27) 42 rfl w.heap.size 9 i0 (.string ByteArray.empty) 1 16 underlying42 hi FF Gy GI rfl (by decide) (.slice Aw K cw) K wl rfl (Hh.alloc _) _ 1 1 _ rfl (Rd.one_new _ _ _) (kK _ rfl) GB.out GH.out (jL4 FX.out.size (by simp)) ?_;intro A' c' w3 Fz hgrow Ff)|fail);obtain⟨acc',h1,h2⟩:=Hn.out _ _ _ _ ((jQ0 _ _).alloc _) Fz hgrow;exact⟨⟨j+1,acc',A',c',by omega,by go_num,by rw[h2],h1⟩,by simp[intOf];omega⟩
  ·obtain rfl:j=35:=(by omega);have Fj:=hw.go;rw[show zV m.stack (resL.drop 35) 35=[]from rfl,jN7]at Fj;have NW:=CS.out;unfold yR at NW;rw[Fj,jK8,jB,show m.at_ +(src.size-m.at_)=src.size by omega]at NW;have Gh:=G (show SpSt w g r src m A c Aw acc (kI 1 m.stack) (kI 2 m.stack) (zP (kI 1 m.stack) (kI 2 m.stack) acc [] ((sb src).drop m.at_) m.at_) m.at_ wr from by
    refine⟨⟨jL3 _,by omega⟩,by rw[Nat.sub_self,List.take_zero],h.old hw.old,hw.old.mono (fun _ _ f=>f.elim),Rd.of_own hw.own,fun hn ad e hx=> ?_⟩;have h1:=(hw.own.lt ad.block (by rw[jC,e];rfl)).1;have h2:=h.blk.lt;rcases hx with hx|hx
    ·omega
    ·have:=(h.lt _ hx.symm).2;omega)
   have Px:=G (show R=match zP (kI 1 m.stack) (kI 2 m.stack) acc [] ((sb src).drop m.at_) m.at_ with|some k=>.error k|none=>.ok {m with at_:=src.size,fin:=2}from NW.symm);have Fe:=G hw.len;have RW:=G hf;clear NW CS hw Fj My Hv GA Hx hj hlt hi FF Gy GI hf h;generalize zP (kI 1 m.stack) (kI 2 m.stack) acc [] ((sb src).drop m.at_) m.at_=X at*;generalize kI 1 m.stack=nm at*;generalize kI 2 m.stack=it at*;generalize hn:acc.length=n at*;have Hn:=G hn;clear hn;go_wp2;go_loopw [] (fun wr=>∃p,SpSt w g r src m A c Aw acc nm it X p wr) (fun wr=>src.size-atOf g wr)
   case atStart=>exact⟨_,Gh.out⟩
   case round=>
    clear Gh;obtain⟨p,Fd⟩:=hrel;have GY:=Fd.mac.c0;have FE:=Fd.mac.c1;have Fh:=Fd.mac.c3;have Ms:=Fd.mac.c4;have Ft:=Fd.mac.z 1;have WW:=Fd.mac.z 3;simp only[RW.out]at GY FE Fh Ms;have W5:=Fd.le.1;by_cases hlt:p<src.size
    ·have Fj:=Fd.go;rw[yI src p hlt,zP,Uc src m.at_ p W5 hlt]at Fj;have a1:(p:Int)<(src.size:Int):=(by omega);have a2:(0:Int)<=(p:Int):=(by omega);have a3:(p:Int).toNat=p:=(by omega);have a4:IntKind.i64.wrap ((p:Int)+1)=(p:Int)+1:=jQ3 _ (by omega);have Hw:=G (fun W=>vr W src[p]);unfold bv at Hw;cases NU:jS src[p]with
     |false=>
      rw[jJ6 NU]at Fj;rw[NU]at Hw;have HR:=G (show R=.error p by rw[Px.out,Fj]);have Fw:=G Fd.kp;have a5:((p:Int)==(src.size:Int))=false:=jM3 (by omega);clear Fd Fj Px NU;go_wp2;go_quiet ((go_at_call 129;refine Calls.quiet_of_same ((Hw.out _).mono (fun _ _ h=>⟨h.1,h.2.symm⟩))));go_wp2;go_quiet (fail);go_wp2;refine⟨rfl,?_⟩;rw[HR.out];exact⟨rfl,⟨Fw.out.os,Fw.out.tape,Fw.out.output,Fw.out.size,Fw.out.block⟩⟩
     |true=>
      rw[jJ5 (by rw[NU];decide)]at Fj;rw[NU]at Hw;have Nm:=js src m.at_ (p+1);rw[<-Nm]at Fj;have G6:(src.extract m.at_ (p+1)).size=p+1-m.at_:=by rw[<-jB,Nm,jK9,jK8,jB];omega
      have Ei:=G Nm;clear Nm;generalize V6:src.extract m.at_ (p+1)=sy at*;have H1:=G (fun W=>zO W sy);have H2:=G (fun W=>KS W sy (by omega));have hfit:jEa nm it acc (sb sy)=(nm&&jk (sb sy)||it&&jo (sb sy)||acc.any (fun r=>(sb sy).isPrefixOf r)):=rfl;rw[hfit]at Fj;clear hfit;generalize jk (sb sy)=sN at*;generalize jo (sb sy)=sI at*;obtain⟨B0,TW⟩:∃B,B=(nm&&sN||it&&sI):=⟨_,rfl⟩;rw[<-TW]at Fj;have LO:=G TW;have LI:=G Fj;have GA:=G G6;have X8:=G Fd.rd;have FZ:=G Fd;have a6:(m.at_:Int)<=(p:Int)+1:=(by omega);have a7:(p:Int)+1<=(src.size:Int):=(by omega);have a8:((p:Int)+1).toNat=p+1:=(by omega);have a9:(0:Int)<=(p:Int)+1:=(by omega);have a10:(0:Int)<=(m.at_:Int):=(by omega);have a11:(m.at_:Int).toNat=m.at_:=(by omega);clear Fd Fj TW G6 W5 NU;go_wp2;go_quiet ((go_at_call 129;refine Calls.quiet_of_same ((Hw.out _).mono (fun _ _ h=>⟨h.1,h.2.symm⟩))));go_wp2;go_quiet (fail);go_upto_region 11 with fail;go_cut [8]from 30 to 114 (fun s8 wc=>s8=.bool B0/\Old wr wc)
      case first=>
       rcases (show(nm=false/\it=false)\/(nm=false/\it=true)\/(nm=true/\sN=true)\/(nm=true/\sN=false/\it=false)\/(nm=true/\sN=false/\it=true)by cases nm<;>cases it<;>cases sN<;>simp)with⟨rfl,rfl⟩|⟨rfl,rfl⟩|⟨rfl,rfl⟩|⟨rfl,rfl,rfl⟩|⟨rfl,rfl,rfl⟩
       all_goals
        go_wp2_with (first|(go_at_call 69;refine(H1.out _).mono ?_;rintro e w1 ⟨rfl,rfl⟩)|(go_at_call 226;refine(H2.out _).mono ?_;rintro e w1 ⟨rfl,rfl⟩));go_meet
        case rel=>exact⟨by rw[LO.out];simp,(by first|exact(jQ0 _ _).drewN _ |exact((jQ0 _ _).drewN _).drewN _ |exact jQ0 _ _)⟩
      case rest=>
       obtain⟨rfl,W8⟩:=hcut;have ME:=G W8;have X8:=G (X8.out.old W8);have FE:=(FZ.out.mac.old W8).c1;have Ft:=(FZ.out.mac.old W8).z 1;simp only at FE;clear W8;go_wp2;go_loop [8,87] (fun b i=>∃j:Nat,j<=n/\i=.int .i64 j/\b=.bool (B0||(acc.take j).any (fun r=>(sb sy).isPrefixOf r))) (fun _ i=>n-(intOf i).toNat)
       case atStart=>exact⟨0,Nat.zero_le _,rfl,by simp⟩
       case round=>
        obtain⟨j,hj,rfl,rfl⟩:=hrel;by_cases hlt3:j<n
        ·obtain⟨b,o,u,rfl,hu,FH⟩:=X8.out.at_ (k:=j) (by rw[Hn.out];exact hlt3);have hja:j<acc.length:=by rw[Hn.out];exact hlt3
         rw[YR acc j hja]at hu;simp only[Option.some.injEq]at hu;subst hu;have Mi:(B0||(acc.take (j+1)).any (fun r=>(sb sy).isPrefixOf r))=((B0||(acc.take j).any (fun r=>(sb sy).isPrefixOf r))||(sb sy).isPrefixOf (sb ⟨(acc[j]'hja).toArray⟩)):=by
          rw[jK2 hja,List.any_append,List.any_cons,List.any_nil,Bool.or_false,<-Bool.or_assoc];rfl
         generalize (⟨(acc[j]'hja).toArray⟩:BA)=xs at*;rw[jBg,jB,jB]at Mi;have NH:=G Mi;clear Mi;generalize (B0||(acc.take j).any (fun r=>(sb sy).isPrefixOf r))=q at*;have c1:(j:Int)<(n:Int):=(by omega);have c2:(0:Int)<=(j:Int):=(by omega);have c3:(j:Int).toNat=j:=(by omega);have c4:IntKind.i64.wrap ((j:Int)+1)=(j:Int)+1:=jQ3 _ (by have:=Fe.out;omega);cases q
         ·by_cases Fc:sy.size<=xs.size
          ·have d1:(sy.size:Int)<=(xs.size:Int):=(by omega);have d2:(0:Int)<=(sy.size:Int):=(by omega);have he:((xs.extract 0 sy.size).toList==sy.toList)=((sb xs).take sy.size==sb sy):=by rw[ByteArray.toList_eq,ByteArray.toList_eq];show(sb (xs.extract 0 sy.size)==sb sy)=_;rw[js];simp
           have LH:=G (show(B0||(acc.take (j+1)).any (fun r=>(sb sy).isPrefixOf r))=((xs.extract 0 sy.size).toList==sy.toList)by rw[NH.out,jK5 Fc,he];rfl);clear he Fc NH;go_wp2;exact⟨⟨j+1,by omega,by go_num,by rw[LH.out]⟩,by simp[intOf];omega⟩
          ·have d1:¬(sy.size:Int)<=(xs.size:Int):=(by omega);have LH:=G (show(B0||(acc.take (j+1)).any (fun r=>(sb sy).isPrefixOf r))=false by rw[NH.out,jK3 Fc];rfl);clear Fc NH;go_wp2;exact⟨⟨j+1,by omega,by go_num,by rw[LH.out]⟩,by simp[intOf];omega⟩
         ·have LH:=G (show(B0||(acc.take (j+1)).any (fun r=>(sb sy).isPrefixOf r))=true by rw[NH.out];rfl);clear NH;go_wp2;exact⟨⟨j+1,by omega,by go_num,by rw[LH.out]⟩,by simp[intOf];omega⟩
        ·obtain rfl:j=n:=(by omega);rw[jK4 (by rw[Hn.out];exact jL3 _)];have c1:¬(j:Int)<(j:Int):=(by omega);have Lh:=G LI.out;clear LI;generalize (B0||acc.any (fun r=>(sb sy).isPrefixOf r))=F at*;cases F
         ·have HR:=G (show R=.error p by rw[Px.out,Lh.out];rfl);clear Lh Px;go_wp2;refine⟨rfl,?_⟩;rw[HR.out];exact⟨rfl,FZ.out.kp.old ME.out⟩
         ·have Hs:=G (fun W (hO:Old wr W)=>FZ.out.next hlt (by rw[Lh.out,jJ6 rfl,Ei.out]) hO);clear Lh Px;go_wp2;go_roundw
          case rel=>exact⟨_,(Hs.out _ ME.out).1⟩
          case measure=>exact(Hs.out _ ME.out).2
    ·have hp:p=src.size:=by have:=Fd.le.2;omega
     subst hp;have Fj:=Fd.go;rw[show(sb src).drop src.size=[]from List.drop_of_length_le (by rw[jB];exact jL3 _),zP]at Fj;have HR:=G (show R=.ok {m with at_:=src.size,fin:=2}by rw[Px.out,Fj]);have Hs:=G (fun W (hO:Old wr W)=>(Fd.mac.old hO).setFin 2);have Fw:=G Fd.kp;have a1:¬(src.size:Int)<(src.size:Int):=(by omega);have a5:((src.size:Int)==(src.size:Int))=true:=(by simp);clear Fd Fj Px hlt W5;go_wp2;go_quiet (fail);go_wp2;go_quiet (fail);go_wp2;refine bodyPost_ret (results_none rfl _ _ _) rfl ?_;rw[HR.out];have HH:=fun n=>Hs.out (wr.drewN n) ((jQ0 _ _).drewN n);exact⟨rfl,r,A,c,(HH _).1,(Fw.out.drewN _).trans (HH _).2 (fun _ _ h=>h),.inl rfl⟩
theorem MOut.trans{w W w' :World}{g:Nat}{r r1:Option Nat}{src:BA}{o:Out}{e:Ending}(hk:Kp (MX g r) w W)(hf:MFr w r r1)(h:MOut W g r1 src o e w'):MOut w g r src o e w' :=by
 cases o with
 |ok m' =>exact⟨h.1,MStep.trans hk hf h.2⟩
 |error k=>exact⟨h.1,hk.trans h.2 (MX.trans hf)⟩
theorem zN(p:UInt8->Bool):∀l:LB,l.takeWhile p=l.take (l.takeWhile p).length
 |[]=>rfl
 |a::l=>by
  rw[List.takeWhile_cons];split
  ·rw[jK6,List.take_succ_cons,<-zN p l]
  ·rfl
theorem jAU(w:World)(hg:Sg w)(g:Nat)(r:Option Nat)(src:BA)(m:Mc)(A:OA)(c:Nat)(h:Mac w g r src m A c)(hs:src.size<=1000000)(ha:m.at_ <src.size)(hw0:jS src[m.at_]=true)(Hm:m.stack.length<=1000000):
  Calls prog 162 #[.pointer (some ⟨g,0,none⟩)] w (MOut w g r src (vS m ((sb src).drop m.at_))):=by
 have hl:((sb src).drop m.at_).length=src.size-m.at_:=(by rw[jK8,jB]);have hT:=jDN jS ((sb src).drop m.at_);have hE:=XG jS ((sb src).drop m.at_);have Nl:=zN jS ((sb src).drop m.at_);have Cx:(((sb src).drop m.at_).takeWhile jS).length<=src.size-m.at_:=by rw[<-hl];exact vo _ _
 have DY:0<(((sb src).drop m.at_).takeWhile jS).length:=by
  rw[yI src m.at_ ha];exact kt jS _ _ hw0
 have RK:vS m ((sb src).drop m.at_)=if(((sb src).drop m.at_).takeWhile jS).length<src.size-m.at_ /\vH (((sb src).drop m.at_).takeWhile jS)=true/\kI (jj (((sb src).drop m.at_).takeWhile jS)) m.stack=true then
   vg (jj (((sb src).drop m.at_).takeWhile jS)) {m with from_:=m.at_} (m.at_ +(((sb src).drop m.at_).takeWhile jS).length)else yR {m with from_:=m.at_} ((sb src).drop m.at_):=by rw[vS,hl]
 rw[hl]at hE;generalize hTT:(((sb src).drop m.at_).takeWhile jS).length=T at*;have Nm:sb (src.extract m.at_ (m.at_ +T))=((sb src).drop m.at_).takeWhile jS:=(by rw[js,show m.at_ +T-m.at_=T by omega,<-Nl]);rw[<-Nm]at RK;have HT:=G (show∀k,k<T->∃FB:m.at_ +k<src.size,jS src[m.at_ +k]=true from fun k hk=>by
  obtain⟨c,h1,h2⟩:=hT k hk;obtain⟨h3,h4⟩:=Vk src m.at_ k c h1;exact⟨h3,by rw[h4];exact h2⟩)
 have HE:=G (show T<src.size-m.at_ ->∃FB:m.at_ +T<src.size,jS src[m.at_ +T]=false from fun hlt=>by
  obtain⟨c,h1,h2⟩:=hE hlt;obtain⟨h3,h4⟩:=Vk src m.at_ T c h1;exact⟨h3,by rw[h4];exact h2⟩)
 have G6:(src.extract m.at_ (m.at_ +T)).size=T:=(by rw[<-jB,Nm,hTT]);obtain⟨m1,k1⟩:=h.setFrom m.at_;have FE:=h.c1;have Ms:=h.c4;have R0:=h.z 4;have ND:=hg.mx h k1;clear hl hT hE Nl hTT Nm h hg hw0;generalize V6:src.extract m.at_ (m.at_ +T)=sy at*;have HP:=G (fun W (hO:Old (w.setCell ⟨g,4,none⟩ (.int .i64 (m.at_:Int))) W)=>Uk W (ND.old hO) sy (by omega) (by omega));have HN:=G (fun W (hO:Old (w.setCell ⟨g,4,none⟩ (.int .i64 (m.at_:Int))) W)=>VW W (ND.old hO) sy (by omega));have HM:=G (fun W (hO:Old (w.setCell ⟨g,4,none⟩ (.int .i64 (m.at_:Int))) W)=>KE W g r src _ A c (m1.old hO) (jj (sb sy)));have HS:=G (fun W (hO:Old (w.setCell ⟨g,4,none⟩ (.int .i64 (m.at_:Int))) W)=>jA3 W (ND.old hO) g r src _ A c (m1.old hO) hs ha rfl);have RL:=JS (sb sy);have WU:=G (fun W (hO:Old (w.setCell ⟨g,4,none⟩ (.int .i64 (m.at_:Int))) W)=>by
  have:=(m1.old hO).setAt (m.at_ +T)
  rwa [show((m.at_ +T:Nat):Int)=(m.at_:Int)+T by omega]at this)
 have GG:=G (fun W (hO:Old (w.setCell ⟨g,4,none⟩ (.int .i64 (m.at_:Int))) W)=>VW _ ((ND.old hO).mx (m1.old hO) (WU.out W hO).2) sy (by omega));have Lj:=G (Jz (jj (sb sy)) RL m Hm);have Q4:=G RK;have K1:=G k1;have L9:=m1.c1;have TO:=m1.c0;have Gy:=m1.z 1;simp only at L9 TO HS HM;unfold yv at HM;clear m1 k1 ND RK;generalize NW:vS m ((sb src).drop m.at_)=R at*;generalize jj (sb sy)=N at*;generalize vH (sb sy)=pb at*;generalize hmb:kI N m.stack=mb at*;clear NW hmb;have a10:(0:Int)<=(m.at_:Int):=(by omega);have a11:(m.at_:Int).toNat=m.at_:=(by omega);go_enter func162,ntmps162;go_wp2;generalize Nz:w.setCell ⟨g,4,none⟩ (.int .i64 (m.at_:Int))=w1 at*;go_loop [2] (fun i=>∃j:Nat,j<=T/\i=.int .i64 ((m.at_:Int)+j)) (fun i=>src.size-(intOf i).toNat)
 case atStart=>exact⟨0,Nat.zero_le _,by simp⟩
 case round=>
  obtain⟨j,hj,rfl⟩:=hrel;by_cases hlt:j<T
  ·obtain⟨FB,NU⟩:=HT.out j hlt;have Hw:=G (fun W=>vr W src[m.at_ +j]);unfold bv at Hw;rw[NU]at Hw;clear NU;generalize hp:m.at_ +j=p at*;rw[show(m.at_:Int)+j=(p:Int)by omega];have b1:(p:Int)<(src.size:Int):=(by omega);have b2:(0:Int)<=(p:Int):=(by omega);have b3:(p:Int).toNat=p:=(by omega);have b4:IntKind.i64.wrap ((p:Int)+1)=(p:Int)+1:=jQ3 _ (by omega);go_wp2_with (go_at_call 129;refine(Hw.out _).mono ?_;rintro e w1 ⟨rfl,rfl⟩);exact⟨⟨j+1,by omega,by rw[show(m.at_:Int)+((j+1:Nat):Int)=(p:Int)+1 by omega]⟩,by simp[intOf];omega⟩
  ·obtain rfl:j=T:=(by omega);clear HT;generalize hq:m.at_ +j=q at*;rw[show(m.at_:Int)+(j:Int)=(q:Int)by omega]at WU GG⊢;have c1:(0:Int)<=(q:Int):=(by omega);have c2:(q:Int).toNat=q:=(by omega);have c3:(m.at_:Int)<=(q:Int):=(by omega);have c4:(q:Int)<=(src.size:Int):=(by omega);by_cases FG:q=src.size
   ·have d1:¬(q:Int)<(src.size:Int):=(by omega);have HR:=G (show R=yR {m with from_:=m.at_} ((sb src).drop m.at_)by rw[Q4.out,jJ5 (fun h=>by have:=h.1;omega)]);clear Q4 HE Lj WU FG;generalize yR {m with from_:=m.at_} ((sb src).drop m.at_)=SP at*;cases SP with
    |ok m' =>
     go_wp2;go_quiet (fail);go_wp2_with (first|(go_at_call 129;refine(Hw.out _).mono ?_;rintro e w1 ⟨rfl,rfl⟩)|(go_at_call 198;refine(HP.out _ (by first|exact jQ0 _ _ |exact(jQ0 _ _).drewN _ |exact((jQ0 _ _).drewN _).drewN _)).mono ?_;rintro e w1 ⟨rfl,rfl⟩)|(go_at_call 164;(first|refine(HN.out _ (by first|exact jQ0 _ _ |exact(jQ0 _ _).drewN _ |exact((jQ0 _ _).drewN _).drewN _)).mono ?_ |refine(GG.out _ (by first|exact jQ0 _ _ |exact(jQ0 _ _).drewN _ |exact((jQ0 _ _).drewN _).drewN _)).mono ?_);rintro e w1 ⟨rfl,rfl⟩)|(go_at_call 176;refine(HM.out _ (by first|exact jQ0 _ _ |exact(jQ0 _ _).drewN _ |exact((jQ0 _ _).drewN _).drewN _)).mono ?_;rintro e w1 ⟨rfl,rfl⟩)|(go_at_call 199;refine(HS.out _ (by first|exact jQ0 _ _ |exact(jQ0 _ _).drewN _ |exact((jQ0 _ _).drewN _).drewN _)).mono ?_;rintro e w2 ⟨rfl,hX⟩)|(go_at_call 179;refine(M8.out _ (by first|exact jQ0 _ _ |exact(jQ0 _ _).drewN _ |exact((jQ0 _ _).drewN _).drewN _)).mono ?_;rintro e w2 ⟨rfl,hX⟩));go_end0;rw[HR.out];exact MOut.trans (K1.out.drewN _) (.inl rfl) ⟨rfl,hX⟩
    |error k=>
     go_wp2;go_quiet (fail);go_wp2_with (first|(go_at_call 129;refine(Hw.out _).mono ?_;rintro e w1 ⟨rfl,rfl⟩)|(go_at_call 198;refine(HP.out _ (by first|exact jQ0 _ _ |exact(jQ0 _ _).drewN _ |exact((jQ0 _ _).drewN _).drewN _)).mono ?_;rintro e w1 ⟨rfl,rfl⟩)|(go_at_call 164;(first|refine(HN.out _ (by first|exact jQ0 _ _ |exact(jQ0 _ _).drewN _ |exact((jQ0 _ _).drewN _).drewN _)).mono ?_ |refine(GG.out _ (by first|exact jQ0 _ _ |exact(jQ0 _ _).drewN _ |exact((jQ0 _ _).drewN _).drewN _)).mono ?_);rintro e w1 ⟨rfl,rfl⟩)|(go_at_call 176;refine(HM.out _ (by first|exact jQ0 _ _ |exact(jQ0 _ _).drewN _ |exact((jQ0 _ _).drewN _).drewN _)).mono ?_;rintro e w1 ⟨rfl,rfl⟩)|(go_at_call 199;refine(HS.out _ (by first|exact jQ0 _ _ |exact(jQ0 _ _).drewN _ |exact((jQ0 _ _).drewN _).drewN _)).mono ?_;rintro e w2 ⟨rfl,hX⟩)|(go_at_call 179;refine(M8.out _ (by first|exact jQ0 _ _ |exact(jQ0 _ _).drewN _ |exact((jQ0 _ _).drewN _).drewN _)).mono ?_;rintro e w2 ⟨rfl,hX⟩));refine⟨rfl,?_⟩;rw[HR.out];exact MOut.trans (K1.out.drewN _) (.inl rfl) ⟨rfl,hX⟩
   ·have d1:(q:Int)<(src.size:Int):=(by omega);obtain⟨FB,NU⟩:=HE.out (by omega);have Hw:=G (fun W=>vr W src[q]);unfold bv at Hw;rw[NU]at Hw;clear NU HE;by_cases Nl:pb=true/\mb=true
    ·obtain⟨rfl,rfl⟩:=Nl;obtain⟨n2,s2,Nb,N9,N6⟩:=Lj.out rfl;have HR:=G (show R=.ok {m with from_:=m.at_,at_:=q,stack:=s2}by rw[Q4.out,jJ6 ⟨by omega,rfl,rfl⟩,N6]);have M8:=G (fun W (hO:Old w1 W)=>yp _ g r src _ A c (WU.out W hO).1 N n2 s2 RL Nb N9);unfold yv at M8;clear Q4 Lj FG Nb N9 N6;go_wp2_with (first|(go_at_call 129;refine(Hw.out _).mono ?_;rintro e w1 ⟨rfl,rfl⟩)|(go_at_call 198;refine(HP.out _ (by first|exact jQ0 _ _ |exact(jQ0 _ _).drewN _ |exact((jQ0 _ _).drewN _).drewN _)).mono ?_;rintro e w1 ⟨rfl,rfl⟩)|(go_at_call 164;(first|refine(HN.out _ (by first|exact jQ0 _ _ |exact(jQ0 _ _).drewN _ |exact((jQ0 _ _).drewN _).drewN _)).mono ?_ |refine(GG.out _ (by first|exact jQ0 _ _ |exact(jQ0 _ _).drewN _ |exact((jQ0 _ _).drewN _).drewN _)).mono ?_);rintro e w1 ⟨rfl,rfl⟩)|(go_at_call 176;refine(HM.out _ (by first|exact jQ0 _ _ |exact(jQ0 _ _).drewN _ |exact((jQ0 _ _).drewN _).drewN _)).mono ?_;rintro e w1 ⟨rfl,rfl⟩)|(go_at_call 199;refine(HS.out _ (by first|exact jQ0 _ _ |exact(jQ0 _ _).drewN _ |exact((jQ0 _ _).drewN _).drewN _)).mono ?_;rintro e w2 ⟨rfl,hX⟩)|(go_at_call 179;refine(M8.out _ (by first|exact jQ0 _ _ |exact(jQ0 _ _).drewN _ |exact((jQ0 _ _).drewN _).drewN _)).mono ?_;rintro e w2 ⟨rfl,hX⟩));go_quiet (fail);go_wp2_with (first|(go_at_call 129;refine(Hw.out _).mono ?_;rintro e w1 ⟨rfl,rfl⟩)|(go_at_call 198;refine(HP.out _ (by first|exact jQ0 _ _ |exact(jQ0 _ _).drewN _ |exact((jQ0 _ _).drewN _).drewN _)).mono ?_;rintro e w1 ⟨rfl,rfl⟩)|(go_at_call 164;(first|refine(HN.out _ (by first|exact jQ0 _ _ |exact(jQ0 _ _).drewN _ |exact((jQ0 _ _).drewN _).drewN _)).mono ?_ |refine(GG.out _ (by first|exact jQ0 _ _ |exact(jQ0 _ _).drewN _ |exact((jQ0 _ _).drewN _).drewN _)).mono ?_);rintro e w1 ⟨rfl,rfl⟩)|(go_at_call 176;refine(HM.out _ (by first|exact jQ0 _ _ |exact(jQ0 _ _).drewN _ |exact((jQ0 _ _).drewN _).drewN _)).mono ?_;rintro e w1 ⟨rfl,rfl⟩)|(go_at_call 199;refine(HS.out _ (by first|exact jQ0 _ _ |exact(jQ0 _ _).drewN _ |exact((jQ0 _ _).drewN _).drewN _)).mono ?_;rintro e w2 ⟨rfl,hX⟩)|(go_at_call 179;refine(M8.out _ (by first|exact jQ0 _ _ |exact(jQ0 _ _).drewN _ |exact((jQ0 _ _).drewN _).drewN _)).mono ?_;rintro e w2 ⟨rfl,hX⟩));refine bodyPost_ret (results_none rfl _ _ _) rfl ?_;rw[HR.out];exact MOut.trans ((K1.out.drewN _).trans (WU.out _ (by first|exact jQ0 _ _ |exact(jQ0 _ _).drewN _ |exact((jQ0 _ _).drewN _).drewN _)).2 (fun _ _ h=>h)) (.inl rfl) ⟨rfl,hX⟩
    ·have HR:=G (show R=yR {m with from_:=m.at_} ((sb src).drop m.at_)by rw[Q4.out,jJ5 (fun h=>Nl h.2)]);clear Q4 Lj WU FG;generalize yR {m with from_:=m.at_} ((sb src).drop m.at_)=SP at*;rcases (show pb=false\/(pb=true/\mb=false)by cases pb<;>cases mb<;>simp at Nl⊢)with rfl|⟨rfl,rfl⟩
     all_goals
      clear Nl;cases SP with
      |ok m' =>
       go_wp2_with (first|(go_at_call 129;refine(Hw.out _).mono ?_;rintro e w1 ⟨rfl,rfl⟩)|(go_at_call 198;refine(HP.out _ (by first|exact jQ0 _ _ |exact(jQ0 _ _).drewN _ |exact((jQ0 _ _).drewN _).drewN _)).mono ?_;rintro e w1 ⟨rfl,rfl⟩)|(go_at_call 164;(first|refine(HN.out _ (by first|exact jQ0 _ _ |exact(jQ0 _ _).drewN _ |exact((jQ0 _ _).drewN _).drewN _)).mono ?_ |refine(GG.out _ (by first|exact jQ0 _ _ |exact(jQ0 _ _).drewN _ |exact((jQ0 _ _).drewN _).drewN _)).mono ?_);rintro e w1 ⟨rfl,rfl⟩)|(go_at_call 176;refine(HM.out _ (by first|exact jQ0 _ _ |exact(jQ0 _ _).drewN _ |exact((jQ0 _ _).drewN _).drewN _)).mono ?_;rintro e w1 ⟨rfl,rfl⟩)|(go_at_call 199;refine(HS.out _ (by first|exact jQ0 _ _ |exact(jQ0 _ _).drewN _ |exact((jQ0 _ _).drewN _).drewN _)).mono ?_;rintro e w2 ⟨rfl,hX⟩)|(go_at_call 179;refine(M8.out _ (by first|exact jQ0 _ _ |exact(jQ0 _ _).drewN _ |exact((jQ0 _ _).drewN _).drewN _)).mono ?_;rintro e w2 ⟨rfl,hX⟩));go_quiet (fail);go_wp2_with (first|(go_at_call 129;refine(Hw.out _).mono ?_;rintro e w1 ⟨rfl,rfl⟩)|(go_at_call 198;refine(HP.out _ (by first|exact jQ0 _ _ |exact(jQ0 _ _).drewN _ |exact((jQ0 _ _).drewN _).drewN _)).mono ?_;rintro e w1 ⟨rfl,rfl⟩)|(go_at_call 164;(first|refine(HN.out _ (by first|exact jQ0 _ _ |exact(jQ0 _ _).drewN _ |exact((jQ0 _ _).drewN _).drewN _)).mono ?_ |refine(GG.out _ (by first|exact jQ0 _ _ |exact(jQ0 _ _).drewN _ |exact((jQ0 _ _).drewN _).drewN _)).mono ?_);rintro e w1 ⟨rfl,rfl⟩)|(go_at_call 176;refine(HM.out _ (by first|exact jQ0 _ _ |exact(jQ0 _ _).drewN _ |exact((jQ0 _ _).drewN _).drewN _)).mono ?_;rintro e w1 ⟨rfl,rfl⟩)|(go_at_call 199;refine(HS.out _ (by first|exact jQ0 _ _ |exact(jQ0 _ _).drewN _ |exact((jQ0 _ _).drewN _).drewN _)).mono ?_;rintro e w2 ⟨rfl,hX⟩)|(go_at_call 179;refine(M8.out _ (by first|exact jQ0 _ _ |exact(jQ0 _ _).drewN _ |exact((jQ0 _ _).drewN _).drewN _)).mono ?_;rintro e w2 ⟨rfl,hX⟩));go_end0;rw[HR.out];exact MOut.trans (K1.out.drewN _) (.inl rfl) ⟨rfl,hX⟩
      |error k=>
       go_wp2_with (first|(go_at_call 129;refine(Hw.out _).mono ?_;rintro e w1 ⟨rfl,rfl⟩)|(go_at_call 198;refine(HP.out _ (by first|exact jQ0 _ _ |exact(jQ0 _ _).drewN _ |exact((jQ0 _ _).drewN _).drewN _)).mono ?_;rintro e w1 ⟨rfl,rfl⟩)|(go_at_call 164;(first|refine(HN.out _ (by first|exact jQ0 _ _ |exact(jQ0 _ _).drewN _ |exact((jQ0 _ _).drewN _).drewN _)).mono ?_ |refine(GG.out _ (by first|exact jQ0 _ _ |exact(jQ0 _ _).drewN _ |exact((jQ0 _ _).drewN _).drewN _)).mono ?_);rintro e w1 ⟨rfl,rfl⟩)|(go_at_call 176;refine(HM.out _ (by first|exact jQ0 _ _ |exact(jQ0 _ _).drewN _ |exact((jQ0 _ _).drewN _).drewN _)).mono ?_;rintro e w1 ⟨rfl,rfl⟩)|(go_at_call 199;refine(HS.out _ (by first|exact jQ0 _ _ |exact(jQ0 _ _).drewN _ |exact((jQ0 _ _).drewN _).drewN _)).mono ?_;rintro e w2 ⟨rfl,hX⟩)|(go_at_call 179;refine(M8.out _ (by first|exact jQ0 _ _ |exact(jQ0 _ _).drewN _ |exact((jQ0 _ _).drewN _).drewN _)).mono ?_;rintro e w2 ⟨rfl,hX⟩));go_quiet (fail);go_wp2_with (first|(go_at_call 129;refine(Hw.out _).mono ?_;rintro e w1 ⟨rfl,rfl⟩)|(go_at_call 198;refine(HP.out _ (by first|exact jQ0 _ _ |exact(jQ0 _ _).drewN _ |exact((jQ0 _ _).drewN _).drewN _)).mono ?_;rintro e w1 ⟨rfl,rfl⟩)|(go_at_call 164;(first|refine(HN.out _ (by first|exact jQ0 _ _ |exact(jQ0 _ _).drewN _ |exact((jQ0 _ _).drewN _).drewN _)).mono ?_ |refine(GG.out _ (by first|exact jQ0 _ _ |exact(jQ0 _ _).drewN _ |exact((jQ0 _ _).drewN _).drewN _)).mono ?_);rintro e w1 ⟨rfl,rfl⟩)|(go_at_call 176;refine(HM.out _ (by first|exact jQ0 _ _ |exact(jQ0 _ _).drewN _ |exact((jQ0 _ _).drewN _).drewN _)).mono ?_;rintro e w1 ⟨rfl,rfl⟩)|(go_at_call 199;refine(HS.out _ (by first|exact jQ0 _ _ |exact(jQ0 _ _).drewN _ |exact((jQ0 _ _).drewN _).drewN _)).mono ?_;rintro e w2 ⟨rfl,hX⟩)|(go_at_call 179;refine(M8.out _ (by first|exact jQ0 _ _ |exact(jQ0 _ _).drewN _ |exact((jQ0 _ _).drewN _).drewN _)).mono ?_;rintro e w2 ⟨rfl,hX⟩));refine⟨rfl,?_⟩;rw[HR.out];exact MOut.trans (K1.out.drewN _) (.inl rfl) ⟨rfl,hX⟩
abbrev GX(g:Nat):Nat->Prop:=fun b=>b=g
def rdC(src:BA)(r:Rdr)(xs:List Value):List Value:=.string src:: .int .i64 (r.at_:Int):: .int .i64 (r.from_:Int):: .int .u8 (r.t:Int):: .int .i64 (r.order:Int)::xs
def Rb(w:World)(g:Nat)(src:BA)(r:Rdr)(xs:List Value):Prop:=Blk w g 165 (rdC src r xs).toArray
section
variable{w w1:World}{g:Nat}{src:BA}{r:Rdr}{xs:List Value}
theorem Rb.c0(h:Rb w g src r xs):w.cell? ⟨g,0,none⟩=some (.string src):=Blk.at_ h 0 rfl
theorem Rb.c1(h:Rb w g src r xs):w.cell? ⟨g,1,none⟩=some (.int .i64 (r.at_:Int)):=Blk.at_ h 1 rfl
theorem Rb.c2(h:Rb w g src r xs):w.cell? ⟨g,2,none⟩=some (.int .i64 (r.from_:Int)):=Blk.at_ h 2 rfl
theorem Rb.c3(h:Rb w g src r xs):w.cell? ⟨g,3,none⟩=some (.int .u8 (r.t:Int)):=Blk.at_ h 3 rfl
theorem Rb.c4(h:Rb w g src r xs):w.cell? ⟨g,4,none⟩=some (.int .i64 (r.order:Int)):=Blk.at_ h 4 rfl
theorem Rb.z(h:Rb w g src r xs)(i:Nat):w.frozen? ⟨g,i,none⟩=false:=Blk.frozen h i
theorem Rb.old(h:Rb w g src r xs)(ho:Old w w1):Rb w1 g src r xs:=Blk.old h ho
theorem Rb.drewN(h:Rb w g src r xs)(n:Nat):Rb (w.drewN n) g src r xs:=h
theorem Rb.kp{X:Nat->Prop}(h:Rb w g src r xs)(ho:Kp X w w1)(hx:¬X g):Rb w1 g src r xs:=Blk.kp h ho hx
theorem Rb.setAt(h:Rb w g src r xs)(k:Nat):Rb (w.setCell ⟨g,1,none⟩ (.int .i64 (k:Int))) g src {r with at_:=k} xs/\Kp (fun b=>b=g) w (w.setCell ⟨g,1,none⟩ (.int .i64 (k:Int))):=
 ⟨by simpa [Rb,rdC]using Blk.set_ h 1 (.int .i64 (k:Int)),(jQ0 (fun b=>b=g) w).setCell (p:=⟨g,1,none⟩) (fun _=>rfl) _⟩
theorem Rb.setFrom(h:Rb w g src r xs)(k:Nat):Rb (w.setCell ⟨g,2,none⟩ (.int .i64 (k:Int))) g src {r with from_:=k} xs/\Kp (fun b=>b=g) w (w.setCell ⟨g,2,none⟩ (.int .i64 (k:Int))):=
 ⟨by simpa [Rb,rdC]using Blk.set_ h 2 (.int .i64 (k:Int)),(jQ0 (fun b=>b=g) w).setCell (p:=⟨g,2,none⟩) (fun _=>rfl) _⟩
theorem Rb.setT(h:Rb w g src r xs)(k:Nat):Rb (w.setCell ⟨g,3,none⟩ (.int .u8 (k:Int))) g src {r with t:=k} xs/\Kp (fun b=>b=g) w (w.setCell ⟨g,3,none⟩ (.int .u8 (k:Int))):=
 ⟨by simpa [Rb,rdC]using Blk.set_ h 3 (.int .u8 (k:Int)),(jQ0 (fun b=>b=g) w).setCell (p:=⟨g,3,none⟩) (fun _=>rfl) _⟩
theorem Rb.setOrder(h:Rb w g src r xs)(k:Nat):Rb (w.setCell ⟨g,4,none⟩ (.int .i64 (k:Int))) g src {r with order:=k} xs/\Kp (fun b=>b=g) w (w.setCell ⟨g,4,none⟩ (.int .i64 (k:Int))):=
 ⟨by simpa [Rb,rdC]using Blk.set_ h 4 (.int .i64 (k:Int)),(jQ0 (fun b=>b=g) w).setCell (p:=⟨g,4,none⟩) (fun _=>rfl) _⟩
end
theorem jBA(src:BA)(r:Rdr):sb (src.extract r.from_ r.at_)=kC (sb src) r:=by
 rw[js,kC,List.drop_take]
theorem VZ(w:World)(g:Nat)(src:BA)(r:Rdr)(xs:List Value)(h:Rb w g src r xs)(h1:r.from_ <=r.at_)(h2:r.at_ <=src.size):
  Calls prog 165 #[.pointer (some ⟨g,0,none⟩)] w fun e w' =>e=.returned (.string (src.extract r.from_ r.at_))/\∃n,w' =w.drewN n:=by
 have GY:=h.c0;have FE:=h.c1;have Fq:=h.c2;have a1:(r.at_:Int)<=(src.size:Int):=(by omega);have a2:(0:Int)<=(r.from_:Int):=(by omega);have a3:(r.from_:Int).toNat=r.from_:=(by omega);have a4:(r.from_:Int)<=(r.at_:Int):=(by omega);have a5:(r.at_:Int).toNat=r.at_:=(by omega);clear h h1 h2;go_enter func165,ntmps165;go_wp2;go_quiet (fail);go_wp2;go_ret;exact⟨rfl,_,rfl⟩
end Go.Proofs.YtmmjcbbogokmfaaGreatDoor

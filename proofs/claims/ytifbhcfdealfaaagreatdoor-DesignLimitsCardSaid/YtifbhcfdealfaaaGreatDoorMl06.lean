import Derived.Test.YtifbhcfdealfaaaGreatDoorMl04
import Derived.Test.YtifbhcfdealfaaaGreatDoorMl05
import Derived.Deep.CutRange
import Derived.Deep.MidRow
import Derived.ChangeSame
set_option maxRecDepth 100000
set_option maxHeartbeats 25600000
namespace Go.Proofs.YtifbhcfdealfaaaGreatDoor
open Go.Proofs.Tryz
open Go.RowKit
theorem Xm:(prog.info? 9).map (fun i=>(i.zero,i.size,i.bytes))=some (some (.string ByteArray.empty),1,16):=by kernel_rfl
theorem KP(st:List Nat)(j:Nat)(hj:j<35):yn st (resL.drop j) j=if jz (23+j) st=true then resL[j]'hj::yn st (resL.drop (j+1)) (j+1)else yn st (resL.drop (j+1)) (j+1):=by
 rw[jM9 (show j<resL.length from hj),yn];rfl
theorem jFl(l:List LB):∀u∈wvs l,u.oneCell' =true:=by
 intro u hu;obtain⟨b,_,rfl⟩:=List.mem_map.1 hu;rfl
structure Wds(w:World)(j:Nat)(st:List Nat)(wr:World)(acc:List LB)(A:OA)(c:Nat):Prop where
 go:yn st resL 0=acc++yn st (resL.drop j) j
 own:wr.ownsRow w.heap.size 9 1 (.slice A acc.length c) acc.length (wvs acc)
 old:Old w wr
 len:acc.length<=j
theorem Wds.skip{w wr:World}{j:Nat}{st:List Nat}{acc:List LB}{A:OA}{c:Nat}(h:Wds w j st wr acc A c)(hj:j<35)(hm:jz (23+j) st=false):Wds w (j+1) st wr acc A c:=
 ⟨by rw[h.go,KP st j hj,jJ5 (by rw[hm];decide)],h.own,h.old,Nat.le_succ_of_le h.len⟩
theorem Wds.next{w wr wx w1:World}{j k:Nat}{st:List Nat}{acc:List LB}{A A' :OA}{c c' :Nat}(h:Wds w j st wr acc A c)(hj:j<35)(hm:jz (23+j) st=true)(hk:acc.length=k)(hx:Old wr wx)
  (hI:w1.ownsRow w.heap.size 9 1 (.slice A' (k+1) c') (k+1) (wvs acc++[.string ⟨(resL[j]'hj).toArray⟩])) (hg:wx.grownBy w1 (Value.slice A k c).ownBlock):
  ∃acc',Wds w (j+1) st w1 acc' A' c' /\acc'.length=k+1:=by
 subst hk;refine⟨acc++[resL[j]'hj],⟨by rw[h.go,KP st j hj,jJ6 hm,jK1];rfl,?_,?_,by rw[jJ4];have:=h.len;simp;omega⟩,by simp⟩
 ·rw[jJ4,wvs,jN3];exact hI
 ·exact(h.old.old hx).grown hg (fun k e hlt=>by have:=(h.own.lt k e).1;omega)
theorem jBr:∀(u r:LB),u.isPrefixOf r=(decide (u.length<=r.length)&&(r.take u.length==u))
 |[],r=>by simp
 |a::u,[]=>by simp
 |a::u,b::r=>by
  rw[List.isPrefixOf,jBr u r];by_cases h:u.length<=r.length
  ·by_cases e:a=b
   ·subst e;simp[h]
   ·have e1:(a==b)=false:=jM3 e;have e2:(b==a)=false:=jM3 (fun h=>e h.symm);simp[h,e1,e2]
  ·simp[h]
theorem uH(s:BA)(a p:Nat)(h1:a<=p)(h2:p<s.size):((sb s).drop a).take (p-a)++[s[p]]=((sb s).drop a).take (p+1-a):=by
 have hl:p-a<((sb s).drop a).length:=by rw[jK8,jB];omega
 have he:((sb s).drop a)[p-a]? =some s[p]:=by
  rw[List.getElem?_drop,show a+(p-a)=p by omega];exact jCW s p h2
 rw[show p+1-a=(p-a)+1 by omega,jK2 hl,(jM5 he).2]
structure SpSt(w:World)(g:Nat)(r:Option Nat)(src:BA)(m:Mc)(A:OA)(c:Nat)(B:OA)(ws:List LB)(nm it:Bool)(X:Option Nat)(p:Nat)(wr:World):Prop where
 le:m.at_ <=p/\p<=src.size
 go:X=vD nm it ws (((sb src).drop m.at_).take (p-m.at_)) ((sb src).drop p) p
 mac:Mac wr g r src {m with at_:=p} A c
 kp:Kp (MX g r) w wr
 rd:Rd wr 1 B ws.length (wvs ws)
 av:Av (MX g r) ws.length B
theorem SpSt.next{w wr W:World}{g:Nat}{r:Option Nat}{src:BA}{m:Mc}{A:OA}{c:Nat}{B:OA}{ws:List LB}{nm it:Bool}{X:Option Nat}{p:Nat}(h:SpSt w g r src m A c B ws nm it X p wr)(hlt:p<src.size)
  (hX:X=vD nm it ws (((sb src).drop m.at_).take (p+1-m.at_)) ((sb src).drop (p+1)) (p+1)) (hW:Old wr W):
  SpSt w g r src m A c B ws nm it X (p+1) (W.setCell ⟨g,1,none⟩ (.int .i64 ((p:Int)+1)))/\src.size-atOf g (W.setCell ⟨g,1,none⟩ (.int .i64 ((p:Int)+1)))<src.size-atOf g wr:=by
 obtain⟨m1,k1⟩:=(h.mac.old hW).setAt (p+1);rw[show((p+1:Nat):Int)=(p:Int)+1 by omega]at m1 k1;refine⟨⟨⟨by have:=h.le.1;omega,hlt⟩,hX,m1,(h.kp.old hW).trans k1 (fun _ _ h=>h),(h.rd.old hW).kp k1 h.av,h.av⟩,?_⟩;rw[m1.atOf,h.mac.atOf];simp only;omega
theorem Qa(w:World)(hg:Sg w)(g:Nat)(r:Option Nat)(src:BA)(m:Mc)(A:OA)(c:Nat)(h:Mac w g r src m A c)(hs:src.size<=1000000)(ha:m.at_ <src.size)(hf:m.from_=m.at_):
  Calls prog 255 #[.pointer (some ⟨g,0,none⟩)] w (MOut w g r src (vU m ((sb src).drop m.at_))):=by
 obtain⟨i0,hi,FJ,Gw,GQ⟩:=info_parts Xm;have Mb:=G (fun W (hO:Old w W) t=>Jh W g r src m A c (h.old hO) t);have Fc:=G hg.res;have FA:=G (show(prog.info? 248).map (·.size)=some (wvs resL).length from jBh);have Hx:=G (fun j (hj:j<35)=>qx resL j hj);have H0:=G (show Wds w 0 m.stack w [] none 0 from⟨rfl,World.ownsRow_nil _ _ _ _,jQ0 _ _,jL3 _⟩);generalize ML:wvs resL=cs at Fc FA Hx;clear ML;generalize Nl:vU m ((sb src).drop m.at_)=R;have Et:=G Nl;clear Nl;go_enter func255,ntmps255;unfold yv at Mb;go_wp2_with (first|(go_at_call_of 251 (Value.int .u8 1);refine(Mb.out _ (jQ0 _ _) 1).mono ?_;rintro e w1 ⟨rfl,rfl⟩)|(go_at_call_of 251 (Value.int .u8 2);refine(Mb.out _ (jQ0 _ _) 2).mono ?_;rintro e w1 ⟨rfl,rfl⟩)|((with_reducible refine yN 248 (.global 1) ?_);refine Jo rfl 248 (.global 1) rfl 1 0 rfl cs _ Fc.out underlying248 rfl FA.out ?_)|fail);go_loopw [4,16] (fun v i wr=>∃(j:Nat) (acc:List LB) (A:OA) (c:Nat),j<=35/\i=.int .i64 j/\v=.slice A acc.length c/\Wds w j m.stack wr acc A c) (fun _ i _=>35-(intOf i).toNat)
 case atStart=>exact⟨0,[],none,0,by omega,rfl,rfl,H0.out⟩
 case round=>
  clear H0;obtain⟨j,acc,Aw,cw,hj,rfl,rfl,hw⟩:=hrel;by_cases hlt:j<35
  ·have Wc:=fun w' =>Xt w' cs j _ (Hx.out j hlt) hlt;have b1:(j:Int)<35:=(by omega);have b2:(0:Int)<=(j:Int):=(by omega);have b3:(j:Int).toNat=j:=(by omega);have b4:IntKind.u8.wrap (j:Int)=(j:Int):=IntWalk.u8_in _ (by omega);have b5:IntKind.u8.wrap (23+(j:Int))=23+(j:Int):=IntWalk.u8_in _ (by omega);have HM:=G (Mb.out wr hw.old (23+j));rw[show((23+j:Nat):Int)=23+(j:Int)by omega]at HM;cases hm:jz (23+j) m.stack with
   |false=>
    have Hn:=G (hw.skip hlt hm);rw[hm]at HM;clear hw hm;generalize resL[j]'hlt=rj at*;go_wp2_with (go_at_call 251;refine HM.out.mono ?_;rintro e w1 ⟨rfl,rfl⟩);exact⟨⟨j+1,acc,Aw,cw,by omega,by go_num,rfl,Hn.out⟩,by simp[intOf];omega⟩
   |true=>
    have Hn:=G (fun wx w3 A' c' hx h1 h2=>hw.next (wx:=wx) (w1:=w3) (A' :=A') (c' :=c') hlt hm rfl hx h1 h2);have hI:=hw.own;have Pg:=G hw.old;have FP:=G hw.len;rw[hm]at HM;clear hw hm;generalize hrj:resL[j]'hlt=rj at*;clear hrj;generalize hK:acc.length=K at*;generalize wvs acc=wl at*;clear hK;have FM:=G (show K+1<=maxLen by have:=FP.out;unfold maxLen;omega);have FN:=G (show(K+1)*16<=140737488355328 by have:=FP.out;omega);go_wp2_with (first|(go_at_call 251;refine HM.out.mono ?_;rintro e w1 ⟨rfl,rfl⟩)|(at_builtin;refine jG _ rfl (.tmp 25) (.tmp 27) 45 rfl w.heap.size 9 i0 (.string ByteArray.empty) 1 16 underlying45 hi FJ Gw GQ rfl (by decide) (.slice Aw K cw) K wl rfl (hI.alloc _) _ 1 1 _ rfl (Rd.one_new _ _ _) (kI _ rfl) FM.out FN.out (jL4 Pg.out.size (by simp)) ?_;intro A' c' w3 Ft hgrow F1)|fail);obtain⟨acc',h1,h2⟩:=Hn.out _ _ _ _ ((jQ0 _ _).alloc _) Ft hgrow;exact⟨⟨j+1,acc',A',c',by omega,by go_num,by rw[h2],h1⟩,by simp[intOf];omega⟩
  ·obtain rfl:j=35:=(by omega);have Fh:=hw.go;rw[show yn m.stack (resL.drop 35) 35=[]from rfl,jN7]at Fh;have Nl:=Et.out;unfold vU at Nl;rw[Fh,jK8,jB,show m.at_ +(src.size-m.at_)=src.size by omega]at Nl;have Fi:=G (show SpSt w g r src m A c Aw acc (jz 1 m.stack) (jz 2 m.stack) (vD (jz 1 m.stack) (jz 2 m.stack) acc [] ((sb src).drop m.at_) m.at_) m.at_ wr from by
    refine⟨⟨jL3 _,by omega⟩,by rw[Nat.sub_self,List.take_zero],h.old hw.old,hw.old.mono (fun _ _ f=>f.elim),Rd.of_own hw.own,fun hn ad e hx=> ?_⟩;have h1:=(hw.own.lt ad.block (by rw[jA,e];rfl)).1;have h2:=h.blk.lt;rcases hx with hx|hx
    ·omega
    ·have:=(h.lt _ hx.symm).2;omega)
   have V6:=G (show R=match vD (jz 1 m.stack) (jz 2 m.stack) acc [] ((sb src).drop m.at_) m.at_ with|some k=>.error k|none=>.ok {m with at_:=src.size,fin:=2}from Nl.symm);have FP:=G hw.len;have Sq:=G hf;clear Nl Et hw Fh Mb Fc FA Hx hj hlt hi FJ Gw GQ hf h;generalize vD (jz 1 m.stack) (jz 2 m.stack) acc [] ((sb src).drop m.at_) m.at_=X at*;generalize jz 1 m.stack=nm at*;generalize jz 2 m.stack=it at*;generalize hn:acc.length=n at*;have Hn:=G hn;clear hn;go_wp2;go_loopw [] (fun wr=>∃p,SpSt w g r src m A c Aw acc nm it X p wr) (fun wr=>src.size-atOf g wr)
   case atStart=>exact⟨_,Fi.out⟩
   case round=>
    clear Fi;obtain⟨p,Fb⟩:=hrel;have GT:=Fb.mac.c0;have FI:=Fb.mac.c1;have Fq:=Fb.mac.c3;have MN:=Fb.mac.c4;have Fv:=Fb.mac.z 1;have Ww:=Fb.mac.z 3;simp only[Sq.out]at GT FI Fq MN;have NB:=Fb.le.1;by_cases hlt:p<src.size
    ·have Fh:=Fb.go;rw[vY src p hlt,vD,uH src m.at_ p NB hlt]at Fh;have a1:(p:Int)<(src.size:Int):=(by omega);have a2:(0:Int)<=(p:Int):=(by omega);have a3:(p:Int).toNat=p:=(by omega);have a4:IntKind.i64.wrap ((p:Int)+1)=(p:Int)+1:=jQ3 _ (by omega);have Hw:=G (fun W=>kw W src[p]);unfold bv at Hw;cases Fo:jR src[p]with
     |false=>
      rw[jJ6 Fo]at Fh;rw[Fo]at Hw;have HR:=G (show R=.error p by rw[V6.out,Fh]);have Fl:=G Fb.kp;have a5:((p:Int)==(src.size:Int))=false:=jM3 (by omega);clear Fb Fh V6 Fo;go_wp2;go_quiet ((go_at_call 165;refine Calls.quiet_of_same ((Hw.out _).mono (fun _ _ h=>⟨h.1,h.2.symm⟩))));go_wp2;go_quiet (fail);go_wp2;refine⟨rfl,?_⟩;rw[HR.out];exact⟨rfl,⟨Fl.out.os,Fl.out.tape,Fl.out.output,Fl.out.size,Fl.out.block⟩⟩
     |true=>
      rw[jJ5 (by rw[Fo];decide)]at Fh;rw[Fo]at Hw;have Nf:=jt src m.at_ (p+1);rw[<-Nf]at Fh;have FK:(src.extract m.at_ (p+1)).size=p+1-m.at_:=by rw[<-jB,Nf,jK9,jK8,jB];omega
      have Bk:=G Nf;clear Nf;generalize hsx:src.extract m.at_ (p+1)=sy at*;have H1:=G (fun W=>zf W sy);have H2:=G (fun W=>JA W sy (by omega));have hfit:UE nm it acc (sb sy)=(nm&&ji (sb sy)||it&&jZ (sb sy)||acc.any (fun r=>(sb sy).isPrefixOf r)):=rfl;rw[hfit]at Fh;clear hfit;generalize ji (sb sy)=sN at*;generalize jZ (sb sy)=sI at*;obtain⟨B0,P6⟩:∃B,B=(nm&&sN||it&&sI):=⟨_,rfl⟩;rw[<-P6]at Fh;have Gz:=G P6;have WD:=G Fh;have FA:=G FK;have Cd:=G Fb.rd;have Gk:=G Fb;have a6:(m.at_:Int)<=(p:Int)+1:=(by omega);have a7:(p:Int)+1<=(src.size:Int):=(by omega);have a8:((p:Int)+1).toNat=p+1:=(by omega);have a9:(0:Int)<=(p:Int)+1:=(by omega);have a10:(0:Int)<=(m.at_:Int):=(by omega);have a11:(m.at_:Int).toNat=m.at_:=(by omega);clear Fb Fh P6 FK NB Fo;go_wp2;go_quiet ((go_at_call 165;refine Calls.quiet_of_same ((Hw.out _).mono (fun _ _ h=>⟨h.1,h.2.symm⟩))));go_wp2;go_quiet (fail);go_upto_region 11 with fail;go_cut [8]from 30 to 114 (fun s8 wc=>s8=.bool B0/\Old wr wc)
      case first=>
       rcases (show(nm=false/\it=false)\/(nm=false/\it=true)\/(nm=true/\sN=true)\/(nm=true/\sN=false/\it=false)\/(nm=true/\sN=false/\it=true)by cases nm<;>cases it<;>cases sN<;>simp)with⟨rfl,rfl⟩|⟨rfl,rfl⟩|⟨rfl,rfl⟩|⟨rfl,rfl,rfl⟩|⟨rfl,rfl,rfl⟩
       all_goals
        go_wp2_with (first|(go_at_call 113;refine(H1.out _).mono ?_;rintro e w1 ⟨rfl,rfl⟩)|(go_at_call 287;refine(H2.out _).mono ?_;rintro e w1 ⟨rfl,rfl⟩));go_meet
        case rel=>exact⟨by rw[Gz.out];simp,(by first|exact(jQ0 _ _).drewN _ |exact((jQ0 _ _).drewN _).drewN _ |exact jQ0 _ _)⟩
      case rest=>
       obtain⟨rfl,Nu⟩:=hcut;have Ml:=G Nu;have Cd:=G (Cd.out.old Nu);have FI:=(Gk.out.mac.old Nu).c1;have Fv:=(Gk.out.mac.old Nu).z 1;simp only at FI;clear Nu;go_wp2;go_loop [8,87] (fun b i=>∃j:Nat,j<=n/\i=.int .i64 j/\b=.bool (B0||(acc.take j).any (fun r=>(sb sy).isPrefixOf r))) (fun _ i=>n-(intOf i).toNat)
       case atStart=>exact⟨0,Nat.zero_le _,rfl,by simp⟩
       case round=>
        obtain⟨j,hj,rfl,rfl⟩:=hrel;by_cases hlt3:j<n
        ·obtain⟨b,o,u,rfl,hu,Ff⟩:=Cd.out.at_ (k:=j) (by rw[Hn.out];exact hlt3);have hja:j<acc.length:=by rw[Hn.out];exact hlt3
         rw[qx acc j hja]at hu;simp only[Option.some.injEq]at hu;subst hu;have WS:(B0||(acc.take (j+1)).any (fun r=>(sb sy).isPrefixOf r))=((B0||(acc.take j).any (fun r=>(sb sy).isPrefixOf r))||(sb sy).isPrefixOf (sb ⟨(acc[j]'hja).toArray⟩)):=by
          rw[jK2 hja,List.any_append,List.any_cons,List.any_nil,Bool.or_false,<-Bool.or_assoc];rfl
         generalize (⟨(acc[j]'hja).toArray⟩:BA)=xs at*;rw[jBr,jB,jB]at WS;have Na:=G WS;clear WS;generalize (B0||(acc.take j).any (fun r=>(sb sy).isPrefixOf r))=q at*;have c1:(j:Int)<(n:Int):=(by omega);have c2:(0:Int)<=(j:Int):=(by omega);have c3:(j:Int).toNat=j:=(by omega);have c4:IntKind.i64.wrap ((j:Int)+1)=(j:Int)+1:=jQ3 _ (by have:=FP.out;omega);cases q
         ·by_cases Gx:sy.size<=xs.size
          ·have d1:(sy.size:Int)<=(xs.size:Int):=(by omega);have d2:(0:Int)<=(sy.size:Int):=(by omega);have he:((xs.extract 0 sy.size).toList==sy.toList)=((sb xs).take sy.size==sb sy):=by rw[ByteArray.toList_eq,ByteArray.toList_eq];show(sb (xs.extract 0 sy.size)==sb sy)=_;rw[jt];simp
           have Sn:=G (show(B0||(acc.take (j+1)).any (fun r=>(sb sy).isPrefixOf r))=((xs.extract 0 sy.size).toList==sy.toList)by rw[Na.out,jK5 Gx,he];rfl);clear he Gx Na;go_wp2;exact⟨⟨j+1,by omega,by go_num,by rw[Sn.out]⟩,by simp[intOf];omega⟩
          ·have d1:¬(sy.size:Int)<=(xs.size:Int):=(by omega);have Sn:=G (show(B0||(acc.take (j+1)).any (fun r=>(sb sy).isPrefixOf r))=false by rw[Na.out,jK3 Gx];rfl);clear Gx Na;go_wp2;exact⟨⟨j+1,by omega,by go_num,by rw[Sn.out]⟩,by simp[intOf];omega⟩
         ·have Sn:=G (show(B0||(acc.take (j+1)).any (fun r=>(sb sy).isPrefixOf r))=true by rw[Na.out];rfl);clear Na;go_wp2;exact⟨⟨j+1,by omega,by go_num,by rw[Sn.out]⟩,by simp[intOf];omega⟩
        ·obtain rfl:j=n:=(by omega);rw[jK4 (by rw[Hn.out];exact jL3 _)];have c1:¬(j:Int)<(j:Int):=(by omega);have V1:=G WD.out;clear WD;generalize (B0||acc.any (fun r=>(sb sy).isPrefixOf r))=F at*;cases F
         ·have HR:=G (show R=.error p by rw[V6.out,V1.out];rfl);clear V1 V6;go_wp2;refine⟨rfl,?_⟩;rw[HR.out];exact⟨rfl,Gk.out.kp.old Ml.out⟩
         ·have Hs:=G (fun W (hO:Old wr W)=>Gk.out.next hlt (by rw[V1.out,jJ6 rfl,Bk.out]) hO);clear V1 V6;go_wp2;go_roundw
          case rel=>exact⟨_,(Hs.out _ Ml.out).1⟩
          case measure=>exact(Hs.out _ Ml.out).2
    ·have hp:p=src.size:=by have:=Fb.le.2;omega
     subst hp;have Fh:=Fb.go;rw[show(sb src).drop src.size=[]from List.drop_of_length_le (by rw[jB];exact jL3 _),vD]at Fh;have HR:=G (show R=.ok {m with at_:=src.size,fin:=2}by rw[V6.out,Fh]);have Hs:=G (fun W (hO:Old wr W)=>(Fb.mac.old hO).setFin 2);have Fl:=G Fb.kp;have a1:¬(src.size:Int)<(src.size:Int):=(by omega);have a5:((src.size:Int)==(src.size:Int))=true:=(by simp);clear Fb Fh V6 hlt NB;go_wp2;go_quiet (fail);go_wp2;go_quiet (fail);go_wp2;refine bodyPost_ret (results_none rfl _ _ _) rfl ?_;rw[HR.out];have HH:=fun n=>Hs.out (wr.drewN n) ((jQ0 _ _).drewN n);exact⟨rfl,r,A,c,(HH _).1,(Fl.out.drewN _).trans (HH _).2 (fun _ _ h=>h),.inl rfl⟩
def Vv(w:World)(g:Nat):Nat->List Value->World
 |_,[]=>w
 |i,v::vs=>Vv (w.setCell ⟨g,i,none⟩ v) g (i+1) vs
theorem Kp.setL(g:Nat):∀(vs:List Value) (w:World) (i:Nat),Kp (fun k=>k=g) w (Vv w g i vs)
 |[],w,_=>jQ0 _ w
 |v::vs,w,i=>((jQ0 (fun k=>k=g) w).setCell (p:=⟨g,i,none⟩) (fun _=>rfl) v).trans (Kp.setL g vs _ (i+1)) (fun _ _ h=>h)
theorem Blk.setL_from{g:Nat}{t:TypeId}:∀(vs pre rest:List Value) (w:World),Blk w g t (pre++rest).toArray->rest.length=vs.length->Blk (Vv w g pre.length vs) g t (pre++vs).toArray
 |[],pre,rest,w,h,hl=>by
  have:rest=[]:=List.eq_nil_of_length_eq_zero (by simpa using hl);subst this;simpa [Vv]using h
 |v::vs,pre,[],w,h,hl=>by simp at hl
 |v::vs,pre,r::rest,w,h,hl=>by
  have h1:=h.set_ pre.length v;have e:(pre++r::rest).toArray.setIfInBounds pre.length v=((pre++[v])++rest).toArray:=by
   rw[jJ1,List.set_append_right _ _ (jL3 _)];simp
  rw[e]at h1;have h2:=Blk.setL_from vs (pre++[v]) rest _ h1 (by simpa using hl);simp only[jJ4,List.length_singleton]at h2;simpa [Vv]using h2
theorem Blk.setAll{w:World}{g:Nat}{t:TypeId}{cs:List Value}(h:Blk w g t cs.toArray)(vs:List Value)(hl:cs.length=vs.length):Blk (Vv w g 0 vs) g t vs.toArray:=by
 have:=Blk.setL_from vs [] cs w (by simpa using h) hl;simpa using this
theorem qF(g:Nat):∀(vs:List Value) (w:World) (i:Nat),Vv w g i vs=w.setCells g i vs
 |[],_,_=>rfl
 |v::vs,w,i=>qF g vs (w.setCell ⟨g,i,none⟩ v) (i+1)
theorem Kp.setCells(g o:Nat)(vs:List Value)(w:World):Kp (fun k=>k=g) w (w.setCells g o vs):=by
 rw[<-qF];exact Kp.setL g vs w o
theorem Blk.setCells{w:World}{g:Nat}{t:TypeId}{pre mid post:List Value}(h:Blk w g t (pre++(mid++post)).toArray)(vs:List Value)(hl:mid.length=vs.length):
  Blk (w.setCells g pre.length vs) g t (pre++(vs++post)).toArray:=by
 rw[<-qF]
 induction vs generalizing w pre mid with
 |nil=>
  have:mid=[]:=List.eq_nil_of_length_eq_zero (by simpa using hl);subst this;simpa [Vv]using h
 |cons v vs ih=>
  cases mid with
  |nil=>simp at hl
  |cons r rest=>
   have h1:=h.set_ pre.length v;have e:(pre++(r::rest++post)).toArray.setIfInBounds pre.length v=((pre++[v])++(rest++post)).toArray:=by
    rw[jJ1,List.set_append_right _ _ (jL3 _)];simp
   rw[e]at h1;have h2:=ih h1 (by simpa using hl);simp only[jJ4,List.length_singleton]at h2;simpa [Vv]using h2
theorem Blk.setWhole{w:World}{g:Nat}{t:TypeId}{cs:List Value}(h:Blk w g t cs.toArray)(vs:List Value)(hl:cs.length=vs.length):Blk (w.setCells g 0 vs) g t vs.toArray:=by
 have:=Blk.setCells (pre:=[]) (mid:=cs) (post:=[]) (by simpa using h) vs hl;simpa using this
theorem Blk.range{w:World}{g:Nat}{t:TypeId}{cs:List Value}(h:Blk w g t cs.toArray):w.rangeAt g 0 cs:=by
 intro j v hv;rw[Nat.zero_add,h.cell,jJ7,hv]
theorem Blk.there{w:World}{g:Nat}{t:TypeId}{cs:Array Value}(h:Blk w g t cs)(o n:Nat)(hn:o+n<=cs.size):w.there g o n:=by
 intro j hj;refine⟨?_,h.frozen _⟩;rw[h.cell,Array.getElem?_eq_getElem (by omega)];rfl
theorem jGR{l:List Value}(h:l.all (·.oneCell')=true):l.toArray.all (·.oneCell')=true:=by simpa using h
abbrev jQ1:= @wpList_store_mid
open Go.RowKit Go.ChangeShapes Go.WideShapes
theorem Old.kept{W W' :World}(h:Old W W')(may:MemPlace->Prop):W.keptBut W' may:=by
 refine World.keptBut_mono (may:=fun _=>False) (fun _ f=>f.elim) (World.keptBut_none_iff.2 ⟨h.os,h.output,fun i hi=> ?_⟩);exact h.block i hi (fun f=>f)
section
variable{H:Type}{enc:TypeId×Value->H}{P:Program}
theorem qN{f:Func}{s:ChangeSpec}{apart fresh MQ again:Bool}{W W' :World}{args:Array Value}{v:Value}{ds gs:List (DataW H)}{before pa pv:List MemPlace}
  (hW:DataW.Whole enc P f.params.toList s.vars apart W args.toList ds gs before)
  (Q8:∀(b:Nat) (sp:Nat->Bool) (hd:Bool),DataW.TrodAll enc P W' b sp hd f.resultTypes.toList (v.resultList f.resultTypes.size) (s.fn H (ds++gs)).results [])
  (M8:∀sp:Nat->Bool,(∀p∈before,sp p.block=true)->DataW.TrodAll enc P W' 0 sp true f.params.toList args.toList (s.fn H (ds++gs)).args pa)
  (L7:∀sp:Nat->Bool,(∀p∈before,sp p.block=true)->DataW.TrodVars enc P W' sp s.vars (s.fn H (ds++gs)).vars pv)
  (GZ:before=pa++pv) (ho:Old W W')
  (Pv:∀(j:Nat) (t:TypeId) (r:Value),f.resultTypes[j]? =some t->(v.resultList f.resultTypes.size)[j]? =some r->Value.okWide P W' .any 0 t r):
  s.post enc P f apart fresh MQ again W args v W' :=by
 have F2:∀p∈before,(fun b=>decide (b<W.heap.size)) p.block=true:=fun p hp=>(by simpa using hW.lt p hp);refine⟨ds,gs,before,[],pa,pv,hW,Q8 _ _ _,M8 _ F2,L7 _ F2,World.keptBut_mono (fun p hp=>⟨hp,?_⟩) (Old.kept ho (· ∈before)),fun _=> ?_⟩
 ·rw[GZ,List.mem_append]at hp;exact Or.inr hp
 ·have hlt:=hW.lt;obtain⟨_,_,_,_,_,hz,hn⟩:=hW;refine⟨Pv,_,_,([]++pa)++pv,⟨[]++pa,pv,trodAll_append (M8 _ (fun _ _=>rfl)) (Q8 _ _ _),L7 _ (fun _ _=>rfl),rfl,?_,?_⟩,?_⟩
  ·intro b off hp;have hm:MemPlace.cell b off∈before:=by rw[GZ];simpa using hp
   rw[World.frozen?_of_block (ho.block b (hlt _ hm) (fun f=>f))];exact hz b off hm
  ·intro ha;have:=hn ha;rw[GZ]at this;simpa using this
  ·intro p hp _;rw[GZ];simpa using hp
end
end Go.Proofs.YtifbhcfdealfaaaGreatDoor

import Derived.Test.YtmmjcbbogokmfaaGreatDoorMp04
import Derived.Test.YtmmjcbbogokmfaaGreatDoorMp05
import Derived.Deep.CutRange
set_option maxRecDepth 100000
set_option maxHeartbeats 25600000
namespace Go.Proofs.YtmmjcbbogokmfaaGreatDoor
open Go.Proofs.Tryz
open Go.RowKit
theorem jFX:(prog.info? 9).map (fun i=>(i.zero,i.size,i.bytes))=some (some (.string ByteArray.empty),1,16):=by kernel_rfl
theorem Vo(st:List Nat)(j:Nat)(hj:j<35):Jb st (resL.drop j) j=if vd (23+j) st=true then resL[j]'hj::Jb st (resL.drop (j+1)) (j+1)else Jb st (resL.drop (j+1)) (j+1):=by
 rw[jM9 (show j<resL.length from hj),Jb];rfl
structure Wds(w:World)(j:Nat)(st:List Nat)(wr:World)(acc:List LB)(A:OA)(c:Nat):Prop where
 go:Jb st resL 0=acc++Jb st (resL.drop j) j
 own:wr.ownsRow w.heap.size 9 1 (.slice A acc.length c) acc.length (wvs acc)
 old:Old w wr
 len:acc.length<=j
theorem Wds.skip{w wr:World}{j:Nat}{st:List Nat}{acc:List LB}{A:OA}{c:Nat}(h:Wds w j st wr acc A c)(hj:j<35)(hm:vd (23+j) st=false):Wds w (j+1) st wr acc A c:=
 ⟨by rw[h.go,Vo st j hj,jJ5 (by rw[hm];decide)],h.own,h.old,Nat.le_succ_of_le h.len⟩
theorem Wds.next{w wr wx w1:World}{j k:Nat}{st:List Nat}{acc:List LB}{A A' :OA}{c c' :Nat}(h:Wds w j st wr acc A c)(hj:j<35)(hm:vd (23+j) st=true)(hk:acc.length=k)(hx:Old wr wx)
  (Hi:w1.ownsRow w.heap.size 9 1 (.slice A' (k+1) c') (k+1) (wvs acc++[.string ⟨(resL[j]'hj).toArray⟩])) (hg:wx.grownBy w1 (Value.slice A k c).ownBlock):
  ∃acc',Wds w (j+1) st w1 acc' A' c' /\acc'.length=k+1:=by
 subst hk;refine⟨acc++[resL[j]'hj],⟨by rw[h.go,Vo st j hj,jJ6 hm,jK1];rfl,?_,?_,by rw[jJ4];have:=h.len;simp;omega⟩,by simp⟩
 ·rw[jJ4,wvs,jN3];exact Hi
 ·exact(h.old.old hx).grown hg (fun k e hlt=>by have:=(h.own.lt k e).1;omega)
theorem jAe:∀(u r:LB),u.isPrefixOf r=(decide (u.length<=r.length)&&(r.take u.length==u))
 |[],r=>by simp
 |a::u,[]=>by simp
 |a::u,b::r=>by
  rw[List.isPrefixOf,jAe u r];by_cases h:u.length<=r.length
  ·by_cases e:a=b
   ·subst e;simp[h]
   ·have e1:(a==b)=false:=jM3 e;have e2:(b==a)=false:=jM3 (fun h=>e h.symm);simp[h,e1,e2]
  ·simp[h]
theorem XE(s:BA)(a p:Nat)(h1:a<=p)(h2:p<s.size):((sb s).drop a).take (p-a)++[s[p]]=((sb s).drop a).take (p+1-a):=by
 have hl:p-a<((sb s).drop a).length:=by rw[jK8,jB];omega
 have he:((sb s).drop a)[p-a]? =some s[p]:=by
  rw[List.getElem?_drop,show a+(p-a)=p by omega];exact jEc s p h2
 rw[show p+1-a=(p-a)+1 by omega,jK2 hl,(jM5 he).2]
structure SpSt(w:World)(g:Nat)(r:Option Nat)(src:BA)(m:Mc)(A:OA)(c:Nat)(B:OA)(ws:List LB)(nm it:Bool)(X:Option Nat)(p:Nat)(wr:World):Prop where
 le:m.at_ <=p/\p<=src.size
 go:X=zg nm it ws (((sb src).drop m.at_).take (p-m.at_)) ((sb src).drop p) p
 mac:Mac wr g r src {m with at_:=p} A c
 kp:Kp (MX g r) w wr
 rd:Rd wr 1 B ws.length (wvs ws)
 av:Av (MX g r) ws.length B
theorem SpSt.next{w wr W:World}{g:Nat}{r:Option Nat}{src:BA}{m:Mc}{A:OA}{c:Nat}{B:OA}{ws:List LB}{nm it:Bool}{X:Option Nat}{p:Nat}(h:SpSt w g r src m A c B ws nm it X p wr)(hlt:p<src.size)
  (hX:X=zg nm it ws (((sb src).drop m.at_).take (p+1-m.at_)) ((sb src).drop (p+1)) (p+1)) (hW:Old wr W):
  SpSt w g r src m A c B ws nm it X (p+1) (W.setCell ⟨g,1,none⟩ (.int .i64 ((p:Int)+1)))/\src.size-atOf g (W.setCell ⟨g,1,none⟩ (.int .i64 ((p:Int)+1)))<src.size-atOf g wr:=by
 obtain⟨m1,k1⟩:=(h.mac.old hW).setAt (p+1);rw[show((p+1:Nat):Int)=(p:Int)+1 by omega]at m1 k1;refine⟨⟨⟨by have:=h.le.1;omega,hlt⟩,hX,m1,(h.kp.old hW).trans k1 (fun _ _ h=>h),(h.rd.old hW).kp k1 h.av,h.av⟩,?_⟩;rw[m1.atOf,h.mac.atOf];simp only;omega
theorem Ut(w:World)(hg:Sg w)(g:Nat)(r:Option Nat)(src:BA)(m:Mc)(A:OA)(c:Nat)(h:Mac w g r src m A c)(hs:src.size<=1000000)(ha:m.at_ <src.size)(hf:m.from_=m.at_):
  Calls prog 199 #[.pointer (some ⟨g,0,none⟩)] w (MOut w g r src (zU m ((sb src).drop m.at_))):=by
 obtain⟨i0,hi,Fm,GI,GW⟩:=info_parts jFX;have Ls:=G (fun W (hO:Old w W) t=>Jm W g r src m A c (h.old hO) t);have Hu:=G hg.res;have FZ:=G (show(prog.info? 205).map (·.size)=some (wvs resL).length from Ux);have Hx:=G (fun j (hj:j<35)=>VJ resL j hj);have H0:=G (show Wds w 0 m.stack w [] none 0 from⟨rfl,World.ownsRow_nil _ _ _ _,jQ0 _ _,jL3 _⟩);generalize Fp:wvs resL=cs at Hu FZ Hx;clear Fp;generalize Wl:zU m ((sb src).drop m.at_)=R;have EF:=G Wl;clear Wl;go_enter func199,ntmps199;unfold yv at Ls;go_wp2_with (first|(go_at_call_of 176 (Value.int .u8 1);refine(Ls.out _ (jQ0 _ _) 1).mono ?_;rintro e w1 ⟨rfl,rfl⟩)|(go_at_call_of 176 (Value.int .u8 2);refine(Ls.out _ (jQ0 _ _) 2).mono ?_;rintro e w1 ⟨rfl,rfl⟩)|((with_reducible refine kj 205 (.global 0) ?_);refine yn rfl 205 (.global 0) rfl 0 0 rfl cs _ Hu.out underlying205 rfl FZ.out ?_)|fail);go_loopw [4,16] (fun v i wr=>∃(j:Nat) (acc:List LB) (A:OA) (c:Nat),j<=35/\i=.int .i64 j/\v=.slice A acc.length c/\Wds w j m.stack wr acc A c) (fun _ i _=>35-(intOf i).toNat)
 case atStart=>exact⟨0,[],none,0,by omega,rfl,rfl,H0.out⟩
 case round=>
  clear H0;obtain⟨j,acc,Aw,cw,hj,rfl,rfl,hw⟩:=hrel;by_cases hlt:j<35
  ·have PJ:=fun w' =>uZ w' cs j _ (Hx.out j hlt) hlt;have b1:(j:Int)<35:=(by omega);have b2:(0:Int)<=(j:Int):=(by omega);have b3:(j:Int).toNat=j:=(by omega);have b4:IntKind.u8.wrap (j:Int)=(j:Int):=IntWalk.u8_in _ (by omega);have b5:IntKind.u8.wrap (23+(j:Int))=23+(j:Int):=IntWalk.u8_in _ (by omega);have HM:=G (Ls.out wr hw.old (23+j));rw[show((23+j:Nat):Int)=23+(j:Int)by omega]at HM;cases hm:vd (23+j) m.stack with
   |false=>
    have Hn:=G (hw.skip hlt hm);rw[hm]at HM;clear hw hm;generalize resL[j]'hlt=rj at*;go_wp2_with (go_at_call 176;refine HM.out.mono ?_;rintro e w1 ⟨rfl,rfl⟩);exact⟨⟨j+1,acc,Aw,cw,by omega,by go_num,rfl,Hn.out⟩,by simp[intOf];omega⟩
   |true=>
    have Hn:=G (fun wx w3 A' c' hx h1 h2=>hw.next (wx:=wx) (w1:=w3) (A' :=A') (c' :=c') hlt hm rfl hx h1 h2);have Hi:=hw.own;have Ge:=G hw.old;have Fb:=G hw.len;rw[hm]at HM;clear hw hm;generalize hrj:resL[j]'hlt=rj at*;clear hrj;generalize hK:acc.length=K at*;generalize wvs acc=wl at*;clear hK;have GA:=G (show K+1<=maxLen by have:=Fb.out;unfold maxLen;omega);have GH:=G (show(K+1)*16<=140737488355328 by have:=Fb.out;omega);go_wp2_with (first|(go_at_call 176;refine HM.out.mono ?_;rintro e w1 ⟨rfl,rfl⟩)|(at_builtin;refine jE _ rfl (.tmp 25) (.tmp 27) 42 rfl w.heap.size 9 i0 (.string ByteArray.empty) 1 16 underlying42 hi Fm GI GW rfl (by decide) (.slice Aw K cw) K wl rfl (Hi.alloc _) _ 1 1 _ rfl (Rd.one_new _ _ _) (ji _ rfl) GA.out GH.out (jL4 Ge.out.size (by simp)) ?_;intro A' c' w3 FC hgrow Fc)|fail);obtain⟨acc',h1,h2⟩:=Hn.out _ _ _ _ ((jQ0 _ _).alloc _) FC hgrow;exact⟨⟨j+1,acc',A',c',by omega,by go_num,by rw[h2],h1⟩,by simp[intOf];omega⟩
  ·obtain rfl:j=35:=(by omega);have Fs:=hw.go;rw[show Jb m.stack (resL.drop 35) 35=[]from rfl,jN7]at Fs;have Wl:=EF.out;unfold zU at Wl;rw[Fs,jK8,jB,show m.at_ +(src.size-m.at_)=src.size by omega]at Wl;have Gw:=G (show SpSt w g r src m A c Aw acc (vd 1 m.stack) (vd 2 m.stack) (zg (vd 1 m.stack) (vd 2 m.stack) acc [] ((sb src).drop m.at_) m.at_) m.at_ wr from by
    refine⟨⟨jL3 _,by omega⟩,by rw[Nat.sub_self,List.take_zero],h.old hw.old,hw.old.mono (fun _ _ f=>f.elim),Rd.of_own hw.own,fun hn ad e hx=> ?_⟩;have h1:=(hw.own.lt ad.block (by rw[jC,e];rfl)).1;have h2:=h.blk.lt;rcases hx with hx|hx
    ·omega
    ·have:=(h.lt _ hx.symm).2;omega)
   have RQ:=G (show R=match zg (vd 1 m.stack) (vd 2 m.stack) acc [] ((sb src).drop m.at_) m.at_ with|some k=>.error k|none=>.ok {m with at_:=src.size,fin:=2}from Wl.symm);have Fb:=G hw.len;have Ts:=G hf;clear Wl EF hw Fs Ls Hu FZ Hx hj hlt hi Fm GI GW hf h;generalize zg (vd 1 m.stack) (vd 2 m.stack) acc [] ((sb src).drop m.at_) m.at_=X at*;generalize vd 1 m.stack=nm at*;generalize vd 2 m.stack=it at*;generalize hn:acc.length=n at*;have Hn:=G hn;clear hn;go_wp2;go_loopw [] (fun wr=>∃p,SpSt w g r src m A c Aw acc nm it X p wr) (fun wr=>src.size-atOf g wr)
   case atStart=>exact⟨_,Gw.out⟩
   case round=>
    clear Gw;obtain⟨p,Fe⟩:=hrel;have Nl:=Fe.mac.c0;have G6:=Fe.mac.c1;have Fo:=Fe.mac.c3;have Li:=Fe.mac.c4;have Fi:=Fe.mac.z 1;have ML:=Fe.mac.z 3;simp only[Ts.out]at Nl G6 Fo Li;have Nj:=Fe.le.1;by_cases hlt:p<src.size
    ·have Fs:=Fe.go;rw[yB src p hlt,zg,XE src m.at_ p Nj hlt]at Fs;have a1:(p:Int)<(src.size:Int):=(by omega);have a2:(0:Int)<=(p:Int):=(by omega);have a3:(p:Int).toNat=p:=(by omega);have a4:IntKind.i64.wrap ((p:Int)+1)=(p:Int)+1:=jQ3 _ (by omega);have Hw:=G (fun W=>vZ W src[p]);unfold bv at Hw;cases Wj:ju src[p]with
     |false=>
      rw[jJ6 Wj]at Fs;rw[Wj]at Hw;have HR:=G (show R=.error p by rw[RQ.out,Fs]);have FA:=G Fe.kp;have a5:((p:Int)==(src.size:Int))=false:=jM3 (by omega);clear Fe Fs RQ Wj;go_wp2;go_quiet ((go_at_call 129;refine Calls.quiet_of_same ((Hw.out _).mono (fun _ _ h=>⟨h.1,h.2.symm⟩))));go_wp2;go_quiet (fail);go_wp2;refine⟨rfl,?_⟩;rw[HR.out];exact⟨rfl,⟨FA.out.os,FA.out.tape,FA.out.output,FA.out.size,FA.out.block⟩⟩
     |true=>
      rw[jJ5 (by rw[Wj];decide)]at Fs;rw[Wj]at Hw;have NN:=jq src m.at_ (p+1);rw[<-NN]at Fs;have Gl:(src.extract m.at_ (p+1)).size=p+1-m.at_:=by rw[<-jB,NN,jK9,jK8,jB];omega
      have Bn:=G NN;clear NN;generalize LT:src.extract m.at_ (p+1)=sy at*;have H1:=G (fun W=>zO W sy);have H2:=G (fun W=>Jy W sy (by omega));have hfit:jG7 nm it acc (sb sy)=(nm&&jd (sb sy)||it&&jz (sb sy)||acc.any (fun r=>(sb sy).isPrefixOf r)):=rfl;rw[hfit]at Fs;clear hfit;generalize jd (sb sy)=sN at*;generalize jz (sb sy)=sI at*;obtain⟨B0,CM⟩:∃B,B=(nm&&sN||it&&sI):=⟨_,rfl⟩;rw[<-CM]at Fs;have Sv:=G CM;have Q1:=G Fs;have FZ:=G Gl;have Wv:=G Fe.rd;have Gg:=G Fe;have a6:(m.at_:Int)<=(p:Int)+1:=(by omega);have a7:(p:Int)+1<=(src.size:Int):=(by omega);have a8:((p:Int)+1).toNat=p+1:=(by omega);have a9:(0:Int)<=(p:Int)+1:=(by omega);have a10:(0:Int)<=(m.at_:Int):=(by omega);have a11:(m.at_:Int).toNat=m.at_:=(by omega);clear Fe Fs CM Gl Nj Wj;go_wp2;go_quiet ((go_at_call 129;refine Calls.quiet_of_same ((Hw.out _).mono (fun _ _ h=>⟨h.1,h.2.symm⟩))));go_wp2;go_quiet (fail);go_upto_region 11 with fail;go_cut [8]from 30 to 114 (fun s8 wc=>s8=.bool B0/\Old wr wc)
      case first=>
       rcases (show(nm=false/\it=false)\/(nm=false/\it=true)\/(nm=true/\sN=true)\/(nm=true/\sN=false/\it=false)\/(nm=true/\sN=false/\it=true)by cases nm<;>cases it<;>cases sN<;>simp)with⟨rfl,rfl⟩|⟨rfl,rfl⟩|⟨rfl,rfl⟩|⟨rfl,rfl,rfl⟩|⟨rfl,rfl,rfl⟩
       all_goals
        go_wp2_with (first|(go_at_call 69;refine(H1.out _).mono ?_;rintro e w1 ⟨rfl,rfl⟩)|(go_at_call 226;refine(H2.out _).mono ?_;rintro e w1 ⟨rfl,rfl⟩));go_meet
        case rel=>exact⟨by rw[Sv.out];simp,(by first|exact(jQ0 _ _).drewN _ |exact((jQ0 _ _).drewN _).drewN _ |exact jQ0 _ _)⟩
      case rest=>
       obtain⟨rfl,Wu⟩:=hcut;have LC:=G Wu;have Wv:=G (Wv.out.old Wu);have G6:=(Gg.out.mac.old Wu).c1;have Fi:=(Gg.out.mac.old Wu).z 1;simp only at G6;clear Wu;go_wp2;go_loop [8,87] (fun b i=>∃j:Nat,j<=n/\i=.int .i64 j/\b=.bool (B0||(acc.take j).any (fun r=>(sb sy).isPrefixOf r))) (fun _ i=>n-(intOf i).toNat)
       case atStart=>exact⟨0,Nat.zero_le _,rfl,by simp⟩
       case round=>
        obtain⟨j,hj,rfl,rfl⟩:=hrel;by_cases hlt3:j<n
        ·obtain⟨b,o,u,rfl,hu,FD⟩:=Wv.out.at_ (k:=j) (by rw[Hn.out];exact hlt3);have hja:j<acc.length:=by rw[Hn.out];exact hlt3
         rw[VJ acc j hja]at hu;simp only[Option.some.injEq]at hu;subst hu;have L9:(B0||(acc.take (j+1)).any (fun r=>(sb sy).isPrefixOf r))=((B0||(acc.take j).any (fun r=>(sb sy).isPrefixOf r))||(sb sy).isPrefixOf (sb ⟨(acc[j]'hja).toArray⟩)):=by
          rw[jK2 hja,List.any_append,List.any_cons,List.any_nil,Bool.or_false,<-Bool.or_assoc];rfl
         generalize (⟨(acc[j]'hja).toArray⟩:BA)=xs at*;rw[jAe,jB,jB]at L9;have W4:=G L9;clear L9;generalize (B0||(acc.take j).any (fun r=>(sb sy).isPrefixOf r))=q at*;have c1:(j:Int)<(n:Int):=(by omega);have c2:(0:Int)<=(j:Int):=(by omega);have c3:(j:Int).toNat=j:=(by omega);have c4:IntKind.i64.wrap ((j:Int)+1)=(j:Int)+1:=jQ3 _ (by have:=Fb.out;omega);cases q
         ·by_cases Fa:sy.size<=xs.size
          ·have d1:(sy.size:Int)<=(xs.size:Int):=(by omega);have d2:(0:Int)<=(sy.size:Int):=(by omega);have he:((xs.extract 0 sy.size).toList==sy.toList)=((sb xs).take sy.size==sb sy):=by rw[ByteArray.toList_eq,ByteArray.toList_eq];show(sb (xs.extract 0 sy.size)==sb sy)=_;rw[jq];simp
           have Q0:=G (show(B0||(acc.take (j+1)).any (fun r=>(sb sy).isPrefixOf r))=((xs.extract 0 sy.size).toList==sy.toList)by rw[W4.out,jK5 Fa,he];rfl);clear he Fa W4;go_wp2;exact⟨⟨j+1,by omega,by go_num,by rw[Q0.out]⟩,by simp[intOf];omega⟩
          ·have d1:¬(sy.size:Int)<=(xs.size:Int):=(by omega);have Q0:=G (show(B0||(acc.take (j+1)).any (fun r=>(sb sy).isPrefixOf r))=false by rw[W4.out,jK3 Fa];rfl);clear Fa W4;go_wp2;exact⟨⟨j+1,by omega,by go_num,by rw[Q0.out]⟩,by simp[intOf];omega⟩
         ·have Q0:=G (show(B0||(acc.take (j+1)).any (fun r=>(sb sy).isPrefixOf r))=true by rw[W4.out];rfl);clear W4;go_wp2;exact⟨⟨j+1,by omega,by go_num,by rw[Q0.out]⟩,by simp[intOf];omega⟩
        ·obtain rfl:j=n:=(by omega);rw[jK4 (by rw[Hn.out];exact jL3 _)];have c1:¬(j:Int)<(j:Int):=(by omega);have Pq:=G Q1.out;clear Q1;generalize (B0||acc.any (fun r=>(sb sy).isPrefixOf r))=F at*;cases F
         ·have HR:=G (show R=.error p by rw[RQ.out,Pq.out];rfl);clear Pq RQ;go_wp2;refine⟨rfl,?_⟩;rw[HR.out];exact⟨rfl,Gg.out.kp.old LC.out⟩
         ·have Hs:=G (fun W (hO:Old wr W)=>Gg.out.next hlt (by rw[Pq.out,jJ6 rfl,Bn.out]) hO);clear Pq RQ;go_wp2;go_roundw
          case rel=>exact⟨_,(Hs.out _ LC.out).1⟩
          case measure=>exact(Hs.out _ LC.out).2
    ·have hp:p=src.size:=by have:=Fe.le.2;omega
     subst hp;have Fs:=Fe.go;rw[show(sb src).drop src.size=[]from List.drop_of_length_le (by rw[jB];exact jL3 _),zg]at Fs;have HR:=G (show R=.ok {m with at_:=src.size,fin:=2}by rw[RQ.out,Fs]);have Hs:=G (fun W (hO:Old wr W)=>(Fe.mac.old hO).setFin 2);have FA:=G Fe.kp;have a1:¬(src.size:Int)<(src.size:Int):=(by omega);have a5:((src.size:Int)==(src.size:Int))=true:=(by simp);clear Fe Fs RQ hlt Nj;go_wp2;go_quiet (fail);go_wp2;go_quiet (fail);go_wp2;refine bodyPost_ret (results_none rfl _ _ _) rfl ?_;rw[HR.out];have HH:=fun n=>Hs.out (wr.drewN n) ((jQ0 _ _).drewN n);exact⟨rfl,r,A,c,(HH _).1,(FA.out.drewN _).trans (HH _).2 (fun _ _ h=>h),.inl rfl⟩
end Go.Proofs.YtmmjcbbogokmfaaGreatDoor

import Derived.Test.YtmmjcbbogokmfaaGreatDoorMp30
import Derived.Test.YtmmjcbbogokmfaaGreatDoorMp33
set_option maxRecDepth 100000
set_option maxHeartbeats 25600000
namespace Go.Proofs.YtmmjcbbogokmfaaGreatDoor
open Go.Proofs.Tryz
open Go.RowKit
theorem jEU(st:List Nat)(h5:∀n∈st,n<85)(hl:st.length<=1000000)(best:LB)(hb:best.length<=20000000)(t:Nat)(ht:t<58)(more:LB)(hm:more.length<=100):(qJ st best t more).length<=20000000:=by
 unfold qJ;split
 ·rename_i hq;obtain⟨n,_,_,hlen⟩:=vw t ht st h5 hq;have:=(vj (vf t st)).1;simp only;split
  ·rw[jJ4];omega
  ·exact hb
 ·exact hb
structure WdSt(w:World)(g:Nat)(wr:World)(p:OA)(best:LB):Prop where
 old:Old w wr
 bm:Blk wr w.heap.size 155 #[.pointer (some ⟨g,0,none⟩)]
 bb:Blk wr (w.heap.size+1) 166 #[.pointer p]
 rp:Rp wr p best
 len:best.length<=20000000
theorem WdSt.try_{w:World}(hg:Sg w){g:Nat}{r:Option Nat}{src:BA}{m:Mc}{A:OA}{c:Nat}(h:Mac w g r src m A c)(hp:Pos m.stack)(hl:m.stack.length<=1000000){wr:World}{p:OA}{best:LB}(hs:WdSt w g wr p best)(t:Nat)(h1:1<=t)(h2:t<58)(more:BA)(hm:more.size<=100):
  Calls prog 175 #[yv t,.string more,.pointer (some ⟨w.heap.size,0,none⟩),.pointer (some ⟨w.heap.size+1,0,none⟩)] wr fun e w' =>e=.returned (.tuple #[])/\∃p',WdSt w g w' p' (qJ m.stack best t (sb more)):=by
 refine(jEV wr (hg.old hs.old) g r src m A c (h.old hs.old) hp hl _ _ hs.bm p hs.bb best hs.rp (by have:=hs.len;omega) t h1 h2 more hm).mono ?_;rintro e w' ⟨he,p',hb,hr,hk⟩;exact⟨he,p',hs.old.trans hk (fun b hb e=>by omega),hs.bm.kp hk (by omega),hb,hr,jEU m.stack h.sym hl best hs.len t h2 _ (by rw[jB];exact hm)⟩
theorem XA(st:List Nat)(w:LB)(j:Nat)(hj:j<resL.length)(best:LB):zy st w (resL.drop j) j best=zy st w (resL.drop (j+1)) (j+1) (if w.isPrefixOf resL[j]=true then qJ st best (23+j) (resL[j].drop w.length)else best):=by
 rw[jM9 hj];rfl
theorem jEp(j:Nat)(hj:j<resL.length):resL[j].length<=20:=by
 have h:∀x∈resL,x.length<=20:=(by decide+kernel);exact h _ (jL6 hj)
theorem jEx{a b:LB}(h:a.isPrefixOf b=true):a.length<=b.length:=by
 rw[List.isPrefixOf_iff_prefix]at h;exact h.length_le
theorem Qy(w:World)(hg:Sg w)(g:Nat)(r:Option Nat)(src:BA)(m:Mc)(A:OA)(c:Nat)(h:Mac w g r src m A c)(hp:Pos m.stack)(hl:m.stack.length<=1000000)(hf:m.from_ <src.size):
  Calls prog 143 #[.pointer (some ⟨g,0,none⟩)] w fun e w' =>∃p,e=.returned (.pointer p)/\Rp w' p (Jf m.stack ((sb src).drop m.from_))/\Old w w' /\(Jf m.stack ((sb src).drop m.from_)).length<=20000000:=by
 have Q9:sb (src.extract m.from_ src.size)=(sb src).drop m.from_:=by
  rw[jq,jK4 (by rw[jK8,jB];exact jL3 _)]
 have Gl:(src.extract m.from_ src.size).size=src.size-m.from_:=(by rw[<-jB,Q9,jK8,jB]);rw[<-Q9];generalize Wm:src.extract m.from_ src.size=ws at*;have hw0:0<ws.size:=(by omega);have Tp:=G (YA ws hw0);have HT:=G (fun wr p best (hs:WdSt w g wr p best) t h1 h2 more hm=>hs.try_ hg h hp hl t h1 h2 more hm);have HD:=G (fun W=>ze W (ws[0]'hw0));have HL:=G (fun W (hW:Old w W)=>jg W (hg.old hW) ws);have HN:=G (fun W=>zO W ws);have Hu:=G (show Jf m.stack (sb ws)=if zS ((sb ws).headD 0)=true then qJ m.stack (zy m.stack (sb ws) (resL.drop 0) 0 []) 2 []else if js (sb ws)=true then qJ m.stack (zy m.stack (sb ws) (resL.drop 0) 0 []) 1 []else if(sb ws).length<64/\jd (sb ws)=true then qJ m.stack (zy m.stack (sb ws) (resL.drop 0) 0 []) 1 [48]else zy m.stack (sb ws) (resL.drop 0) 0 []from rfl);rw[Tp.out,jB]at Hu;have Nl:=h.c0;have Li:=h.c4;have HM:=G h;have Hg:=G hg.res;have H0:=G (fun n=>show WdSt w g (((w.alloc (.cells #[.pointer (some ⟨g,0,none⟩)] 155)).drewN n).alloc (.cells #[.pointer none] 166)) none []from by
  have b1:Blk (((w.alloc (.cells #[.pointer (some ⟨g,0,none⟩)] 155)).drewN n).alloc (.cells #[.pointer none] 166)) w.heap.size 155 #[.pointer (some ⟨g,0,none⟩)]:=((jQ2 _ _ _).drewN n).alloc _;have b2:=jQ2 ((w.alloc (.cells #[.pointer (some ⟨g,0,none⟩)] 155)).drewN n) 166 #[.pointer none];rw[show((w.alloc (.cells #[.pointer (some ⟨g,0,none⟩)] 155)).drewN n).heap.size=w.heap.size+1 by simp]at b2;exact⟨(((jQ0 NoX w).alloc _).drewN n).alloc _,b1,b2,.nil,by decide⟩)
 generalize Jf m.stack (sb ws)=Z at*;generalize Mj:zS (ws[0]'hw0)=bd at*;generalize MR:js (sb ws)=bl at*;generalize hbn:jd (sb ws)=bn at*;generalize hR:zy m.stack (sb ws) (resL.drop 0) 0 []=R at*;have HR:=G hR.symm;have HG:=G (fun W (hW:Old w W)=>(hg.old hW).res);have Hx:=G (fun j (hj:j<35)=>VJ resL j hj);have FZ:=G (show(prog.info? 205).map (·.size)=some (wvs resL).length from Ux);have AB:∀(fn:Fn) (first cap:Array Value) (w:World),(Instr.makeFunc fn first cap).run prog w=.ok (.func fn first cap) w:=fun _ _ _ _=>rfl;generalize Fp:wvs resL=cs at*;have a1:(m.from_:Int)<=(src.size:Int):=(by omega);have a2:(0:Int)<=(m.from_:Int):=(by omega);have a3:(m.from_:Int).toNat=m.from_:=(by omega);have b0:(0:Int)<(ws.size:Int):=(by omega);clear Fp hR Mj MR hbn h hg hp hl Q9 Tp Hg;clear hf Gl;generalize m.stack=st at*;unfold yv at*;go_enter func143,ntmps143;go_wp2;have CJ:=HM.out.old ((jQ0 NoX w).alloc (.cells #[.pointer (some ⟨g,0,none⟩)] 155));have d0:=CJ.c0;have d4:=CJ.c4;have d5:(w.alloc (.cells #[.pointer (some ⟨g,0,none⟩)] 155)).cell? ⟨w.heap.size,0,none⟩=some (.pointer (some ⟨g,0,none⟩)):=(jQ2 w 155 #[.pointer (some ⟨g,0,none⟩)]).at_ 0 rfl;clear CJ;go_quiet (fail);clear d0 d4 d5;have PY:=G ((H0.out nq).old);go_wp2_with (first|((with_reducible refine kj 205 (.global 0) ?_);refine yn rfl 205 (.global 0) rfl 0 0 rfl cs _ (HG.out _ PY.out) underlying205 rfl FZ.out ?_)|fail);go_loopw [19] (fun i wr=>∃(j:Nat) (p:OA) (best:LB),j<=35/\i=.int .i64 j/\WdSt w g wr p best/\R=zy st (sb ws) (resL.drop j) j best) (fun i _=>35-(intOf i).toNat)
 case atStart=>exact⟨0,none,[],by omega,rfl,H0.out nq,HR.out⟩
 case round=>
  clear H0 HR PY;obtain⟨j,p,best,hj,rfl,Hv,hR⟩:=hrel;have Gg:=G Hv;clear Hv;by_cases hlt:j<35
  ·have hx:=Hx.out j hlt;have FU:=jEp j hlt;rw[XA st (sb ws) j hlt]at hR;generalize resL[j]'hlt=rw at*;have LT:sb (⟨rw.toArray⟩:BA)=rw:=zV rw;generalize (⟨rw.toArray⟩:BA)=x at*;subst LT;have b1:(j:Int)<35:=(by omega);have b2:(0:Int)<=(j:Int):=(by omega);have b3:(j:Int).toNat=j:=(by omega);have b4:IntKind.u8.wrap (j:Int)=(j:Int):=IntWalk.u8_in _ (by omega);have b5:IntKind.u8.wrap (23+(j:Int))=((23+j:Nat):Int):=by rw[show(23+(j:Int))=((23+j:Nat):Int)by omega];exact IntWalk.u8_in _ (by omega)
   have b6:IntKind.i64.wrap ((j:Int)+1)=(j:Int)+1:=jQ3 _ (by omega);have PJ:=fun w' =>uZ w' cs j _ hx hlt;have HP:=G (fun W=>XY W x ws);clear hx;by_cases FI:(sb ws).isPrefixOf (sb x)=true
   ·have Fa:=jEx FI;rw[jB,jB]at Fa;rw[FI]at HP;rw[jJ6 FI,show(sb x).drop (sb ws).length=sb (x.extract ws.size x.size)by rw[jq,jK4 (by rw[jK8,jB];exact jL3 _),jB]]at hR;have SY:(x.extract ws.size x.size).size<=100:=by rw[<-jB,jq,jK9,jK8];rw[jB]at FU⊢;omega
    have c1:(ws.size:Int)<=(x.size:Int):=(by omega);have c2:(0:Int)<=(ws.size:Int):=(by omega);have c3:(ws.size:Int).toNat=ws.size:=(by omega);have GU:=G hR;have BB:=G SY;clear FI hR SY;have b7:(23+j:Nat)<58:=(by omega);have b8:1<=(23+j:Nat):=(by omega);generalize (23+j:Nat)=t at*;go_wp2_with (first|(go_at_call 178;refine(HP.out _).mono ?_;rintro e w1 ⟨rfl,rfl⟩)|(go_at_call 175;refine(HT.out _ _ _ Gg.out t b8 b7 _ BB.out).mono ?_;rintro e w2 ⟨rfl,p2,GZ⟩;have Np:=G GZ;clear GZ));exact⟨⟨j+1,p2,_,by omega,by go_num,Np.out,GU.out⟩,by simp[intOf];omega⟩
   ·have PI:(sb ws).isPrefixOf (sb x)=false:=Bool.eq_false_iff.2 FI;rw[PI]at HP;rw[jJ5 FI]at hR;have GU:=G hR;clear FI PI hR;go_wp2_with (go_at_call 178;refine(HP.out _).mono ?_;rintro e w1 ⟨rfl,rfl⟩);exact⟨⟨j+1,p,best,by omega,by go_num,Gg.out,GU.out⟩,by simp[intOf];omega⟩
  ·obtain rfl:j=35:=(by omega);rw[show zy st (sb ws) (resL.drop 35) 35 best=best from rfl]at hR;rw[hR]at Hu;clear hR;have f0:=Gg.out.bb.at_ 0 (v:=.pointer p) rfl;have d1:(0:Int)<(ws.size:Int):=(by omega);cases bd
   ·cases bl
    ·by_cases h64:ws.size<64
     ·have c1:(ws.size:Int)<64:=(by omega);cases bn
      ·have HZ:=G (show Z=best by rw[Hu.out];simp);clear Hu h64;go_wp2_with (first|(go_at_call 158;refine(HD.out _).mono ?_;rintro e w1 ⟨rfl,rfl⟩)|(go_at_call 20;refine(HL.out _ Gg.out.old).mono ?_;rintro e w1 ⟨rfl,rfl⟩)|(go_at_call 69;refine(HN.out _).mono ?_;rintro e w1 ⟨rfl,rfl⟩));go_ret;rw[HZ.out];exact⟨p,rfl,Gg.out.rp,Gg.out.old,Gg.out.len⟩
      ·have HZ:=G (show Z=qJ st best 1 [48]by rw[Hu.out];simp[h64]);clear Hu h64;go_wp2_with (first|(go_at_call 158;refine(HD.out _).mono ?_;rintro e w1 ⟨rfl,rfl⟩)|(go_at_call 20;refine(HL.out _ Gg.out.old).mono ?_;rintro e w1 ⟨rfl,rfl⟩)|(go_at_call 69;refine(HN.out _).mono ?_;rintro e w1 ⟨rfl,rfl⟩)|(go_at_call 175;refine(HT.out _ _ _ Gg.out 1 (by decide) (by decide) ⟨#[48]⟩ (by decide)).mono ?_;rintro e w2 ⟨rfl,p2,GZ⟩;have Np:=G GZ;have f1:=GZ.bb.at_ 0 (v:=.pointer p2) rfl;clear GZ));go_ret;rw[HZ.out];exact⟨p2,rfl,Np.out.rp,Np.out.old,Np.out.len⟩
     ·have c1:¬(ws.size:Int)<64:=(by omega);have HZ:=G (show Z=best by rw[Hu.out];simp[h64]);clear Hu h64;go_wp2_with (first|(go_at_call 158;refine(HD.out _).mono ?_;rintro e w1 ⟨rfl,rfl⟩)|(go_at_call 20;refine(HL.out _ Gg.out.old).mono ?_;rintro e w1 ⟨rfl,rfl⟩)|(go_at_call 69;refine(HN.out _).mono ?_;rintro e w1 ⟨rfl,rfl⟩));go_ret;rw[HZ.out];exact⟨p,rfl,Gg.out.rp,Gg.out.old,Gg.out.len⟩
    ·have HZ:=G (show Z=qJ st best 1 []by rw[Hu.out];rfl);clear Hu;go_wp2_with (first|(go_at_call 158;refine(HD.out _).mono ?_;rintro e w1 ⟨rfl,rfl⟩)|(go_at_call 20;refine(HL.out _ Gg.out.old).mono ?_;rintro e w1 ⟨rfl,rfl⟩)|(go_at_call 69;refine(HN.out _).mono ?_;rintro e w1 ⟨rfl,rfl⟩)|(go_at_call 175;refine(HT.out _ _ _ Gg.out 1 (by decide) (by decide) ⟨#[]⟩ (by decide)).mono ?_;rintro e w2 ⟨rfl,p2,GZ⟩;have Np:=G GZ;have f1:=GZ.bb.at_ 0 (v:=.pointer p2) rfl;clear GZ));go_ret;rw[HZ.out];exact⟨p2,rfl,Np.out.rp,Np.out.old,Np.out.len⟩
   ·have HZ:=G (show Z=qJ st best 2 []by rw[Hu.out];rfl);clear Hu;go_wp2_with (first|(go_at_call 158;refine(HD.out _).mono ?_;rintro e w1 ⟨rfl,rfl⟩)|(go_at_call 20;refine(HL.out _ Gg.out.old).mono ?_;rintro e w1 ⟨rfl,rfl⟩)|(go_at_call 69;refine(HN.out _).mono ?_;rintro e w1 ⟨rfl,rfl⟩)|(go_at_call 175;refine(HT.out _ _ _ Gg.out 2 (by decide) (by decide) ⟨#[]⟩ (by decide)).mono ?_;rintro e w2 ⟨rfl,p2,GZ⟩;have Np:=G GZ;have f1:=GZ.bb.at_ 0 (v:=.pointer p2) rfl;clear GZ));go_ret;rw[HZ.out];exact⟨p2,rfl,Np.out.rp,Np.out.old,Np.out.len⟩
def jCF(w:World)(R:LB)(e:Ending)(w' :World):Prop:=∃p,e=.returned (.pointer p)/\Rp w' p R/\Old w w' /\R.length<=100000000
theorem jDY(w:World)(hg:Sg w)(g:Nat)(r:Option Nat)(src:BA)(m:Mc)(A:OA)(c:Nat)(h:Mac w g r src m A c)(hp:Pos m.stack)(hl:m.stack.length<=1000000)(hf:¬(1<=m.fin/\m.fin<=7)):
  Calls prog 79 #[.pointer (some ⟨g,0,none⟩)] w (jCF w (kf m.stack).2):=by
 have HR:=G (zC w hg g r src m A c h hp (by omega));have Fo:=h.c3;have Fb:=G ((vj m.stack).2);have Sj:=yp;have b1:((m.fin:Int)==1)=false:=jM3 (by omega);have b2:((m.fin:Int)==2)=false:=jM3 (by omega);have b3:((m.fin:Int)==3)=false:=jM3 (by omega);have b4:((m.fin:Int)==4)=false:=jM3 (by omega);have b5:((m.fin:Int)==5)=false:=jM3 (by omega);have b6:((m.fin:Int)==6)=false:=jM3 (by omega);have b7:((m.fin:Int)==7)=false:=jM3 (by omega);clear h hg hp hf;generalize m.fin=q at*;generalize kf m.stack=rs at*;obtain⟨x,y⟩:=rs;simp only at HR Fb;go_enter func79,ntmps79;go_wp2_with (go_at_call 141;refine HR.out.mono ?_;rintro e w2 ⟨a,b,he,hx,hy,ho⟩;obtain rfl:e=.returned (.agg #[.pointer a,.pointer b]):=he;have HY:=G hy;have Gz:=G ho;clear hx hy ho);go_ret;exact⟨b,rfl,HY.out,Gz.out,by have:=Fb.out;omega⟩
theorem jDW(w:World)(hg:Sg w)(g:Nat)(r:Option Nat)(src:BA)(m:Mc)(A:OA)(c:Nat)(h:Mac w g r src m A c)(hp:Pos m.stack)(hl:m.stack.length<=1000000)(hf:m.fin=2)(Gt:m.from_ <src.size):
  Calls prog 79 #[.pointer (some ⟨g,0,none⟩)] w (jCF w (Jf m.stack ((sb src).drop m.from_))):=by
 have HR:=G (Qy w hg g r src m A c h hp hl Gt);have Fo:w.cell? ⟨g,3,none⟩=some (.int .u8 2):=by rw[h.c3,hf];rfl
 clear h hg hp hf;generalize Jf m.stack ((sb src).drop m.from_)=R at*;go_enter func79,ntmps79;go_wp2_with (go_at_call 143;refine HR.out.mono ?_;rintro e w2 ⟨p,rfl,hq,ho,hlen⟩;have HQ:=G hq;have Gz:=G ho;clear hq ho);go_ret;exact⟨p,rfl,HQ.out,Gz.out,by omega⟩
theorem ue(w:World)(hg:Sg w)(g:Nat)(r:Option Nat)(src:BA)(m:Mc)(A:OA)(c:Nat)(h:Mac w g r src m A c)(hp:Pos m.stack)(hl:m.stack.length<=1000000)(hf:m.fin=1):
  Calls prog 79 #[.pointer (some ⟨g,0,none⟩)] w (jCF w (if(kf m.stack).2=[]then []else 10::(kf m.stack).2)):=by
 have HR:=G (zC w hg g r src m A c h hp (by omega));have Fo:w.cell? ⟨g,3,none⟩=some (.int .u8 1):=by rw[h.c3,hf];rfl
 have Fb:=G ((vj m.stack).2);have Sj:=yp;clear h hg hp hf;generalize kf m.stack=rs at*;obtain⟨x,y⟩:=rs;simp only at HR Fb⊢;by_cases hy:y=[]
 ·subst hy;have Bm:=G (show(if([]:LB)=[]then []else 10::[])=([]:LB)from rfl);rw[Bm.out];go_enter func79,ntmps79;go_wp2_with (go_at_call 141;refine HR.out.mono ?_;rintro e w2 ⟨a,b,he,hx,hy,ho⟩;obtain rfl:e=.returned (.agg #[.pointer a,.pointer b]):=he;obtain rfl:b=none:=hy.nil_iff.2 rfl;have Gz:=G ho;clear hx hy ho);go_ret;exact⟨none,rfl,.nil,Gz.out,by decide⟩
 ·rw[jJ5 hy];have Hy:=G hy;clear hy;go_enter func79,ntmps79;go_wp2_with (first|(go_at_call 141;refine HR.out.mono ?_;rintro e w2 ⟨a,b,he,hx,hy,ho⟩;obtain rfl:e=.returned (.agg #[.pointer a,.pointer b]):=he;obtain⟨pb,rfl⟩:∃pb,b=some pb:=Option.ne_none_iff_exists'.1 (fun e=>Hy.out (hy.nil_iff.1 e));have HY:=G hy;have Gz:=G ho;clear hx hy ho)|(go_at_call 142;refine(jf _ _ y HY.out ⟨#[10]⟩ (by show 1+y.length<=_;have:=Fb.out;omega)).mono ?_;rintro e w3 ⟨q,rfl,hq,ho⟩;have HQ:=G hq;have N9:=G (Gz.out.old ho);clear hq ho));go_ret;exact⟨q,rfl,HQ.out,N9.out,by rw[jK6];have:=Fb.out;omega⟩
theorem jBb(w:World)(hg:Sg w)(g:Nat)(r:Option Nat)(src:BA)(m:Mc)(A:OA)(c:Nat)(h:Mac w g r src m A c)(hp:Pos m.stack)(hl:m.stack.length<=1000000)(hf:m.fin=4)(Ga:vd 3 m.stack=true):
  Calls prog 79 #[.pointer (some ⟨g,0,none⟩)] w (jCF w (34::(kf (vf 3 m.stack)).2)):=by
 obtain⟨n,hn,hT,hlen⟩:=vw 3 (by decide) m.stack h.sym Ga;have HW:=G (JS w g r src m A c h 3 n _ (by decide) hT (by omega));have NK:=G (hT.pos (by decide) hp);have FU:=(vj (vf 3 m.stack)).2;have Fo:w.cell? ⟨g,3,none⟩=some (.int .u8 4):=by rw[h.c3,hf];rfl
 generalize vf 3 m.stack=k at*;have HR:=G (fun W (hW:Old w W) g' r' A' c' (Fx:Mac W g' r' ⟨#[]⟩ ⟨0,k,0,0⟩ A' c')=>zC W (hg.old hW) g' r' _ _ A' c' Fx NK.out (by show k.length<=_;omega));generalize kf k=rs at*;have Fb:=G (show rs.2.length<=20000000 by omega);obtain⟨x,y⟩:=rs;simp only at HR Fb FU⊢;have Sj:=yp;clear FU h hg hT hlen hn hp hl hf Ga;go_enter func79,ntmps79;go_wp2_with (first|(go_at_call 144;refine HW.out.mono ?_;rintro e w1 ⟨g',r',A',c',rfl,Fx,Nn⟩;have Nq:=G Fx;have G8:=G Nn;clear Fx Nn)|(go_at_call 141;refine(HR.out _ G8.out _ _ _ _ Nq.out).mono ?_;rintro e w2 ⟨a,b,he,hx,hy,ho⟩;obtain rfl:e=.returned (.agg #[.pointer a,.pointer b]):=he;have HY:=G hy;have Gz:=G (G8.out.old ho);clear hx hy ho)|(go_at_call 142;refine(jf _ _ y HY.out ⟨#[34]⟩ (by show 1+y.length<=_;have:=Fb.out;omega)).mono ?_;rintro e w3 ⟨q,rfl,hq,ho⟩;have HQ:=G hq;have N9:=G (Gz.out.old ho);clear hq ho));go_ret;exact⟨q,rfl,HQ.out,N9.out,by have:=Fb.out;simp only[jK6];omega⟩
theorem jBa(w:World)(hg:Sg w)(g:Nat)(r:Option Nat)(src:BA)(m:Mc)(A:OA)(c:Nat)(h:Mac w g r src m A c)(hp:Pos m.stack)(hl:m.stack.length<=1000000)(hf:m.fin=5)(Ga:vd 3 m.stack=true):
  Calls prog 79 #[.pointer (some ⟨g,0,none⟩)] w (jCF w (34::34::(kf (vf 3 m.stack)).2)):=by
 obtain⟨n,hn,hT,hlen⟩:=vw 3 (by decide) m.stack h.sym Ga;have HW:=G (JS w g r src m A c h 3 n _ (by decide) hT (by omega));have NK:=G (hT.pos (by decide) hp);have FU:=(vj (vf 3 m.stack)).2;have Fo:w.cell? ⟨g,3,none⟩=some (.int .u8 5):=by rw[h.c3,hf];rfl
 generalize vf 3 m.stack=k at*;have HR:=G (fun W (hW:Old w W) g' r' A' c' (Fx:Mac W g' r' ⟨#[]⟩ ⟨0,k,0,0⟩ A' c')=>zC W (hg.old hW) g' r' _ _ A' c' Fx NK.out (by show k.length<=_;omega));generalize kf k=rs at*;have Fb:=G (show rs.2.length<=20000000 by omega);obtain⟨x,y⟩:=rs;simp only at HR Fb FU⊢;have Sj:=yp;clear FU h hg hT hlen hn hp hl hf Ga;go_enter func79,ntmps79;go_wp2_with (first|(go_at_call 144;refine HW.out.mono ?_;rintro e w1 ⟨g',r',A',c',rfl,Fx,Nn⟩;have Nq:=G Fx;have G8:=G Nn;clear Fx Nn)|(go_at_call 141;refine(HR.out _ G8.out _ _ _ _ Nq.out).mono ?_;rintro e w2 ⟨a,b,he,hx,hy,ho⟩;obtain rfl:e=.returned (.agg #[.pointer a,.pointer b]):=he;have HY:=G hy;have Gz:=G (G8.out.old ho);clear hx hy ho)|(go_at_call 142;refine(jf _ _ y HY.out ⟨#[34,34]⟩ (by show 2+y.length<=_;have:=Fb.out;omega)).mono ?_;rintro e w3 ⟨q,rfl,hq,ho⟩;have HQ:=G hq;have N9:=G (Gz.out.old ho);clear hq ho));go_ret;exact⟨q,rfl,HQ.out,N9.out,by have:=Fb.out;simp only[jK6];omega⟩
theorem jBZ(w:World)(hg:Sg w)(g:Nat)(r:Option Nat)(src:BA)(m:Mc)(A:OA)(c:Nat)(h:Mac w g r src m A c)(hp:Pos m.stack)(hl:m.stack.length<=1000000)(hf:m.fin=6)(Ga:vd 3 m.stack=true):
  Calls prog 79 #[.pointer (some ⟨g,0,none⟩)] w (jCF w (48::48::34::(kf (vf 3 m.stack)).2)):=by
 obtain⟨n,hn,hT,hlen⟩:=vw 3 (by decide) m.stack h.sym Ga;have HW:=G (JS w g r src m A c h 3 n _ (by decide) hT (by omega));have NK:=G (hT.pos (by decide) hp);have FU:=(vj (vf 3 m.stack)).2;have Fo:w.cell? ⟨g,3,none⟩=some (.int .u8 6):=by rw[h.c3,hf];rfl
 generalize vf 3 m.stack=k at*;have HR:=G (fun W (hW:Old w W) g' r' A' c' (Fx:Mac W g' r' ⟨#[]⟩ ⟨0,k,0,0⟩ A' c')=>zC W (hg.old hW) g' r' _ _ A' c' Fx NK.out (by show k.length<=_;omega));generalize kf k=rs at*;have Fb:=G (show rs.2.length<=20000000 by omega);obtain⟨x,y⟩:=rs;simp only at HR Fb FU⊢;have Sj:=yp;clear FU h hg hT hlen hn hp hl hf Ga;go_enter func79,ntmps79;go_wp2_with (first|(go_at_call 144;refine HW.out.mono ?_;rintro e w1 ⟨g',r',A',c',rfl,Fx,Nn⟩;have Nq:=G Fx;have G8:=G Nn;clear Fx Nn)|(go_at_call 141;refine(HR.out _ G8.out _ _ _ _ Nq.out).mono ?_;rintro e w2 ⟨a,b,he,hx,hy,ho⟩;obtain rfl:e=.returned (.agg #[.pointer a,.pointer b]):=he;have HY:=G hy;have Gz:=G (G8.out.old ho);clear hx hy ho)|(go_at_call 142;refine(jf _ _ y HY.out ⟨#[48,48,34]⟩ (by show 3+y.length<=_;have:=Fb.out;omega)).mono ?_;rintro e w3 ⟨q,rfl,hq,ho⟩;have HQ:=G hq;have N9:=G (Gz.out.old ho);clear hq ho));go_ret;exact⟨q,rfl,HQ.out,N9.out,by have:=Fb.out;simp only[jK6];omega⟩
theorem jBY(w:World)(hg:Sg w)(g:Nat)(r:Option Nat)(src:BA)(m:Mc)(A:OA)(c:Nat)(h:Mac w g r src m A c)(hp:Pos m.stack)(hl:m.stack.length<=1000000)(hf:m.fin=7)(Ga:vd 3 m.stack=true):
  Calls prog 79 #[.pointer (some ⟨g,0,none⟩)] w (jCF w (48::34::(kf (vf 3 m.stack)).2)):=by
 obtain⟨n,hn,hT,hlen⟩:=vw 3 (by decide) m.stack h.sym Ga;have HW:=G (JS w g r src m A c h 3 n _ (by decide) hT (by omega));have NK:=G (hT.pos (by decide) hp);have FU:=(vj (vf 3 m.stack)).2;have Fo:w.cell? ⟨g,3,none⟩=some (.int .u8 7):=by rw[h.c3,hf];rfl
 generalize vf 3 m.stack=k at*;have HR:=G (fun W (hW:Old w W) g' r' A' c' (Fx:Mac W g' r' ⟨#[]⟩ ⟨0,k,0,0⟩ A' c')=>zC W (hg.old hW) g' r' _ _ A' c' Fx NK.out (by show k.length<=_;omega));generalize kf k=rs at*;have Fb:=G (show rs.2.length<=20000000 by omega);obtain⟨x,y⟩:=rs;simp only at HR Fb FU⊢;have Sj:=yp;clear FU h hg hT hlen hn hp hl hf Ga;go_enter func79,ntmps79;go_wp2_with (first|(go_at_call 144;refine HW.out.mono ?_;rintro e w1 ⟨g',r',A',c',rfl,Fx,Nn⟩;have Nq:=G Fx;have G8:=G Nn;clear Fx Nn)|(go_at_call 141;refine(HR.out _ G8.out _ _ _ _ Nq.out).mono ?_;rintro e w2 ⟨a,b,he,hx,hy,ho⟩;obtain rfl:e=.returned (.agg #[.pointer a,.pointer b]):=he;have HY:=G hy;have Gz:=G (G8.out.old ho);clear hx hy ho)|(go_at_call 142;refine(jf _ _ y HY.out ⟨#[48,34]⟩ (by show 2+y.length<=_;have:=Fb.out;omega)).mono ?_;rintro e w3 ⟨q,rfl,hq,ho⟩;have HQ:=G hq;have N9:=G (Gz.out.old ho);clear hq ho));go_ret;exact⟨q,rfl,HQ.out,N9.out,by have:=Fb.out;simp only[jK6];omega⟩
theorem jDX(w:World)(hg:Sg w)(g:Nat)(r:Option Nat)(src:BA)(m:Mc)(A:OA)(c:Nat)(h:Mac w g r src m A c)(hp:Pos m.stack)(hl:m.stack.length<=1000000)(hf:m.fin=3)(Gt:m.from_ <=src.size)(hs:src.size<=1000000)(h1:1<=vK ((sb src).drop m.from_ ++[61]))(Ga:vd (vK ((sb src).drop m.from_ ++[61])) m.stack=true):
  Calls prog 79 #[.pointer (some ⟨g,0,none⟩)] w (jCF w (61::(kf (vf (vK ((sb src).drop m.from_ ++[61])) m.stack)).2)):=by
 have Q9:sb (src.extract m.from_ src.size)=(sb src).drop m.from_:=by
  rw[jq,jK4 (by rw[jK8,jB];exact jL3 _)]
 have Gl:(src.extract m.from_ src.size).size=src.size-m.from_:=(by rw[<-jB,Q9,jK8,jB]);have hlt:=vh ((sb src).drop m.from_ ++[61]);have Ch:=fun W (hW:Old w W)=>JD W (hg.old hW) (src.extract m.from_ src.size++⟨#[61]⟩);rw[KB,Q9,show sb ⟨#[61]⟩=[61]from rfl]at Ch;have Td:=fun w=>run_string_add_sum (P:=prog) w (src.extract m.from_ src.size) ⟨#[61]⟩ (by show _ +1<=_;omega);generalize src.extract m.from_ src.size++⟨#[61]⟩=sx at*;generalize vK ((sb src).drop m.from_ ++[61])=t at*;obtain⟨n,hn,hT,hlen⟩:=vw t hlt m.stack h.sym Ga;have HW:=G (fun W (hW:Old w W)=>JS W g r src m A c (h.old hW) t n _ hlt hT (by omega));have NK:=G (hT.pos h1 hp);have FU:=(vj (vf t m.stack)).2;have Fo:w.cell? ⟨g,3,none⟩=some (.int .u8 3):=by rw[h.c3,hf];rfl
 have HC:=G (fun W (hW:Old w W)=>And.intro (h.old hW).c0 (h.old hW).c4);generalize vf t m.stack=k at*;have HR:=G (fun W (hW:Old w W) g' r' A' c' (Fx:Mac W g' r' ⟨#[]⟩ ⟨0,k,0,0⟩ A' c')=>zC W (hg.old hW) g' r' _ _ A' c' Fx NK.out (by show k.length<=_;omega));generalize kf k=rs at*;have Fb:=G (show rs.2.length<=20000000 by omega);obtain⟨x,y⟩:=rs;simp only at HR Fb FU⊢;have HS:=G Ch;have a1:(m.from_:Int)<=(src.size:Int):=(by omega);have a2:(0:Int)<=(m.from_:Int):=(by omega);have a3:(m.from_:Int).toNat=m.from_:=(by omega);have Sj:=yp;have HD:Hid (Old w w.drew):=G (jQ0 NoX w).drew;clear FU h hg hT hlen hn hp hl hf Ga Ch h1 hlt Q9 Gl;unfold yv at*;go_enter func79,ntmps79;go_wp2;refine jL (S:=fun W=>Old w W) 17 rfl (by kernel_rfl) HD.out (fun Ha=> ?_)
 iterate 11 (refine' tOn rfl rfl (by kernel_rfl) (fun _ _ _ h=>h) rfl Ha (fun w' Hh=> ?_) ?_;rotate_left;(have s0:=(HC.out _ Hh).1;have s1:=(HC.out _ Hh).2;clear Hh;go_simp<;>with_reducible rfl);simp only[Act.put,jJ1,jJ2,jJ3])
 refine yU rfl (by kernel_rfl) (by decide) (fun K hK=> ?_);go_simp;go_at_call 145;refine(HS.out _ Ha).mono ?_;rintro e w1 ⟨rfl,rfl⟩;go_simp;refine hK.out _ _ Ha (fun Ha=> ?_);clear hK K;refine yU rfl (by kernel_rfl) (by decide) (fun K hK=> ?_);go_simp;go_at_call 144;refine(HW.out _ Ha).mono ?_;rintro e w2 ⟨g',r',A',c',rfl,Fx,Nn⟩;go_simp;refine hK.out _ _ (Ha.old Nn) (fun Ha=> ?_);clear hK K;refine yU rfl (by kernel_rfl) (by decide) (fun K hK=> ?_);go_simp;go_at_call 141;refine(HR.out _ Ha _ _ _ _ Fx).mono ?_;rintro e w3 ⟨a,b,he,hx,hy,ho⟩;obtain rfl:e=.returned (.agg #[.pointer a,.pointer b]):=he;go_simp;refine hK.out _ _ (Ha.old ho) (fun Ha=> ?_);clear hK K
 iterate 1 (refine' tOn rfl rfl (by kernel_rfl) (fun _ _ _ h=>h) rfl Ha (fun w' Hh=> ?_) ?_;rotate_left;(clear Hh;go_simp<;>with_reducible rfl);simp only[Act.put,jJ1,jJ2,jJ3])
 refine yU rfl (by kernel_rfl) (by decide) (fun K hK=> ?_);go_simp;go_at_call 142;refine(jf _ b y hy ⟨#[61]⟩ (by show 1+y.length<=_;have:=Fb.out;omega)).mono ?_;rintro e w4 ⟨q,rfl,hq,R7⟩;go_simp;refine hK.out _ _ (Ha.old R7) (fun Ha=> ?_);clear hK K
 iterate 1 (refine' tOn rfl rfl (by kernel_rfl) (fun _ _ _ h=>h) rfl Ha (fun w' Hh=> ?_) ?_;rotate_left;(clear Hh;go_simp<;>with_reducible rfl);simp only[Act.put,jJ1,jJ2,jJ3])
 refine wpAnyH_done (by kernel_rfl) ?_ _;have Gf:=G (show jCF w (61::y) (.returned (.pointer q)) w4 from⟨q,rfl,hq,Ha,by have:=Fb.out;simp only[jK6];omega⟩);clear hq R7 Ha hx hy ho Fx Nn;go_wp2;go_ret;exact Gf.out
structure FinOk(src:LB)(m:Mc):Prop where
 pos:Pos m.stack
 word:m.fin=2->m.from_ <src.length
 sgn:m.fin=3->m.from_ <=src.length/\1<=vK (src.drop m.from_ ++[61])/\vd (vK (src.drop m.from_ ++[61])) m.stack=true
 txt:4<=m.fin->m.fin<=7->vd 3 m.stack=true
theorem xQ(w:World)(hg:Sg w)(g:Nat)(r:Option Nat)(src:BA)(m:Mc)(A:OA)(c:Nat)(h:Mac w g r src m A c)(hl:m.stack.length<=1000000)(hs:src.size<=1000000)(hk:FinOk (sb src) m):
  Calls prog 79 #[.pointer (some ⟨g,0,none⟩)] w (jCF w (Kb (sb src) m)):=by
 obtain⟨hp,hU,GO,X5⟩:=hk;rw[jB]at hU GO;unfold Kb;by_cases e1:m.fin=1
 ·rw[jJ6 e1];exact ue w hg g r src m A c h hp hl e1
 rw[jJ5 e1];by_cases e2:m.fin=2
 ·rw[jJ6 e2];exact jDW w hg g r src m A c h hp hl e2 (hU e2)
 rw[jJ5 e2];by_cases e3:m.fin=3
 ·rw[jJ6 e3];exact jDX w hg g r src m A c h hp hl e3 (GO e3).1 hs (GO e3).2.1 (GO e3).2.2
 rw[jJ5 e3];by_cases e4:m.fin=4
 ·rw[jJ6 e4];exact jBb w hg g r src m A c h hp hl e4 (X5 (by omega) (by omega))
 rw[jJ5 e4];by_cases e5:m.fin=5
 ·rw[jJ6 e5];exact jBa w hg g r src m A c h hp hl e5 (X5 (by omega) (by omega))
 rw[jJ5 e5];by_cases e6:m.fin=6
 ·rw[jJ6 e6];exact jBZ w hg g r src m A c h hp hl e6 (X5 (by omega) (by omega))
 rw[jJ5 e6];by_cases e7:m.fin=7
 ·rw[jJ6 e7];exact jBY w hg g r src m A c h hp hl e7 (X5 (by omega) (by omega))
 rw[jJ5 e7];exact jDY w hg g r src m A c h hp hl (by omega)
theorem zz{t:Nat}(ht:1<=t){m m' :Mc}{k:Nat}(hp:Pos m.stack)(h:vz t m k=.ok m'):Pos m'.stack/\m'.fin=m.fin:=by
 unfold vz at h;split at h
 ·rename_i s hs;injection h with h;obtain⟨n,_,hT⟩:=JT hs;rw[<-h];exact⟨hT.pos ht hp,rfl⟩
 ·cases h
theorem Xj(w:LB):1<=yR w:=by
 unfold yR;split
 ·decide
 ·split
  ·decide
  ·omega
theorem Jg:∀(l:LB) (k e j:Nat),4<=e->kz l k e=.ends j->4<=j
 |[],k,e,j,he,h=>by
  rw[kz]at h;injection h with h;omega
 |c::l,k,e,j,he,h=>by
  rw[kz]at h
  repeat' split at h
  all_goals first|(cases h;done)|exact Jg l _ _ j (by omega) h|exact Jg l _ _ j (by split<;>omega) h
theorem jCX(src:LB){m m' :Mc}{c:UInt8}{l:LB}(hd:src.drop m.at_=c::l)(hp:Pos m.stack)(hf:m.fin=0)(h:Ji m (c::l)=.ok m'):Pos m'.stack/\(m'.fin=0\/(src.length<=m'.at_ /\FinOk src m')):=by
 have hlen:src.length=m.at_ +(c::l).length:=by
  have:=congrArg List.length hd;rw[jK8]at this;rw[jK6]at this⊢;omega
 rw[Ji]at h;split at h
 ·injection h with h;rw[<-h];exact⟨hp,.inl hf⟩
 split at h
 ·unfold vu at h;simp only at h;injection h with h;split at h
  ·rw[<-h];exact⟨hp,.inr ⟨Nat.le_of_eq hlen,hp,fun e=>absurd e (by decide:¬1=2),fun e=>absurd e (by decide:¬1=3),fun e=>absurd e (by decide:¬4<=1)⟩⟩
  ·rw[<-h];exact⟨hp,.inl hf⟩
 split at h
 ·unfold vO at h;split at h
  ·cases h
  ·rename_i hm;split at h
   ·cases h
   ·obtain⟨h1,h2⟩:=zz (m:={m with from_:=m.at_,fin:=0}) (by decide) hp h;exact⟨h1,.inl h2⟩
   ·rename_i e he;have h4:=Jg _ _ _ _ (by decide) he;injection h with h;rw[<-h];exact⟨hp,.inr ⟨Nat.le_of_eq hlen,hp,fun e' =>by simp only at e';omega,fun e' =>by simp only at e';omega,fun _ _=>by simpa using hm⟩⟩
 split at h
 ·unfold vg at h;simp only at h;split at h
  ·obtain⟨h1,h2⟩:=zz (m:={m with from_:=m.at_}) (Xj _) hp h;exact⟨h1,.inl (h2.trans hf)⟩
  ·unfold zU at h;split at h
   ·cases h
   ·injection h with h;rw[<-h];exact⟨hp,.inr ⟨Nat.le_of_eq hlen,hp,fun _=>by simp only;rw[hlen,jK6];omega,fun e' =>absurd e' (by decide:¬2=3),fun e' =>absurd e' (by decide:¬4<=2)⟩⟩
 ·unfold yG at h;simp only at h;split at h
  ·rename_i hc;split at h
   ·rename_i hh;obtain⟨h1,h2⟩:=zz (m:={m with from_:=m.at_}) (Nat.one_le_iff_ne_zero.2 hh.1) hp h;exact⟨h1,.inl (h2.trans hf)⟩
   ·obtain⟨h1,h2⟩:=zz (m:={m with from_:=m.at_}) (Nat.one_le_iff_ne_zero.2 hc.1) hp h;exact⟨h1,.inl (h2.trans hf)⟩
  ·split at h
   ·cases h
   ·rename_i hn;rw[not_or]at hn;have Ga:vd (vK [c,61]) m.stack=true:=(by simpa using hn.2);split at h
    ·rename_i hl;injection h with h;rw[<-h];subst hl;refine⟨hp,.inr ⟨?_,hp,fun e' =>absurd e' (by decide:¬3=2),fun _=> ?_,fun e' =>absurd e' (by decide:¬4<=3)⟩⟩
     ·simp only;rw[hlen];exact jL3 _
     ·simp only;rw[hd];exact⟨by rw[hlen];omega,Nat.one_le_iff_ne_zero.2 hn.1,Ga⟩
    ·split at h
     ·cases h
     ·obtain⟨h1,h2⟩:=zz (m:={m with from_:=m.at_}) (Nat.one_le_iff_ne_zero.2 hn.1) hp h;exact⟨h1,.inl (h2.trans hf)⟩
theorem jAE(src:LB):∀(f:Nat) (m m' :Mc),src.length+1<=f+m.at_ ->Pos m.stack->(m.fin=0\/(src.length<=m.at_ /\FinOk src m))->UC src f m=.ok m' ->FinOk src m'
 |0,m,m',hf,hp,hk,h=>by
  rw[UC]at h;injection h with h;rw[<-h];rcases hk with hk|hk
  ·exact⟨hp,fun e=>by omega,fun e=>by omega,fun e=>by omega⟩
  ·exact hk.2
 |f+1,m,m',hf,hp,hk,h=>by
  rw[UC]at h;split at h
  ·injection h with h;rw[<-h];rcases hk with hk|hk
   ·exact⟨hp,fun e=>by omega,fun e=>by omega,fun e=>by omega⟩
   ·exact hk.2
  ·rename_i hlt;have LY:m.fin=0:=by
    rcases hk with hk|hk
    ·exact hk
    ·exact absurd hk.1 hlt
   obtain⟨c,l,hd⟩:∃c l,src.drop m.at_=c::l:=by
    cases hd:src.drop m.at_ with
    |nil=>
     have:=congrArg List.length hd;rw[jK8,jN2]at this;omega
    |cons c l=>exact⟨c,l,rfl⟩
   rw[hd]at h;split at h
   ·cases h
   ·rename_i m1 hm1;obtain⟨h1,h2⟩:=jCX src hd hp LY hm1;have h3:=(ZX hm1).1;exact jAE src f m1 m' (by omega) h1 h2 h
theorem jB1{src:LB}{m:Mc}(h:vv src=.ok m):FinOk src m:=by
 refine jAE src _ Yx m ?_ (Pos.of _ (by decide)) (.inl rfl) h;show src.length+1<=src.length+1+0;omega
theorem Takes.sym{t n:Nat}{l k:List Nat}(ht:t<85)(h:Takes t n l k):(∀x∈l,x<85)->∀x∈k,x<85:=by
 induction h with
 |hit l=>exact fun hp x hx=>hp x (jN1 _ hx)
 |more n x l k _ _ ih=>
  intro hp;refine ih (fun y hy=> ?_);rcases jM6 hy with hy|hy
  ·exact jAF x t ht y hy
  ·exact hp y (jN1 _ hy)
theorem Vt{t:Nat}(ht:t<85){m m' :Mc}{k:Nat}(hp:∀x∈m.stack,x<85)(h:vz t m k=.ok m'):∀x∈m'.stack,x<85:=by
 unfold vz at h;split at h
 ·rename_i s hs;injection h with h;obtain⟨n,_,hT⟩:=JT hs;rw[<-h];exact hT.sym ht hp
 ·cases h
theorem jCV{m m' :Mc}{c:UInt8}{l:LB}(hp:∀x∈m.stack,x<85)(h:Ji m (c::l)=.ok m'):∀x∈m'.stack,x<85:=by
 rw[Ji]at h;split at h
 ·injection h with h;rw[<-h];exact hp
 split at h
 ·unfold vu at h;simp only at h;injection h with h;split at h<;>(rw[<-h];exact hp)
 split at h
 ·unfold vO at h;split at h
  ·cases h
  ·split at h
   ·cases h
   ·exact Vt (m:={m with from_:=m.at_,fin:=0}) (by decide) hp h
   ·injection h with h;rw[<-h];exact hp
 split at h
 ·unfold vg at h;simp only at h;split at h
  ·exact Vt (m:={m with from_:=m.at_}) (Nat.lt_trans (KP _) (by decide)) hp h
  ·unfold zU at h;split at h
   ·cases h
   ·injection h with h;rw[<-h];exact hp
 ·unfold yG at h;simp only at h
  repeat' split at h
  all_goals first|(cases h;done)|exact Vt (m:={m with from_:=m.at_}) (Nat.lt_trans (vh _) (by decide)) hp h|(injection h with h;rw[<-h];exact hp)
theorem jAD(src:LB):∀(f:Nat) (m m' :Mc),(∀n∈m.stack,n<85)->m.stack.length<=5+12*m.at_ ->m.at_ <=src.length->UC src f m=.ok m' ->m'.stack.length<=5+12*src.length
 |0,m,m',h5,hl,ha,h=>by
  rw[UC]at h;injection h with h;rw[<-h];omega
 |f+1,m,m',h5,hl,ha,h=>by
  rw[UC]at h;split at h
  ·injection h with h;rw[<-h];omega
  ·rename_i hlt;obtain⟨c,l,hd⟩:∃c l,src.drop m.at_=c::l:=by
    cases hd:src.drop m.at_ with
    |nil=>
     have:=congrArg List.length hd;rw[jK8,jN2]at this;omega
    |cons c l=>exact⟨c,l,rfl⟩
   rw[hd]at h;split at h
   ·cases h
   ·rename_i m1 hm1;have h3:=ZX hm1;have h4:=qP h5 hm1;have h6:=congrArg List.length hd;rw[jK8]at h6;exact jAD src f m1 m' (jCV h5 hm1) (by omega) (by omega) h
theorem jB0{src:LB}{m:Mc}(h:vv src=.ok m):m.stack.length<=5+12*src.length:=
 jAD src _ Yx m (by decide) (by decide) (Nat.zero_le _) h
theorem KJ{P:Program}{fn:Func}{R:Ending->World->Prop}{a:Act}{w:World}{p u v:Tmp}{ty:TypeId}{g:Nat}{t:TypeId}{cs:Array Value}{d:TypeDesc}(h:fn.results= #[.cell p ty,.tmp u,.tmp v])
  (hp:a.tmps.getD p undef=.pointer (some ⟨g,0,none⟩)) (hb:Blk w g t cs) (hu:P.underlying ty=some d) (hd:(match d with| .struct _ | .array _ _=>true|_=>false)=true) (hi:(P.info? ty).map (·.size)=some cs.size)
  (Cx:a.defers=[]) (hR:R (.returned (.tuple #[.agg cs,a.tmps.getD u undef,a.tmps.getD v undef])) w):bodyPost P fn R .ret a w:=by
 refine bodyPost_ret ?_ Cx hR;have hl:=run_loadVar_row (P:=P) w g t ty cs (0,0) d hb hu hd hi;simp only[results,h];simp only[Array.getD_eq_getD_getElem?]at hp;simp[hp,asAddr,hl]
theorem UJ(W:World)(g:Nat)(r:Option Nat)(src:BA)(m:Mc)(A:OA)(c:Nat)(h:Mac W g r src m A c):
  Calls prog 77 #[.pointer (some ⟨g,0,none⟩)] W fun e w' =>e=.returned (.bool (decide (m.stack=[])))/\W=w' :=by
 have FE:=h.c2;have Hd:=G (show decide (m.stack=[])=((m.stack.length:Int)==0)by
  cases hm:m.stack with
  |nil=>rfl
  |cons a l=>simp;omega)
 rw[Hd.out];clear h Hd;cases hb:((m.stack.length:Int)==0)with
 |true=>
  go_enter func77,ntmps77;go_wp2;go_ret;exact⟨by trivial,rfl⟩
 |false=>
  go_enter func77,ntmps77;go_wp2;go_ret;exact⟨by trivial,rfl⟩
def sl0(Z:Nat->Prop):Sl:=⟨none,0,none,0,none,0,none,0,none,0,none,0,Z⟩
theorem ox0{g:Nat}{Z:Nat->Prop}{b:Nat}(h:OX g (sl0 Z) b):b=g:=by
 rcases h with e|e|e|e|e|e|e
 ·exact e
 all_goals cases e
theorem St.begin_{w:World}(hg:Sg w)(h8:8<=w.heap.size)(src:BA)(hs:src.size<=1000000)(Z:Nat->Prop)(hZ:∀b,Z b->8<=b/\b<w.heap.size):
  St (w.alloc (.cells (rdC src ⟨0,0,0,0,Tre.none_⟩ (jF Tre.none_ (sl0 Z))).toArray 165)) w.heap.size src ⟨0,0,0,0,Tre.none_⟩ (sl0 Z):=by
 have ho:=(jQ0 NoX w).alloc (.cells (rdC src ⟨0,0,0,0,Tre.none_⟩ (jF Tre.none_ (sl0 Z))).toArray 165);exact⟨hg.old ho,h8,hs,jQ2 _ _ _,⟨[],[],World.ownsRow_nil _ _ _ _,World.ownsRow_nil _ _ _ _,World.ownsRow_nil _ _ _ _,World.ownsRow_nil _ _ _ _,World.ownsRow_nil _ _ _ _,World.ownsRow_nil _ _ _ _,rfl,rfl,fun x hx=>by(cases hx),fun x hx=>by(cases hx)⟩,jL3 _,Nat.zero_le _,by decide,
  fun b hb=>jL8 (hZ b hb).2 ho.size,fun b hb=>by have:=(hZ b hb).1;omega,fun b hx hz=>by have:=ox0 hx;have:=(hZ b hz).2;omega⟩
theorem St.putz{w:World}{g:Nat}{src:BA}{r:Rdr}{s:Sl}(h:St w g src r s){b:Nat}(hz:s.z b)(i:Nat)(u:Value):St (w.setCell ⟨b,i,none⟩ u) g src r s:=by
 have hk:Kp (fun k=>k=b) w (w.setCell ⟨b,i,none⟩ u):=(jQ0 (fun k=>k=b) w).setCell (p:=⟨b,i,none⟩) (fun _=>rfl) u;exact h.zgrow hk (fun k e=>by rw[e];exact hz) s.z (fun k e=>⟨.inl e,jL8 (h.zlt k e) hk.size⟩)
theorem yY{X:Nat->Prop}{w W:World}(h:Kp X w W){b:Nat}(hb:X b)(i:Nat)(u:Value):Kp X w (W.setCell ⟨b,i,none⟩ u):=h.setCell (p:=⟨b,i,none⟩) (fun _=>hb) u
def jEN(w:World)(at_ e:Nat)(d:Ending)(w' :World):Prop:=d=.returned (.tuple #[.agg (jF Tre.none_ (sl0 NoX)).toArray,iv (at_:Int),iv (e:Int)])/\Old w w'
def jHQ(w:World)(src:BA)(r:Rdr)(d:Ending)(w' :World):Prop:=∃g s,d=.returned (.tuple #[.agg (jF r.tree s).toArray,iv 0,iv 0])/\St w' g src r s/\Old w w' /\(∀b,OX g s b->w.heap.size<=b)
theorem jCr(w:World)(hg:Sg w)(h8:8<=w.heap.size)(A:OA)(n c:Nat)(l:LB)(hr:Rd w 1 A n (l.map bv))(hs:l.length<=60000)(m:Mc)(hb:vv l=.ok m)(hm:m.stack=[])(f:Nat)(r:Rdr)(hk:Jj l f=some r):
  Calls prog 26 #[.slice A n c] w (jHQ w ⟨l.toArray⟩ r):=by
 have hn:l.length=n:=(by simpa using hr.1);have Me:=(jQ0 NoX w).alloc (.cells #[.string ⟨#[]⟩,.int .i64 0,.slice none 0 0,.slice none 0 0,.slice none 0 0,.slice none 0 0,.slice none 0 0,.slice none 0 0] 29);have B0:=jQ2 w 29 #[.string ⟨#[]⟩,.int .i64 0,.slice none 0 0,.slice none 0 0,.slice none 0 0,.slice none 0 0,.slice none 0 0,.slice none 0 0];have L5:=hr.old Me;have Si:=hg.old Me;have Fg:8<=(w.alloc (.cells #[.string ⟨#[]⟩,.int .i64 0,.slice none 0 0,.slice none 0 0,.slice none 0 0,.slice none 0 0,.slice none 0 0,.slice none 0 0] 29)).heap.size:=jL4 h8 Me.size;have WU:=jj (P:=prog) (w:=w.alloc (.cells #[.string ⟨#[]⟩,.int .i64 0,.slice none 0 0,.slice none 0 0,.slice none 0 0,.slice none 0 0,.slice none 0 0,.slice none 0 0] 29)) underlying33 underlying5 underlying9 A n c l L5;have hB:=Yc (w.alloc (.cells #[.string ⟨#[]⟩,.int .i64 0,.slice none 0 0,.slice none 0 0,.slice none 0 0,.slice none 0 0,.slice none 0 0,.slice none 0 0] 29)) Si ⟨l.toArray⟩ (by rw[<-jB,zV];exact hs) Fg;rw[zV,hb]at hB;have HB:=G hB;have b1:¬(60000:Int)<(n:Int):=(by omega);have Ia:=G Si;have Ii:=G Fg;have Sv:=G B0;have Su:=G Me;have HR:=G (show Jj (sb ⟨l.toArray⟩) f=some r by rw[zV];exact hk);have FZ:=G (show(⟨l.toArray⟩:BA).size<=1000000 by rw[<-jB,zV];omega);have H8:=G h8;clear hg hr hs hb hk L5 Si Fg B0 Me hB h8;generalize (⟨l.toArray⟩:BA)=src at*;go_enter func26,ntmps26;go_wp2_with (first|(go_at_call 76;refine HB.out.mono ?_;rintro e w1 ⟨g,r1,A1,c1,rfl,hM,ho,Re,_⟩;have HO:=G ho;have HM:=G hM;have m0:=hM.c0;have S0:=G (St.begin_ (Ia.out.old ho) (jL4 Ii.out ho.size) src FZ.out (fun b=>b=w.heap.size) (fun b e=>⟨by have:=H8.out;omega,by have:=Sv.out.lt;have:=ho.size;omega⟩));have RB1:=G (Sv.out.old ho);clear ho hM Re)|(go_at_call 77;refine(UJ _ _ _ _ _ _ _ HM.out).mono ?_;rintro e w2 ⟨rfl,rfl⟩;rw[hm])|(go_at_call 78;refine(jCp _ _ src f r _ S0.out HR.out).mono ?_;rintro e w3 ⟨rfl,s3,hX⟩;have t5:=Blk.at_ hX.1.box 5 (v:=.string r.tree.name) rfl;have t6:=Blk.at_ hX.1.box 6 (v:=.int .i64 r.tree.at_) rfl;have t7:=Blk.at_ hX.1.box 7 (v:=.slice s3.aA r.tree.attrs.length s3.ac) rfl;have t8:=Blk.at_ hX.1.box 8 (v:=.slice s3.gA r.tree.stages.length s3.gc) rfl;have t9:=Blk.at_ hX.1.box 9 (v:=.slice s3.mA r.tree.miles.length s3.mc) rfl;have t10:=Blk.at_ hX.1.box 10 (v:=.slice s3.pA r.tree.steps.length s3.pc) rfl;have t11:=Blk.at_ hX.1.box 11 (v:=.slice s3.nA r.tree.nodes.length s3.nc) rfl;have t12:=Blk.at_ hX.1.box 12 (v:=.slice s3.oA r.tree.ats.length s3.oc) rfl;have RB:=G ((RB1.out.alloc _).kp hX.2.kp (fun e=>by have e2:=ox0 e;have:=RB1.out.lt;omega));have d0:=RB.out.at_ 0 rfl;have z0:=RB.out.frozen 0;have d1:=RB.out.at_ 1 rfl;have z1:=RB.out.frozen 1;have d2:=RB.out.at_ 2 rfl;have z2:=RB.out.frozen 2;have d3:=RB.out.at_ 3 rfl;have z3:=RB.out.frozen 3;have d4:=RB.out.at_ 4 rfl;have z4:=RB.out.frozen 4;have d5:=RB.out.at_ 5 rfl;have z5:=RB.out.frozen 5;have d6:=RB.out.at_ 6 rfl;have z6:=RB.out.frozen 6;have d7:=RB.out.at_ 7 rfl;have z7:=RB.out.frozen 7;have HX:=G hX;clear hX)|fail);have hz:s3.z w.heap.size:=by rw[HX.out.2.z];exact rfl
 have KX:Kp (fun b=>w.heap.size<=b) w w3:=((((Su.out.trans HO.out (fun _ _ e=>e)).alloc _).mono (fun _ _ e=>e.elim)):Kp (fun b=>w.heap.size<=b) w _).trans HX.out.2.kp (fun b hb e=>by have e2:=ox0 e;have:=Su.out.size;have:=HO.out.size;omega);have KF:=(yY (yY (yY (yY (yY (yY (yY (yY KX (show w.heap.size<=w.heap.size from jL3 _) 0 (.string r.tree.name)) (show w.heap.size<=w.heap.size from jL3 _) 1 (.int .i64 r.tree.at_)) (show w.heap.size<=w.heap.size from jL3 _) 2 (.slice s3.aA r.tree.attrs.length s3.ac)) (show w.heap.size<=w.heap.size from jL3 _) 3 (.slice s3.gA r.tree.stages.length s3.gc)) (show w.heap.size<=w.heap.size from jL3 _) 4 (.slice s3.mA r.tree.miles.length s3.mc)) (show w.heap.size<=w.heap.size from jL3 _) 5 (.slice s3.pA r.tree.steps.length s3.pc)) (show w.heap.size<=w.heap.size from jL3 _) 6 (.slice s3.nA r.tree.nodes.length s3.nc)) (show w.heap.size<=w.heap.size from jL3 _) 7 (.slice s3.oA r.tree.ats.length s3.oc));have SF:=((((((((HX.out.1.putz hz 0 (.string r.tree.name)).putz hz 1 (.int .i64 r.tree.at_)).putz hz 2 (.slice s3.aA r.tree.attrs.length s3.ac)).putz hz 3 (.slice s3.gA r.tree.stages.length s3.gc)).putz hz 4 (.slice s3.mA r.tree.miles.length s3.mc)).putz hz 5 (.slice s3.pA r.tree.steps.length s3.pc)).putz hz 6 (.slice s3.nA r.tree.nodes.length s3.nc)).putz hz 7 (.slice s3.oA r.tree.ats.length s3.oc));have BF:=((((((((RB.out.setL 0 (.string r.tree.name)).setL 1 (.int .i64 r.tree.at_)).setL 2 (.slice s3.aA r.tree.attrs.length s3.ac)).setL 3 (.slice s3.gA r.tree.stages.length s3.gc)).setL 4 (.slice s3.mA r.tree.miles.length s3.mc)).setL 5 (.slice s3.pA r.tree.steps.length s3.pc)).setL 6 (.slice s3.nA r.tree.nodes.length s3.nc)).setL 7 (.slice s3.oA r.tree.ats.length s3.oc));refine KJ rfl rfl BF underlying29 rfl (by kernel_rfl) rfl ?_;refine⟨_,{s3 with z:=fun _=>False},rfl,SF.zgrow (jQ0 NoX _) (fun _ e=>e.elim) _ (fun _ e=>e.elim),KF.mono (fun b hb e=>by omega),fun b hx=> ?_⟩;rcases Nat.lt_or_ge b (w1.alloc (.cells (rdC src ⟨0,0,0,0,Tre.none_⟩ (jF Tre.none_ (sl0 fun b=>b=w.heap.size))).toArray 165)).heap.size with h1|h1
 ·have e2:=ox0 (HX.out.2.own b h1 hx);have:=Su.out.size;have:=HO.out.size;omega
 ·have h2:(w1.alloc (.cells (rdC src ⟨0,0,0,0,Tre.none_⟩ (jF Tre.none_ (sl0 fun b=>b=w.heap.size))).toArray 165)).heap.size=w1.heap.size+1:=(by simp);have:=Su.out.size;have:=HO.out.size;omega
theorem jAh(w:World)(hg:Sg w)(h8:8<=w.heap.size)(A:OA)(n c:Nat)(l:LB)(hr:Rd w 1 A n (l.map bv))(hs:l.length<=60000)(k:Nat)(hb:vv l=.error k):
  Calls prog 26 #[.slice A n c] w (jEN w k 90):=by
 have hn:l.length=n:=(by simpa using hr.1);have Me:=(jQ0 NoX w).alloc (.cells #[.string ⟨#[]⟩,.int .i64 0,.slice none 0 0,.slice none 0 0,.slice none 0 0,.slice none 0 0,.slice none 0 0,.slice none 0 0] 29);have B0:=jQ2 w 29 #[.string ⟨#[]⟩,.int .i64 0,.slice none 0 0,.slice none 0 0,.slice none 0 0,.slice none 0 0,.slice none 0 0,.slice none 0 0];have L5:=hr.old Me;have Si:=hg.old Me;have Fg:8<=(w.alloc (.cells #[.string ⟨#[]⟩,.int .i64 0,.slice none 0 0,.slice none 0 0,.slice none 0 0,.slice none 0 0,.slice none 0 0,.slice none 0 0] 29)).heap.size:=jL4 h8 Me.size;have WU:=jj (P:=prog) (w:=w.alloc (.cells #[.string ⟨#[]⟩,.int .i64 0,.slice none 0 0,.slice none 0 0,.slice none 0 0,.slice none 0 0,.slice none 0 0,.slice none 0 0] 29)) underlying33 underlying5 underlying9 A n c l L5;have hB:=Yc (w.alloc (.cells #[.string ⟨#[]⟩,.int .i64 0,.slice none 0 0,.slice none 0 0,.slice none 0 0,.slice none 0 0,.slice none 0 0,.slice none 0 0] 29)) Si ⟨l.toArray⟩ (by rw[<-jB,zV];exact hs) Fg;rw[zV,hb]at hB;have HB:=G hB;have b1:¬(60000:Int)<(n:Int):=(by omega);have Sv:=G B0;have Su:=G Me;clear hg hr hs hb L5 Si Fg B0 Me hB h8;generalize (⟨l.toArray⟩:BA)=src at*;go_enter func26,ntmps26;go_wp2_with (first|(go_at_call 76;refine HB.out.mono ?_;rintro e w1 ⟨p,rfl,ho⟩;have HO:=G ho;have RB:=G (Sv.out.old ho);clear ho;have d0:=RB.out.at_ 0 rfl;have z0:=RB.out.frozen 0;have d1:=RB.out.at_ 1 rfl;have z1:=RB.out.frozen 1;have d2:=RB.out.at_ 2 rfl;have z2:=RB.out.frozen 2;have d3:=RB.out.at_ 3 rfl;have z3:=RB.out.frozen 3;have d4:=RB.out.at_ 4 rfl;have z4:=RB.out.frozen 4;have d5:=RB.out.at_ 5 rfl;have z5:=RB.out.frozen 5;have d6:=RB.out.at_ 6 rfl;have z6:=RB.out.frozen 6;have d7:=RB.out.at_ 7 rfl;have z7:=RB.out.frozen 7)|fail);have KX:Kp (fun b=>w.heap.size<=b) w w1:=(Su.out.trans HO.out (fun _ _ e=>e)).mono (fun _ _ e=>e.elim);have KF:=(yY (yY (yY (yY (yY (yY (yY (yY KX (show w.heap.size<=w.heap.size from jL3 _) 0 (.string ⟨#[]⟩)) (show w.heap.size<=w.heap.size from jL3 _) 1 (.int .i64 0)) (show w.heap.size<=w.heap.size from jL3 _) 2 (.slice none 0 0)) (show w.heap.size<=w.heap.size from jL3 _) 3 (.slice none 0 0)) (show w.heap.size<=w.heap.size from jL3 _) 4 (.slice none 0 0)) (show w.heap.size<=w.heap.size from jL3 _) 5 (.slice none 0 0)) (show w.heap.size<=w.heap.size from jL3 _) 6 (.slice none 0 0)) (show w.heap.size<=w.heap.size from jL3 _) 7 (.slice none 0 0));have BF:=((((((((RB.out.setL 0 (.string ⟨#[]⟩)).setL 1 (.int .i64 0)).setL 2 (.slice none 0 0)).setL 3 (.slice none 0 0)).setL 4 (.slice none 0 0)).setL 5 (.slice none 0 0)).setL 6 (.slice none 0 0)).setL 7 (.slice none 0 0));refine KJ rfl rfl BF underlying29 rfl (by kernel_rfl) rfl ?_;exact⟨rfl,KF.mono (fun b hb e=>by omega)⟩
end Go.Proofs.YtmmjcbbogokmfaaGreatDoor

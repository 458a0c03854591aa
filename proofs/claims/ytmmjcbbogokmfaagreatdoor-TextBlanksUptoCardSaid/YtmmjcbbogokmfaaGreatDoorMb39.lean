import Derived.Test.YtmmjcbbogokmfaaGreatDoorMb36
import Derived.Test.YtmmjcbbogokmfaaGreatDoorMb38
set_option maxRecDepth 100000
set_option maxHeartbeats 25600000
namespace Go.Proofs.YtmmjcbbogokmfaaGreatDoor
open Go.Proofs.Tryz
open Go.RowKit
def jDG(w:World)(R:LB)(e:Ending)(w' :World):Prop:=∃p,e=.returned (.pointer p)/\Rp w' p R/\Old w w' /\R.length<=100000000
theorem jEf(w:World)(hg:Sg w)(g:Nat)(r:Option Nat)(src:BA)(m:Mc)(A:OA)(c:Nat)(h:Mac w g r src m A c)(hp:Pos m.stack)(hl:m.stack.length<=1000000)(hf:¬(1<=m.fin/\m.fin<=7)):
  Calls prog 79 #[.pointer (some ⟨g,0,none⟩)] w (jDG w (kY m.stack).2):=by
 have HR:=G (zE w hg g r src m A c h hp (by omega));have Fh:=h.c3;have Fe:=G ((vz m.stack).2);have PV:=yw;have b1:((m.fin:Int)==1)=false:=jM3 (by omega);have b2:((m.fin:Int)==2)=false:=jM3 (by omega);have b3:((m.fin:Int)==3)=false:=jM3 (by omega);have b4:((m.fin:Int)==4)=false:=jM3 (by omega);have b5:((m.fin:Int)==5)=false:=jM3 (by omega);have b6:((m.fin:Int)==6)=false:=jM3 (by omega);have b7:((m.fin:Int)==7)=false:=jM3 (by omega);clear h hg hp hf;generalize m.fin=q at*;generalize kY m.stack=rs at*;obtain⟨x,y⟩:=rs;simp only at HR Fe;go_enter func79,ntmps79;go_wp2_with (go_at_call 141;refine HR.out.mono ?_;rintro e w2 ⟨a,b,he,hx,hy,ho⟩;obtain rfl:e=.returned (.agg #[.pointer a,.pointer b]):=he;have HY:=G hy;have Gi:=G ho;clear hx hy ho);go_ret;exact⟨b,rfl,HY.out,Gi.out,by have:=Fe.out;omega⟩
theorem jEd(w:World)(hg:Sg w)(g:Nat)(r:Option Nat)(src:BA)(m:Mc)(A:OA)(c:Nat)(h:Mac w g r src m A c)(hp:Pos m.stack)(hl:m.stack.length<=1000000)(hf:m.fin=2)(Gf:m.from_ <src.size):
  Calls prog 79 #[.pointer (some ⟨g,0,none⟩)] w (jDG w (Jx m.stack ((sb src).drop m.from_))):=by
 have HR:=G (UX w hg g r src m A c h hp hl Gf);have Fh:w.cell? ⟨g,3,none⟩=some (.int .u8 2):=by rw[h.c3,hf];rfl
 clear h hg hp hf;generalize Jx m.stack ((sb src).drop m.from_)=R at*;go_enter func79,ntmps79;go_wp2_with (go_at_call 143;refine HR.out.mono ?_;rintro e w2 ⟨p,rfl,hq,ho,hlen⟩;have HQ:=G hq;have Gi:=G ho;clear hq ho);go_ret;exact⟨p,rfl,HQ.out,Gi.out,by omega⟩
theorem Qm(w:World)(hg:Sg w)(g:Nat)(r:Option Nat)(src:BA)(m:Mc)(A:OA)(c:Nat)(h:Mac w g r src m A c)(hp:Pos m.stack)(hl:m.stack.length<=1000000)(hf:m.fin=1):
  Calls prog 79 #[.pointer (some ⟨g,0,none⟩)] w (jDG w (if(kY m.stack).2=[]then []else 10::(kY m.stack).2)):=by
 have HR:=G (zE w hg g r src m A c h hp (by omega));have Fh:w.cell? ⟨g,3,none⟩=some (.int .u8 1):=by rw[h.c3,hf];rfl
 have Fe:=G ((vz m.stack).2);have PV:=yw;clear h hg hp hf;generalize kY m.stack=rs at*;obtain⟨x,y⟩:=rs;simp only at HR Fe⊢;by_cases hy:y=[]
 ·subst hy;have Eh:=G (show(if([]:LB)=[]then []else 10::[])=([]:LB)from rfl);rw[Eh.out];go_enter func79,ntmps79;go_wp2_with (go_at_call 141;refine HR.out.mono ?_;rintro e w2 ⟨a,b,he,hx,hy,ho⟩;obtain rfl:e=.returned (.agg #[.pointer a,.pointer b]):=he;obtain rfl:b=none:=hy.nil_iff.2 rfl;have Gi:=G ho;clear hx hy ho);go_ret;exact⟨none,rfl,.nil,Gi.out,by decide⟩
 ·rw[jJ5 hy];have Hy:=G hy;clear hy;go_enter func79,ntmps79;go_wp2_with (first|(go_at_call 141;refine HR.out.mono ?_;rintro e w2 ⟨a,b,he,hx,hy,ho⟩;obtain rfl:e=.returned (.agg #[.pointer a,.pointer b]):=he;obtain⟨pb,rfl⟩:∃pb,b=some pb:=Option.ne_none_iff_exists'.1 (fun e=>Hy.out (hy.nil_iff.1 e));have HY:=G hy;have Gi:=G ho;clear hx hy ho)|(go_at_call 142;refine(je _ _ y HY.out ⟨#[10]⟩ (by show 1+y.length<=_;have:=Fe.out;omega)).mono ?_;rintro e w3 ⟨q,rfl,hq,ho⟩;have HQ:=G hq;have GN:=G (Gi.out.old ho);clear hq ho));go_ret;exact⟨q,rfl,HQ.out,GN.out,by rw[jK6];have:=Fe.out;omega⟩
theorem jCa(w:World)(hg:Sg w)(g:Nat)(r:Option Nat)(src:BA)(m:Mc)(A:OA)(c:Nat)(h:Mac w g r src m A c)(hp:Pos m.stack)(hl:m.stack.length<=1000000)(hf:m.fin=4)(FV:kI 3 m.stack=true):
  Calls prog 79 #[.pointer (some ⟨g,0,none⟩)] w (jDG w (34::(kY (kq 3 m.stack)).2)):=by
 obtain⟨n,hn,hT,hlen⟩:=yH 3 (by decide) m.stack h.sym FV;have HW:=G (Jd w g r src m A c h 3 n _ (by decide) hT (by omega));have Nc:=G (hT.pos (by decide) hp);have NK:=(vz (kq 3 m.stack)).2;have Fh:w.cell? ⟨g,3,none⟩=some (.int .u8 4):=by rw[h.c3,hf];rfl
 generalize kq 3 m.stack=k at*;have HR:=G (fun W (hW:Old w W) g' r' A' c' (Fs:Mac W g' r' ⟨#[]⟩ ⟨0,k,0,0⟩ A' c')=>zE W (hg.old hW) g' r' _ _ A' c' Fs Nc.out (by show k.length<=_;omega));generalize kY k=rs at*;have Fe:=G (show rs.2.length<=20000000 by omega);obtain⟨x,y⟩:=rs;simp only at HR Fe NK⊢;have PV:=yw;clear NK h hg hT hlen hn hp hl hf FV;go_enter func79,ntmps79;go_wp2_with (first|(go_at_call 144;refine HW.out.mono ?_;rintro e w1 ⟨g',r',A',c',rfl,Fs,GS⟩;have GU:=G Fs;have FL:=G GS;clear Fs GS)|(go_at_call 141;refine(HR.out _ FL.out _ _ _ _ GU.out).mono ?_;rintro e w2 ⟨a,b,he,hx,hy,ho⟩;obtain rfl:e=.returned (.agg #[.pointer a,.pointer b]):=he;have HY:=G hy;have Gi:=G (FL.out.old ho);clear hx hy ho)|(go_at_call 142;refine(je _ _ y HY.out ⟨#[34]⟩ (by show 1+y.length<=_;have:=Fe.out;omega)).mono ?_;rintro e w3 ⟨q,rfl,hq,ho⟩;have HQ:=G hq;have GN:=G (Gi.out.old ho);clear hq ho));go_ret;exact⟨q,rfl,HQ.out,GN.out,by have:=Fe.out;simp only[jK6];omega⟩
theorem jCZ(w:World)(hg:Sg w)(g:Nat)(r:Option Nat)(src:BA)(m:Mc)(A:OA)(c:Nat)(h:Mac w g r src m A c)(hp:Pos m.stack)(hl:m.stack.length<=1000000)(hf:m.fin=5)(FV:kI 3 m.stack=true):
  Calls prog 79 #[.pointer (some ⟨g,0,none⟩)] w (jDG w (34::34::(kY (kq 3 m.stack)).2)):=by
 obtain⟨n,hn,hT,hlen⟩:=yH 3 (by decide) m.stack h.sym FV;have HW:=G (Jd w g r src m A c h 3 n _ (by decide) hT (by omega));have Nc:=G (hT.pos (by decide) hp);have NK:=(vz (kq 3 m.stack)).2;have Fh:w.cell? ⟨g,3,none⟩=some (.int .u8 5):=by rw[h.c3,hf];rfl
 generalize kq 3 m.stack=k at*;have HR:=G (fun W (hW:Old w W) g' r' A' c' (Fs:Mac W g' r' ⟨#[]⟩ ⟨0,k,0,0⟩ A' c')=>zE W (hg.old hW) g' r' _ _ A' c' Fs Nc.out (by show k.length<=_;omega));generalize kY k=rs at*;have Fe:=G (show rs.2.length<=20000000 by omega);obtain⟨x,y⟩:=rs;simp only at HR Fe NK⊢;have PV:=yw;clear NK h hg hT hlen hn hp hl hf FV;go_enter func79,ntmps79;go_wp2_with (first|(go_at_call 144;refine HW.out.mono ?_;rintro e w1 ⟨g',r',A',c',rfl,Fs,GS⟩;have GU:=G Fs;have FL:=G GS;clear Fs GS)|(go_at_call 141;refine(HR.out _ FL.out _ _ _ _ GU.out).mono ?_;rintro e w2 ⟨a,b,he,hx,hy,ho⟩;obtain rfl:e=.returned (.agg #[.pointer a,.pointer b]):=he;have HY:=G hy;have Gi:=G (FL.out.old ho);clear hx hy ho)|(go_at_call 142;refine(je _ _ y HY.out ⟨#[34,34]⟩ (by show 2+y.length<=_;have:=Fe.out;omega)).mono ?_;rintro e w3 ⟨q,rfl,hq,ho⟩;have HQ:=G hq;have GN:=G (Gi.out.old ho);clear hq ho));go_ret;exact⟨q,rfl,HQ.out,GN.out,by have:=Fe.out;simp only[jK6];omega⟩
theorem jCY(w:World)(hg:Sg w)(g:Nat)(r:Option Nat)(src:BA)(m:Mc)(A:OA)(c:Nat)(h:Mac w g r src m A c)(hp:Pos m.stack)(hl:m.stack.length<=1000000)(hf:m.fin=6)(FV:kI 3 m.stack=true):
  Calls prog 79 #[.pointer (some ⟨g,0,none⟩)] w (jDG w (48::48::34::(kY (kq 3 m.stack)).2)):=by
 obtain⟨n,hn,hT,hlen⟩:=yH 3 (by decide) m.stack h.sym FV;have HW:=G (Jd w g r src m A c h 3 n _ (by decide) hT (by omega));have Nc:=G (hT.pos (by decide) hp);have NK:=(vz (kq 3 m.stack)).2;have Fh:w.cell? ⟨g,3,none⟩=some (.int .u8 6):=by rw[h.c3,hf];rfl
 generalize kq 3 m.stack=k at*;have HR:=G (fun W (hW:Old w W) g' r' A' c' (Fs:Mac W g' r' ⟨#[]⟩ ⟨0,k,0,0⟩ A' c')=>zE W (hg.old hW) g' r' _ _ A' c' Fs Nc.out (by show k.length<=_;omega));generalize kY k=rs at*;have Fe:=G (show rs.2.length<=20000000 by omega);obtain⟨x,y⟩:=rs;simp only at HR Fe NK⊢;have PV:=yw;clear NK h hg hT hlen hn hp hl hf FV;go_enter func79,ntmps79;go_wp2_with (first|(go_at_call 144;refine HW.out.mono ?_;rintro e w1 ⟨g',r',A',c',rfl,Fs,GS⟩;have GU:=G Fs;have FL:=G GS;clear Fs GS)|(go_at_call 141;refine(HR.out _ FL.out _ _ _ _ GU.out).mono ?_;rintro e w2 ⟨a,b,he,hx,hy,ho⟩;obtain rfl:e=.returned (.agg #[.pointer a,.pointer b]):=he;have HY:=G hy;have Gi:=G (FL.out.old ho);clear hx hy ho)|(go_at_call 142;refine(je _ _ y HY.out ⟨#[48,48,34]⟩ (by show 3+y.length<=_;have:=Fe.out;omega)).mono ?_;rintro e w3 ⟨q,rfl,hq,ho⟩;have HQ:=G hq;have GN:=G (Gi.out.old ho);clear hq ho));go_ret;exact⟨q,rfl,HQ.out,GN.out,by have:=Fe.out;simp only[jK6];omega⟩
theorem jCX(w:World)(hg:Sg w)(g:Nat)(r:Option Nat)(src:BA)(m:Mc)(A:OA)(c:Nat)(h:Mac w g r src m A c)(hp:Pos m.stack)(hl:m.stack.length<=1000000)(hf:m.fin=7)(FV:kI 3 m.stack=true):
  Calls prog 79 #[.pointer (some ⟨g,0,none⟩)] w (jDG w (48::34::(kY (kq 3 m.stack)).2)):=by
 obtain⟨n,hn,hT,hlen⟩:=yH 3 (by decide) m.stack h.sym FV;have HW:=G (Jd w g r src m A c h 3 n _ (by decide) hT (by omega));have Nc:=G (hT.pos (by decide) hp);have NK:=(vz (kq 3 m.stack)).2;have Fh:w.cell? ⟨g,3,none⟩=some (.int .u8 7):=by rw[h.c3,hf];rfl
 generalize kq 3 m.stack=k at*;have HR:=G (fun W (hW:Old w W) g' r' A' c' (Fs:Mac W g' r' ⟨#[]⟩ ⟨0,k,0,0⟩ A' c')=>zE W (hg.old hW) g' r' _ _ A' c' Fs Nc.out (by show k.length<=_;omega));generalize kY k=rs at*;have Fe:=G (show rs.2.length<=20000000 by omega);obtain⟨x,y⟩:=rs;simp only at HR Fe NK⊢;have PV:=yw;clear NK h hg hT hlen hn hp hl hf FV;go_enter func79,ntmps79;go_wp2_with (first|(go_at_call 144;refine HW.out.mono ?_;rintro e w1 ⟨g',r',A',c',rfl,Fs,GS⟩;have GU:=G Fs;have FL:=G GS;clear Fs GS)|(go_at_call 141;refine(HR.out _ FL.out _ _ _ _ GU.out).mono ?_;rintro e w2 ⟨a,b,he,hx,hy,ho⟩;obtain rfl:e=.returned (.agg #[.pointer a,.pointer b]):=he;have HY:=G hy;have Gi:=G (FL.out.old ho);clear hx hy ho)|(go_at_call 142;refine(je _ _ y HY.out ⟨#[48,34]⟩ (by show 2+y.length<=_;have:=Fe.out;omega)).mono ?_;rintro e w3 ⟨q,rfl,hq,ho⟩;have HQ:=G hq;have GN:=G (Gi.out.old ho);clear hq ho));go_ret;exact⟨q,rfl,HQ.out,GN.out,by have:=Fe.out;simp only[jK6];omega⟩
theorem jEe(w:World)(hg:Sg w)(g:Nat)(r:Option Nat)(src:BA)(m:Mc)(A:OA)(c:Nat)(h:Mac w g r src m A c)(hp:Pos m.stack)(hl:m.stack.length<=1000000)(hf:m.fin=3)(Gf:m.from_ <=src.size)(hs:src.size<=1000000)(h1:1<=jc ((sb src).drop m.from_ ++[61]))(FV:kI (jc ((sb src).drop m.from_ ++[61])) m.stack=true):
  Calls prog 79 #[.pointer (some ⟨g,0,none⟩)] w (jDG w (61::(kY (kq (jc ((sb src).drop m.from_ ++[61])) m.stack)).2)):=by
 have LQ:sb (src.extract m.from_ src.size)=(sb src).drop m.from_:=by
  rw[js,jK4 (by rw[jK8,jB];exact jL3 _)]
 have G6:(src.extract m.from_ src.size).size=src.size-m.from_:=(by rw[<-jB,LQ,jK8,jB]);have hlt:=ku ((sb src).drop m.from_ ++[61]);have ML:=fun W (hW:Old w W)=>JK W (hg.old hW) (src.extract m.from_ src.size++⟨#[61]⟩);rw[KV,LQ,show sb ⟨#[61]⟩=[61]from rfl]at ML;have RJ:=fun w=>run_string_add_sum (P:=prog) w (src.extract m.from_ src.size) ⟨#[61]⟩ (by show _ +1<=_;omega);generalize src.extract m.from_ src.size++⟨#[61]⟩=sx at*;generalize jc ((sb src).drop m.from_ ++[61])=t at*;obtain⟨n,hn,hT,hlen⟩:=yH t hlt m.stack h.sym FV;have HW:=G (fun W (hW:Old w W)=>Jd W g r src m A c (h.old hW) t n _ hlt hT (by omega));have Nc:=G (hT.pos h1 hp);have NK:=(vz (kq t m.stack)).2;have Fh:w.cell? ⟨g,3,none⟩=some (.int .u8 3):=by rw[h.c3,hf];rfl
 have HC:=G (fun W (hW:Old w W)=>And.intro (h.old hW).c0 (h.old hW).c4);generalize kq t m.stack=k at*;have HR:=G (fun W (hW:Old w W) g' r' A' c' (Fs:Mac W g' r' ⟨#[]⟩ ⟨0,k,0,0⟩ A' c')=>zE W (hg.old hW) g' r' _ _ A' c' Fs Nc.out (by show k.length<=_;omega));generalize kY k=rs at*;have Fe:=G (show rs.2.length<=20000000 by omega);obtain⟨x,y⟩:=rs;simp only at HR Fe NK⊢;have HS:=G ML;have a1:(m.from_:Int)<=(src.size:Int):=(by omega);have a2:(0:Int)<=(m.from_:Int):=(by omega);have a3:(m.from_:Int).toNat=m.from_:=(by omega);have PV:=yw;have HD:Hid (Old w w.drew):=G (jQ0 NoX w).drew;clear NK h hg hT hlen hn hp hl hf FV ML h1 hlt LQ G6;unfold yv at*;go_enter func79,ntmps79;go_wp2;refine jd (S:=fun W=>Old w W) 17 rfl (by kernel_rfl) HD.out (fun Ha=> ?_)
 iterate 11 (refine' tOn rfl rfl (by kernel_rfl) (fun _ _ _ h=>h) rfl Ha (fun w' Hj=> ?_) ?_;rotate_left;(have s0:=(HC.out _ Hj).1;have s1:=(HC.out _ Hj).2;clear Hj;go_simp<;>with_reducible rfl);simp only[Act.put,jJ1,jJ2,jJ3])
 refine Vy rfl (by kernel_rfl) (by decide) (fun K hK=> ?_);go_simp;go_at_call 145;refine(HS.out _ Ha).mono ?_;rintro e w1 ⟨rfl,rfl⟩;go_simp;refine hK.out _ _ Ha (fun Ha=> ?_);clear hK K;refine Vy rfl (by kernel_rfl) (by decide) (fun K hK=> ?_);go_simp;go_at_call 144;refine(HW.out _ Ha).mono ?_;rintro e w2 ⟨g',r',A',c',rfl,Fs,GS⟩;go_simp;refine hK.out _ _ (Ha.old GS) (fun Ha=> ?_);clear hK K;refine Vy rfl (by kernel_rfl) (by decide) (fun K hK=> ?_);go_simp;go_at_call 141;refine(HR.out _ Ha _ _ _ _ Fs).mono ?_;rintro e w3 ⟨a,b,he,hx,hy,ho⟩;obtain rfl:e=.returned (.agg #[.pointer a,.pointer b]):=he;go_simp;refine hK.out _ _ (Ha.old ho) (fun Ha=> ?_);clear hK K
 iterate 1 (refine' tOn rfl rfl (by kernel_rfl) (fun _ _ _ h=>h) rfl Ha (fun w' Hj=> ?_) ?_;rotate_left;(clear Hj;go_simp<;>with_reducible rfl);simp only[Act.put,jJ1,jJ2,jJ3])
 refine Vy rfl (by kernel_rfl) (by decide) (fun K hK=> ?_);go_simp;go_at_call 142;refine(je _ b y hy ⟨#[61]⟩ (by show 1+y.length<=_;have:=Fe.out;omega)).mono ?_;rintro e w4 ⟨q,rfl,hq,L1⟩;go_simp;refine hK.out _ _ (Ha.old L1) (fun Ha=> ?_);clear hK K
 iterate 1 (refine' tOn rfl rfl (by kernel_rfl) (fun _ _ _ h=>h) rfl Ha (fun w' Hj=> ?_) ?_;rotate_left;(clear Hj;go_simp<;>with_reducible rfl);simp only[Act.put,jJ1,jJ2,jJ3])
 refine wpAnyH_done (by kernel_rfl) ?_ _;have FY:=G (show jDG w (61::y) (.returned (.pointer q)) w4 from⟨q,rfl,hq,Ha,by have:=Fe.out;simp only[jK6];omega⟩);clear hq L1 Ha hx hy ho Fs GS;go_wp2;go_ret;exact FY.out
structure FinOk(src:LB)(m:Mc):Prop where
 pos:Pos m.stack
 word:m.fin=2->m.from_ <src.length
 sgn:m.fin=3->m.from_ <=src.length/\1<=jc (src.drop m.from_ ++[61])/\kI (jc (src.drop m.from_ ++[61])) m.stack=true
 txt:4<=m.fin->m.fin<=7->kI 3 m.stack=true
theorem uZ(w:World)(hg:Sg w)(g:Nat)(r:Option Nat)(src:BA)(m:Mc)(A:OA)(c:Nat)(h:Mac w g r src m A c)(hl:m.stack.length<=1000000)(hs:src.size<=1000000)(hk:FinOk (sb src) m):
  Calls prog 79 #[.pointer (some ⟨g,0,none⟩)] w (jDG w (Ku (sb src) m)):=by
 obtain⟨hp,Fg,Gu,PU⟩:=hk;rw[jB]at Fg Gu;unfold Ku;by_cases e1:m.fin=1
 ·rw[jJ6 e1];exact Qm w hg g r src m A c h hp hl e1
 rw[jJ5 e1];by_cases e2:m.fin=2
 ·rw[jJ6 e2];exact jEd w hg g r src m A c h hp hl e2 (Fg e2)
 rw[jJ5 e2];by_cases e3:m.fin=3
 ·rw[jJ6 e3];exact jEe w hg g r src m A c h hp hl e3 (Gu e3).1 hs (Gu e3).2.1 (Gu e3).2.2
 rw[jJ5 e3];by_cases e4:m.fin=4
 ·rw[jJ6 e4];exact jCa w hg g r src m A c h hp hl e4 (PU (by omega) (by omega))
 rw[jJ5 e4];by_cases e5:m.fin=5
 ·rw[jJ6 e5];exact jCZ w hg g r src m A c h hp hl e5 (PU (by omega) (by omega))
 rw[jJ5 e5];by_cases e6:m.fin=6
 ·rw[jJ6 e6];exact jCY w hg g r src m A c h hp hl e6 (PU (by omega) (by omega))
 rw[jJ5 e6];by_cases e7:m.fin=7
 ·rw[jJ6 e7];exact jCX w hg g r src m A c h hp hl e7 (PU (by omega) (by omega))
 rw[jJ5 e7];exact jEf w hg g r src m A c h hp hl (by omega)
theorem JH{t:Nat}(ht:1<=t){m m' :Mc}{k:Nat}(hp:Pos m.stack)(h:vg t m k=.ok m'):Pos m'.stack/\m'.fin=m.fin:=by
 unfold vg at h;split at h
 ·rename_i s hs;injection h with h;obtain⟨n,_,hT⟩:=Jg hs;rw[<-h];exact⟨hT.pos ht hp,rfl⟩
 ·cases h
theorem Uq(w:LB):1<=jj w:=by
 unfold jj;split
 ·decide
 ·split
  ·decide
  ·omega
theorem Jy:∀(l:LB) (k e j:Nat),4<=e->jr l k e=.ends j->4<=j
 |[],k,e,j,he,h=>by
  rw[jr]at h;injection h with h;omega
 |c::l,k,e,j,he,h=>by
  rw[jr]at h
  repeat' split at h
  all_goals first|(cases h;done)|exact Jy l _ _ j (by omega) h|exact Jy l _ _ j (by split<;>omega) h
theorem jDX(src:LB){m m' :Mc}{c:UInt8}{l:LB}(hd:src.drop m.at_=c::l)(hp:Pos m.stack)(hf:m.fin=0)(h:vh m (c::l)=.ok m'):Pos m'.stack/\(m'.fin=0\/(src.length<=m'.at_ /\FinOk src m')):=by
 have hlen:src.length=m.at_ +(c::l).length:=by
  have:=congrArg List.length hd;rw[jK8]at this;rw[jK6]at this⊢;omega
 rw[vh]at h;split at h
 ·injection h with h;rw[<-h];exact⟨hp,.inl hf⟩
 split at h
 ·unfold vT at h;simp only at h;injection h with h;split at h
  ·rw[<-h];exact⟨hp,.inr ⟨Nat.le_of_eq hlen,hp,fun e=>absurd e (by decide:¬1=2),fun e=>absurd e (by decide:¬1=3),fun e=>absurd e (by decide:¬4<=1)⟩⟩
  ·rw[<-h];exact⟨hp,.inl hf⟩
 split at h
 ·unfold vJ at h;split at h
  ·cases h
  ·rename_i hm;split at h
   ·cases h
   ·obtain⟨h1,h2⟩:=JH (m:={m with from_:=m.at_,fin:=0}) (by decide) hp h;exact⟨h1,.inl h2⟩
   ·rename_i e he;have h4:=Jy _ _ _ _ (by decide) he;injection h with h;rw[<-h];exact⟨hp,.inr ⟨Nat.le_of_eq hlen,hp,fun e' =>by simp only at e';omega,fun e' =>by simp only at e';omega,fun _ _=>by simpa using hm⟩⟩
 split at h
 ·unfold vS at h;simp only at h;split at h
  ·obtain⟨h1,h2⟩:=JH (m:={m with from_:=m.at_}) (Uq _) hp h;exact⟨h1,.inl (h2.trans hf)⟩
  ·unfold yR at h;split at h
   ·cases h
   ·injection h with h;rw[<-h];exact⟨hp,.inr ⟨Nat.le_of_eq hlen,hp,fun _=>by simp only;rw[hlen,jK6];omega,fun e' =>absurd e' (by decide:¬2=3),fun e' =>absurd e' (by decide:¬4<=2)⟩⟩
 ·unfold vK at h;simp only at h;split at h
  ·rename_i hc;split at h
   ·rename_i hh;obtain⟨h1,h2⟩:=JH (m:={m with from_:=m.at_}) (Nat.one_le_iff_ne_zero.2 hh.1) hp h;exact⟨h1,.inl (h2.trans hf)⟩
   ·obtain⟨h1,h2⟩:=JH (m:={m with from_:=m.at_}) (Nat.one_le_iff_ne_zero.2 hc.1) hp h;exact⟨h1,.inl (h2.trans hf)⟩
  ·split at h
   ·cases h
   ·rename_i hn;rw[not_or]at hn;have FV:kI (jc [c,61]) m.stack=true:=(by simpa using hn.2);split at h
    ·rename_i hl;injection h with h;rw[<-h];subst hl;refine⟨hp,.inr ⟨?_,hp,fun e' =>absurd e' (by decide:¬3=2),fun _=> ?_,fun e' =>absurd e' (by decide:¬4<=3)⟩⟩
     ·simp only;rw[hlen];exact jL3 _
     ·simp only;rw[hd];exact⟨by rw[hlen];omega,Nat.one_le_iff_ne_zero.2 hn.1,FV⟩
    ·split at h
     ·cases h
     ·obtain⟨h1,h2⟩:=JH (m:={m with from_:=m.at_}) (Nat.one_le_iff_ne_zero.2 hn.1) hp h;exact⟨h1,.inl (h2.trans hf)⟩
theorem jBH(src:LB):∀(f:Nat) (m m' :Mc),src.length+1<=f+m.at_ ->Pos m.stack->(m.fin=0\/(src.length<=m.at_ /\FinOk src m))->Vs src f m=.ok m' ->FinOk src m'
 |0,m,m',hf,hp,hk,h=>by
  rw[Vs]at h;injection h with h;rw[<-h];rcases hk with hk|hk
  ·exact⟨hp,fun e=>by omega,fun e=>by omega,fun e=>by omega⟩
  ·exact hk.2
 |f+1,m,m',hf,hp,hk,h=>by
  rw[Vs]at h;split at h
  ·injection h with h;rw[<-h];rcases hk with hk|hk
   ·exact⟨hp,fun e=>by omega,fun e=>by omega,fun e=>by omega⟩
   ·exact hk.2
  ·rename_i hlt;have L3:m.fin=0:=by
    rcases hk with hk|hk
    ·exact hk
    ·exact absurd hk.1 hlt
   obtain⟨c,l,hd⟩:∃c l,src.drop m.at_=c::l:=by
    cases hd:src.drop m.at_ with
    |nil=>
     have:=congrArg List.length hd;rw[jK8,jN2]at this;omega
    |cons c l=>exact⟨c,l,rfl⟩
   rw[hd]at h;split at h
   ·cases h
   ·rename_i m1 MR;obtain⟨h1,h2⟩:=jDX src hd hp L3 MR;have h3:=(YE MR).1;exact jBH src f m1 m' (by omega) h1 h2 h
theorem jCw{src:LB}{m:Mc}(h:ka src=.ok m):FinOk src m:=by
 refine jBH src _ startM m ?_ (Pos.of _ (by decide)) (.inl rfl) h;show src.length+1<=src.length+1+0;omega
theorem Takes.sym{t n:Nat}{l k:List Nat}(ht:t<85)(h:Takes t n l k):(∀x∈l,x<85)->∀x∈k,x<85:=by
 induction h with
 |hit l=>exact fun hp x hx=>hp x (jN1 _ hx)
 |more n x l k _ _ ih=>
  intro hp;refine ih (fun y hy=> ?_);rcases jM6 hy with hy|hy
  ·exact jBJ x t ht y hy
  ·exact hp y (jN1 _ hy)
theorem YY{t:Nat}(ht:t<85){m m' :Mc}{k:Nat}(hp:∀x∈m.stack,x<85)(h:vg t m k=.ok m'):∀x∈m'.stack,x<85:=by
 unfold vg at h;split at h
 ·rename_i s hs;injection h with h;obtain⟨n,_,hT⟩:=Jg hs;rw[<-h];exact hT.sym ht hp
 ·cases h
theorem jDV{m m' :Mc}{c:UInt8}{l:LB}(hp:∀x∈m.stack,x<85)(h:vh m (c::l)=.ok m'):∀x∈m'.stack,x<85:=by
 rw[vh]at h;split at h
 ·injection h with h;rw[<-h];exact hp
 split at h
 ·unfold vT at h;simp only at h;injection h with h;split at h<;>(rw[<-h];exact hp)
 split at h
 ·unfold vJ at h;split at h
  ·cases h
  ·split at h
   ·cases h
   ·exact YY (m:={m with from_:=m.at_,fin:=0}) (by decide) hp h
   ·injection h with h;rw[<-h];exact hp
 split at h
 ·unfold vS at h;simp only at h;split at h
  ·exact YY (m:={m with from_:=m.at_}) (Nat.lt_trans (JS _) (by decide)) hp h
  ·unfold yR at h;split at h
   ·cases h
   ·injection h with h;rw[<-h];exact hp
 ·unfold vK at h;simp only at h
  repeat' split at h
  all_goals first|(cases h;done)|exact YY (m:={m with from_:=m.at_}) (Nat.lt_trans (ku _) (by decide)) hp h|(injection h with h;rw[<-h];exact hp)
theorem jBG(src:LB):∀(f:Nat) (m m' :Mc),(∀n∈m.stack,n<85)->m.stack.length<=5+12*m.at_ ->m.at_ <=src.length->Vs src f m=.ok m' ->m'.stack.length<=5+12*src.length
 |0,m,m',h5,hl,ha,h=>by
  rw[Vs]at h;injection h with h;rw[<-h];omega
 |f+1,m,m',h5,hl,ha,h=>by
  rw[Vs]at h;split at h
  ·injection h with h;rw[<-h];omega
  ·rename_i hlt;obtain⟨c,l,hd⟩:∃c l,src.drop m.at_=c::l:=by
    cases hd:src.drop m.at_ with
    |nil=>
     have:=congrArg List.length hd;rw[jK8,jN2]at this;omega
    |cons c l=>exact⟨c,l,rfl⟩
   rw[hd]at h;split at h
   ·cases h
   ·rename_i m1 MR;have h3:=YE MR;have h4:=xd h5 MR;have h6:=congrArg List.length hd;rw[jK8]at h6;exact jBG src f m1 m' (jDV h5 MR) (by omega) (by omega) h
theorem jCv{src:LB}{m:Mc}(h:ka src=.ok m):m.stack.length<=5+12*src.length:=
 jBG src _ startM m (by decide) (by decide) (Nat.zero_le _) h
theorem yg{P:Program}{fn:Func}{R:Ending->World->Prop}{a:Act}{w:World}{p u v:Tmp}{ty:TypeId}{g:Nat}{t:TypeId}{cs:Array Value}{d:TypeDesc}(h:fn.results= #[.cell p ty,.tmp u,.tmp v])
  (hp:a.tmps.getD p undef=.pointer (some ⟨g,0,none⟩)) (hb:Blk w g t cs) (hu:P.underlying ty=some d) (hd:(match d with| .struct _ | .array _ _=>true|_=>false)=true) (hi:(P.info? ty).map (·.size)=some cs.size)
  (TF:a.defers=[]) (hR:R (.returned (.tuple #[.agg cs,a.tmps.getD u undef,a.tmps.getD v undef])) w):bodyPost P fn R .ret a w:=by
 refine bodyPost_ret ?_ TF hR;have hl:=run_loadVar_row (P:=P) w g t ty cs (0,0) d hb hu hd hi;simp only[results,h];simp only[Array.getD_eq_getD_getElem?]at hp;simp[hp,asAddr,hl]
theorem xU(W:World)(g:Nat)(r:Option Nat)(src:BA)(m:Mc)(A:OA)(c:Nat)(h:Mac W g r src m A c):
  Calls prog 77 #[.pointer (some ⟨g,0,none⟩)] W fun e w' =>e=.returned (.bool (decide (m.stack=[])))/\W=w' :=by
 have Fq:=h.c2;have Hd:=G (show decide (m.stack=[])=((m.stack.length:Int)==0)by
  cases hm:m.stack with
  |nil=>rfl
  |cons a l=>simp;omega)
 rw[Hd.out];clear h Hd;cases hb:((m.stack.length:Int)==0)with
 |true=>
  go_enter func77,ntmps77;go_wp2;go_ret;exact⟨by trivial,rfl⟩
 |false=>
  go_enter func77,ntmps77;go_wp2;go_ret;exact⟨by trivial,rfl⟩
def sl0(Z:Nat->Prop):Sl:=⟨none,0,none,0,none,0,none,0,none,0,none,0,Z⟩
theorem ox0{g:Nat}{Z:Nat->Prop}{b:Nat}(h:OX g (sl0 Z) b):b=g:=by
 rcases h with e|e|e|e|e|e|e
 ·exact e
 all_goals cases e
theorem St.begin_{w:World}(hg:Sg w)(h8:8<=w.heap.size)(src:BA)(hs:src.size<=1000000)(Z:Nat->Prop)(hZ:∀b,Z b->8<=b/\b<w.heap.size):
  St (w.alloc (.cells (rdC src ⟨0,0,0,0,Tre.none_⟩ (jJ Tre.none_ (sl0 Z))).toArray 165)) w.heap.size src ⟨0,0,0,0,Tre.none_⟩ (sl0 Z):=by
 have ho:=(jQ0 NoX w).alloc (.cells (rdC src ⟨0,0,0,0,Tre.none_⟩ (jJ Tre.none_ (sl0 Z))).toArray 165);exact⟨hg.old ho,h8,hs,jQ2 _ _ _,⟨[],[],World.ownsRow_nil _ _ _ _,World.ownsRow_nil _ _ _ _,World.ownsRow_nil _ _ _ _,World.ownsRow_nil _ _ _ _,World.ownsRow_nil _ _ _ _,World.ownsRow_nil _ _ _ _,rfl,rfl,fun x hx=>by(cases hx),fun x hx=>by(cases hx)⟩,jL3 _,Nat.zero_le _,by decide,
  fun b hb=>jL8 (hZ b hb).2 ho.size,fun b hb=>by have:=(hZ b hb).1;omega,fun b hx hz=>by have:=ox0 hx;have:=(hZ b hz).2;omega⟩
theorem St.putz{w:World}{g:Nat}{src:BA}{r:Rdr}{s:Sl}(h:St w g src r s){b:Nat}(hz:s.z b)(i:Nat)(u:Value):St (w.setCell ⟨b,i,none⟩ u) g src r s:=by
 have hk:Kp (fun k=>k=b) w (w.setCell ⟨b,i,none⟩ u):=(jQ0 (fun k=>k=b) w).setCell (p:=⟨b,i,none⟩) (fun _=>rfl) u;exact h.zgrow hk (fun k e=>by rw[e];exact hz) s.z (fun k e=>⟨.inl e,jL8 (h.zlt k e) hk.size⟩)
theorem vL{X:Nat->Prop}{w W:World}(h:Kp X w W){b:Nat}(hb:X b)(i:Nat)(u:Value):Kp X w (W.setCell ⟨b,i,none⟩ u):=h.setCell (p:=⟨b,i,none⟩) (fun _=>hb) u
def UT(w:World)(at_ e:Nat)(d:Ending)(w' :World):Prop:=d=.returned (.tuple #[.agg (jJ Tre.none_ (sl0 NoX)).toArray,iv (at_:Int),iv (e:Int)])/\Old w w'
def jI8(w:World)(src:BA)(r:Rdr)(d:Ending)(w' :World):Prop:=∃g s,d=.returned (.tuple #[.agg (jJ r.tree s).toArray,iv 0,iv 0])/\St w' g src r s/\Old w w' /\(∀b,OX g s b->w.heap.size<=b)
theorem qb(w:World)(hg:Sg w)(h8:8<=w.heap.size)(A:OA)(n c:Nat)(l:LB)(hr:Rd w 1 A n (l.map bv))(hs:l.length<=60000)(m:Mc)(hb:ka l=.ok m)(hm:m.stack=[])(f:Nat)(r:Rdr)(hk:yh l f=some r):
  Calls prog 26 #[.slice A n c] w (jI8 w ⟨l.toArray⟩ r):=by
 have hn:l.length=n:=(by simpa using hr.1);have NC:=(jQ0 NoX w).alloc (.cells #[.string ⟨#[]⟩,.int .i64 0,.slice none 0 0,.slice none 0 0,.slice none 0 0,.slice none 0 0,.slice none 0 0,.slice none 0 0] 29);have B0:=jQ2 w 29 #[.string ⟨#[]⟩,.int .i64 0,.slice none 0 0,.slice none 0 0,.slice none 0 0,.slice none 0 0,.slice none 0 0,.slice none 0 0];have WX:=hr.old NC;have L6:=hg.old NC;have Fb:8<=(w.alloc (.cells #[.string ⟨#[]⟩,.int .i64 0,.slice none 0 0,.slice none 0 0,.slice none 0 0,.slice none 0 0,.slice none 0 0,.slice none 0 0] 29)).heap.size:=jL4 h8 NC.size;have Pc:=yJ (P:=prog) (w:=w.alloc (.cells #[.string ⟨#[]⟩,.int .i64 0,.slice none 0 0,.slice none 0 0,.slice none 0 0,.slice none 0 0,.slice none 0 0,.slice none 0 0] 29)) underlying33 underlying5 underlying9 A n c l WX;have hB:=VA (w.alloc (.cells #[.string ⟨#[]⟩,.int .i64 0,.slice none 0 0,.slice none 0 0,.slice none 0 0,.slice none 0 0,.slice none 0 0,.slice none 0 0] 29)) L6 ⟨l.toArray⟩ (by rw[<-jB,yS];exact hs) Fb;rw[yS,hb]at hB;have HB:=G hB;have b1:¬(60000:Int)<(n:Int):=(by omega);have MH:=G L6;have A7:=G Fb;have LO:=G B0;have Wh:=G NC;have HR:=G (show yh (sb ⟨l.toArray⟩) f=some r by rw[yS];exact hk);have GA:=G (show(⟨l.toArray⟩:BA).size<=1000000 by rw[<-jB,yS];omega);have H8:=G h8;clear hg hr hs hb hk WX L6 Fb B0 NC hB h8;generalize (⟨l.toArray⟩:BA)=src at*;go_enter func26,ntmps26;go_wp2_with (first|(go_at_call 76;refine HB.out.mono ?_;rintro e w1 ⟨g,r1,A1,c1,rfl,hM,ho,DK,_⟩;have HO:=G ho;have HM:=G hM;have m0:=hM.c0;have S0:=G (St.begin_ (MH.out.old ho) (jL4 A7.out ho.size) src GA.out (fun b=>b=w.heap.size) (fun b e=>⟨by have:=H8.out;omega,by have:=LO.out.lt;have:=ho.size;omega⟩));have RB1:=G (LO.out.old ho);clear ho hM DK)|(go_at_call 77;refine(xU _ _ _ _ _ _ _ HM.out).mono ?_;rintro e w2 ⟨rfl,rfl⟩;rw[hm])|(go_at_call 78;refine(jDp _ _ src f r _ S0.out HR.out).mono ?_;rintro e w3 ⟨rfl,s3,hX⟩;have t5:=Blk.at_ hX.1.box 5 (v:=.string r.tree.name) rfl;have t6:=Blk.at_ hX.1.box 6 (v:=.int .i64 r.tree.at_) rfl;have t7:=Blk.at_ hX.1.box 7 (v:=.slice s3.aA r.tree.attrs.length s3.ac) rfl;have t8:=Blk.at_ hX.1.box 8 (v:=.slice s3.gA r.tree.stages.length s3.gc) rfl;have t9:=Blk.at_ hX.1.box 9 (v:=.slice s3.mA r.tree.miles.length s3.mc) rfl;have t10:=Blk.at_ hX.1.box 10 (v:=.slice s3.pA r.tree.steps.length s3.pc) rfl;have t11:=Blk.at_ hX.1.box 11 (v:=.slice s3.nA r.tree.nodes.length s3.nc) rfl;have t12:=Blk.at_ hX.1.box 12 (v:=.slice s3.oA r.tree.ats.length s3.oc) rfl;have RB:=G ((RB1.out.alloc _).kp hX.2.kp (fun e=>by have e2:=ox0 e;have:=RB1.out.lt;omega));have d0:=RB.out.at_ 0 rfl;have z0:=RB.out.frozen 0;have d1:=RB.out.at_ 1 rfl;have z1:=RB.out.frozen 1;have d2:=RB.out.at_ 2 rfl;have z2:=RB.out.frozen 2;have d3:=RB.out.at_ 3 rfl;have z3:=RB.out.frozen 3;have d4:=RB.out.at_ 4 rfl;have z4:=RB.out.frozen 4;have d5:=RB.out.at_ 5 rfl;have z5:=RB.out.frozen 5;have d6:=RB.out.at_ 6 rfl;have z6:=RB.out.frozen 6;have d7:=RB.out.at_ 7 rfl;have z7:=RB.out.frozen 7;have HX:=G hX;clear hX)|fail);have hz:s3.z w.heap.size:=by rw[HX.out.2.z];exact rfl
 have KX:Kp (fun b=>w.heap.size<=b) w w3:=((((Wh.out.trans HO.out (fun _ _ e=>e)).alloc _).mono (fun _ _ e=>e.elim)):Kp (fun b=>w.heap.size<=b) w _).trans HX.out.2.kp (fun b hb e=>by have e2:=ox0 e;have:=Wh.out.size;have:=HO.out.size;omega);have KF:=(vL (vL (vL (vL (vL (vL (vL (vL KX (show w.heap.size<=w.heap.size from jL3 _) 0 (.string r.tree.name)) (show w.heap.size<=w.heap.size from jL3 _) 1 (.int .i64 r.tree.at_)) (show w.heap.size<=w.heap.size from jL3 _) 2 (.slice s3.aA r.tree.attrs.length s3.ac)) (show w.heap.size<=w.heap.size from jL3 _) 3 (.slice s3.gA r.tree.stages.length s3.gc)) (show w.heap.size<=w.heap.size from jL3 _) 4 (.slice s3.mA r.tree.miles.length s3.mc)) (show w.heap.size<=w.heap.size from jL3 _) 5 (.slice s3.pA r.tree.steps.length s3.pc)) (show w.heap.size<=w.heap.size from jL3 _) 6 (.slice s3.nA r.tree.nodes.length s3.nc)) (show w.heap.size<=w.heap.size from jL3 _) 7 (.slice s3.oA r.tree.ats.length s3.oc));have SF:=((((((((HX.out.1.putz hz 0 (.string r.tree.name)).putz hz 1 (.int .i64 r.tree.at_)).putz hz 2 (.slice s3.aA r.tree.attrs.length s3.ac)).putz hz 3 (.slice s3.gA r.tree.stages.length s3.gc)).putz hz 4 (.slice s3.mA r.tree.miles.length s3.mc)).putz hz 5 (.slice s3.pA r.tree.steps.length s3.pc)).putz hz 6 (.slice s3.nA r.tree.nodes.length s3.nc)).putz hz 7 (.slice s3.oA r.tree.ats.length s3.oc));have BF:=((((((((RB.out.setL 0 (.string r.tree.name)).setL 1 (.int .i64 r.tree.at_)).setL 2 (.slice s3.aA r.tree.attrs.length s3.ac)).setL 3 (.slice s3.gA r.tree.stages.length s3.gc)).setL 4 (.slice s3.mA r.tree.miles.length s3.mc)).setL 5 (.slice s3.pA r.tree.steps.length s3.pc)).setL 6 (.slice s3.nA r.tree.nodes.length s3.nc)).setL 7 (.slice s3.oA r.tree.ats.length s3.oc));refine yg rfl rfl BF underlying29 rfl (by kernel_rfl) rfl ?_;refine⟨_,{s3 with z:=fun _=>False},rfl,SF.zgrow (jQ0 NoX _) (fun _ e=>e.elim) _ (fun _ e=>e.elim),KF.mono (fun b hb e=>by omega),fun b hx=> ?_⟩;rcases Nat.lt_or_ge b (w1.alloc (.cells (rdC src ⟨0,0,0,0,Tre.none_⟩ (jJ Tre.none_ (sl0 fun b=>b=w.heap.size))).toArray 165)).heap.size with h1|h1
 ·have e2:=ox0 (HX.out.2.own b h1 hx);have:=Wh.out.size;have:=HO.out.size;omega
 ·have h2:(w1.alloc (.cells (rdC src ⟨0,0,0,0,Tre.none_⟩ (jJ Tre.none_ (sl0 fun b=>b=w.heap.size))).toArray 165)).heap.size=w1.heap.size+1:=(by simp);have:=Wh.out.size;have:=HO.out.size;omega
theorem uB(w:World)(hg:Sg w)(h8:8<=w.heap.size)(A:OA)(n c:Nat)(l:LB)(hr:Rd w 1 A n (l.map bv))(hs:l.length<=60000)(k:Nat)(hb:ka l=.error k):
  Calls prog 26 #[.slice A n c] w (UT w k 90):=by
 have hn:l.length=n:=(by simpa using hr.1);have NC:=(jQ0 NoX w).alloc (.cells #[.string ⟨#[]⟩,.int .i64 0,.slice none 0 0,.slice none 0 0,.slice none 0 0,.slice none 0 0,.slice none 0 0,.slice none 0 0] 29);have B0:=jQ2 w 29 #[.string ⟨#[]⟩,.int .i64 0,.slice none 0 0,.slice none 0 0,.slice none 0 0,.slice none 0 0,.slice none 0 0,.slice none 0 0];have WX:=hr.old NC;have L6:=hg.old NC;have Fb:8<=(w.alloc (.cells #[.string ⟨#[]⟩,.int .i64 0,.slice none 0 0,.slice none 0 0,.slice none 0 0,.slice none 0 0,.slice none 0 0,.slice none 0 0] 29)).heap.size:=jL4 h8 NC.size;have Pc:=yJ (P:=prog) (w:=w.alloc (.cells #[.string ⟨#[]⟩,.int .i64 0,.slice none 0 0,.slice none 0 0,.slice none 0 0,.slice none 0 0,.slice none 0 0,.slice none 0 0] 29)) underlying33 underlying5 underlying9 A n c l WX;have hB:=VA (w.alloc (.cells #[.string ⟨#[]⟩,.int .i64 0,.slice none 0 0,.slice none 0 0,.slice none 0 0,.slice none 0 0,.slice none 0 0,.slice none 0 0] 29)) L6 ⟨l.toArray⟩ (by rw[<-jB,yS];exact hs) Fb;rw[yS,hb]at hB;have HB:=G hB;have b1:¬(60000:Int)<(n:Int):=(by omega);have LO:=G B0;have Wh:=G NC;clear hg hr hs hb WX L6 Fb B0 NC hB h8;generalize (⟨l.toArray⟩:BA)=src at*;go_enter func26,ntmps26;go_wp2_with (first|(go_at_call 76;refine HB.out.mono ?_;rintro e w1 ⟨p,rfl,ho⟩;have HO:=G ho;have RB:=G (LO.out.old ho);clear ho;have d0:=RB.out.at_ 0 rfl;have z0:=RB.out.frozen 0;have d1:=RB.out.at_ 1 rfl;have z1:=RB.out.frozen 1;have d2:=RB.out.at_ 2 rfl;have z2:=RB.out.frozen 2;have d3:=RB.out.at_ 3 rfl;have z3:=RB.out.frozen 3;have d4:=RB.out.at_ 4 rfl;have z4:=RB.out.frozen 4;have d5:=RB.out.at_ 5 rfl;have z5:=RB.out.frozen 5;have d6:=RB.out.at_ 6 rfl;have z6:=RB.out.frozen 6;have d7:=RB.out.at_ 7 rfl;have z7:=RB.out.frozen 7)|fail);have KX:Kp (fun b=>w.heap.size<=b) w w1:=(Wh.out.trans HO.out (fun _ _ e=>e)).mono (fun _ _ e=>e.elim);have KF:=(vL (vL (vL (vL (vL (vL (vL (vL KX (show w.heap.size<=w.heap.size from jL3 _) 0 (.string ⟨#[]⟩)) (show w.heap.size<=w.heap.size from jL3 _) 1 (.int .i64 0)) (show w.heap.size<=w.heap.size from jL3 _) 2 (.slice none 0 0)) (show w.heap.size<=w.heap.size from jL3 _) 3 (.slice none 0 0)) (show w.heap.size<=w.heap.size from jL3 _) 4 (.slice none 0 0)) (show w.heap.size<=w.heap.size from jL3 _) 5 (.slice none 0 0)) (show w.heap.size<=w.heap.size from jL3 _) 6 (.slice none 0 0)) (show w.heap.size<=w.heap.size from jL3 _) 7 (.slice none 0 0));have BF:=((((((((RB.out.setL 0 (.string ⟨#[]⟩)).setL 1 (.int .i64 0)).setL 2 (.slice none 0 0)).setL 3 (.slice none 0 0)).setL 4 (.slice none 0 0)).setL 5 (.slice none 0 0)).setL 6 (.slice none 0 0)).setL 7 (.slice none 0 0));refine yg rfl rfl BF underlying29 rfl (by kernel_rfl) rfl ?_;exact⟨rfl,KF.mono (fun b hb e=>by omega)⟩
theorem QO(w:World)(hg:Sg w)(h8:8<=w.heap.size)(A:OA)(n c:Nat)(l:LB)(hr:Rd w 1 A n (l.map bv))(hs:l.length<=60000)(m:Mc)(hb:ka l=.ok m)(hm:m.stack≠ []):
  Calls prog 26 #[.slice A n c] w (UT w l.length 90):=by
 have hn:l.length=n:=(by simpa using hr.1);have NC:=(jQ0 NoX w).alloc (.cells #[.string ⟨#[]⟩,.int .i64 0,.slice none 0 0,.slice none 0 0,.slice none 0 0,.slice none 0 0,.slice none 0 0,.slice none 0 0] 29);have B0:=jQ2 w 29 #[.string ⟨#[]⟩,.int .i64 0,.slice none 0 0,.slice none 0 0,.slice none 0 0,.slice none 0 0,.slice none 0 0,.slice none 0 0];have WX:=hr.old NC;have L6:=hg.old NC;have Fb:8<=(w.alloc (.cells #[.string ⟨#[]⟩,.int .i64 0,.slice none 0 0,.slice none 0 0,.slice none 0 0,.slice none 0 0,.slice none 0 0,.slice none 0 0] 29)).heap.size:=jL4 h8 NC.size;have Pc:=yJ (P:=prog) (w:=w.alloc (.cells #[.string ⟨#[]⟩,.int .i64 0,.slice none 0 0,.slice none 0 0,.slice none 0 0,.slice none 0 0,.slice none 0 0,.slice none 0 0] 29)) underlying33 underlying5 underlying9 A n c l WX;have hB:=VA (w.alloc (.cells #[.string ⟨#[]⟩,.int .i64 0,.slice none 0 0,.slice none 0 0,.slice none 0 0,.slice none 0 0,.slice none 0 0,.slice none 0 0] 29)) L6 ⟨l.toArray⟩ (by rw[<-jB,yS];exact hs) Fb;rw[yS,hb]at hB;have HB:=G hB;have b1:¬(60000:Int)<(n:Int):=(by omega);have LO:=G B0;have Wh:=G NC;clear hg hr hs hb WX L6 Fb B0 NC hB h8;have G6:(⟨l.toArray⟩:BA).size=l.length:=(by rw[<-jB,yS]);rw[hn];generalize (⟨l.toArray⟩:BA)=src at*;go_enter func26,ntmps26;go_wp2_with (first|(go_at_call 76;refine HB.out.mono ?_;rintro e w1 ⟨g,r1,A1,c1,rfl,hM,ho,_,_⟩;have HM:=G hM;have HO:=G ho;have RB:=G (LO.out.old ho);clear ho hM;have d0:=RB.out.at_ 0 rfl;have z0:=RB.out.frozen 0;have d1:=RB.out.at_ 1 rfl;have z1:=RB.out.frozen 1;have d2:=RB.out.at_ 2 rfl;have z2:=RB.out.frozen 2;have d3:=RB.out.at_ 3 rfl;have z3:=RB.out.frozen 3;have d4:=RB.out.at_ 4 rfl;have z4:=RB.out.frozen 4;have d5:=RB.out.at_ 5 rfl;have z5:=RB.out.frozen 5;have d6:=RB.out.at_ 6 rfl;have z6:=RB.out.frozen 6;have d7:=RB.out.at_ 7 rfl;have z7:=RB.out.frozen 7)|(go_at_call 77;refine(xU _ _ _ _ _ _ _ HM.out).mono ?_;rintro e w2 ⟨rfl,rfl⟩;rw[jK3 hm])|fail);have KX:Kp (fun b=>w.heap.size<=b) w w1:=(Wh.out.trans HO.out (fun _ _ e=>e)).mono (fun _ _ e=>e.elim);have KF:=(vL (vL (vL (vL (vL (vL (vL (vL KX (show w.heap.size<=w.heap.size from jL3 _) 0 (.string ⟨#[]⟩)) (show w.heap.size<=w.heap.size from jL3 _) 1 (.int .i64 0)) (show w.heap.size<=w.heap.size from jL3 _) 2 (.slice none 0 0)) (show w.heap.size<=w.heap.size from jL3 _) 3 (.slice none 0 0)) (show w.heap.size<=w.heap.size from jL3 _) 4 (.slice none 0 0)) (show w.heap.size<=w.heap.size from jL3 _) 5 (.slice none 0 0)) (show w.heap.size<=w.heap.size from jL3 _) 6 (.slice none 0 0)) (show w.heap.size<=w.heap.size from jL3 _) 7 (.slice none 0 0));have BF:=((((((((RB.out.setL 0 (.string ⟨#[]⟩)).setL 1 (.int .i64 0)).setL 2 (.slice none 0 0)).setL 3 (.slice none 0 0)).setL 4 (.slice none 0 0)).setL 5 (.slice none 0 0)).setL 6 (.slice none 0 0)).setL 7 (.slice none 0 0));refine yg rfl rfl BF underlying29 rfl (by kernel_rfl) rfl ?_;exact⟨rfl,KF.mono (fun b hb e=>by omega)⟩
theorem Zr(w:World)(A:OA)(n c:Nat)(hs:60000<n):Calls prog 26 #[.slice A n c] w (UT w 0 6):=by
 have b1:(60000:Int)<(n:Int):=(by omega);clear hs;have Wh:=G ((jQ0 NoX w).alloc (.cells #[.string ⟨#[]⟩,.int .i64 0,.slice none 0 0,.slice none 0 0,.slice none 0 0,.slice none 0 0,.slice none 0 0,.slice none 0 0] 29));have RB:=G (jQ2 w 29 #[.string ⟨#[]⟩,.int .i64 0,.slice none 0 0,.slice none 0 0,.slice none 0 0,.slice none 0 0,.slice none 0 0,.slice none 0 0]);go_enter func26,ntmps26;go_wp2;refine yg rfl rfl RB.out underlying29 rfl (by kernel_rfl) rfl ?_;exact⟨rfl,Wh.out⟩
theorem jHr{w:World}{g:Nat}{src:BA}{r:Rdr}{s:Sl}(h:St w g src r s)(hn:r.tree.nodes.length<=1000000)(hk:∀n∈r.tree.nodes,n.kids.length<=1000000000)
  (hA:r.tree.attrs.length<=1000000) (hG:r.tree.stages.length<=1000000) (hM:r.tree.miles.length<=1000000) (hP:r.tree.steps.length<=1000000) (hs:∀x∈r.tree.steps,x.params.length<=1000000/\x.effects.length<=1000000):∃ns ps,TrD w r.tree s ns ps:=by
 obtain⟨ns,ps,R⟩:=h.rows;exact⟨ns,ps,⟨⟨Rd.of_own R.rN,R.ne,hn,fun x hx=>⟨(R.no x hx).kids,hk _ (by rw[<-R.ne];exact List.mem_map_of_mem hx)⟩⟩,Rd.of_own R.rA,Rd.of_own R.rG,Rd.of_own R.rM,Rd.of_own R.rP,R.pe,
  fun x hx=>⟨⟨(R.po x hx).ps,(hs _ (by rw[<-R.pe];exact List.mem_map_of_mem hx)).1⟩,(R.po x hx).es,(hs _ (by rw[<-R.pe];exact List.mem_map_of_mem hx)).2⟩,hA,hG,hM,hP⟩⟩
theorem jHZ(w:World)(t:Tre)(s:Sl)(h:∀n∈t.nodes,(n.op=1->n.vn=12)/\n.op≠3):xS w t s:=fun W next l B bc x hm ho hp f l' hk hl=>by
 rcases ho with e|e
 ·exact jI3 w W t s f next l l' B bc hp x e ((h _ hm).1 e) hk hl
 ·exact absurd e (h _ hm).2
end Go.Proofs.YtmmjcbbogokmfaaGreatDoor

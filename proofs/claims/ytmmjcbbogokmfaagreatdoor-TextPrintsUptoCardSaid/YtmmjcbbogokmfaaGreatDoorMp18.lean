import Derived.Test.YtmmjcbbogokmfaaGreatDoorMp16
import Derived.LaidEqlPtr
set_option maxRecDepth 100000
set_option maxHeartbeats 25600000
namespace Go.Proofs.YtmmjcbbogokmfaaGreatDoor
open Go.Proofs.Tryz
open Go.RowKit
theorem XJ(w:World)(s:BA)(hs:s.size<=100000000):Calls prog 225 #[.string s] w fun e w' =>e=.returned (.string ⟨(kw (sb s)).toArray⟩)/\Old w w' :=by
 have Hs:=G hs;have H0:=G (show BRow (w.alloc (.cells #[.int .u8 34] 5)) w.heap.size [34] (some ⟨w.heap.size,0,none⟩) 1 from BRow.new w [34] (by decide));go_enter func225,ntmps225;go_wp2_with fail;go_loopw [3,4,5] (fun v i _ wr=>∃(j:Nat) (A:OA) (c:Nat) (bl:LB),j<=s.size/\i=.int .i64 (j:Int)/\v=.slice A bl.length c/\Hid (bl=34::((sb s).take j).flatMap yQ)/\BRow wr w.heap.size bl A c/\Old w wr) (fun _ i _ _=>s.size-(intOf i).toNat)
 case atStart=>exact⟨0,_,_,[34],Nat.zero_le _,rfl,rfl,G rfl,H0.out,(jQ0 _ _).alloc _⟩
 case round=>
  obtain⟨j,A,c,bl,hj,rfl,rfl,HE,hb,ho⟩:=hrel;have HB:=G hb;have HO:=G ho;have HL:=G (show bl.length<=400000001 by
   have h1:=Kq ((sb s).take j);have h2:=Hs.out;rw[jK9,jB]at h1;rw[HE.out,jK6];omega)
  clear hb ho;by_cases hlt:j<s.size
  ·have b2:(0:Int)<=(j:Int):=(by omega);have b3:(j:Int)<(s.size:Int):=(by omega);have b4:(j:Int).toNat=j:=(by omega);have b5:IntKind.i64.wrap ((j:Int)+1)=(j:Int)+1:=jQ3 _ (by omega);have HN:=G (show∀out:LB,out=bl++yQ s[j]->out=34::((sb s).take (j+1)).flatMap yQ from fun out e=>by rw[e,HE.out,yN s j hlt,jN5,jL9,List.flatMap_nil,jN7];rfl);obtain⟨z,hz⟩:∃z,s[j]=z:=⟨_,rfl⟩;rw[hz]at HN;clear HE;by_cases h34:z=34
   ·subst h34;go_wp2_with (first|(at_builtin;refine vN (.tmp 22) (.tmp 24) (HB.out.alloc _) (m:=[92,34]) (vV _ _ [92,34]) (by have:=HL.out;simp only[jK6,jN2];omega) rfl rfl rfl rfl ?_;intro out A2 c2 w2 eo h2 hU)|fail);go_roundw
    case rel=>exact⟨j+1,A2,c2,out,by omega,by rw[show((j+1:Nat):Int)=(j:Int)+1 by omega],rfl,G (HN.out _ (eo.out.trans rfl)),h2,From.old (HO.out.alloc _) hU (jL3 _)⟩
    case measure=>simp only[intOf];omega
   by_cases h92:z=92
   ·subst h92;go_wp2_with (first|(at_builtin;refine vN (.tmp 22) (.tmp 24) (HB.out.alloc _) (m:=[92,92]) (vV _ _ [92,92]) (by have:=HL.out;simp only[jK6,jN2];omega) rfl rfl rfl rfl ?_;intro out A2 c2 w2 eo h2 hU)|fail);go_roundw
    case rel=>exact⟨j+1,A2,c2,out,by omega,by rw[show((j+1:Nat):Int)=(j:Int)+1 by omega],rfl,G (HN.out _ (eo.out.trans rfl)),h2,From.old (HO.out.alloc _) hU (jL3 _)⟩
    case measure=>simp only[intOf];omega
   by_cases GK:z=10
   ·subst GK;go_wp2_with (first|(at_builtin;refine vN (.tmp 28) (.tmp 29) (HB.out.alloc _) (m:=[92,110]) (vV _ _ [92,110]) (by have:=HL.out;simp only[jK6,jN2];omega) rfl rfl rfl rfl ?_;intro out A2 c2 w2 eo h2 hU)|fail);go_roundw
    case rel=>exact⟨j+1,A2,c2,out,by omega,by rw[show((j+1:Nat):Int)=(j:Int)+1 by omega],rfl,G (HN.out _ (eo.out.trans rfl)),h2,From.old (HO.out.alloc _) hU (jL3 _)⟩
    case measure=>simp only[intOf];omega
   by_cases h9:z=9
   ·subst h9;go_wp2_with (first|(at_builtin;refine vN (.tmp 33) (.tmp 34) (HB.out.alloc _) (m:=[92,116]) (vV _ _ [92,116]) (by have:=HL.out;simp only[jK6,jN2];omega) rfl rfl rfl rfl ?_;intro out A2 c2 w2 eo h2 hU)|fail);go_roundw
    case rel=>exact⟨j+1,A2,c2,out,by omega,by rw[show((j+1:Nat):Int)=(j:Int)+1 by omega],rfl,G (HN.out _ (eo.out.trans rfl)),h2,From.old (HO.out.alloc _) hU (jL3 _)⟩
    case measure=>simp only[intOf];omega
   have n34:¬(z.toNat:Int)=34:=fun e=>h34 (UInt8.toNat_inj.1 (show z.toNat=34 by omega));have n92:¬(z.toNat:Int)=92:=fun e=>h92 (UInt8.toNat_inj.1 (show z.toNat=92 by omega));have n10:¬(z.toNat:Int)=10:=fun e=>GK (UInt8.toNat_inj.1 (show z.toNat=10 by omega));have n9:¬(z.toNat:Int)=9:=fun e=>h9 (UInt8.toNat_inj.1 (show z.toNat=9 by omega));clear h34 h92 GK h9;have e34:((z.toNat:Int)==34)=false:=jM3 n34;have e92:((z.toNat:Int)==92)=false:=jM3 n92;have e10:((z.toNat:Int)==10)=false:=jM3 n10;have e9:((z.toNat:Int)==9)=false:=jM3 n9;have HQ:=G (show yQ z=if z.toNat<32\/126<z.toNat then [92,120,Vj (z.toNat/16),Vj (z.toNat% 16)]else [z]by unfold yQ;rw[jJ5 (by omega),jJ5 (by omega),jJ5 (by omega)]);by_cases Wr:z.toNat<32
   ·have m1:(z.toNat:Int)<32:=(by omega);have f1:decide ((z.toNat:Int)<32)=true:=jK5 m1;have Wy:=G (HQ.out.trans (jJ6 (.inl Wr)));rw[Wy.out]at HN;clear HQ Wy;go_wp2_with fail;obtain⟨q,hq⟩:∃q:Nat,z.toNat/16=q:=⟨_,rfl⟩;obtain⟨r,hr⟩:∃r:Nat,z.toNat% 16=r:=⟨_,rfl⟩;rw[hq,hr]at HN;have q16:q<16:=by have:=z.toNat_lt;omega
    have r16:r<16:=(by omega);have Cl:(z.toNat:Int)/16=(q:Int):=(by omega);have Ci:(z.toNat:Int).tmod 16=(r:Int):=by rw[<-hr];rfl
    have Ap:IntKind.u8.wrap (q:Int)=(q:Int):=IntWalk.u8_in _ (by omega);have TT:IntKind.u8.wrap (r:Int)=(r:Int):=IntWalk.u8_in _ (by omega);have q0:(0:Int)<=(q:Int):=(by omega);have q1:(q:Int)<16:=(by omega);have q2:(q:Int).toNat=q:=(by omega);have r0:(0:Int)<=(r:Int):=(by omega);have r1:(r:Int)<16:=(by omega);have r2:(r:Int).toNat=r:=(by omega);have Cd:=VP q q16;have Cc:=VP r r16;clear hq hr;refine jL (S:=fun W=>Kp (From w.heap.size) wr W) 10 rfl (by kernel_rfl) (jQ0 _ wr).drew (fun Ha=> ?_);refine uz (ls' :=([false,false,false,false,false,false,false,false,false,false]:List Bool).toArray) rfl ?_;refine' jH 0 rfl rfl (by kernel_rfl) (fun _ _ _ h=>h) rfl Ha (fun w' Hh=> ?_) ?_;rotate_left;(skip;clear Hh;go_simp<;>with_reducible rfl);simp only[Act.put,jJ1,jJ2,jJ3];refine' jH 1 rfl rfl (by kernel_rfl) (fun _ _ _ h=>h) rfl Ha (fun w' Hh=> ?_) ?_;rotate_left;(skip;clear Hh;go_simp<;>with_reducible rfl);simp only[Act.put,jJ1,jJ2,jJ3];refine' jH 4 rfl rfl (by kernel_rfl) (fun _ _ _ h=>h) rfl Ha (fun w' Hh=> ?_) ?_;rotate_left;(skip;clear Hh;go_simp<;>with_reducible rfl);simp only[Act.put,jJ1,jJ2,jJ3];refine' jH 2 rfl rfl (by kernel_rfl) (fun _ _ _ h=>h) rfl Ha (fun w' Hh=> ?_) ?_;rotate_left;(skip;clear Hh;go_simp<;>with_reducible rfl);simp only[Act.put,jJ1,jJ2,jJ3];refine' jH 5 rfl rfl (by kernel_rfl) (fun _ _ _ h=>h) rfl Ha (fun w' Hh=> ?_) ?_;rotate_left;(skip;clear Hh;go_simp<;>with_reducible rfl);simp only[Act.put,jJ1,jJ2,jJ3];refine' jH 3 rfl rfl (by kernel_rfl) (fun _ _ _ h=>h) rfl Ha (fun w' Hh=> ?_) ?_;rotate_left;(skip;clear Hh;go_simp<;>with_reducible rfl);simp only[Act.put,jJ1,jJ2,jJ3];refine' jH 6 rfl rfl (by kernel_rfl) (fun _ _ _ h=>h) rfl Ha (fun w' Hh=> ?_) ?_;rotate_left;(skip;clear Hh;go_simp<;>with_reducible rfl);simp only[Act.put,jJ1,jJ2,jJ3];refine jn 7 rfl (by kernel_rfl) (fun K hK=> ?_);go_simp;refine hK.out _ _ (((jQ0 _ wr).drew).alloc _) (fun Ha=> ?_);clear hK K;simp only[jJ1,jJ2,jJ3];refine jn 8 rfl (by kernel_rfl) (fun K hK=> ?_);refine JU (.tmp 42) (.tmp 49) ((HB.out.old ((jQ0 NoX wr).drew)).alloc _) (m:=[92,120,Vj q,Vj r]) (vV _ _ [92,120,Vj q,Vj r]) (by have:=HL.out;simp only[jK6,jN2];omega) rfl rfl rfl rfl ?_;intro out A2 c2 w2 eo h2 hU;refine hK.out _ _ ((((jQ0 _ wr).drew).alloc _).trans hU (fun _ _ e=>e)) (fun Ha=> ?_);clear hK K;simp only[Act.put,jJ1,jJ2,jJ3];refine' jH 9 rfl rfl (by kernel_rfl) (fun _ _ _ h=>h) rfl Ha (fun w' Hh=> ?_) ?_;rotate_left;(skip;clear Hh;go_simp<;>with_reducible rfl);simp only[Act.put,jJ1,jJ2,jJ3];refine wpAnyH_done (by kernel_rfl) ?_ _;go_wp2_with fail;go_roundw
    case rel=>exact⟨j+1,A2,c2,out,by omega,by rw[show((j+1:Nat):Int)=(j:Int)+1 by omega],rfl,G (HN.out _ (eo.out.trans rfl)),h2,From.old ((HO.out.trans ((jQ0 NoX wr).drew) (fun _ _ e=>e)).alloc _) hU (jL3 _)⟩
    case measure=>simp only[intOf];omega
   ·by_cases Rc:126<z.toNat
    ·have m1:¬(z.toNat:Int)<32:=(by omega);have m2:(126:Int)<(z.toNat:Int):=(by omega);have f1:decide ((z.toNat:Int)<32)=false:=jK3 m1;have f2:decide ((126:Int)<(z.toNat:Int))=true:=jK5 m2;have Wy:=G (HQ.out.trans (jJ6 (.inr Rc)));rw[Wy.out]at HN;clear HQ Wy;go_wp2_with fail;obtain⟨q,hq⟩:∃q:Nat,z.toNat/16=q:=⟨_,rfl⟩;obtain⟨r,hr⟩:∃r:Nat,z.toNat% 16=r:=⟨_,rfl⟩;rw[hq,hr]at HN;have q16:q<16:=by have:=z.toNat_lt;omega
     have r16:r<16:=(by omega);have Cl:(z.toNat:Int)/16=(q:Int):=(by omega);have Ci:(z.toNat:Int).tmod 16=(r:Int):=by rw[<-hr];rfl
     have Ap:IntKind.u8.wrap (q:Int)=(q:Int):=IntWalk.u8_in _ (by omega);have TT:IntKind.u8.wrap (r:Int)=(r:Int):=IntWalk.u8_in _ (by omega);have q0:(0:Int)<=(q:Int):=(by omega);have q1:(q:Int)<16:=(by omega);have q2:(q:Int).toNat=q:=(by omega);have r0:(0:Int)<=(r:Int):=(by omega);have r1:(r:Int)<16:=(by omega);have r2:(r:Int).toNat=r:=(by omega);have Cd:=VP q q16;have Cc:=VP r r16;clear hq hr;refine jL (S:=fun W=>Kp (From w.heap.size) wr W) 10 rfl (by kernel_rfl) (jQ0 _ wr).drew (fun Ha=> ?_);refine uz (ls' :=([false,false,false,false,false,false,false,false,false,false]:List Bool).toArray) rfl ?_;refine' jH 0 rfl rfl (by kernel_rfl) (fun _ _ _ h=>h) rfl Ha (fun w' Hh=> ?_) ?_;rotate_left;(skip;clear Hh;go_simp<;>with_reducible rfl);simp only[Act.put,jJ1,jJ2,jJ3];refine' jH 1 rfl rfl (by kernel_rfl) (fun _ _ _ h=>h) rfl Ha (fun w' Hh=> ?_) ?_;rotate_left;(skip;clear Hh;go_simp<;>with_reducible rfl);simp only[Act.put,jJ1,jJ2,jJ3];refine' jH 4 rfl rfl (by kernel_rfl) (fun _ _ _ h=>h) rfl Ha (fun w' Hh=> ?_) ?_;rotate_left;(skip;clear Hh;go_simp<;>with_reducible rfl);simp only[Act.put,jJ1,jJ2,jJ3];refine' jH 2 rfl rfl (by kernel_rfl) (fun _ _ _ h=>h) rfl Ha (fun w' Hh=> ?_) ?_;rotate_left;(skip;clear Hh;go_simp<;>with_reducible rfl);simp only[Act.put,jJ1,jJ2,jJ3];refine' jH 5 rfl rfl (by kernel_rfl) (fun _ _ _ h=>h) rfl Ha (fun w' Hh=> ?_) ?_;rotate_left;(skip;clear Hh;go_simp<;>with_reducible rfl);simp only[Act.put,jJ1,jJ2,jJ3];refine' jH 3 rfl rfl (by kernel_rfl) (fun _ _ _ h=>h) rfl Ha (fun w' Hh=> ?_) ?_;rotate_left;(skip;clear Hh;go_simp<;>with_reducible rfl);simp only[Act.put,jJ1,jJ2,jJ3];refine' jH 6 rfl rfl (by kernel_rfl) (fun _ _ _ h=>h) rfl Ha (fun w' Hh=> ?_) ?_;rotate_left;(skip;clear Hh;go_simp<;>with_reducible rfl);simp only[Act.put,jJ1,jJ2,jJ3];refine jn 7 rfl (by kernel_rfl) (fun K hK=> ?_);go_simp;refine hK.out _ _ (((jQ0 _ wr).drew).alloc _) (fun Ha=> ?_);clear hK K;simp only[jJ1,jJ2,jJ3];refine jn 8 rfl (by kernel_rfl) (fun K hK=> ?_);refine JU (.tmp 42) (.tmp 49) ((HB.out.old ((jQ0 NoX wr).drew)).alloc _) (m:=[92,120,Vj q,Vj r]) (vV _ _ [92,120,Vj q,Vj r]) (by have:=HL.out;simp only[jK6,jN2];omega) rfl rfl rfl rfl ?_;intro out A2 c2 w2 eo h2 hU;refine hK.out _ _ ((((jQ0 _ wr).drew).alloc _).trans hU (fun _ _ e=>e)) (fun Ha=> ?_);clear hK K;simp only[Act.put,jJ1,jJ2,jJ3];refine' jH 9 rfl rfl (by kernel_rfl) (fun _ _ _ h=>h) rfl Ha (fun w' Hh=> ?_) ?_;rotate_left;(skip;clear Hh;go_simp<;>with_reducible rfl);simp only[Act.put,jJ1,jJ2,jJ3];refine wpAnyH_done (by kernel_rfl) ?_ _;go_wp2_with fail;go_roundw
     case rel=>exact⟨j+1,A2,c2,out,by omega,by rw[show((j+1:Nat):Int)=(j:Int)+1 by omega],rfl,G (HN.out _ (eo.out.trans rfl)),h2,From.old ((HO.out.trans ((jQ0 NoX wr).drew) (fun _ _ e=>e)).alloc _) hU (jL3 _)⟩
     case measure=>simp only[intOf];omega
    ·have m1:¬(z.toNat:Int)<32:=(by omega);have m2:¬(126:Int)<(z.toNat:Int):=(by omega);have f1:decide ((z.toNat:Int)<32)=false:=jK3 m1;have f2:decide ((126:Int)<(z.toNat:Int))=false:=jK3 m2;have Wy:=G (HQ.out.trans (jJ5 (fun h=>h.elim Wr Rc)));rw[Wy.out]at HN;clear HQ Wy;go_wp2_with (first|(at_builtin;refine vN (.tmp 51) (.tmp 53) (HB.out.alloc _) (m:=[z]) (vV _ _ [z]) (by have:=HL.out;simp only[jK6,jN2];omega) rfl rfl rfl rfl ?_;intro out A2 c2 w2 eo h2 hU)|fail);go_roundw
     case rel=>exact⟨j+1,A2,c2,out,by omega,by rw[show((j+1:Nat):Int)=(j:Int)+1 by omega],rfl,G (HN.out _ (eo.out.trans rfl)),h2,From.old (HO.out.alloc _) hU (jL3 _)⟩
     case measure=>simp only[intOf];omega
  ·obtain rfl:j=s.size:=(by omega);have HF:=G (show∀out:LB,out=bl++[34]->out=kw (sb s)from fun out e=>by rw[e,HE.out,<-jB,List.take_length];rfl);clear HE hj;go_wp2_with (first|(at_builtin;refine vN (.tmp 55) (.tmp 56) (HB.out.alloc _) (m:=[34]) (vV _ _ [34]) (by have:=HL.out;simp only[jK6,jN2];omega) rfl rfl rfl rfl ?_;intro out A2 c2 w2 eo h2 hU;have WU:=jj (P:=prog) w2 (src:=33) (dst:=9) underlying33 underlying5 underlying9 A2 out.length c2 out h2.rd)|fail);go_ret;exact⟨by rw[HF.out out eo.out];rfl,From.old (HO.out.alloc _) hU (jL3 _)⟩
theorem JI(w:World)(hg:Sg w)(n:Nat)(h1:1<=n)(h2:n<58):Calls prog 203 #[yv n] w fun e w' =>e=.returned (.string ⟨(jt n).toArray⟩)/\w=w' :=by
 unfold yv;by_cases e1:n=1
 ·subst e1;clear hg;go_enter func203,ntmps203;go_wp2;go_ret;exact⟨rfl,rfl⟩
 by_cases e2:n=2
 ·subst e2;clear hg;go_enter func203,ntmps203;go_wp2;go_ret;exact⟨rfl,rfl⟩
 by_cases e3:n=3
 ·subst e3;clear hg;go_enter func203,ntmps203;go_wp2;go_ret;exact⟨rfl,rfl⟩
 have b1:((n:Int)==1)=false:=jM3 (by omega);have b2:((n:Int)==2)=false:=jM3 (by omega);have b3:((n:Int)==3)=false:=jM3 (by omega);by_cases h23:n<23
 ·obtain⟨j,rfl⟩:∃j,n=j+4:=⟨n-4,by omega⟩;have hj:j<19:=(by omega);have hc:=hg.sig j _ (VJ signL j hj);rw[Nat.zero_add]at hc;have Hs:=G (show jt (j+4)=signL[j]'hj from by
   unfold jt;rw[jJ5 e1,jJ5 e2,jJ5 e3,jJ6 h23,Nat.add_sub_cancel,List.getD,jJ9 (show j<signL.length from hj)];rfl)
  have b4:((j+4:Nat):Int)<23:=(by omega);have b5:IntKind.u8.wrap (((j+4:Nat):Int)-4)=(j:Int):=by rw[show((j+4:Nat):Int)-4=(j:Int)by omega];exact IntWalk.u8_in _ (by omega)
  have b6:(0:Int)<=(j:Int):=(by omega);have b7:(j:Int)<19:=(by omega);have b8:(j:Int).toNat=j:=(by omega);rw[Hs.out];clear hg e1 e2 e3 h1 h2 h23 Hs;generalize signL[j]'hj=x at*;generalize ((j+4:Nat):Int)=z at*;go_enter func203,ntmps203;go_wp2;go_ret;exact⟨rfl,rfl⟩
 ·obtain⟨j,rfl⟩:∃j,n=j+23:=⟨n-23,by omega⟩;have hj:j<35:=(by omega);have hc:=hg.res j _ (VJ resL j hj);rw[Nat.zero_add]at hc;have Hs:=G (show jt (j+23)=resL[j]'hj from by
   unfold jt;rw[jJ5 e1,jJ5 e2,jJ5 e3,jJ5 h23,Nat.add_sub_cancel,List.getD,jJ9 (show j<resL.length from hj)];rfl)
  have b4:¬((j+23:Nat):Int)<23:=(by omega);have b5:IntKind.u8.wrap (((j+23:Nat):Int)-23)=(j:Int):=by rw[show((j+23:Nat):Int)-23=(j:Int)by omega];exact IntWalk.u8_in _ (by omega)
  have b6:(0:Int)<=(j:Int):=(by omega);have b7:(j:Int)<35:=(by omega);have b8:(j:Int).toNat=j:=(by omega);rw[Hs.out];clear hg e1 e2 e3 h1 h2 h23 Hs;generalize resL[j]'hj=x at*;generalize ((j+23:Nat):Int)=z at*;go_enter func203,ntmps203;go_wp2;go_ret;exact⟨rfl,rfl⟩
theorem jAi{w:World}{base base' :Nat}{e:TypeId}{size:Nat}{v:Value}{n:Nat}{xs:List Value}(h:w.ownsRow base e size v n xs)(hb:base' <=base):w.ownsRow base' e size v n xs:=by
 refine⟨h.1,?_⟩;rcases h.2 with hn|⟨g,cap,cur,rfl,hg,rest⟩
 ·exact .inl hn
 ·exact .inr ⟨g,cap,cur,rfl,jL4 hb hg,rest⟩
theorem JS(w:World)(g:Nat)(r:Option Nat)(src:BA)(m:Mc)(A:OA)(c:Nat)(h:Mac w g r src m A c)(t n:Nat)(k:List Nat)(ht:t<58)(hT:Takes t n m.stack k)(hb:m.stack.length+11*n<=100000000):
  Calls prog 144 #[.pointer (some ⟨g,0,none⟩),yv t] w fun e w' =>∃g' r' A' c',e=.returned (.pointer (some ⟨g',0,none⟩))/\Mac w' g' r' ⟨#[]⟩ ⟨0,k,0,0⟩ A' c' /\Old w w' :=by
 obtain⟨i0,hi,Fm,GI,GW⟩:=info_parts jBM;have FE:=h.c2;have Ff:=h.own.rd;have H8:=G (show 8<=w.heap.size from by have:=h.low;have:=h.blk.lt;omega);have H5:=G h.sym;have HT:=G hT;have Hb:=G hb;clear h hT;generalize m.stack=st at*;generalize hL:st.length=L at*;have HL:=G hL;clear hL;have GA:=G (show 0+L<=maxLen by unfold maxLen;omega);have GH:=G (show(0+L)*1<=140737488355328 by omega);unfold yv;go_enter func144,ntmps144;go_wp2_with (at_builtin;refine jE _ rfl (.const (.slice none 0 0)) (.tmp 9) 159 rfl w.heap.size 163 i0 (.int .u8 0) 1 1 underlying159 hi Fm GI GW rfl (by decide) (.slice none 0 0) 0 [] rfl (World.ownsRow_nil _ _ _ _) A L c (st.reverse.map yv) rfl Ff (jGf _) GA.out GH.out (jL3 _) ?_;intro A' c' w1 Hi hgrow Fc);have Nn:Old w w1:=(jQ0 NoX w).grown hgrow (fun k e _=>by cases e);have hW:w1.heap.size>=w.heap.size:=Nn.size;have FX:∀k,A'.map (·.block)=some k->w.heap.size<=k:=fun k e=>(Hi.lt k (by rw[jC];exact e)).1;have hM:Mac (w1.alloc (.cells #[.string ⟨#[]⟩,.int .i64 0,.slice A' L c',.int .u8 0,.int .i64 0] 162)) w1.heap.size (A'.map (·.block)) ⟨#[]⟩ ⟨0,st,0,0⟩ A' c' :=by
  refine⟨by have:=H8.out;omega,?_,?_,rfl,H5.out⟩
  ·show Blk _ _ _ #[_,_,.slice A' st.length c',_,_];rw[HL.out];exact jQ2 _ _ _
  ·have h2:=jAi Hi H8.out;rw[Nat.zero_add,jN8]at h2;unfold Stk;rw[HL.out];exact jV h2 ((jQ0 NoX w1).alloc _) (fun _ _ f=>f)
 have Q5:=G (yj _ _ _ _ _ _ _ hM t n k ht HT.out (by show st.length+_ <=_;rw[HL.out];exact Hb.out));unfold yv at Q5;have HO:=G (Nn.alloc (.cells #[.string ⟨#[]⟩,.int .i64 0,.slice A' L c',.int .u8 0,.int .i64 0] 162));clear hM Nn Hi hgrow Fc;go_wp2_with (go_at_call 179;refine Q5.out.mono ?_;rintro e w2 ⟨rfl,r2,A2,c2,Lo,hU,WI⟩);go_ret;refine⟨_,r2,A2,c2,rfl,Lo,HO.out.trans hU (fun b hb hx=> ?_)⟩;rcases hx with hx|hx
 ·omega
 ·have:=FX b hx.symm;omega
theorem Blk.same{w:World}{g:Nat}{t t' :TypeId}{cs cs' :Array Value}(h:Blk w g t cs)(h' :Blk w g t' cs'):cs=cs' :=by
 unfold Blk at h h';rw[h]at h';injection h' with h';injection h' with h1 _
theorem Rp.uniq{w:World}{a:OA}{l:LB}(h:Rp w a l):∀{l' :LB},Rp w a l' ->l=l' :=by
 induction h with
 |nil=>intro l' h';exact h'.nil_of.symm
 |cons g p nx l hp hb _ ih=>
  intro l' h';generalize ha:(some ⟨g,0,none⟩:OA)=a at h';cases h' with
  |nil=>cases ha
  |cons g' p' nx' l2 hp' NW hn' =>
   injection ha with ha;injection ha with ha;subst ha;have e:=hb.same NW;simp only[Array.mk.injEq,List.cons.injEq,Value.string.injEq,Value.pointer.injEq]at e;obtain⟨rfl,rfl,_⟩:=e;rw[ih hn']
inductive Ps (w:World):OA->Nat->LB->Prop
 |nil:Ps w none 0 []
 |at_ (g:Nat) (p:BA) (nx:OA) (l:LB) (i:Nat):i<p.size->p.size<=1000000000000->Blk w g 225 #[.string p,.pointer nx,.int .i64 ((sb p++l).length:Int)]->Rp w nx l->Ps w (some ⟨g,0,none⟩) i ((sb p).drop i++l)
theorem Rp.ps{w:World}{a:OA}{l:LB}(h:Rp w a l)(hl:l.length<=1000000000000):Ps w a 0 l:=by
 cases h with
 |nil=>exact .nil
 |cons g p nx l hp hb hn=>exact .at_ g p nx l 0 hp (by rw[jJ4,jB]at hl;omega) hb hn
theorem Ps.len{w W:World}{a:OA}{i:Nat}{l:LB}(h:Ps w a i l)(ho:Old w W):rlen (.pointer a) W-i=l.length:=by
 cases h with
 |nil=>rfl
 |at_ g p nx l i hi _ hb hn=>
  rw[((Rp.cons g p nx l (by omega) hb hn).old ho).rlen,jJ4,jJ4,jK8,jB];omega
theorem Ps.next{w:World}{p:BA}{nx:OA}{l:LB}{i g:Nat}(hi:i<p.size)(hp:p.size<=1000000000000)(hm:((sb p).drop i++l).length<=1000000000000)(hb:Blk w g 225 #[.string p,.pointer nx,.int .i64 ((sb p++l).length:Int)])(hn:Rp w nx l):
  (sb p).drop i++l=p[i]::((sb p).drop (i+1)++l)/\(i+1<p.size->Ps w (some ⟨g,0,none⟩) (i+1) ((sb p).drop (i+1)++l))/\(i+1=p.size->Ps w nx 0 ((sb p).drop (i+1)++l)):=by
 refine⟨by rw[yB p i hi,jN6],fun h=>.at_ g p nx l (i+1) h hp hb hn,fun h=> ?_⟩;rw[List.drop_of_length_le (by rw[jB];omega),jN8];exact hn.ps (by rw[jJ4]at hm;omega)
theorem Qc:∀l:LB,ltB l l=false
 |[]=>rfl
 |a::l=>by rw[ltB,jJ6 rfl];exact Qc l
theorem jE7(l:LB):ltB l []=false:=by cases l<;>rfl
theorem jDB(l:LB):ltB [] l=false:=by cases l<;>rfl
theorem QA:(prog.info? 225).map (·.size)=some 3:=by kernel_rfl
theorem jC3(w:World)(a:Addr):(binOp .neq 166 (.pointer (some a)) (.pointer (some a))).run prog w=.ok (.bool false) w:=by
 obtain⟨j,hj,_⟩:=jM4 QA;have h:∀d:Nat,(Op.equalIn (d+1) 166 (.pointer (some a)) (.pointer (some a))).run prog w=.ok true w:=fun d=>by
  simp[Op.equalIn,run_underlying underlying166,sizeOf,typeInfo,hj,run_sameAddr_same]
 simp only[binOp];simp[Op.equal,Op.maxDepth,h 9999]
theorem jAw(w:World){g g' :Nat}{ta tb:TypeId}{ca cb:Array Value}(Fh:g≠g')(ha:Blk w g ta ca)(hb:Blk w g' tb cb):(binOp .neq 166 (.pointer (some ⟨g,0,none⟩)) (.pointer (some ⟨g',0,none⟩))).run prog w=.ok (.bool true) w:=by
 obtain⟨j,hj,Gl⟩:=jM4 QA;have hn:(⟨g,0,none⟩:Addr)≠⟨g',0,none⟩:=fun e=>Fh (by injection e);have h:∀d:Nat,(Op.equalIn (d+1) 166 (.pointer (some ⟨g,0,none⟩)) (.pointer (some ⟨g',0,none⟩))).run prog w=.ok false w:=fun d=>by
  simp[Op.equalIn,run_underlying underlying166,sizeOf,typeInfo,hj,show j.size≠0 by rw[Gl];decide,run_sameAddr_other w hn ha hb]
 simp only[binOp];simp[Op.equal,Op.maxDepth,h 9999]
theorem Ye(w:World)(a b:OA)(x y:LB)(hx:Rp w a x)(hy:Rp w b y)(hl:x.length<=1000000000000)(FM:y.length<=1000000000000):
  Calls prog 177 #[.pointer a,.pointer b] w fun e w' =>e=.returned (.bool (zt x y))/\Old w w' :=by
 have H1:=G (Ky w a x hx);have H2:=G (Ky w b y hy);by_cases Fh:x.length=y.length
 case neg=>
  have Hr:=G (show zt x y=decide (x.length<y.length)by unfold zt;rw[jJ5 Fh]);have b1:((x.length:Int) !=(y.length:Int))=true:=bne_iff_ne.2 (by omega);rw[Hr.out];clear hx hy;generalize x.length=n at*;generalize y.length=k at*;go_enter func177,ntmps177;go_wp2_with (first|(go_at_call_of 174 (Value.pointer a);refine H1.out.mono ?_;rintro e w1 ⟨rfl,rfl⟩)|(go_at_call_of 174 (Value.pointer b);refine H2.out.mono ?_;rintro e w1 ⟨rfl,rfl⟩))
  all_goals (go_ret;refine⟨QI ?_,jQ0 _ _⟩;simp<;>omega)
 case pos=>
  have Hr:=G (show zt x y=ltB x y by unfold zt;rw[jJ6 Fh]);have b1:((x.length:Int) !=(y.length:Int))=false:=by rw[Fh];simp
  have H0:=G (show Ps w a 0 x/\Ps w b 0 y/\x.length=y.length from⟨hx.ps hl,hy.ps FM,Fh⟩);have Et:=G hl;generalize zt x y=R at*;clear hx hy hl FM Fh;generalize Fq:x.length=n1 at*;generalize Fu:y.length=n2 at*;go_enter func177,ntmps177;go_wp2_with (first|(go_at_call_of 174 (Value.pointer a);refine H1.out.mono ?_;rintro e w1 ⟨rfl,rfl⟩)|(go_at_call_of 174 (Value.pointer b);refine H2.out.mono ?_;rintro e w1 ⟨rfl,rfl⟩));have Tm:=G Fq;have Q0:=G Fu;clear H1 H2 b1 Fq Fu;go_loopw [0,1,5,6] (fun v0 v1 v5 v6 wr=>∃(a b:OA) (i j:Nat) (rx ry:LB),v0=.pointer a/\v1=.pointer b/\v5=.int .i64 i/\v6=.int .i64 j/\Ps w a i rx/\Ps w b j ry/\rx.length=ry.length/\rx.length<=1000000000000/\R=ltB rx ry/\Old w wr) (fun v0 _ v5 _ wr=>rlen v0 wr-(intOf v5).toNat)
  case atStart=>exact⟨a,b,0,0,x,y,rfl,rfl,rfl,rfl,H0.out.1,H0.out.2.1,by rw[Tm.out,Q0.out];exact H0.out.2.2,by rw[Tm.out];exact Et.out,Hr.out,jQ0 _ _⟩
  case round=>
   clear H0 Hr Et Tm Q0;obtain⟨a,b,i,j,rx,ry,rfl,rfl,rfl,rfl,DR,DQ,hlen,Wq,hR,Hj⟩:=hrel;have WM:=G (DR.len Hj);have Ge:=G Hj;have Fb:=G hlen;have HR:=G hR;cases DR with
   |nil=>
    have Hf:=G (show R=false by rw[HR.out,jDB]);clear hR Hj hlen DQ Wq;go_wp2;go_ret;exact⟨by rw[Hf.out];rfl,Ge.out⟩
   |at_ gx px nx lx _ PJ LT GQ FB=>
    cases DQ with
    |nil=>
     have Hf:=G (show R=false by rw[HR.out,jE7]);clear hR Hj hlen Wq;go_wp2;go_ret;exact⟨by rw[Hf.out];rfl,Ge.out⟩
    |at_ gy py ny ly _ hiy NN NU hny=>
     by_cases hg:gx=gy
     ·have Hf:=G (show R=false by
       subst hg;have e:=GQ.same NU;simp only[Array.mk.injEq,List.cons.injEq,Value.string.injEq,Value.pointer.injEq]at e;obtain⟨rfl,rfl,_⟩:=e;have e2:=FB.uniq hny;subst e2;have h3:=Fb.out;rw[jJ4,jJ4,jK8,jK8,jB]at h3;have:i=j:=(by omega);subst this;rw[HR.out,Qc])
      subst hg;clear hR Hj hlen Wq PJ GQ FB hiy NU hny;have SJ:=jC3 wr ⟨gx,0,none⟩;go_wp2;go_ret;exact⟨by rw[Hf.out];rfl,Ge.out⟩
     ·have Ll:=GQ.old Ge.out;have Lk:=NU.old Ge.out;have p0:=Ll.at_ 0 (v:=.string px) rfl;have p1:=Ll.at_ 1 (v:=.pointer nx) rfl;have q0:=Lk.at_ 0 (v:=.string py) rfl;have q1:=Lk.at_ 1 (v:=.pointer ny) rfl;have Nx:=G (Ps.next PJ LT Wq GQ FB);have Ny:=G (Ps.next hiy NN (by rw[<-Fb.out];exact Wq) NU hny);have a1:(i:Int)<(px.size:Int):=(by omega);have a2:(0:Int)<=(i:Int):=(by omega);have a3:(i:Int).toNat=i:=(by omega);have a5:(j:Int)<(py.size:Int):=(by omega);have a6:(0:Int)<=(j:Int):=(by omega);have a7:(j:Int).toNat=j:=(by omega);have SJ:=jAw wr hg Ll Lk;have a8:IntKind.i64.wrap ((i:Int)+1)=(i:Int)+1:=jQ3 _ (by omega);have a9:IntKind.i64.wrap ((j:Int)+1)=(j:Int)+1:=jQ3 _ (by omega);by_cases hc:px[i]=py[j]
      ·have c1:((px[i].toNat:Int) !=(py[j].toNat:Int))=false:=by rw[hc];simp
       have GU:=G (show R=ltB ((sb px).drop (i+1)++lx) ((sb py).drop (j+1)++ly)by rw[HR.out,Nx.out.1,Ny.out.1,hc,ltB,jJ6 rfl]);have Z0:=G (show((sb px).drop (i+1)++lx).length=((sb py).drop (j+1)++ly).length by
        have h3:=Fb.out;rw[Nx.out.1,Ny.out.1,jK6,jK6]at h3;omega)
       have Po:=G (show((sb px).drop (i+1)++lx).length+1<=1000000000000 by
        have h3:=Wq;rw[Nx.out.1,jK6]at h3;exact h3)
       have RE:=G (show((sb px).drop i++lx).length=((sb px).drop (i+1)++lx).length+1 by rw[Nx.out.1,jK6]);clear hR Hj hlen Wq GQ FB NU hny Ll Lk hc HR;generalize (sb px).drop (i+1)++lx=rx at*;generalize (sb py).drop (j+1)++ly=ry at*;by_cases e1:i+1=px.size
       ·have d1:(((i:Int)+1)==(px.size:Int))=true:=by rw[show(i:Int)+1=(px.size:Int)by omega];simp
        have P1:=G (Nx.out.2.2 e1);by_cases e2:j+1=py.size
        ·have d2:(((j:Int)+1)==(py.size:Int))=true:=by rw[show(j:Int)+1=(py.size:Int)by omega];simp
         have P2:=G (Ny.out.2.2 e2);clear e1 e2;go_wp2;go_quiet (fail);go_wp2;exact⟨⟨nx,ny,0,0,rx,ry,rfl,rfl,rfl,rfl,P1.out,P2.out,Z0.out,by have:=Po.out;omega,GU.out,Ge.out.drewN _⟩,Nat.lt_of_lt_of_eq (Nat.lt_of_le_of_lt (Nat.le_of_eq (P1.out.len (Ge.out.drewN _))) (by rw[RE.out];omega)) WM.out.symm⟩
        ·have d2:(((j:Int)+1)==(py.size:Int))=false:=jM3 (by omega);have P2:=G (Ny.out.2.1 (by omega));clear e1 e2;go_wp2;go_quiet (fail);go_wp2;exact⟨⟨nx,(some ⟨gy,0,none⟩),0,(j+1),rx,ry,rfl,rfl,rfl,by go_num,P1.out,P2.out,Z0.out,by have:=Po.out;omega,GU.out,Ge.out.drewN _⟩,Nat.lt_of_lt_of_eq (Nat.lt_of_le_of_lt (Nat.le_of_eq (P1.out.len (Ge.out.drewN _))) (by rw[RE.out];omega)) WM.out.symm⟩
       ·have d1:(((i:Int)+1)==(px.size:Int))=false:=jM3 (by omega);have P1:=G (Nx.out.2.1 (by omega));by_cases e2:j+1=py.size
        ·have d2:(((j:Int)+1)==(py.size:Int))=true:=by rw[show(j:Int)+1=(py.size:Int)by omega];simp
         have P2:=G (Ny.out.2.2 e2);clear e1 e2;go_wp2;go_quiet (fail);go_wp2;exact⟨⟨(some ⟨gx,0,none⟩),ny,(i+1),0,rx,ry,rfl,rfl,by go_num,rfl,P1.out,P2.out,Z0.out,by have:=Po.out;omega,GU.out,Ge.out.drewN _⟩,Nat.lt_of_lt_of_eq (Nat.lt_of_le_of_lt (Nat.le_of_eq (P1.out.len (Ge.out.drewN _))) (by rw[RE.out];omega)) WM.out.symm⟩
        ·have d2:(((j:Int)+1)==(py.size:Int))=false:=jM3 (by omega);have P2:=G (Ny.out.2.1 (by omega));clear e1 e2;go_wp2;go_quiet (fail);go_wp2;exact⟨⟨(some ⟨gx,0,none⟩),(some ⟨gy,0,none⟩),(i+1),(j+1),rx,ry,rfl,rfl,by go_num,by go_num,P1.out,P2.out,Z0.out,by have:=Po.out;omega,GU.out,Ge.out.drewN _⟩,Nat.lt_of_lt_of_eq (Nat.lt_of_le_of_lt (Nat.le_of_eq (P1.out.len (Ge.out.drewN _))) (by rw[RE.out];omega)) WM.out.symm⟩
      ·have c1:((px[i].toNat:Int) !=(py[j].toNat:Int))=true:=bne_iff_ne.2 (fun e=>hc (UInt8.toNat_inj.1 (by omega)));have Hf:=G (show R=decide (px[i].toNat<py[j].toNat)by rw[HR.out,Nx.out.1,Ny.out.1,ltB,jJ5 hc]);clear hR Hj hlen Wq GQ FB NU hny Ll Lk hc HR Nx Ny;go_wp2;go_quiet (fail);go_wp2
       all_goals (go_ret;refine⟨?_,Ge.out.drewN _⟩;rw[Hf.out];refine QI ?_;simp<;>omega)
theorem Qg(w:World)(a b:OA)(x y:LB)(hx:Rp w a x)(hy:Rp w b y)(hl:x.length<=1000000000000)(FM:y.length<=1000000000000):
  Calls prog 204 #[.pointer a,.pointer b] w fun e w' =>∃p,e=.returned (.pointer p)/\Rp w' p (YV x y)/\Old w w' :=by
 have H:=G (Ye w b a y x hy hx FM hl);have Hy:=G (show YV x y=if zt y x=true then y else x from rfl);have HX:=G hx;have HY:=G hy;clear hx hy hl FM;generalize YV x y=R at*;generalize zt y x=q at*;cases q
 ·have HR:=G (show R=x by rw[Hy.out];rfl);clear Hy;go_enter func204,ntmps204;go_wp2_with (go_at_call 177;refine H.out.mono ?_;rintro e w1 ⟨rfl,ho⟩);go_ret;rw[HR.out];exact⟨a,rfl,HX.out.old ho,ho⟩
 ·have HR:=G (show R=y by rw[Hy.out];rfl);clear Hy;go_enter func204,ntmps204;go_wp2_with (go_at_call 177;refine H.out.mono ?_;rintro e w1 ⟨rfl,ho⟩);go_ret;rw[HR.out];exact⟨b,rfl,HY.out.old ho,ho⟩
def Yf(a b:OA):Value:=.agg #[.pointer a,.pointer b]
def us(w:World)(xy:LB×LB)(e:Ending)(w' :World):Prop:=∃a b,e=.returned (Yf a b)/\Rp w' a xy.1/\Rp w' b xy.2/\Old w w'
theorem Rp.box{X:Nat->Prop}{w w1:World}{a:OA}{l:LB}(h:Rp w a l)(ho:Kp X w w1)(hx:∀b,X b->∃cs,Blk w b 220 cs):Rp w1 a l:=by
 induction h with
 |nil=>exact .nil
 |cons g p nx l hp hb _ ih=>
  refine .cons g p nx l hp (hb.kp ho (fun he=> ?_)) ih;obtain⟨cs,hc⟩:=hx g he;exact(hb.ne_ hc (by decide)) rfl
def BxS(V:World)(g:Nat)(W:World):Prop:=Kp (fun k=>k=g) V W/\∃u v,Blk W g 220 #[u,v]
theorem BxS.old{V W W' :World}{g:Nat}(h:BxS V g W)(ho:Old W W'):BxS V g W' :=⟨h.1.old ho,by obtain⟨u,v,hb⟩:=h.2;exact⟨u,v,hb.old ho⟩⟩
theorem BxS.put{V W:World}{g:Nat}(h:BxS V g W)(x y:Value):BxS V g ((W.setCell ⟨g,0,none⟩ x).setCell ⟨g,1,none⟩ y)/\Blk ((W.setCell ⟨g,0,none⟩ x).setCell ⟨g,1,none⟩ y) g 220 #[x,y]:=by
 obtain⟨u,v,hb⟩:=h.2;have Fj:Blk ((W.setCell ⟨g,0,none⟩ x).setCell ⟨g,1,none⟩ y) g 220 #[x,y]:=(by simpa using (hb.set_ 0 x).set_ 1 y);exact⟨⟨(h.1.setCell (p:=⟨g,0,none⟩) (fun _=>rfl) x).setCell (p:=⟨g,1,none⟩) (fun _=>rfl) y,x,y,Fj⟩,Fj⟩
theorem ul(w:World)(hg:Sg w)(a b:OA)(y:LB)(hy:Rp w b y)(FM:y.length<=100000000000)(n:Nat)(h1:1<=n)(h2:n<58)(hw:ZT n=false):
  Calls prog 173 #[Yf a b,yv n] w (us w (jt n++y,jt n++y)):=by
 have he:zI n=false:=jK3 (by omega);have HE:=G (fun W=>JP W n);rw[he]at HE;have HW:=G (fun W=>Yv W n);have Sz:decide (n<=2\/23<=n)=false:=hw;rw[Sz]at HW;have HS:=G (fun W (hO:Old w W)=>JI W (hg.old hO) n h1 h2);have Fb:(jt n).length<=20:=by
  have:∀n:Fin 58,(jt n.val).length<=20:=(by decide+kernel);exact this ⟨n,h2⟩
 generalize SA:jt n=sp at*;have b1:((n:Int)==60)=false:=jM3 (by omega);have b2:¬(58:Int)<=(n:Int):=(by omega);unfold yv Yf at*;clear he hw Sz hg SA;go_enter func173,ntmps173;go_wp2_with (first|(go_at_call 202;refine(HE.out _).mono ?_;rintro e w1 ⟨rfl,rfl⟩)|(go_at_call 203;refine(HS.out _ (((jQ0 NoX w).alloc _).alloc _)).mono ?_;rintro e w1 ⟨rfl,rfl⟩)|(go_at_call 205;refine(HW.out _).mono ?_;rintro e w1 ⟨rfl,rfl⟩));have hV:Old w ((w.alloc (.cells #[.pointer a,.pointer b] 220)).alloc (.cells #[.pointer none,.pointer none] 220)):=((jQ0 NoX w).alloc _).alloc _;have Mk:Blk ((w.alloc (.cells #[.pointer a,.pointer b] 220)).alloc (.cells #[.pointer none,.pointer none] 220)) w.heap.size 220 #[.pointer a,.pointer b]:=(jQ2 _ _ _).alloc _;have GR:Blk ((w.alloc (.cells #[.pointer a,.pointer b] 220)).alloc (.cells #[.pointer none,.pointer none] 220)) (w.heap.size+1) 220 #[.pointer none,.pointer none]:=by
  have:=jQ2 (w.alloc (.cells #[.pointer a,.pointer b] 220)) 220 #[.pointer none,.pointer none]
  rwa [show(w.alloc (.cells #[.pointer a,.pointer b] 220)).heap.size=w.heap.size+1 by simp]at this
 generalize ((w.alloc (.cells #[.pointer a,.pointer b] 220)).alloc (.cells #[.pointer none,.pointer none] 220))=V at*;generalize hS:w.heap.size=S at*;have Ft:=G Mk;have Q6:=G GR;have HV:=G hV;have HY:=G (fun W (hk:Kp (fun k=>k=S+1) V.drew W)=>hy.kp (n:=S) (by omega) ((hV.mono (Y:=fun k=>k=S+1) (fun _ _ f=>f.elim)).drew.trans hk (fun _ _ h=>h)) (fun b hb e=>by omega));clear Mk GR hV HE HW HS;refine jL (S:=fun W=>BxS V.drew (S+1) W) 10 rfl (by kernel_rfl) ⟨jQ0 _ _,_,_,Q6.out.drew⟩ (fun Ha=> ?_)
 (refine' jH 0 rfl rfl (by kernel_rfl) (fun _ _ _ h=>h) rfl Ha (fun w' Hh=> ?_) ?_;rotate_left;(have s0:w'.cell? ⟨S,0,none⟩=some (.pointer a):=(Ft.out.drew.kp Hh.1 (by omega)).at_ 0 rfl;have s1:w'.cell? ⟨S,1,none⟩=some (.pointer b):=(Ft.out.drew.kp Hh.1 (by omega)).at_ 1 rfl;clear Hh;go_simp<;>with_reducible rfl);simp only[Act.put,jJ1,jJ2,jJ3])
 (refine' jH 1 rfl rfl (by kernel_rfl) (fun _ _ _ h=>h) rfl Ha (fun w' Hh=> ?_) ?_;rotate_left;(have s0:w'.cell? ⟨S,0,none⟩=some (.pointer a):=(Ft.out.drew.kp Hh.1 (by omega)).at_ 0 rfl;have s1:w'.cell? ⟨S,1,none⟩=some (.pointer b):=(Ft.out.drew.kp Hh.1 (by omega)).at_ 1 rfl;clear Hh;go_simp<;>with_reducible rfl);simp only[Act.put,jJ1,jJ2,jJ3])
 (refine' jH 2 rfl rfl (by kernel_rfl) (fun _ _ _ h=>h) rfl Ha (fun w' Hh=> ?_) ?_;rotate_left;(have s0:w'.cell? ⟨S,0,none⟩=some (.pointer a):=(Ft.out.drew.kp Hh.1 (by omega)).at_ 0 rfl;have s1:w'.cell? ⟨S,1,none⟩=some (.pointer b):=(Ft.out.drew.kp Hh.1 (by omega)).at_ 1 rfl;clear Hh;go_simp<;>with_reducible rfl);simp only[Act.put,jJ1,jJ2,jJ3])
 (refine' jH 4 rfl rfl (by kernel_rfl) (fun _ _ _ h=>h) rfl Ha (fun w' Hh=> ?_) ?_;rotate_left;(have s0:w'.cell? ⟨S,0,none⟩=some (.pointer a):=(Ft.out.drew.kp Hh.1 (by omega)).at_ 0 rfl;have s1:w'.cell? ⟨S,1,none⟩=some (.pointer b):=(Ft.out.drew.kp Hh.1 (by omega)).at_ 1 rfl;clear Hh;go_simp<;>with_reducible rfl);simp only[Act.put,jJ1,jJ2,jJ3])
 (refine' jH 5 rfl rfl (by kernel_rfl) (fun _ _ _ h=>h) rfl Ha (fun w' Hh=> ?_) ?_;rotate_left;(have s0:w'.cell? ⟨S,0,none⟩=some (.pointer a):=(Ft.out.drew.kp Hh.1 (by omega)).at_ 0 rfl;have s1:w'.cell? ⟨S,1,none⟩=some (.pointer b):=(Ft.out.drew.kp Hh.1 (by omega)).at_ 1 rfl;clear Hh;go_simp<;>with_reducible rfl);simp only[Act.put,jJ1,jJ2,jJ3])
 (refine' jH 6 rfl rfl (by kernel_rfl) (fun _ _ _ h=>h) rfl Ha (fun w' Hh=> ?_) ?_;rotate_left;(have s0:w'.cell? ⟨S,0,none⟩=some (.pointer a):=(Ft.out.drew.kp Hh.1 (by omega)).at_ 0 rfl;have s1:w'.cell? ⟨S,1,none⟩=some (.pointer b):=(Ft.out.drew.kp Hh.1 (by omega)).at_ 1 rfl;clear Hh;go_simp<;>with_reducible rfl);simp only[Act.put,jJ1,jJ2,jJ3])
 refine jn 3 rfl (by kernel_rfl) (fun K hK=> ?_);go_simp;go_at_call 142;refine(jf _ b y (HY.out _ Ha.1) ⟨sp.toArray⟩ (by rw[<-jB,zV];omega)).mono ?_;rintro e w1 ⟨p,rfl,pr,po⟩;go_simp;refine hK.out _ _ (Ha.old po) (fun Ha=> ?_);clear hK K;refine jn 7 rfl (by kernel_rfl) (fun K hK=> ?_);go_simp;go_at_call 142;refine(jf _ b y (HY.out _ Ha.1) ⟨sp.toArray⟩ (by rw[<-jB,zV];omega)).mono ?_;rintro e w2 ⟨q,rfl,qr,qo⟩;go_simp;refine hK.out _ _ (Ha.old qo) (fun Ha=> ?_);clear hK K
 (refine' jH 8 rfl rfl (by kernel_rfl) (fun _ _ _ h=>h) rfl Ha (fun w' Hh=> ?_) ?_;rotate_left;(have s0:w'.cell? ⟨S,0,none⟩=some (.pointer a):=(Ft.out.drew.kp Hh.1 (by omega)).at_ 0 rfl;have s1:w'.cell? ⟨S,1,none⟩=some (.pointer b):=(Ft.out.drew.kp Hh.1 (by omega)).at_ 1 rfl;clear Hh;go_simp<;>with_reducible rfl);simp only[Act.put,jJ1,jJ2,jJ3])
 have HR:=G (show Rp w2 p (sp++y)/\Rp w2 q (sp++y)from⟨pr.old qo,qr⟩);clear pr po qr qo;obtain⟨u0,v0,Nc⟩:=Ha.2;have c0:w2.cell? ⟨S+1,0,none⟩=some u0:=Nc.at_ 0 rfl;have c1:w2.cell? ⟨S+1,1,none⟩=some v0:=Nc.at_ 1 rfl;have z0:=Nc.frozen 0;have z1:=Nc.frozen 1;have Gv:=Ha.put (.pointer p) (.pointer q);refine jn 9 rfl (by kernel_rfl) (fun K hK=> ?_);go_simp;refine hK.out _ _ Gv.1 (fun GS=> ?_);refine wpAnyH_done (by kernel_rfl) ?_ _;clear hK K c0 c1 z0 z1;have HF:=G Gv.2;have WY:=G (fun(r:OA) (h:Rp w2 r (sp++y))=>h.box (X:=fun k=>k=S+1) (((jQ0 (fun k=>k=S+1) w2).setCell (p:=⟨S+1,0,none⟩) (fun _=>rfl) (.pointer p)).setCell (p:=⟨S+1,1,none⟩) (fun _=>rfl) (.pointer q)) (fun b e=>by subst e;obtain⟨u,v,hb⟩:=Ha.2;exact⟨_,hb⟩));have HK:=G Gv.1.1;have IA:=G Ha;clear Gv GS Ha;generalize (w2.setCell ⟨S+1,0,none⟩ (.pointer p)).setCell ⟨S+1,1,none⟩ (.pointer q)=W3 at*;go_wp2;refine yb (g:=S+1) (cs:= #[.pointer p,.pointer q]) rfl rfl HF.out underlying220 rfl (by kernel_rfl) rfl ?_;exact⟨p,q,rfl,WY.out _ HR.out.1,WY.out _ HR.out.2,(HV.out.drew).trans HK.out (fun b hb e=>by have e' :b=S+1:=e;omega)⟩
end Go.Proofs.YtmmjcbbogokmfaaGreatDoor

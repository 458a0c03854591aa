import Derived.Test.YtnaolhjbapgjgaaGreatMg02
set_option maxRecDepth 100000
set_option maxHeartbeats 6400000
namespace Go.Proofs.YtnaolhjbapgjgaaGreat
open Go.Proofs.Tryz
open Go.RowKit
theorem yx{w:World}{g:Nat}{r:Option Nat}{bs:LB}(h:Wr w g r bs){k:Nat}(hk:w.heap.size<=k):¬WX g r k:=by
 obtain⟨h1,h2⟩:=h.lt;rintro (rfl|e)
 ·omega
 ·have:=h2 k e.symm;omega
theorem yG(n:Int):0<=IntKind.u64.wrap n/\IntKind.u64.wrap n<=18446744073709551615:=by
 rw[IntKind.wrap_u64];omega
theorem jz{v:Val}(h:jS v=0):jQ v=true/\VW v=false/\v.s.length<=64:=by
 unfold jS at h;split at h
 ·cases h
 ·split at h
  ·cases h
  ·split at h
   ·cases h
   ·split at h
    ·cases h
    ·rename_i h1 _ h2 h3;exact⟨by simpa using h1,by simpa using h2,by omega⟩
theorem yT{v:Val}(h:VW v=false):v.t.size<=1024/\∀k,k<v.s.length->(v.s.getD k ByteArray.empty).size<=1024:=by
 unfold VW at h;rw[Bool.or_eq_false_iff]at h;refine⟨by simpa using h.1,fun k hk=> ?_⟩;rcases Nat.lt_or_ge 1024 (v.s.getD k ByteArray.empty).size with hl|hl
 ·rw[jE4 v.s k hk hl]at h;cases h.2
 ·exact hl
theorem jF4(v:Val)(A:OA)(c g:Nat)(w:World)(hr:Rd w 1 A v.s.length (v.s.map sv))(hc:v.s.length<=c)(hs:v.s.length<=1000000000000)(Dv:jS v≠0):
  Calls prog 50 #[.pointer (some ⟨g,0,none⟩),vV v A c] w fun e w' =>e=.returned (.int .i64 (jS v))/\Old w w' :=by
 have HR:=G (fun W (h:Old w W)=>yl v A c W (hr.old h) hc hs);have Ff:(jS v !=0)=true:=(by simpa using Dv);generalize jS v=z at HR Ff;clear hs hc Dv;obtain⟨k,n,t,s⟩:=v;simp only[vV]at*;go_enter func50,ntmps50;go_wp2_with fail;refine(HR.out _ ((jQ0 _ _).alloc _)).mono ?_;rintro e w1 ⟨rfl,F0⟩;have ho:=G (((jQ0 NoX w).alloc (.cells #[.int .i64 k,.int .i64 n,.string t,.slice A s.length c] 29)).old F0);clear F0;go_wp2;go_ret;exact⟨rfl,ho.out⟩
theorem jI0(n:Int)(t:BA)(s:List BA)(A:OA)(c g:Nat)(r:Option Nat)(bs:LB)(w:World)(hW:Wr w g r bs)(hl:bs.length<=800000000000)
  (hr:Rd w 1 A s.length (s.map sv)) (FA:Av (WX g r) s.length A) (hc:s.length<=c) (hs:s.length<=1000000000000) (Hu:jS ⟨0,n,t,s⟩=0):
  Calls prog 50 #[.pointer (some ⟨g,0,none⟩),vV ⟨0,n,t,s⟩ A c] w fun e w' =>e=.returned (.int .i64 0)/\WStep w g r w' (bs++yX ⟨0,n,t,s⟩):=by
 have HR:=G (fun W (h:Old w W)=>yl ⟨0,n,t,s⟩ A c W (hr.old h) hc hs);rw[Hu]at HR;obtain⟨Gp,FX,Gf⟩:=jz Hu;obtain⟨PG,Gi⟩:=yT FX;simp only at PG Gi Gf;have Hl:=G hl;have Wc:=G Gi;have Mc:=G Gp;clear hs hc Hu hl Gi Gp FX;simp only[vV]at*;go_enter func50,ntmps50;go_wp2_with fail;refine(HR.out _ ((jQ0 _ _).alloc _)).mono ?_;rintro e w1 ⟨rfl,F0⟩;have ho:=((jQ0 NoX w).alloc (.cells #[.int .i64 0,.int .i64 n,.string t,.slice A s.length c] 29)).old F0;have hb:=(jQ2 w 29 #[.int .i64 0,.int .i64 n,.string t,.slice A s.length c]).old F0;have GA:=hb.at_ 0 rfl;clear F0;have FF:=hW.old ho;go_wp2_with fail;refine(kY _ g r bs _ (by omega) (by omega) FF (jL4 Hl.out (by decide))).mono ?_;rintro e w2 ⟨rfl,r2,GE,hZ,Wy⟩;have FG:=hb.kp hZ (yx hW (jL3 _));have d0:=FG.at_ 0 rfl;have d1:=FG.at_ 1 rfl;have d2:=FG.at_ 2 rfl;have d3:=FG.at_ 3 rfl;have FQ:=(ho.mono (Y:=WX g r) (fun _ _ f=>f.elim)).trans hZ (fun _ _ h=>h);have Nb:Fr w r r2:=by
  rcases Wy with rfl|⟨k,rfl,Fu⟩
  ·exact .inl rfl
  ·exact .inr ⟨k,rfl,jL4 ho.size Fu⟩
 have Gk:(bs++be 1 (0:Int).toNat).length<=810000000000:=by rw[jJ4,jC];have:=Hl.out;omega
 have Wm:=G Gk;clear Gk GA hb Wy hZ;go_wp2;go_ret;refine⟨rfl,r2,?_,FQ,Nb⟩;simpa [yX]using GE
theorem jIz(n:Int)(t:BA)(s:List BA)(A:OA)(c g:Nat)(r:Option Nat)(bs:LB)(w:World)(hW:Wr w g r bs)(hl:bs.length<=800000000000)
  (hr:Rd w 1 A s.length (s.map sv)) (FA:Av (WX g r) s.length A) (hc:s.length<=c) (hs:s.length<=1000000000000) (Hu:jS ⟨1,n,t,s⟩=0):
  Calls prog 50 #[.pointer (some ⟨g,0,none⟩),vV ⟨1,n,t,s⟩ A c] w fun e w' =>e=.returned (.int .i64 0)/\WStep w g r w' (bs++yX ⟨1,n,t,s⟩):=by
 have HR:=G (fun W (h:Old w W)=>yl ⟨1,n,t,s⟩ A c W (hr.old h) hc hs);rw[Hu]at HR;obtain⟨Gp,FX,Gf⟩:=jz Hu;obtain⟨PG,Gi⟩:=yT FX;simp only at PG Gi Gf;have Hl:=G hl;have Wc:=G Gi;have Mc:=G Gp;clear hs hc Hu hl Gi Gp FX;simp only[vV]at*;go_enter func50,ntmps50;go_wp2_with fail;refine(HR.out _ ((jQ0 _ _).alloc _)).mono ?_;rintro e w1 ⟨rfl,F0⟩;have ho:=((jQ0 NoX w).alloc (.cells #[.int .i64 1,.int .i64 n,.string t,.slice A s.length c] 29)).old F0;have hb:=(jQ2 w 29 #[.int .i64 1,.int .i64 n,.string t,.slice A s.length c]).old F0;have GA:=hb.at_ 0 rfl;clear F0;have FF:=hW.old ho;go_wp2_with fail;refine(kY _ g r bs _ (by omega) (by omega) FF (jL4 Hl.out (by decide))).mono ?_;rintro e w2 ⟨rfl,r2,GE,hZ,Wy⟩;have FG:=hb.kp hZ (yx hW (jL3 _));have d0:=FG.at_ 0 rfl;have d1:=FG.at_ 1 rfl;have d2:=FG.at_ 2 rfl;have d3:=FG.at_ 3 rfl;have FQ:=(ho.mono (Y:=WX g r) (fun _ _ f=>f.elim)).trans hZ (fun _ _ h=>h);have Nb:Fr w r r2:=by
  rcases Wy with rfl|⟨k,rfl,Fu⟩
  ·exact .inl rfl
  ·exact .inr ⟨k,rfl,jL4 ho.size Fu⟩
 have Gk:(bs++be 1 (1:Int).toNat).length<=810000000000:=by rw[jJ4,jC];have:=Hl.out;omega
 have Wm:=G Gk;clear Gk GA hb Wy hZ;go_wp2_with fail;have FK:=yG n;refine(JJ _ g r2 _ _ FK.1 FK.2 GE (jL4 Wm.out (by decide))).mono ?_;rintro e w3 ⟨rfl,HU⟩;go_wp2;go_ret;refine⟨rfl,WStep.trans FQ Nb ?_⟩;rw[yX,jJ6 (by simp),<-jK1,<-IntKind.wrap_u64];exact HU
theorem jIy(n:Int)(t:BA)(s:List BA)(A:OA)(c g:Nat)(r:Option Nat)(bs:LB)(w:World)(hW:Wr w g r bs)(hl:bs.length<=800000000000)
  (hr:Rd w 1 A s.length (s.map sv)) (FA:Av (WX g r) s.length A) (hc:s.length<=c) (hs:s.length<=1000000000000) (Hu:jS ⟨2,n,t,s⟩=0):
  Calls prog 50 #[.pointer (some ⟨g,0,none⟩),vV ⟨2,n,t,s⟩ A c] w fun e w' =>e=.returned (.int .i64 0)/\WStep w g r w' (bs++yX ⟨2,n,t,s⟩):=by
 have HR:=G (fun W (h:Old w W)=>yl ⟨2,n,t,s⟩ A c W (hr.old h) hc hs);rw[Hu]at HR;obtain⟨Gp,FX,Gf⟩:=jz Hu;obtain⟨PG,Gi⟩:=yT FX;simp only at PG Gi Gf;have Hl:=G hl;have Wc:=G Gi;have Mc:=G Gp;clear hs hc Hu hl Gi Gp FX;simp only[vV]at*;go_enter func50,ntmps50;go_wp2_with fail;refine(HR.out _ ((jQ0 _ _).alloc _)).mono ?_;rintro e w1 ⟨rfl,F0⟩;have ho:=((jQ0 NoX w).alloc (.cells #[.int .i64 2,.int .i64 n,.string t,.slice A s.length c] 29)).old F0;have hb:=(jQ2 w 29 #[.int .i64 2,.int .i64 n,.string t,.slice A s.length c]).old F0;have GA:=hb.at_ 0 rfl;clear F0;have FF:=hW.old ho;go_wp2_with fail;refine(kY _ g r bs _ (by omega) (by omega) FF (jL4 Hl.out (by decide))).mono ?_;rintro e w2 ⟨rfl,r2,GE,hZ,Wy⟩;have FG:=hb.kp hZ (yx hW (jL3 _));have d0:=FG.at_ 0 rfl;have d1:=FG.at_ 1 rfl;have d2:=FG.at_ 2 rfl;have d3:=FG.at_ 3 rfl;have FQ:=(ho.mono (Y:=WX g r) (fun _ _ f=>f.elim)).trans hZ (fun _ _ h=>h);have Nb:Fr w r r2:=by
  rcases Wy with rfl|⟨k,rfl,Fu⟩
  ·exact .inl rfl
  ·exact .inr ⟨k,rfl,jL4 ho.size Fu⟩
 have Gk:(bs++be 1 (2:Int).toNat).length<=810000000000:=by rw[jJ4,jC];have:=Hl.out;omega
 have Wm:=G Gk;clear Gk GA hb Wy hZ;go_wp2_with fail;refine(YQ _ g r2 _ _ GE (jL4 Wm.out (by decide))).mono ?_;rintro e w3 ⟨rfl,HU⟩;go_wp2;go_ret;refine⟨rfl,WStep.trans FQ Nb ?_⟩;rw[yX,jJ5 (by simp),jJ6 rfl,<-jK1];simpa using HU
theorem jIx(n:Int)(t:BA)(s:List BA)(A:OA)(c g:Nat)(r:Option Nat)(bs:LB)(w:World)(hW:Wr w g r bs)(hl:bs.length<=800000000000)
  (hr:Rd w 1 A s.length (s.map sv)) (FA:Av (WX g r) s.length A) (hc:s.length<=c) (hs:s.length<=1000000000000) (Hu:jS ⟨3,n,t,s⟩=0):
  Calls prog 50 #[.pointer (some ⟨g,0,none⟩),vV ⟨3,n,t,s⟩ A c] w fun e w' =>e=.returned (.int .i64 0)/\WStep w g r w' (bs++yX ⟨3,n,t,s⟩):=by
 have HR:=G (fun W (h:Old w W)=>yl ⟨3,n,t,s⟩ A c W (hr.old h) hc hs);rw[Hu]at HR;obtain⟨Gp,FX,Gf⟩:=jz Hu;obtain⟨PG,Gi⟩:=yT FX;simp only at PG Gi Gf;have Hl:=G hl;have Wc:=G Gi;have Mc:=G Gp;clear hs hc Hu hl Gi Gp FX;simp only[vV]at*;go_enter func50,ntmps50;go_wp2_with fail;refine(HR.out _ ((jQ0 _ _).alloc _)).mono ?_;rintro e w1 ⟨rfl,F0⟩;have ho:=((jQ0 NoX w).alloc (.cells #[.int .i64 3,.int .i64 n,.string t,.slice A s.length c] 29)).old F0;have hb:=(jQ2 w 29 #[.int .i64 3,.int .i64 n,.string t,.slice A s.length c]).old F0;have GA:=hb.at_ 0 rfl;clear F0;have FF:=hW.old ho;go_wp2_with fail;refine(kY _ g r bs _ (by omega) (by omega) FF (jL4 Hl.out (by decide))).mono ?_;rintro e w2 ⟨rfl,r2,GE,hZ,Wy⟩;have FG:=hb.kp hZ (yx hW (jL3 _));have d0:=FG.at_ 0 rfl;have d1:=FG.at_ 1 rfl;have d2:=FG.at_ 2 rfl;have d3:=FG.at_ 3 rfl;have FQ:=(ho.mono (Y:=WX g r) (fun _ _ f=>f.elim)).trans hZ (fun _ _ h=>h);have Nb:Fr w r r2:=by
  rcases Wy with rfl|⟨k,rfl,Fu⟩
  ·exact .inl rfl
  ·exact .inr ⟨k,rfl,jL4 ho.size Fu⟩
 have Gk:(bs++be 1 (3:Int).toNat).length<=810000000000:=by rw[jJ4,jC];have:=Hl.out;omega
 have Wm:=G Gk;clear Gk GA hb Wy hZ;go_wp2_with fail;refine(jC3 _ g r2 _ t _ GE (jL4 Wm.out (by decide)) (by omega) (by omega)).mono ?_;rintro e w3 ⟨rfl,HU⟩;go_wp2;go_ret;refine⟨rfl,WStep.trans FQ Nb ?_⟩;rw[yX,jJ5 (by simp),jJ5 (by simp),jJ6 rfl,<-jK1];exact HU
theorem jIw(n:Int)(t:BA)(s:List BA)(A:OA)(c g:Nat)(r:Option Nat)(bs:LB)(w:World)(hW:Wr w g r bs)(hl:bs.length<=800000000000)
  (hr:Rd w 1 A s.length (s.map sv)) (FA:Av (WX g r) s.length A) (hc:s.length<=c) (hs:s.length<=1000000000000) (Hu:jS ⟨4,n,t,s⟩=0):
  Calls prog 50 #[.pointer (some ⟨g,0,none⟩),vV ⟨4,n,t,s⟩ A c] w fun e w' =>e=.returned (.int .i64 0)/\WStep w g r w' (bs++yX ⟨4,n,t,s⟩):=by
 have HR:=G (fun W (h:Old w W)=>yl ⟨4,n,t,s⟩ A c W (hr.old h) hc hs);rw[Hu]at HR;obtain⟨Gp,FX,Gf⟩:=jz Hu;obtain⟨PG,Gi⟩:=yT FX;simp only at PG Gi Gf;have Hl:=G hl;have Wc:=G Gi;have Mc:=G Gp;clear hs hc Hu hl Gi Gp FX;simp only[vV]at*;go_enter func50,ntmps50;go_wp2_with fail;refine(HR.out _ ((jQ0 _ _).alloc _)).mono ?_;rintro e w1 ⟨rfl,F0⟩;have ho:=((jQ0 NoX w).alloc (.cells #[.int .i64 4,.int .i64 n,.string t,.slice A s.length c] 29)).old F0;have hb:=(jQ2 w 29 #[.int .i64 4,.int .i64 n,.string t,.slice A s.length c]).old F0;have GA:=hb.at_ 0 rfl;clear F0;have FF:=hW.old ho;go_wp2_with fail;refine(kY _ g r bs _ (by omega) (by omega) FF (jL4 Hl.out (by decide))).mono ?_;rintro e w2 ⟨rfl,r2,GE,hZ,Wy⟩;have FG:=hb.kp hZ (yx hW (jL3 _));have d0:=FG.at_ 0 rfl;have d1:=FG.at_ 1 rfl;have d2:=FG.at_ 2 rfl;have d3:=FG.at_ 3 rfl;have FQ:=(ho.mono (Y:=WX g r) (fun _ _ f=>f.elim)).trans hZ (fun _ _ h=>h);have Nb:Fr w r r2:=by
  rcases Wy with rfl|⟨k,rfl,Fu⟩
  ·exact .inl rfl
  ·exact .inr ⟨k,rfl,jL4 ho.size Fu⟩
 have Gk:(bs++be 1 (4:Int).toNat).length<=810000000000:=by rw[jJ4,jC];have:=Hl.out;omega
 have Wm:=G Gk;clear Gk GA hb Wy hZ;go_wp2_with fail;have FK:=yG n;refine(JJ _ g r2 _ _ FK.1 FK.2 GE (jL4 Wm.out (by decide))).mono ?_;rintro e w3 ⟨rfl,HU⟩;go_wp2;go_ret;refine⟨rfl,WStep.trans FQ Nb ?_⟩;rw[yX,jJ6 (by simp),<-jK1,<-IntKind.wrap_u64];exact HU
theorem jIv(n:Int)(t:BA)(s:List BA)(A:OA)(c g:Nat)(r:Option Nat)(bs:LB)(w:World)(hW:Wr w g r bs)(hl:bs.length<=800000000000)
  (hr:Rd w 1 A s.length (s.map sv)) (FA:Av (WX g r) s.length A) (hc:s.length<=c) (hs:s.length<=1000000000000) (Hu:jS ⟨5,n,t,s⟩=0):
  Calls prog 50 #[.pointer (some ⟨g,0,none⟩),vV ⟨5,n,t,s⟩ A c] w fun e w' =>e=.returned (.int .i64 0)/\WStep w g r w' (bs++yX ⟨5,n,t,s⟩):=by
 have HR:=G (fun W (h:Old w W)=>yl ⟨5,n,t,s⟩ A c W (hr.old h) hc hs);rw[Hu]at HR;obtain⟨Gp,FX,Gf⟩:=jz Hu;obtain⟨PG,Gi⟩:=yT FX;simp only at PG Gi Gf;have Hl:=G hl;have Wc:=G Gi;have Mc:=G Gp;clear hs hc Hu hl Gi Gp FX;simp only[vV]at*;go_enter func50,ntmps50;go_wp2_with fail;refine(HR.out _ ((jQ0 _ _).alloc _)).mono ?_;rintro e w1 ⟨rfl,F0⟩;have ho:=((jQ0 NoX w).alloc (.cells #[.int .i64 5,.int .i64 n,.string t,.slice A s.length c] 29)).old F0;have hb:=(jQ2 w 29 #[.int .i64 5,.int .i64 n,.string t,.slice A s.length c]).old F0;have GA:=hb.at_ 0 rfl;clear F0;have FF:=hW.old ho;go_wp2_with fail;refine(kY _ g r bs _ (by omega) (by omega) FF (jL4 Hl.out (by decide))).mono ?_;rintro e w2 ⟨rfl,r2,GE,hZ,Wy⟩;have FG:=hb.kp hZ (yx hW (jL3 _));have d0:=FG.at_ 0 rfl;have d1:=FG.at_ 1 rfl;have d2:=FG.at_ 2 rfl;have d3:=FG.at_ 3 rfl;have FQ:=(ho.mono (Y:=WX g r) (fun _ _ f=>f.elim)).trans hZ (fun _ _ h=>h);have Nb:Fr w r r2:=by
  rcases Wy with rfl|⟨k,rfl,Fu⟩
  ·exact .inl rfl
  ·exact .inr ⟨k,rfl,jL4 ho.size Fu⟩
 have Gk:(bs++be 1 (5:Int).toNat).length<=810000000000:=by rw[jJ4,jC];have:=Hl.out;omega
 have Wm:=G Gk;clear Gk GA hb Wy hZ;go_wp2_with fail;have Bb:=hr.kp FQ FA;have S4:yV s=true:=by have:=Mc.out;simp[jQ]at this;exact this.2.1
 refine(jFP _ g r2 _ A c s GE (jL4 Wm.out (by decide)) Bb ?_ Gf Wc.out S4).mono ?_
 ·exact FA.fresh Nb hr (by decide)
 rintro e w3 ⟨rfl,HU⟩;go_wp2;go_ret;refine⟨rfl,WStep.trans FQ Nb ?_⟩;rw[yX,jJ5 (by simp),jJ5 (by simp),jJ5 (by simp),jJ6 rfl,<-jK1];exact HU
theorem jHm(v:Val)(A:OA)(c g:Nat)(r:Option Nat)(bs:LB)(w:World)(hW:Wr w g r bs)(hl:bs.length<=800000000000)
  (hr:Rd w 1 A v.s.length (v.s.map sv)) (FA:Av (WX g r) v.s.length A) (hc:v.s.length<=c) (hs:v.s.length<=1000000000000) (Hu:jS v=0):
  Calls prog 50 #[.pointer (some ⟨g,0,none⟩),vV v A c] w fun e w' =>e=.returned (.int .i64 0)/\WStep w g r w' (bs++yX v):=by
 obtain⟨k,n,t,s⟩:=v;have hk:k=0\/k=1\/k=2\/k=3\/k=4\/k=5:=by
  have hf:=(jz Hu).1;simp only[jQ]at hf;by_cases h0:k=0
  ·omega
  ·by_cases h1:k=1
   ·omega
   ·by_cases h2:k=2
    ·omega
    ·by_cases h3:k=3
     ·omega
     ·by_cases h4:k=4
      ·omega
      ·by_cases h5:k=5
       ·omega
       ·rw[jJ5 (by omega),jJ5 (by omega),jJ5 (by omega),jJ5 (by omega)]at hf;simp at hf
 rcases hk with rfl|rfl|rfl|rfl|rfl|rfl
 ·exact jI0 n t s A c g r bs w hW hl hr FA hc hs Hu
 ·exact jIz n t s A c g r bs w hW hl hr FA hc hs Hu
 ·exact jIy n t s A c g r bs w hW hl hr FA hc hs Hu
 ·exact jIx n t s A c g r bs w hW hl hr FA hc hs Hu
 ·exact jIw n t s A c g r bs w hW hl hr FA hc hs Hu
 ·exact jIv n t s A c g r bs w hW hl hr FA hc hs Hu
theorem Zz(v:Val)(Hu:jS v=0):(yX v).length<=100000:=by
 obtain⟨_,FX,Gf⟩:=jz Hu;obtain⟨ht,hs⟩:=yT FX;have h5:(yM v.s).length<=2+64*1026:=by
  rw[yM,jJ4,jC];have:∀k,k<=v.s.length->(lps (v.s.take k)).length<=k*1026:=by
   intro k
   induction k with
   |zero=>intro _;simp[lps]
   |succ k ih=>
    intro hk;have h1:=ih (by omega);have h2:=hs k (by omega);rw[zK v.s k (by omega),jJ4,jV,jH];omega
  have h:=this v.s.length (jL3 _);rw[jK4 (jL3 _)]at h;omega
 unfold yX;rw[jJ4,jC];split
 ·rw[jC];omega
 ·split
  ·simp
  ·split
   ·rw[jV,jH];omega
   ·split
    ·omega
    ·simp
def YK(l:List BA):LB:=(l.map fun s=>lp 4 (sb s)).flatten
theorem VG(l:List BA)(k:Nat)(h:k<l.length):YK (l.take (k+1))=YK (l.take k)++lp 4 (sb (l.getD k ByteArray.empty)):=by
 have e:l.getD k ByteArray.empty=l[k]:=(by simp[List.getD,jJ9 h]);rw[e,jK2 h];unfold YK;rw[List.map_append,List.flatten_append]
 congr 1
 simp
theorem VH(l:List BA)(m:Nat):∀k,k<=l.length->(∀j,j<k->(l.getD j ByteArray.empty).size<=m)->(YK (l.take k)).length<=k*(m+4):=by
 intro k
 induction k with
 |zero=>intro _ _;simp[YK]
 |succ k ih=>
  intro hk h;have h1:=ih (by omega) (fun j hj=>h j (by omega));have h2:=h k (by omega);rw[VG l k (by omega),jJ4,jV,jH,Nat.add_mul];omega
def TextPost(w:World)(g:Nat)(r:Option Nat)(bs:LB)(l:List BA)(e:Ending)(w' :World):Prop:=
 ∃k,k<=l.length/\e=.returned (.bool (decide (k=l.length)))/\(∀j,j<k->(l.getD j ByteArray.empty).size<=4194304)/\(k<l.length->4194304<(l.getD k ByteArray.empty).size)/\WStep w g r w' (bs++YK (l.take k))
theorem YT(w:World)(g:Nat)(r:Option Nat)(bs:LB)(A:OA)(c:Nat)(l:List BA)(hW:Wr w g r bs)(hl:bs.length<=700000000000)
  (Fa:Rd w 1 A l.length (l.map sv)) (FA:Av (WX g r) l.length A) (hn:l.length<=1000) (Fj:∀k,k<l.length->(l.getD k ByteArray.empty).size<=2147483647):
  Calls prog 21 #[.pointer (some ⟨g,0,none⟩),.slice A l.length c] w (TextPost w g r bs l):=by
 have Hl:=G hl;have GS:=G Fj;clear hl Fj;go_enter func21,ntmps21;go_wp2;go_loopw [9] (fun i wr=>∃k:Nat,k<=l.length/\i=.int .i64 k/\(∀j,j<k->(l.getD j ByteArray.empty).size<=4194304)/\WStep w g r wr (bs++YK (l.take k))) (fun i _=>l.length-(intOf i).toNat)
 case atStart=>exact⟨0,by omega,rfl,fun j hj=>by omega,by simpa [YK]using hW.step⟩
 case round=>
  obtain⟨k,hk,rfl,Mt,HU⟩:=hrel;have Gk:=VH l 4194304 k hk Mt;have MC:=G Mt;clear Mt;by_cases hM:k<l.length
  ·obtain⟨r',Nv,FQ,Nb⟩:=HU;obtain⟨b,o,rfl,hy⟩:=(Fa.kp FQ FA).text (k:=k) hM;have Gk:(bs++YK (l.take k)).length<=800000000000:=by
    have:=Hl.out;rw[jJ4];omega
   have M0:=GS.out k hM;have Fm:=G (show bs++YK (l.take (k+1))=(bs++YK (l.take k))++lp 4 (sb (l.getD k ByteArray.empty))by
    rw[VG l k hM];simp)
   generalize hyy:l.getD k ByteArray.empty=y at hy M0 Fm;generalize M8:bs++YK (l.take k)=cs at Nv Gk Fm;have U3:=G hyy;have RO:=G M8;have Wm:=G Gk;clear Gk hyy M8;have b5:(k:Int)<=1000:=(by omega);go_wp2_with (first|(with_reducible refine jIX 9 22 ?_;refine VC _ underlying9 underlying22 underlying5 y rfl ?_;intro A1 c1 w1 PR F0 BC)|fail);have FF:=Nv.old F0;have Sk:Av (WX g r') y.size A1:=fun hn ad e hx=>by
    have h1:=BC hn ad e;exact yx Nv (by omega) hx
   by_cases FJ:y.size<=4194304
   ·refine(jAs _ g r' cs A1 y.size _ (sb y) _ FF (jL4 Wm.out (by decide)) PR Sk (by omega) (by omega)).mono ?_;rintro e w2 ⟨rfl,HU⟩;have Fq:=G (WStep.trans FQ Nb (WStep.trans (F0.mono (Y:=WX g r') (fun _ _ f=>f.elim)) (.inl rfl) HU));clear HU;go_wp2;go_roundw
    case rel=>
     refine⟨k+1,by omega,by go_num,fun j hj=> ?_,by rw[Fm.out];exact Fq.out⟩;by_cases e:j=k
     ·subst e;rw[U3.out];exact FJ
     ·exact MC.out j (by omega)
    case measure=>simp[intOf];omega
   ·refine(jCV _ g A1 y.size _ _ (by omega) (by omega)).mono ?_;rintro e w2 ⟨rfl,rfl⟩;go_wp2;go_ret;refine⟨k,hk,kL (kZ (by simp;omega)),MC.out,fun _=>by rw[U3.out];omega,?_⟩;rw[RO.out];exact WStep.trans FQ Nb (WStep.trans (F0.mono (Y:=WX g r') (fun _ _ f=>f.elim)) (.inl rfl) FF.step)
  ·obtain rfl:k=l.length:=(by omega);go_wp2;go_ret;exact⟨l.length,hk,kL (kZ (by simp)),MC.out,fun h=>absurd h (by omega),HU⟩
def be8(n:Int):LB:=be 8 (n% 18446744073709551616).toNat
theorem jG(n:Int):(be8 n).length=8:=jC _ _
def xu(l:List Int):LB:=(l.map be8).flatten
theorem xE(l:List Int)(k:Nat)(h:k<l.length):xu (l.take (k+1))=xu (l.take k)++be8 (l.getD k 0):=by
 have e:l.getD k 0=l[k]:=(by simp[List.getD,jJ9 h]);rw[e,jK2 h];unfold xu;rw[List.map_append,List.flatten_append]
 congr 1
theorem Jg(l:List Int):(xu l).length=8*l.length:=by
 induction l with
 |nil=>rfl
 |cons a l ih=>simp only[xu,List.map_cons,List.flatten_cons,jJ4,jG,jK6]at*;omega
theorem Rd.int{w:World}{A:OA}{n:Nat}{l:List Int}(h:Rd w 1 A n (l.map (Value.int .i64))){k:Nat}(hk:k<n):∃b o,A=some ⟨b,o,none⟩/\w.cell? ⟨b,o+k,none⟩=some (.int .i64 (l.getD k 0)):=by
 obtain⟨b,o,u,rfl,hx,hc⟩:=h.at_ hk;refine⟨b,o,rfl,?_⟩;rw[hc];rw[jM1]at hx;obtain⟨b,hb,rfl⟩:=Option.map_eq_some_iff.1 hx;simp[List.getD,hb]
theorem Jk(w:World)(g:Nat)(r:Option Nat)(bs:LB)(A:OA)(n c:Nat)(l:List Int)(hn:l.length=n)(hW:Wr w g r bs)(hl:bs.length<=900000000000)
  (Fa:Rd w 1 A n (l.map (Value.int .i64))) (FA:Av (WX g r) n A) (Fu:n<=1000):
  Calls prog 22 #[.pointer (some ⟨g,0,none⟩),.slice A n c] w fun e w' =>e=.returned (.tuple #[])/\WStep w g r w' (bs++xu l):=by
 have Hl:=G hl;have Hn:=G hn;clear hl hn;go_enter func22,ntmps22;go_wp2;go_loopw [8] (fun i wr=>∃k:Nat,k<=n/\i=.int .i64 k/\WStep w g r wr (bs++xu (l.take k))) (fun i _=>n-(intOf i).toNat)
 case atStart=>exact⟨0,by omega,rfl,by simpa [xu]using hW.step⟩
 case round=>
  obtain⟨k,hk,rfl,HU⟩:=hrel;by_cases hM:k<n
  ·obtain⟨r',Nv,FQ,Nb⟩:=HU;obtain⟨b,o,rfl,hy⟩:=(Fa.kp FQ FA).int (k:=k) hM;have Gk:(bs++xu (l.take k)).length<=1000000000000:=by
    have:=Hl.out;rw[jJ4,Jg,jK9,Hn.out];omega
   have Fm:=G (show bs++xu (l.take (k+1))=(bs++xu (l.take k))++be8 (l.getD k 0)by
    rw[xE l k (by rw[Hn.out];exact hM)];simp)
   generalize l.getD k 0=y at hy Fm;generalize bs++xu (l.take k)=cs at Nv Gk Fm;have Wm:=G Gk;clear Gk;have FK:=yG y;go_wp2_with fail;refine(JJ _ g r' cs _ FK.1 FK.2 Nv (jL4 Wm.out (by decide))).mono ?_;rintro e w2 ⟨rfl,HU⟩;rw[IntKind.wrap_u64]at HU;have Fq:=G (WStep.trans FQ Nb HU);clear HU;go_wp2;go_roundw
   case rel=>exact⟨k+1,by omega,by go_num,by rw[Fm.out];exact Fq.out⟩
   case measure=>simp[intOf];omega
  ·obtain rfl:k=n:=(by omega);go_wp2;go_end0;refine⟨rfl,?_⟩;rw[jK4 (by rw[Hn.out];omega)]at HU;exact HU
structure MVal where
 v:Val
 A:OA
 c:Nat
def MVal.cells(m:MVal):List Value:=[.int .i64 m.v.kind,.int .i64 m.v.n,.string m.v.t,.slice m.A m.v.s.length m.c]
structure MVal.Ok(w:World)(X:Nat->Prop)(m:MVal):Prop where
 rd:Rd w 1 m.A m.v.s.length (m.v.s.map sv)
 av:Av X m.v.s.length m.A
 cap:m.v.s.length<=m.c
 big:m.v.s.length<=1000000000000
structure MOp where
 op:Int
 case_:BA
 type_:BA
 name:BA
 value:MVal
 args:List MVal
 argsA:OA
 argsC:Nat
 source:LB
 srcA:OA
 srcC:Nat
 clock:Int
structure MOp.Ok(w:World)(X:Nat->Prop)(m:MOp):Prop where
 value:m.value.Ok w X
 args:∀v∈m.args,MVal.Ok w X v
 rdArgs:Rd w 4 m.argsA m.args.length (m.args.flatMap MVal.cells)
 avArgs:Av X m.args.length m.argsA
 capArgs:m.args.length<=m.argsC
 rdSrc:Rd w 1 m.srcA m.source.length (m.source.map bv)
 avSrc:Av X m.source.length m.srcA
 big:m.args.length<=1000000000000/\m.source.length<=2147483647/\m.case_.size<=2147483647/\m.type_.size<=2147483647/\m.name.size<=2147483647
structure MReq where
 op:Int
 do_:MOp
 name:BA
 number:Int
 size:Int
 from_:Int
 to_:Int
 first:Int
section
variable{w w' :World}{X:Nat->Prop}
theorem MVal.Ok.kp{m:MVal}(h:m.Ok w X)(hk:Kp X w w'):m.Ok w' X:=⟨h.rd.kp hk h.av,h.av,h.cap,h.big⟩
theorem MVal.Ok.fresh{m:MVal}{g:Nat}{r r' :Option Nat}(h:m.Ok w (WX g r))(hf:Fr w r r'):m.Ok w (WX g r'):=⟨h.rd,h.av.fresh hf h.rd (by decide),h.cap,h.big⟩
theorem MVal.Ok.step{m:MVal}{g:Nat}{r r' :Option Nat}(h:m.Ok w (WX g r))(hk:Kp (WX g r) w w')(hf:Fr w r r'):m.Ok w' (WX g r'):=
 ⟨(h.kp hk).rd,(h.fresh hf).av,h.cap,h.big⟩
end
structure Opn where
 op:Int
 case_:BA
 type_:BA
 name:BA
 value:Val
 args:List Val
 source:LB
 clock:Int
def jKN(o:Opn):Option LB:=
 if o.op=1 then some (lp 4 (sb o.type_)++lp 4 o.source)
 else if o.op=2 then some (lp 4 (sb o.case_)++lp 4 (sb o.type_))
 else if o.op=3 then if jS o.value=0 then some (lp 4 (sb o.case_)++lp 4 (sb o.name)++yX o.value)else none
 else if o.op=4 then if o.args.length<=255/\(o.args.all fun v=>jS v==0)=true then some (lp 4 (sb o.case_)++lp 4 (sb o.name)++(be 1 o.args.length++(o.args.map yX).flatten))else none
 else if o.op=5 then some (be8 o.clock)
 else none
def opB(o:Opn):Option LB:=(jKN o).map fun b=>be 1 o.op.toNat++b
def jId(w:World)(l:LB)(e:Ending)(w' :World):Prop:=
 ∃A c,e=.returned (.slice A l.length c)/\Rd w' 1 A l.length (l.map bv)/\Av (fun k=>k<w.heap.size) l.length A/\Old w w'
theorem uN(k n i:Nat)(h:i<(be k n).length):(be k n)[i]=UInt8.ofNat (n/256^(k-1-i)):=by
 have h1:=jEv k n i (by rw[jC]at h;exact h);rw[jJ9 h]at h1;injection h1
theorem QL(x:Nat)(k:Nat):Value.int .u8 ((x:Int)/2^(8*k)% 256)=bv (UInt8.ofNat (x/256^k)):=by
 rw[<-Vz,IntKind.wrap_u8]
theorem YS(w:World)(n:Int):
  Calls prog 64 #[.int .i64 n] w fun e w' =>∃g,e=.returned (.slice (some ⟨g,0,none⟩) 8 8)/\w.heap.size<=g/\Blk w' g 5 ((be8 n).map bv).toArray/\Old w w' :=by
 have Cv:∀W:World,(Instr.makeSlice 22 (.int .i64 8) (.int .i64 8)).run prog W=.ok (.slice (some ⟨W.heap.size,0,none⟩) 8 8) (W.alloc (.cells (List.replicate 8 (Value.int .u8 0)).toArray 5)):=Yw 8 (by decide);rw[be8];have hx:((n% 18446744073709551616).toNat:Int)=n% 18446744073709551616:=(by omega);have ex:IntKind.u64.wrap n=((n% 18446744073709551616).toNat:Int):=(by rw[hx,IntKind.wrap_u64]);generalize (n% 18446744073709551616).toNat=x at ex;clear hx;go_enter func64,ntmps64;go_wp2;go_loopw [4] (fun i wr=>∃k:Nat,k<=8/\i=.int .i64 k/\Blk wr w.heap.size 5 (YR (be 8 x) 8 k (.int .u8 0)).toArray/\Old w wr) (fun i _=>8-(intOf i).toNat)
 case atStart=>exact⟨0,by omega,rfl,by rw[jB6];exact jQ2 _ _ _,(jQ0 _ _).alloc _⟩
 case round=>
  obtain⟨k,hk,rfl,hb,ho⟩:=hrel;have Ho:=G ho;have Hb:=G hb;clear ho hb;by_cases hM:k<8
  ·have hc:=Hb.out.at_ k (v:=.int .u8 0) (by rw[jJ7];exact Qs _ 8 k _ hM (by rw[jC];omega));have hz:=Hb.out.frozen k;have e2:IntKind.i64.wrap (8*(k:Int))=8*(k:Int):=jQ3 _ (by omega);have e3:IntKind.i64.wrap (56-8*(k:Int))=56-8*(k:Int):=jQ3 _ (by omega);have e4:IntKind.u64.wrap (56-8*(k:Int))=56-8*(k:Int):=IntWalk.u64_in _ (by omega);have e5:(56-8*(k:Int)).toNat=8*(7-k):=(by omega);have b1:(0:Int)<=(k:Int):=(by omega);have b2:(k:Int)<8:=(by omega);have b3:(k:Int).toNat=k:=(by omega);go_wp2;go_roundw
   case rel=>
    refine⟨k+1,by omega,by go_num,?_,?_⟩
    ·rw[QL];have:=Hb.out.set_ k (bv (UInt8.ofNat (x/256^(7-k))));rw[jJ1]at this;have h2:=Qr (be 8 x) 8 k (.int .u8 0) hM (by rw[jC];exact hM);rw[uN]at h2;rw[<-h2];exact this
    ·exact Ho.out.setCell (p:=⟨w.heap.size,k,none⟩) (fun h=>absurd h (Nat.lt_irrefl _)) _
   case measure=>simp[intOf];omega
  ·obtain rfl:k=8:=(by omega);go_wp2;go_ret;refine⟨_,rfl,jL3 _,?_,Ho.out⟩;have h2:=uC (be 8 x) (.int .u8 0);rw[jC]at h2;rw[<-h2];exact Hb.out
theorem jAd(w:World)(n:Int):
  Calls prog 32 #[.int .i64 n,.int .i64 2] w (jId w (be 2 (n% 18446744073709551616).toNat)):=by
 have hl:(be 2 (n% 18446744073709551616).toNat).length=2:=jC _ _;unfold jId;rw[hl];have hcut:=fun(g:Nat) (W:World)=>uv (P:=prog) (t:=22) underlying22 (s:=1) (fun w=>by kernel_rfl) (some ⟨g,0,none⟩) 8 8 6 .i64 6 rfl (by decide) W;simp only[jJ5 (show¬(8:Nat)=6 by decide)]at hcut;go_enter func32,ntmps32;go_wp2_with fail;refine(YS w n).mono ?_;rintro e w1 ⟨g,rfl,hg,hb,ho⟩;go_wp2;go_ret;have hr:=Rd.of_blk hb;rw[jK7,jG]at hr;have Fb:=hr.cut (k:=6) (cap:=8) (by decide) (by decide);rw[jJ5 (by decide),<-List.map_drop]at Fb;exact⟨_,_,rfl,Fb,fun _ ad e h=>by injection e with e;subst e;exact absurd h (by simp;omega),ho⟩
theorem jAc(w:World)(n:Int):
  Calls prog 32 #[.int .i64 n,.int .i64 4] w (jId w (be 4 (n% 18446744073709551616).toNat)):=by
 have hl:(be 4 (n% 18446744073709551616).toNat).length=4:=jC _ _;unfold jId;rw[hl];have hcut:=fun(g:Nat) (W:World)=>uv (P:=prog) (t:=22) underlying22 (s:=1) (fun w=>by kernel_rfl) (some ⟨g,0,none⟩) 8 8 4 .i64 4 rfl (by decide) W;simp only[jJ5 (show¬(8:Nat)=4 by decide)]at hcut;go_enter func32,ntmps32;go_wp2_with fail;refine(YS w n).mono ?_;rintro e w1 ⟨g,rfl,hg,hb,ho⟩;go_wp2;go_ret;have hr:=Rd.of_blk hb;rw[jK7,jG]at hr;have Fb:=hr.cut (k:=4) (cap:=8) (by decide) (by decide);rw[jJ5 (by decide),<-List.map_drop]at Fb;exact⟨_,_,rfl,Fb,fun _ ad e h=>by injection e with e;subst e;exact absurd h (by simp;omega),ho⟩
theorem uk(w:World)(n:Int):
  Calls prog 32 #[.int .i64 n,.int .i64 8] w (jId w (be 8 (n% 18446744073709551616).toNat)):=by
 have hl:(be 8 (n% 18446744073709551616).toNat).length=8:=jC _ _;unfold jId;rw[hl];have hcut:=fun(g:Nat) (W:World)=>uv (P:=prog) (t:=22) underlying22 (s:=1) (fun w=>by kernel_rfl) (some ⟨g,0,none⟩) 8 8 0 .i64 0 rfl (by decide) W;simp only[jJ5 (show¬(8:Nat)=0 by decide)]at hcut;go_enter func32,ntmps32;go_wp2_with fail;refine(YS w n).mono ?_;rintro e w1 ⟨g,rfl,hg,hb,ho⟩;go_wp2;go_ret;have hr:=Rd.of_blk hb;rw[jK7,jG]at hr;have Fb:=hr.cut (k:=0) (cap:=8) (by decide) (by decide);rw[jJ5 (by decide),<-List.map_drop]at Fb;exact⟨_,_,rfl,Fb,fun _ ad e h=>by injection e with e;subst e;exact absurd h (by simp;omega),ho⟩
structure BRow(w:World)(base:Nat)(l:LB)(A:OA)(c:Nat):Prop where
 own:w.ownsRow base 5 1 (.slice A l.length c) l.length (l.map bv)
 le:base<=w.heap.size
def From(base:Nat):Nat->Prop:=fun k=>base<=k
section
variable{w w' :World}{base:Nat}{l:LB}{A:OA}{c:Nat}
theorem BRow.rd(h:BRow w base l A c):Rd w 1 A l.length (l.map bv):=Rd.of_own h.own
theorem BRow.old(h:BRow w base l A c)(ho:Old w w'):BRow w' base l A c:=⟨kG h.own ho (fun _ _ f=>f),jL4 h.le ho.size⟩
theorem BRow.kp{X:Nat->Prop}(h:BRow w base l A c)(ho:Kp X w w')(hx:∀k,base<=k->k<w.heap.size->¬X k):BRow w' base l A c:=by
 refine⟨kG h.own ho (fun k e=> ?_),jL4 h.le ho.size⟩;have:=h.own.lt k e;exact hx k this.1 this.2
theorem BRow.drewN(h:BRow w base l A c)(n:Nat):BRow (w.drewN n) base l A c:=h.old ((jQ0 _ _).drewN n)
theorem BRow.alloc(h:BRow w base l A c)(o:Obj):BRow (w.alloc o) base l A c:=h.old ((jQ0 _ _).alloc o)
theorem BRow.nil_(w:World)(base:Nat)(hb:base<=w.heap.size):BRow w base [] none 0:=⟨World.ownsRow_nil _ _ _ _,hb⟩
theorem BRow.new(w:World)(l:LB)(hm:l.length<=maxLen):BRow (w.alloc (.cells (l.map bv).toArray 5)) w.heap.size l (some ⟨w.heap.size,0,none⟩) l.length:=by
 refine⟨?_,by simp⟩;have:=xq (base:=w.heap.size) (jQ2 w 5 (l.map bv).toArray) (jL3 _) (by simpa using hm);simpa using this
theorem BRow.some_(h:BRow w base l A c)(hl:l≠ []):∃g,A=some ⟨g,0,none⟩/\base<=g:=by
 have hn:0<l.length:=List.length_pos_iff.2 hl;obtain⟨g,cap,hv,hb,_⟩:=h.own.form hn;injection hv with hv;exact⟨g,hv,hb⟩
theorem BRow.grown{A' :OA}{c' :Nat}{m:LB}{n:Nat}(h:BRow w base l A c)(hn:m.length=n){xs:List Value}(Tt:xs=m.map bv)
  (Hi:w'.ownsRow base 5 1 (.slice A' (l.length+n) c') (l.length+n) (l.map bv++xs)) (hg:w.grownBy w' (Value.slice A l.length c).ownBlock):
  BRow w' base (l++m) A' c' /\Kp (From base) w w' :=by
 subst hn Tt;refine⟨⟨by rw[jJ4,List.map_append];exact Hi,jL4 h.le hg.size⟩,?_⟩;exact(jQ0 (From base) w).grown hg (fun k e _=>(h.own.lt k e).1)
end
theorem From.old{w w1 w2:World}{base:Nat}(h:Old w w1)(hk:Kp (From base) w1 w2)(hb:w.heap.size<=base):Old w w2:=h.trans hk (fun b Nj hx=>by have:base<=b:=hx;omega)
section
variable{w:World}{ops:Array Oper}{rest:List Oper}{o:Oper}{a:Act}{Q:Exit->Act->World->Prop}
theorem zj(s x:Operand){base:Nat}{l:LB}{A:OA}{c:Nat}(h:BRow w base l A c){B:OA}{m:LB}{d:Nat}(hr:Rd w 1 B m.length (m.map bv))(hl:l.length+m.length<=10000000000000)
  (WY:o.guard=none) (ho:o.op=.call {callee:=.builtin .append,args:= #[s,x],argTypes:= #[22,22]}) (hs:a.eval s=.slice A l.length c) (hx:a.eval x=.slice B m.length d)
  (hK:∀(out:LB) A' c' w',Hid (out=l++m)->BRow w' base out A' c' ->Kp (From base) w w' ->wpList prog ops Q rest (a.put o.dst (.slice A' out.length c')) w'):wpList prog ops Q (o::rest) a w:=by
 obtain⟨i0,hi,Fz,Ft,FC⟩:=info_parts kc;refine jJ w WY s x 22 ho base 5 i0 (.int .u8 0) 1 1 underlying22 hi Fz Ft FC rfl (by decide) (.slice A l.length c) l.length (l.map bv) hs h.own B m.length d (m.map bv) hx hr (jf _) (by unfold maxLen;omega) (by omega) h.le ?_;intro A' c' w' Hi hg _;obtain⟨h1,h2⟩:=h.grown rfl rfl Hi hg;have:=hK _ A' c' w' (G rfl) h1 h2
 rwa [jJ4]at this
theorem jIY(s x:Operand){base:Nat}{l:LB}{A:OA}{c:Nat}(h:BRow w base l A c){t:BA}(hl:l.length+t.size<=10000000000000)
  (WY:o.guard=none) (ho:o.op=.call {callee:=.builtin .append,args:= #[s,x],argTypes:= #[22,9]}) (hs:a.eval s=.slice A l.length c) (hx:a.eval x=.string t)
  (hK:∀(out:LB) A' c' w',Hid (out=l++sb t)->BRow w' base out A' c' ->Kp (From base) w w' ->wpList prog ops Q rest (a.put o.dst (.slice A' out.length c')) w'):wpList prog ops Q (o::rest) a w:=by
 obtain⟨i0,hi,Fz,Ft,FC⟩:=info_parts kc;refine yW w WY s x 22 9 ho base 5 i0 underlying22 underlying9 hi Fz Ft FC (.slice A l.length c) l.length (l.map bv) hs h.own t hx (by unfold maxLen;omega) (by omega) h.le ?_;intro A' c' w' Hi hg _;obtain⟨h1,h2⟩:=h.grown (jH t) rfl Hi hg;have:=hK _ A' c' w' (G rfl) h1 h2
 rwa [jJ4,jH]at this
end
theorem YI(n:Nat)(h:n<18446744073709551616):((n:Int)% 18446744073709551616).toNat=n:=by omega
attribute [local go_sem↓] Go.wp_at_zero Go.wp_at_succ
theorem kE:prog.underlying 22=some (.slice (prog.elem 22)):=by kernel_rfl
theorem kA(w:World):(sizeOf (prog.elem 22)).run prog w=.ok 1 w:=by kernel_rfl
def tkN(bs:LB)(k:Nat)(s:Rs):Nat×Rs:=
 if s.why≠0 then(0,s)else if s.at_ +k<=bs.length then(jq ((bs.drop s.at_).take k),⟨s.at_ +k,0⟩)else(0,⟨s.at_,8⟩)
theorem vm(w:World)(g:Nat)(bs:LB)(s:Rs)(h:Rr w g bs s):
  Calls prog 40 #[.pointer (some ⟨g,0,none⟩)] w fun e w' =>e=.returned (.int .u8 (tkN bs 1 s).1)/\Rr w' g bs (tkN bs 1 s).2/\Kp (RX g) w w' :=by
 obtain⟨p,y⟩:=s;have c1:=h.atc;have c2:=h.why;have z1:=h.zer 1;have hfit:=h.fits;simp only at c1 c2 hfit;by_cases hy:y=0
 ·subst hy;by_cases hk:p+1<=bs.length
  ·have e:tkN bs 1 ⟨p,0⟩=(jq ((bs.drop p).take 1),⟨p+1,0⟩):=(by simp[tkN,hk]);rw[e];clear e;have H:=G (h.setAt (p+1) hk);go_enter func40,ntmps40;go_wp2_with fail;refine(uO w g bs ⟨p,0⟩ p h hk).mono ?_;rintro e w' ⟨rfl,rfl⟩;go_wp2;go_ret;exact⟨rfl,H.out,(jQ0 (RX g) _).setCell (p:=⟨g,1,none⟩) (fun _=>rfl) _⟩
  ·have e:tkN bs 1 ⟨p,0⟩=(0,⟨p,8⟩):=(by simp[tkN,hk]);rw[e];clear e;go_enter func40,ntmps40;go_wp2_with fail;refine(XL w g bs ⟨p,0⟩ p h hfit.1 (by omega)).mono ?_;rintro e w' ⟨rfl,rfl⟩;go_wp2_with fail;refine(jx w g bs ⟨p,0⟩ 8 h rfl).mono ?_;rintro e w1 ⟨rfl,hr,Fc⟩;go_wp2;go_ret;exact⟨rfl,hr,Fc⟩
 ·have e:tkN bs 1 ⟨p,y⟩=(0,⟨p,y⟩):=(by simp[tkN,hy]);rw[e];clear e;have MK:(y !=0)=true:=(by simpa using hy);go_enter func40,ntmps40;go_wp2;go_ret;exact⟨rfl,h,jQ0 _ _⟩
theorem xS(w:World)(g:Nat)(bs:LB)(s:Rs)(h:Rr w g bs s):
  Calls prog 45 #[.pointer (some ⟨g,0,none⟩)] w fun e w' =>e=.returned (.int .u16 (tkN bs 2 s).1)/\Rr w' g bs (tkN bs 2 s).2/\Kp (RX g) w w' :=by
 obtain⟨p,y⟩:=s;have c1:=h.atc;have c2:=h.why;have z1:=h.zer 1;have hfit:=h.fits;simp only at c1 c2 hfit;by_cases hy:y=0
 ·subst hy;by_cases hk:p+2<=bs.length
  ·have e:tkN bs 2 ⟨p,0⟩=(jq ((bs.drop p).take 2),⟨p+2,0⟩):=(by simp[tkN,hk]);rw[e];clear e;have H:=G (h.setAt (p+2) hk);go_enter func45,ntmps45;go_wp2_with fail;refine(Vi w g bs ⟨p,0⟩ p h hk).mono ?_;rintro e w' ⟨rfl,rfl⟩;go_wp2;go_ret;exact⟨rfl,H.out,(jQ0 (RX g) _).setCell (p:=⟨g,1,none⟩) (fun _=>rfl) _⟩
  ·have e:tkN bs 2 ⟨p,0⟩=(0,⟨p,8⟩):=(by simp[tkN,hk]);rw[e];clear e;go_enter func45,ntmps45;go_wp2_with fail;refine(ZG w g bs ⟨p,0⟩ p h hfit.1 (by omega)).mono ?_;rintro e w' ⟨rfl,rfl⟩;go_wp2_with fail;refine(jx w g bs ⟨p,0⟩ 8 h rfl).mono ?_;rintro e w1 ⟨rfl,hr,Fc⟩;go_wp2;go_ret;exact⟨rfl,hr,Fc⟩
 ·have e:tkN bs 2 ⟨p,y⟩=(0,⟨p,y⟩):=(by simp[tkN,hy]);rw[e];clear e;have MK:(y !=0)=true:=(by simpa using hy);go_enter func45,ntmps45;go_wp2;go_ret;exact⟨rfl,h,jQ0 _ _⟩
theorem Kd(w:World)(g:Nat)(bs:LB)(s:Rs)(h:Rr w g bs s):
  Calls prog 48 #[.pointer (some ⟨g,0,none⟩)] w fun e w' =>e=.returned (.int .u32 (tkN bs 4 s).1)/\Rr w' g bs (tkN bs 4 s).2/\Kp (RX g) w w' :=by
 obtain⟨p,y⟩:=s;have c1:=h.atc;have c2:=h.why;have z1:=h.zer 1;have hfit:=h.fits;simp only at c1 c2 hfit;by_cases hy:y=0
 ·subst hy;by_cases hk:p+4<=bs.length
  ·have e:tkN bs 4 ⟨p,0⟩=(jq ((bs.drop p).take 4),⟨p+4,0⟩):=(by simp[tkN,hk]);rw[e];clear e;have H:=G (h.setAt (p+4) hk);go_enter func48,ntmps48;go_wp2_with fail;refine(qx w g bs ⟨p,0⟩ p h hk).mono ?_;rintro e w' ⟨rfl,rfl⟩;go_wp2;go_ret;exact⟨rfl,H.out,(jQ0 (RX g) _).setCell (p:=⟨g,1,none⟩) (fun _=>rfl) _⟩
  ·have e:tkN bs 4 ⟨p,0⟩=(0,⟨p,8⟩):=(by simp[tkN,hk]);rw[e];clear e;go_enter func48,ntmps48;go_wp2_with fail;refine(uP w g bs ⟨p,0⟩ p h hfit.1 (by omega)).mono ?_;rintro e w' ⟨rfl,rfl⟩;go_wp2_with fail;refine(jx w g bs ⟨p,0⟩ 8 h rfl).mono ?_;rintro e w1 ⟨rfl,hr,Fc⟩;go_wp2;go_ret;exact⟨rfl,hr,Fc⟩
 ·have e:tkN bs 4 ⟨p,y⟩=(0,⟨p,y⟩):=(by simp[tkN,hy]);rw[e];clear e;have MK:(y !=0)=true:=(by simpa using hy);go_enter func48,ntmps48;go_wp2;go_ret;exact⟨rfl,h,jQ0 _ _⟩
theorem yY(w:World)(g:Nat)(bs:LB)(s:Rs)(h:Rr w g bs s):
  Calls prog 86 #[.pointer (some ⟨g,0,none⟩)] w fun e w' =>e=.returned (.int .u64 (tkN bs 8 s).1)/\Rr w' g bs (tkN bs 8 s).2/\Kp (RX g) w w' :=by
 obtain⟨p,y⟩:=s;have c1:=h.atc;have c2:=h.why;have z1:=h.zer 1;have hfit:=h.fits;simp only at c1 c2 hfit;by_cases hy:y=0
 ·subst hy;by_cases hk:p+8<=bs.length
  ·have e:tkN bs 8 ⟨p,0⟩=(jq ((bs.drop p).take 8),⟨p+8,0⟩):=(by simp[tkN,hk]);rw[e];clear e;have H:=G (h.setAt (p+8) hk);go_enter func86,ntmps86;go_wp2_with fail;refine(Ur w g bs ⟨p,0⟩ p h hk).mono ?_;rintro e w' ⟨rfl,rfl⟩;go_wp2;go_ret;exact⟨rfl,H.out,(jQ0 (RX g) _).setCell (p:=⟨g,1,none⟩) (fun _=>rfl) _⟩
  ·have e:tkN bs 8 ⟨p,0⟩=(0,⟨p,8⟩):=(by simp[tkN,hk]);rw[e];clear e;go_enter func86,ntmps86;go_wp2_with fail;refine(jCn w g bs ⟨p,0⟩ p h hfit.1 (by omega)).mono ?_;rintro e w' ⟨rfl,rfl⟩;go_wp2_with fail;refine(jx w g bs ⟨p,0⟩ 8 h rfl).mono ?_;rintro e w1 ⟨rfl,hr,Fc⟩;go_wp2;go_ret;exact⟨rfl,hr,Fc⟩
 ·have e:tkN bs 8 ⟨p,y⟩=(0,⟨p,y⟩):=(by simp[tkN,hy]);rw[e];clear e;have MK:(y !=0)=true:=(by simpa using hy);go_enter func86,ntmps86;go_wp2;go_ret;exact⟨rfl,h,jQ0 _ _⟩
theorem yL(w:World)(g:Nat)(bs:LB)(s:Rs)(h:Rr w g bs s):
  Calls prog 46 #[.pointer (some ⟨g,0,none⟩)] w fun e w' =>e=.returned (.int .i64 s.why)/\w=w' :=by
 have c2:=h.why;go_enter func46,ntmps46;go_wp2;go_ret;exact⟨rfl,rfl⟩
theorem zL(w:World)(g:Nat)(bs:LB)(s:Rs)(h:Rr w g bs s):
  Calls prog 87 #[.pointer (some ⟨g,0,none⟩)] w fun e w' =>e=.returned (.int .i64 ((bs.length-s.at_:Nat):Int))/\∃n,w' =w.drewN n:=by
 obtain⟨A,c,hb,hr,ha,hc,hs,hl⟩:=h;have c0:=hb.at_ 0 rfl;have c1:=hb.at_ 1 rfl;obtain⟨p,y⟩:=s;simp only at*;go_enter func87,ntmps87;go_wp2;go_quiet (fail);go_wp2;go_ret;exact⟨kL (vT (by first|omega|(rw[jQ3 _ (by omega)];omega))),_,rfl⟩
def vi(bs:LB)(s:Rs):Int:=if s.why=0/\s.at_ <bs.length then 8 else s.why
theorem Jj(w:World)(g:Nat)(bs:LB)(s:Rs)(h:Rr w g bs s):
  Calls prog 44 #[.pointer (some ⟨g,0,none⟩)] w fun e w' =>e=.returned (.int .i64 (vi bs s))/\Old w w' :=by
 obtain⟨p,y⟩:=s;have c2:=h.why;simp only at c2;by_cases hy:y=0
 ·subst hy;by_cases hp:p<bs.length
  ·have Hp:=G hp;have hd:0<bs.length-p:=(by omega);clear hp;go_enter func44,ntmps44;go_wp2_with fail;refine(zL w g bs ⟨p,0⟩ h).mono ?_;rintro e w1 ⟨rfl,n,rfl⟩;go_wp2;go_ret;exact⟨kL (vT (by rw[vi,jJ6 ⟨rfl,Hp.out⟩])),(jQ0 _ _).drewN _⟩
  ·have Hp:=G hp;have hd:¬0<bs.length-p:=(by omega);clear hp;go_enter func44,ntmps44;go_wp2_with fail;refine(zL w g bs ⟨p,0⟩ h).mono ?_;rintro e w1 ⟨rfl,n,rfl⟩;go_wp2;go_ret;exact⟨kL (vT (by rw[vi,jJ5 (fun hh=>Hp.out hh.2)])),(jQ0 _ _).drewN _⟩
 ·have MK:(y==0)=false:=beq_eq_false_iff_ne.2 hy;have Hy:=G hy;clear hy;go_enter func44,ntmps44;go_wp2;go_ret;exact⟨kL (vT (by rw[vi,jJ5 (fun hh=>Hy.out hh.1)])),jQ0 _ _⟩
def vE(bs:LB)(n:Int)(s:Rs):LB×Rs:=
 if s.why≠0 then([],s)else if n<0\/((bs.length-s.at_:Nat):Int)<n then([],⟨s.at_,8⟩)else((bs.drop s.at_).take n.toNat,⟨s.at_ +n.toNat,0⟩)
def TookB(w:World)(g:Nat)(bs:LB)(l:LB)(s:Rs)(e:Ending)(w' :World):Prop:=
 ∃A c,e=.returned (.slice A l.length c)/\Rd w' 1 A l.length (l.map bv)/\Av (fun k=>k<w.heap.size) l.length A/\l.length<=c/\Rr w' g bs s/\Kp (RX g) w w'
theorem TookB.none_{w w' :World}{g:Nat}{bs:LB}{s:Rs}(h:Rr w' g bs s)(hk:Kp (RX g) w w'):TookB w g bs [] s (.returned (.slice none 0 0)) w' :=
 ⟨none,0,rfl,Rd.none_,fun h=>absurd h (by simp),jL3 _,h,hk⟩
theorem jIt(w:World)(g:Nat)(bs:LB)(n:Int)(s:Rs)(h:Rr w g bs s)(hn:s.why=0->n<0\/((bs.length-s.at_:Nat):Int)<n)(hi:n<=9223372036854775807):
  Calls prog 90 #[.pointer (some ⟨g,0,none⟩),.int .i64 n] w (TookB w g bs (vE bs n s).1 (vE bs n s).2):=by
 obtain⟨p,y⟩:=s;have h' :=h;obtain⟨A,c,hb,hr,ha,hc,hs,hl⟩:=h;have c0:=hb.at_ 0 rfl;have c1:=hb.at_ 1 rfl;have c2:=hb.at_ 2 rfl;simp only at*;by_cases hy:y=0
 ·subst hy;have hn:=hn rfl;rw[show vE bs n ⟨p,0⟩=([],⟨p,8⟩)by simp only[vE];rw[jJ5 (by simp),jJ6 hn]];rcases Int.lt_or_le n 0 with h0|h0
  ·have hd:decide (n<0)=true:=(by simpa using h0);clear hn;go_enter func90,ntmps90;go_wp2;go_quiet (fail);go_wp2_with fail;refine(jx _ g bs ⟨p,0⟩ 8 (h'.old ((jQ0 _ _).drewN _)) rfl).mono ?_;rintro e w1 ⟨rfl,Fd,Fc⟩;go_wp2;go_ret;exact TookB.none_ Fd (Kp.trans (((jQ0 (RX g) w)).drewN _) Fc (fun _ _ h=>h))
  ·have hd:decide (n<0)=false:=(by simpa using h0);have Pm:(bs.length:Int)-(p:Int)<n:=(by omega);clear hn;go_enter func90,ntmps90;go_wp2;have e1:IntKind.i64.wrap ((bs.length:Int)-(p:Int))=(bs.length:Int)-(p:Int):=jQ3 _ (by omega);go_quiet (fail);clear e1;go_wp2_with fail;refine(jx _ g bs ⟨p,0⟩ 8 (h'.old ((jQ0 _ _).drewN _)) rfl).mono ?_;rintro e w1 ⟨rfl,Fd,Fc⟩;go_wp2;go_ret;exact TookB.none_ Fd (Kp.trans (((jQ0 (RX g) w)).drewN _) Fc (fun _ _ h=>h))
 ·rw[show vE bs n ⟨p,y⟩=([],⟨p,y⟩)by simp[vE,hy]];have MK:(y !=0)=true:=(by simpa using hy);clear hn;go_enter func90,ntmps90;go_wp2;go_ret;exact TookB.none_ h' (jQ0 _ _)
theorem jDs(w:World)(g:Nat)(bs:LB)(n p:Nat)(h:Rr w g bs ⟨p,0⟩)(hn:p+n<=bs.length):
  Calls prog 90 #[.pointer (some ⟨g,0,none⟩),.int .i64 n] w (TookB w g bs ((bs.drop p).take n) ⟨p+n,0⟩):=by
 have h' :=h;obtain⟨A,c,hb,hr,ha,hc,hs,hl⟩:=h;have c0:=hb.at_ 0 rfl;have c1:=hb.at_ 1 rfl;have c2:=hb.at_ 2 rfl;have z1:=hb.frozen 1;simp only at*;obtain⟨i0,hi,Fz,Ft,FC⟩:=info_parts kc;have hd:decide ((n:Int)<0)=false:=(by simp);have Pm:¬(bs.length:Int)-(p:Int)<n:=(by omega);have Gi:((bs.drop p).take n).length=n:=by rw[jK9,jK8];omega
 have FU:=G (show 0+n<=maxLen by unfold maxLen;omega);have FV:=G (show(0+n)*1<=140737488355328 by omega);have Wc:=G Gi;clear Gi;clear ha hr;go_enter func90,ntmps90;go_wp2;have e1:IntKind.i64.wrap ((bs.length:Int)-(p:Int))=(bs.length:Int)-(p:Int):=jQ3 _ (by omega);go_quiet (fail);clear e1;go_wp2;have FF:Rr ((w.drewN nq).setCell ⟨g,1,none⟩ (.int .i64 ((p:Int)+(n:Int)))) g bs ⟨p+n,0⟩:=by
  have:=(h'.old ((jQ0 _ _).drewN nq)).setAt (p+n) hn
  rwa [Int.natCast_add]at this
 have Fc:Kp (RX g) w ((w.drewN nq).setCell ⟨g,1,none⟩ (.int .i64 ((p:Int)+(n:Int)))):=((jQ0 (RX g) w).drewN nq).setCell (p:=⟨g,1,none⟩) (fun _=>rfl) _;clear c0 c1 c2 z1;generalize (w.drewN nq).setCell ⟨g,1,none⟩ (.int .i64 ((p:Int)+(n:Int)))=W1 at FF Fc⊢;have LC:=FF;obtain⟨A1,c1,GC,Fd,_,FS,_,_⟩:=FF;have d0:=GC.at_ 0 rfl;have d1:=GC.at_ 1 rfl;simp only[Int.natCast_add]at d1;have hcut:=(Fd.cut (k:=p) (cap:=c1) (by omega) FS).take_ (k:=n) (by omega);rw[Nat.mul_one,Nat.mul_one,<-List.map_drop,<-List.map_take]at hcut;have b1:(0:Int)<=(p:Int):=(by omega);have b2:(p:Int)<=(p:Int)+(n:Int):=(by omega);have b3:(p:Int)+(n:Int)<=(c1:Int):=(by omega);have e1:IntKind.i64.wrap (p:Int)=(p:Int):=jQ3 _ (by omega);have Gi:=fun W=>VJ (P:=prog) kE kA A1 bs.length c1 p (p+n) .i64 .i64 (p:Int) ((p:Int)+(n:Int)) rfl (by omega) (by omega) (by omega) W;rw[Nat.add_sub_cancel_left,Nat.mul_one]at Gi;generalize (if c1=p then A1 else A1.map (·.add p))=AA at hcut Gi
 go_region_held3 (fun w' =>w'.cell? ⟨g,0,none⟩=some (.slice A1 bs.length c1)/\w'.cell? ⟨g,1,none⟩=some (.int .i64 ((p:Int)+(n:Int)))) (first|go_keep|exact⟨hgrow.cell d0 (by simp[Value.ownBlock]),hgrow.cell d1 (by simp[Value.ownBlock])⟩)
  ((refine jg _ rfl (.const (.slice none 0 0)) (.tmp 50) 22 rfl w.heap.size 5 i0 (.int .u8 0) 1 1 underlying22 hi Fz Ft FC rfl (by decide) (.slice none 0 0) 0 [] rfl (World.ownsRow_nil _ _ _ _) AA n _ _ rfl hcut (jf _) FU.out FV.out Fc.size ?_;intro A' c' w2 Hi hgrow Fo))
 rw[Nat.zero_add,List.nil_append]at Hi;have hZ:Kp (RX g) w w2:=Kp.grown (Fc.drew) hgrow (fun k e=>by simp[Value.ownBlock]at e);have OS:Rr w2 g bs ⟨p+n,0⟩:=(LC.old ((jQ0 NoX _).drew)).old ((jQ0 NoX _).grown hgrow (fun k e=>by simp[Value.ownBlock]at e));have Fm:=G (show TookB w g bs ((bs.drop p).take n) ⟨p+n,0⟩ (.returned (.slice A' n c')) w2 from⟨A',c',by rw[Wc.out],by rw[Wc.out];exact Rd.of_own Hi,by
   intro hn ad e hM;have:=Hi.lt ad.block (by rw[jE,e];rfl);omega,by
   rw[Wc.out];rcases Hi.2 with⟨e,h0⟩|⟨g,cap,cur,e,_,_,TB,_⟩
   ·omega
   ·injection e with e1 e2 e3;omega,OS,hZ⟩)
 clear Hi hgrow Fo hZ OS Gi hcut;go_wp2;go_ret;exact Fm.out
theorem za(w:World)(g:Nat)(bs:LB)(n:Int)(s:Rs)(h:Rr w g bs s)(hi:n<=9223372036854775807):
  Calls prog 90 #[.pointer (some ⟨g,0,none⟩),.int .i64 n] w (TookB w g bs (vE bs n s).1 (vE bs n s).2):=by
 by_cases hn:s.why=0->n<0\/((bs.length-s.at_:Nat):Int)<n
 ·exact jIt w g bs n s h hn hi
 ·obtain⟨p,y⟩:=s;have hfit:=h.fits;simp only at hn hfit;have hy:y=0:=by
   by_cases e:y=0
   ·exact e
   ·exact absurd (fun e' =>absurd e' e) hn
  subst hy;have Wu:¬(n<0\/((bs.length-p:Nat):Int)<n):=fun e=>hn (fun _=>e);obtain⟨m,rfl⟩:=Int.eq_ofNat_of_zero_le (show 0<=n by omega);have e:vE bs (m:Int) ⟨p,0⟩=((bs.drop p).take m,⟨p+m,0⟩):=by
   simp only[vE];rw[jJ5 (by simp),jJ5 Wu,jL1]
  rw[e];exact jDs w g bs m p h (by omega)
end Go.Proofs.YtnaolhjbapgjgaaGreat

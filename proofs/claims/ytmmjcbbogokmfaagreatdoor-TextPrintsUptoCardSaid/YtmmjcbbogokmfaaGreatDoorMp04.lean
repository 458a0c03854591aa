import Derived.Test.YtmmjcbbogokmfaaGreatDoorMp03
set_option maxRecDepth 100000
set_option maxHeartbeats 25600000
namespace Go.Proofs.YtmmjcbbogokmfaaGreatDoor
open Go.Proofs.Tryz
open Go.RowKit
theorem yB(s:BA)(p:Nat)(h:p<s.size):(sb s).drop p=s[p]::(sb s).drop (p+1):=by
 have h' :p<(sb s).length:=by rw[jB];exact h
 rw[jM9 h'];rfl
theorem jEX(c:UInt8)(l:LB)(k:Nat):kz (c::l) k 5=match Jt c.toNat with|some x=>kz l (k+1) x|none=>.wrong k:=by
 rw[kz,Jt];simp only[show¬(5:Nat)=4 by decide,if_false,if_true];split
 ·rfl
 ·split<;>rfl
theorem jFZ(c:UInt8):UG c=(zS c||decide (97<=c.toNat/\c.toNat<=102)):=rfl
structure TxSt(w:World)(g:Nat)(r:Option Nat)(src:BA)(m:Mc)(X:TxR)(p e:Nat)(wr:World)(A:OA)(c:Nat)(r' :Option Nat):Prop where
 le:p<=src.size
 go:X=kz ((sb src).drop p) p e
 mac:Mac wr g r' src {m with at_:=p,from_:=m.at_,fin:=e} A c
 kp:Kp (MX g r) w wr
 fr:MFr w r r'
def jGB(w:World)(g:Nat)(r:Option Nat)(src:BA)(m:Mc)(X:TxR)(wr:World):Prop:=∃p e A c r',(4<=e/\e<=7)/\TxSt w g r src m X p e wr A c r'
section
variable{w wr W:World}{g:Nat}{r r' :Option Nat}{src:BA}{m:Mc}{X:TxR}{p e e' :Nat}{A:OA}{c:Nat}
theorem TxSt.next(h:TxSt w g r src m X p e wr A c r')(hlt:p<src.size)(he:4<=e' /\e' <=7)(hX:X=kz ((sb src).drop (p+1)) (p+1) e')(hW:Kp (MX g r') wr W)(hM:Mac W g r' src {m with at_:=p,from_:=m.at_,fin:=e'} A c):
  jGB w g r src m X (W.setCell ⟨g,1,none⟩ (.int .i64 ((p:Int)+1)))/\src.size-atOf g (W.setCell ⟨g,1,none⟩ (.int .i64 ((p:Int)+1)))<src.size-atOf g wr:=by
 obtain⟨h1,h2⟩:=hM.setAt (p+1);rw[show((p+1:Nat):Int)=(p:Int)+1 by omega]at h1 h2;refine⟨⟨p+1,e',A,c,r',he,hlt,hX,h1,(h.kp.trans hW (MX.trans h.fr)).trans h2 (MX.trans h.fr),h.fr⟩,?_⟩;rw[h1.atOf,h.mac.atOf];simp only;omega
theorem Kp.mx(hk:Kp NoX wr W):Kp (MX g r) wr W:=hk.mono (fun _ _ f=>f.elim)
end
theorem jCR(w:World)(g:Nat)(r:Option Nat)(src:BA)(m:Mc)(A:OA)(c:Nat)(h:Mac w g r src m A c)(hs:src.size<=1000000)(ha:m.at_ <src.size)(Hv:m.stack.length<=1000000):
  Calls prog 161 #[.pointer (some ⟨g,0,none⟩)] w (MOut w g r src (vO m ((sb src).drop m.at_))):=by
 have HM:=G (Jm w g r src m A c h 3);have hR:vO m ((sb src).drop m.at_)=vO m ((sb src).drop m.at_):=rfl;generalize Wl:vO m ((sb src).drop m.at_)=R at hR⊢;unfold vO at Wl;by_cases Ga:vd 3 m.stack=false
 ·rw[jJ6 Ga]at Wl;rw[Ga]at HM;have HR:=G Wl.symm;have G6:=h.c1;clear Wl hR Ga h;unfold yv at HM;go_enter func161,ntmps161;go_wp2_with (go_at_call 176;refine HM.out.mono ?_;rintro e w1 ⟨rfl,rfl⟩);refine⟨rfl,?_⟩;rw[HR.out];exact⟨rfl,jQ0 _ _⟩
 ·rw[jJ5 Ga]at Wl;have Lb:vd 3 m.stack=true:=(by simpa using Ga);rw[Lb]at HM;rw[yB src m.at_ ha,List.drop_one,List.tail_cons]at Wl;obtain⟨s,NO,Mu⟩:=Vu 3 (by decide) {m with from_:=m.at_,fin:=0} 0 Lb;obtain⟨n,hn,hT⟩:=JT NO;have HT:=G hT;have Hn:=G (show m.stack.length+11*n<=100000000 by simp only at hn;omega);have Hu:=G (show R=match kz ((sb src).drop (m.at_ +1)) (m.at_ +1) 4 with
   | .wrong k=>.error k
   | .shut k=>.ok {m with from_:=m.at_,fin:=0,at_:=k,stack:=s}
   | .ends e=>.ok {m with from_:=m.at_,at_:=src.size,fin:=e}by
    rw[<-Wl];cases hq:kz ((sb src).drop (m.at_ +1)) (m.at_ +1) 4 with
    |wrong k=>rfl
    |shut k=>
     show vz 3 _ k=_;unfold vz;rw[NO]
    |ends e=>
     show Except.ok _=_;rw[jK6,jK8,jB,show m.at_ +(src.size-(m.at_ +1)+1)=src.size by omega])
  clear Wl hR Ga Lb NO Mu hn hT;have G6:=h.c1;have Fo:=h.c3;have Li:=h.c4;have Fi:=h.z 1;have ML:=h.z 3;have Sx:=h.z 4;have H0:=G (show jGB w g r src m (kz ((sb src).drop (m.at_ +1)) (m.at_ +1) 4) (((w.setCell ⟨g,4,none⟩ (.int .i64 (m.at_:Int))).setCell ⟨g,3,none⟩ (.int .u8 4)).setCell ⟨g,1,none⟩ (.int .i64 ((m.at_:Int)+1)))from by
   obtain⟨m1,k1⟩:=h.setFrom m.at_;obtain⟨m2,k2⟩:=m1.setFin 4;obtain⟨m3,k3⟩:=m2.setAt (m.at_ +1);rw[show((m.at_ +1:Nat):Int)=(m.at_:Int)+1 by omega]at m3 k3;exact⟨m.at_ +1,4,A,c,r,by omega,ha,rfl,m3,(k1.trans k2 (fun _ _ h=>h)).trans k3 (fun _ _ h=>h),.inl rfl⟩)
  generalize kz ((sb src).drop (m.at_ +1)) (m.at_ +1) 4=X at*;have b1:IntKind.i64.wrap ((m.at_:Int)+1)=(m.at_:Int)+1:=jQ3 _ (by omega);clear h;unfold yv at HM;go_enter func161,ntmps161;go_wp2_with (go_at_call 176;refine HM.out.mono ?_;rintro e w1 ⟨rfl,rfl⟩);go_loopw [] (fun wr=>jGB w g r src m X wr) (fun wr=>src.size-atOf g wr)
  case atStart=>exact H0.out
  case round=>
   clear H0 HM G6 Fo Li Fi ML Sx b1;obtain⟨p,e,A,c,r',he,Fe⟩:=hrel;have Nl:=Fe.mac.c0;have G6:=Fe.mac.c1;have Fo:=Fe.mac.c3;have Fi:=Fe.mac.z 1;have ML:=Fe.mac.z 3;simp only at Nl G6 Fo;by_cases hlt:p<src.size
   ·have Fs:=Fe.go;rw[yB src p hlt]at Fs;have a1:(p:Int)<(src.size:Int):=(by omega);have a2:(0:Int)<=(p:Int):=(by omega);have a3:(p:Int).toNat=p:=(by omega);have a4:IntKind.i64.wrap ((p:Int)+1)=(p:Int)+1:=jQ3 _ (by omega);by_cases e4:e=4
    ·subst e4;rw[kz,jJ6 rfl]at Fs;by_cases y34:src[p].toNat=34
     ·rw[jJ6 y34]at Fs;have HR:=G (show R=.ok {m with from_:=m.at_,fin:=0,at_:=p+1,stack:=s}by rw[Hu.out,Fs]);have MU:=G (fun W (hO:Old wr W)=>yj W g r' src _ A c (Fe.mac.old hO) 3 n s (by decide) HT.out Hn.out);have FA:=G Fe.kp;have GG:=G Fe.fr;have d1:((src[p].toNat:Int)==34)=true:=by rw[y34];rfl
      clear Fe Fs y34 Hu;unfold yv at MU;go_wp2;go_quiet (fail);go_wp2;go_quiet (fail);go_wp2_with ((go_at_call 179);refine(MU.out _ (by first|exact(jQ0 _ _).drewN _ |exact((jQ0 _ _).drewN _).drewN _)).mono ?_;rintro e w1 ⟨rfl,r2,A2,c2,Lo,hU,WI⟩;have P8:=Lo.c1;have Cz:=Lo.c3;have GI:=Lo.z 1;have Ae:=Lo.z 3;simp only at P8 Cz;have I5:=G Lo;have Lv:=G hU;have By:=G WI;clear Lo hU WI);refine bodyPost_ret (results_none rfl _ _ _) rfl ?_;rw[HR.out];obtain⟨m1,k1⟩:=I5.out.setAt (p+1);obtain⟨m2,k2⟩:=m1.setFin 0;rw[show((p+1:Nat):Int)=(p:Int)+1 by omega]at k1 m2 k2;have K2:Kp (MX g r') wr w1:=⟨Lv.out.os,Lv.out.tape,Lv.out.output,Lv.out.size,Lv.out.block⟩;have K:=FA.out.trans K2 (MX.trans GG.out);have F:MFr w r r2:=GG.out.trans FA.out.size By.out;exact⟨rfl,r2,A2,c2,m2,(K.trans k1 (MX.trans F)).trans k2 (MX.trans F),F⟩
     ·rw[jJ5 y34]at Fs;have d1:((src[p].toNat:Int)==34)=false:=jM3 (by omega);by_cases y92:src[p].toNat=92
      ·rw[jJ6 y92]at Fs;have d2:((src[p].toNat:Int)==92)=true:=by rw[y92];rfl
       have Hs:=G (fun W (hO:Old wr W)=>by
        obtain⟨m1,k1⟩:=(Fe.mac.old hO).setFin 5;exact Fe.next hlt (e' :=5) (by omega) Fs (hO.mx.trans k1 (fun _ _ h=>h)) m1)
       clear Fe Fs y34 y92 Hu;go_wp2;go_quiet (fail);go_wp2;go_quiet (fail);go_wp2;exact Hs.out _ (by first|exact(jQ0 _ _).drewN _ |exact((jQ0 _ _).drewN _).drewN _)
      ·rw[jJ5 y92]at Fs;have d2:((src[p].toNat:Int)==92)=false:=jM3 (by omega);by_cases yr:src[p].toNat<32\/126<src[p].toNat
       ·rw[jJ6 yr]at Fs;have HR:=G (show R=.error p by rw[Hu.out,Fs]);have FA:=G Fe.kp;clear Fe Fs y34 y92 Hu;by_cases y32:src[p].toNat<32
        ·have d3:(src[p].toNat:Int)<32:=(by omega);clear yr;go_wp2;go_quiet (fail);go_wp2;go_quiet (fail);go_wp2;refine⟨rfl,?_⟩;rw[HR.out];exact⟨rfl,⟨FA.out.os,FA.out.tape,FA.out.output,FA.out.size,FA.out.block⟩⟩
        ·have d3:¬(src[p].toNat:Int)<32:=(by omega);have d4:(126:Int)<(src[p].toNat:Int):=(by omega);clear yr;go_wp2;go_quiet (fail);go_wp2;go_quiet (fail);go_wp2;refine⟨rfl,?_⟩;rw[HR.out];exact⟨rfl,⟨FA.out.os,FA.out.tape,FA.out.output,FA.out.size,FA.out.block⟩⟩
       ·rw[jJ5 yr]at Fs;have d3:¬(src[p].toNat:Int)<32:=(by omega);have d4:¬(126:Int)<(src[p].toNat:Int):=(by omega);have Hs:=G (fun W (hO:Old wr W)=>Fe.next hlt (e' :=4) (by omega) Fs hO.mx (Fe.mac.old hO));clear Fe Fs y34 y92 yr Hu;go_wp2;go_quiet (fail);go_wp2;go_quiet (fail);go_wp2;exact Hs.out _ (by first|exact(jQ0 _ _).drewN _ |exact((jQ0 _ _).drewN _).drewN _)
    ·by_cases e5:e=5
     ·subst e5;rw[jEX]at Fs;cases hb:Jt src[p].toNat with
      |some x=>
       rw[hb]at Fs;have HB:=G (fun W=>(ZS W src[p].toNat p).mono (R' :=fun e w' =>e=.returned (.int .u8 (x:Int))/\W=w') (fun e w' h=>⟨by have:=h.2;rw[hb]at this;exact this,h.1⟩));have hx:4<=x/\x<=7:=by
        unfold Jt at hb;split at hb
        ·injection hb;omega
        ·split at hb
         ·injection hb;omega
         ·cases hb
       have Hs:=G (fun W (hO:Old wr W)=>by
        obtain⟨m1,k1⟩:=(Fe.mac.old hO).setFin x;exact Fe.next hlt (e' :=x) hx Fs (hO.mx.trans k1 (fun _ _ h=>h)) m1)
       clear Fe Fs hb Hu hx;go_wp2;go_quiet (fail);go_wp2;go_quiet (fail);go_wp2_with (go_at_call 197;refine(HB.out _).mono ?_;rintro e w1 ⟨rfl,rfl⟩);exact Hs.out _ (by first|exact(jQ0 _ _).drewN _ |exact((jQ0 _ _).drewN _).drewN _)
      |none=>
       rw[hb]at Fs;have HR:=G (show R=.error p by rw[Hu.out,Fs]);have FA:=G Fe.kp;have HB:=G (fun W=>(ZS W src[p].toNat p).mono (R' :=fun e w' =>e=.panicked (Vn p)/\W=w') (fun e w' h=>⟨by have:=h.2;rw[hb]at this;exact this,h.1⟩));clear Fe Fs hb Hu;go_wp2;go_quiet (fail);go_wp2;go_quiet (fail);go_wp2_with (go_at_call 197;refine(HB.out _).mono ?_;rintro e w1 ⟨rfl,rfl⟩);refine⟨rfl,?_⟩;rw[HR.out];exact⟨rfl,⟨FA.out.os,FA.out.tape,FA.out.output,FA.out.size,FA.out.block⟩⟩
     ·have NQ:=jFZ src[p];have Hd:=G (fun W=>ze W src[p]);unfold bv at Hd;generalize Y3:zS src[p]=d at*;clear Y3;rcases (show e=6\/e=7 by omega)with rfl|rfl
      ·rw[kz,jJ5 (by decide),jJ5 (by decide)]at Fs;by_cases hbad:d=false/\(src[p].toNat<97\/102<src[p].toNat)
       ·obtain⟨rfl,hy⟩:=hbad;rw[jJ6 (by rw[NQ,jK3 (by omega)];rfl)]at Fs;have HR:=G (show R=.error p by rw[Hu.out,Fs]);have FA:=G Fe.kp;clear Fe Fs Hu NQ;by_cases y97:src[p].toNat<97
        ·have d3:(src[p].toNat:Int)<97:=(by omega);clear hy;go_wp2;go_quiet (fail);go_wp2;go_quiet (fail);go_wp2_with (go_at_call 158;refine(Hd.out _).mono ?_;rintro e w1 ⟨rfl,rfl⟩);refine⟨rfl,?_⟩;rw[HR.out];exact⟨rfl,⟨FA.out.os,FA.out.tape,FA.out.output,FA.out.size,FA.out.block⟩⟩
        ·have d3:¬(src[p].toNat:Int)<97:=(by omega);have d4:(102:Int)<(src[p].toNat:Int):=(by omega);clear hy;go_wp2;go_quiet (fail);go_wp2;go_quiet (fail);go_wp2_with (go_at_call 158;refine(Hd.out _).mono ?_;rintro e w1 ⟨rfl,rfl⟩);refine⟨rfl,?_⟩;rw[HR.out];exact⟨rfl,⟨FA.out.os,FA.out.tape,FA.out.output,FA.out.size,FA.out.block⟩⟩
       ·rw[jJ5 (by
         rw[NQ];cases d
         ·have:97<=src[p].toNat/\src[p].toNat<=102:=by
           rcases Nat.lt_or_ge src[p].toNat 97 with h1|h1
           ·exact absurd ⟨rfl,.inl h1⟩ hbad
           ·rcases Nat.lt_or_ge 102 src[p].toNat with h2|h2
            ·exact absurd ⟨rfl,.inr h2⟩ hbad
            ·exact⟨h1,h2⟩
          rw[jK5 this];decide
         ·simp)]at Fs
        have Hs:=G (fun W (hO:Old wr W)=>by
         obtain⟨m1,k1⟩:=(Fe.mac.old hO).setFin 7;exact Fe.next hlt (e' :=7) (by omega) Fs (hO.mx.trans k1 (fun _ _ h=>h)) m1)
        cases d
        ·have d3:¬(src[p].toNat:Int)<97:=fun h=>hbad ⟨rfl,.inl (by omega)⟩;have d4:¬(102:Int)<(src[p].toNat:Int):=fun h=>hbad ⟨rfl,.inr (by omega)⟩;clear Fe Fs Hu NQ hbad;go_wp2;go_quiet (fail);go_wp2;go_quiet (fail);go_wp2_with (go_at_call 158;refine(Hd.out _).mono ?_;rintro e w1 ⟨rfl,rfl⟩);exact Hs.out _ (by first|exact(jQ0 _ _).drewN _ |exact((jQ0 _ _).drewN _).drewN _)
        ·clear Fe Fs Hu NQ hbad;go_wp2;go_quiet (fail);go_wp2;go_quiet (fail);go_wp2_with (go_at_call 158;refine(Hd.out _).mono ?_;rintro e w1 ⟨rfl,rfl⟩);exact Hs.out _ (by first|exact(jQ0 _ _).drewN _ |exact((jQ0 _ _).drewN _).drewN _)
      ·rw[kz,jJ5 (by decide),jJ5 (by decide)]at Fs;by_cases hbad:d=false/\(src[p].toNat<97\/102<src[p].toNat)
       ·obtain⟨rfl,hy⟩:=hbad;rw[jJ6 (by rw[NQ,jK3 (by omega)];rfl)]at Fs;have HR:=G (show R=.error p by rw[Hu.out,Fs]);have FA:=G Fe.kp;clear Fe Fs Hu NQ;by_cases y97:src[p].toNat<97
        ·have d3:(src[p].toNat:Int)<97:=(by omega);clear hy;go_wp2;go_quiet (fail);go_wp2;go_quiet (fail);go_wp2_with (go_at_call 158;refine(Hd.out _).mono ?_;rintro e w1 ⟨rfl,rfl⟩);refine⟨rfl,?_⟩;rw[HR.out];exact⟨rfl,⟨FA.out.os,FA.out.tape,FA.out.output,FA.out.size,FA.out.block⟩⟩
        ·have d3:¬(src[p].toNat:Int)<97:=(by omega);have d4:(102:Int)<(src[p].toNat:Int):=(by omega);clear hy;go_wp2;go_quiet (fail);go_wp2;go_quiet (fail);go_wp2_with (go_at_call 158;refine(Hd.out _).mono ?_;rintro e w1 ⟨rfl,rfl⟩);refine⟨rfl,?_⟩;rw[HR.out];exact⟨rfl,⟨FA.out.os,FA.out.tape,FA.out.output,FA.out.size,FA.out.block⟩⟩
       ·rw[jJ5 (by
         rw[NQ];cases d
         ·have:97<=src[p].toNat/\src[p].toNat<=102:=by
           rcases Nat.lt_or_ge src[p].toNat 97 with h1|h1
           ·exact absurd ⟨rfl,.inl h1⟩ hbad
           ·rcases Nat.lt_or_ge 102 src[p].toNat with h2|h2
            ·exact absurd ⟨rfl,.inr h2⟩ hbad
            ·exact⟨h1,h2⟩
          rw[jK5 this];decide
         ·simp)]at Fs
        have Hs:=G (fun W (hO:Old wr W)=>by
         obtain⟨m1,k1⟩:=(Fe.mac.old hO).setFin 8;obtain⟨m2,k2⟩:=m1.setFin 4;exact Fe.next hlt (e' :=4) (by omega) Fs ((hO.mx.trans k1 (fun _ _ h=>h)).trans k2 (fun _ _ h=>h)) m2)
        cases d
        ·have d3:¬(src[p].toNat:Int)<97:=fun h=>hbad ⟨rfl,.inl (by omega)⟩;have d4:¬(102:Int)<(src[p].toNat:Int):=fun h=>hbad ⟨rfl,.inr (by omega)⟩;clear Fe Fs Hu NQ hbad;go_wp2;go_quiet (fail);go_wp2;go_quiet (fail);go_wp2_with (go_at_call 158;refine(Hd.out _).mono ?_;rintro e w1 ⟨rfl,rfl⟩);exact Hs.out _ (by first|exact(jQ0 _ _).drewN _ |exact((jQ0 _ _).drewN _).drewN _)
        ·clear Fe Fs Hu NQ hbad;go_wp2;go_quiet (fail);go_wp2;go_quiet (fail);go_wp2_with (go_at_call 158;refine(Hd.out _).mono ?_;rintro e w1 ⟨rfl,rfl⟩);exact Hs.out _ (by first|exact(jQ0 _ _).drewN _ |exact((jQ0 _ _).drewN _).drewN _)
   ·have hp:p=src.size:=by have:=Fe.le;omega
    subst hp;have Fs:=Fe.go;rw[List.drop_of_length_le (by rw[jB];exact jL3 _)]at Fs;have HR:=G (show R=.ok {m with from_:=m.at_,at_:=src.size,fin:=e}by rw[Hu.out,Fs];rfl);have Hs:=G (fun W (hO:Old wr W)=>(⟨r',A,c,Fe.mac.old hO,Fe.kp.old hO,Fe.fr⟩:MStep w g r W src {m with from_:=m.at_,at_:=src.size,fin:=e}));have a1:¬(src.size:Int)<(src.size:Int):=(by omega);clear Fe Fs Hu hlt he;go_wp2;go_quiet (fail);go_wp2;go_end0;rw[HR.out];exact⟨rfl,Hs.out _ (by first|exact(jQ0 _ _).drewN _ |exact((jQ0 _ _).drewN _).drewN _)⟩
end Go.Proofs.YtmmjcbbogokmfaaGreatDoor

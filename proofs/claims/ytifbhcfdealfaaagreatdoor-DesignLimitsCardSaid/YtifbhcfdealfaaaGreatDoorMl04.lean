import Derived.Test.YtifbhcfdealfaaaGreatDoorMl03
set_option maxRecDepth 100000
set_option maxHeartbeats 25600000
namespace Go.Proofs.YtifbhcfdealfaaaGreatDoor
open Go.Proofs.Tryz
open Go.RowKit
theorem vY(s:BA)(p:Nat)(h:p<s.size):(sb s).drop p=s[p]::(sb s).drop (p+1):=by
 have h' :p<(sb s).length:=by rw[jB];exact h
 rw[jM9 h'];rfl
theorem jCR(c:UInt8)(l:LB)(k:Nat):jj (c::l) k 5=match zo c.toNat with|some x=>jj l (k+1) x|none=>.wrong k:=by
 rw[jj,zo];simp only[show¬(5:Nat)=4 by decide,if_false,if_true];split
 ·rfl
 ·split<;>rfl
theorem jDT(c:UInt8):Vi c=(yU c||decide (97<=c.toNat/\c.toNat<=102)):=rfl
structure TxSt(w:World)(g:Nat)(r:Option Nat)(src:BA)(m:Mc)(X:TxR)(p e:Nat)(wr:World)(A:OA)(c:Nat)(r' :Option Nat):Prop where
 le:p<=src.size
 go:X=jj ((sb src).drop p) p e
 mac:Mac wr g r' src {m with at_:=p,from_:=m.at_,fin:=e} A c
 kp:Kp (MX g r) w wr
 fr:MFr w r r'
def jDq(w:World)(g:Nat)(r:Option Nat)(src:BA)(m:Mc)(X:TxR)(wr:World):Prop:=∃p e A c r',(4<=e/\e<=7)/\TxSt w g r src m X p e wr A c r'
section
variable{w wr W:World}{g:Nat}{r r' :Option Nat}{src:BA}{m:Mc}{X:TxR}{p e e' :Nat}{A:OA}{c:Nat}
theorem TxSt.next(h:TxSt w g r src m X p e wr A c r')(hlt:p<src.size)(he:4<=e' /\e' <=7)(hX:X=jj ((sb src).drop (p+1)) (p+1) e')(hW:Kp (MX g r') wr W)(hM:Mac W g r' src {m with at_:=p,from_:=m.at_,fin:=e'} A c):
  jDq w g r src m X (W.setCell ⟨g,1,none⟩ (.int .i64 ((p:Int)+1)))/\src.size-atOf g (W.setCell ⟨g,1,none⟩ (.int .i64 ((p:Int)+1)))<src.size-atOf g wr:=by
 obtain⟨h1,h2⟩:=hM.setAt (p+1);rw[show((p+1:Nat):Int)=(p:Int)+1 by omega]at h1 h2;refine⟨⟨p+1,e',A,c,r',he,hlt,hX,h1,(h.kp.trans hW (MX.trans h.fr)).trans h2 (MX.trans h.fr),h.fr⟩,?_⟩;rw[h1.atOf,h.mac.atOf];simp only;omega
theorem Kp.mx(hk:Kp NoX wr W):Kp (MX g r) wr W:=hk.mono (fun _ _ f=>f.elim)
end
theorem jAB(w:World)(g:Nat)(r:Option Nat)(src:BA)(m:Mc)(A:OA)(c:Nat)(h:Mac w g r src m A c)(hs:src.size<=1000000)(ha:m.at_ <src.size)(F3:m.stack.length<=1000000):
  Calls prog 205 #[.pointer (some ⟨g,0,none⟩)] w (MOut w g r src (ke m ((sb src).drop m.at_))):=by
 have HM:=G (Jh w g r src m A c h 3);have hR:ke m ((sb src).drop m.at_)=ke m ((sb src).drop m.at_):=rfl;generalize Nl:ke m ((sb src).drop m.at_)=R at hR⊢;unfold ke at Nl;by_cases hmay:jz 3 m.stack=false
 ·rw[jJ6 hmay]at Nl;rw[hmay]at HM;have HR:=G Nl.symm;have FI:=h.c1;clear Nl hR hmay h;unfold yv at HM;go_enter func205,ntmps205;go_wp2_with (go_at_call 251;refine HM.out.mono ?_;rintro e w1 ⟨rfl,rfl⟩);refine⟨rfl,?_⟩;rw[HR.out];exact⟨rfl,jQ0 _ _⟩
 ·rw[jJ5 hmay]at Nl;have WY:jz 3 m.stack=true:=(by simpa using hmay);rw[WY]at HM;rw[vY src m.at_ ha,List.drop_one,List.tail_cons]at Nl;obtain⟨s,NO,W8⟩:=KU 3 (by decide) {m with from_:=m.at_,fin:=0} 0 WY;obtain⟨n,hn,hT⟩:=Vr NO;have HT:=G hT;have Hn:=G (show m.stack.length+11*n<=100000000 by simp only at hn;omega);have Fc:=G (show R=match jj ((sb src).drop (m.at_ +1)) (m.at_ +1) 4 with
   | .wrong k=>.error k
   | .shut k=>.ok {m with from_:=m.at_,fin:=0,at_:=k,stack:=s}
   | .ends e=>.ok {m with from_:=m.at_,at_:=src.size,fin:=e}by
    rw[<-Nl];cases hq:jj ((sb src).drop (m.at_ +1)) (m.at_ +1) 4 with
    |wrong k=>rfl
    |shut k=>
     show vI 3 _ k=_;unfold vI;rw[NO]
    |ends e=>
     show Except.ok _=_;rw[jK6,jK8,jB,show m.at_ +(src.size-(m.at_ +1)+1)=src.size by omega])
  clear Nl hR hmay WY NO W8 hn hT;have FI:=h.c1;have Fq:=h.c3;have MN:=h.c4;have Fv:=h.z 1;have Ww:=h.z 3;have PW:=h.z 4;have H0:=G (show jDq w g r src m (jj ((sb src).drop (m.at_ +1)) (m.at_ +1) 4) (((w.setCell ⟨g,4,none⟩ (.int .i64 (m.at_:Int))).setCell ⟨g,3,none⟩ (.int .u8 4)).setCell ⟨g,1,none⟩ (.int .i64 ((m.at_:Int)+1)))from by
   obtain⟨m1,k1⟩:=h.setFrom m.at_;obtain⟨m2,k2⟩:=m1.setFin 4;obtain⟨m3,k3⟩:=m2.setAt (m.at_ +1);rw[show((m.at_ +1:Nat):Int)=(m.at_:Int)+1 by omega]at m3 k3;exact⟨m.at_ +1,4,A,c,r,by omega,ha,rfl,m3,(k1.trans k2 (fun _ _ h=>h)).trans k3 (fun _ _ h=>h),.inl rfl⟩)
  generalize jj ((sb src).drop (m.at_ +1)) (m.at_ +1) 4=X at*;have b1:IntKind.i64.wrap ((m.at_:Int)+1)=(m.at_:Int)+1:=jQ3 _ (by omega);clear h;unfold yv at HM;go_enter func205,ntmps205;go_wp2_with (go_at_call 251;refine HM.out.mono ?_;rintro e w1 ⟨rfl,rfl⟩);go_loopw [] (fun wr=>jDq w g r src m X wr) (fun wr=>src.size-atOf g wr)
  case atStart=>exact H0.out
  case round=>
   clear H0 HM FI Fq MN Fv Ww PW b1;obtain⟨p,e,A,c,r',he,Fb⟩:=hrel;have GT:=Fb.mac.c0;have FI:=Fb.mac.c1;have Fq:=Fb.mac.c3;have Fv:=Fb.mac.z 1;have Ww:=Fb.mac.z 3;simp only at GT FI Fq;by_cases hlt:p<src.size
   ·have Fh:=Fb.go;rw[vY src p hlt]at Fh;have a1:(p:Int)<(src.size:Int):=(by omega);have a2:(0:Int)<=(p:Int):=(by omega);have a3:(p:Int).toNat=p:=(by omega);have a4:IntKind.i64.wrap ((p:Int)+1)=(p:Int)+1:=jQ3 _ (by omega);by_cases e4:e=4
    ·subst e4;rw[jj,jJ6 rfl]at Fh;by_cases y34:src[p].toNat=34
     ·rw[jJ6 y34]at Fh;have HR:=G (show R=.ok {m with from_:=m.at_,fin:=0,at_:=p+1,stack:=s}by rw[Fc.out,Fh]);have WE:=G (fun W (hO:Old wr W)=>yW W g r' src _ A c (Fb.mac.old hO) 3 n s (by decide) HT.out Hn.out);have Fl:=G Fb.kp;have G3:=G Fb.fr;have d1:((src[p].toNat:Int)==34)=true:=by rw[y34];rfl
      clear Fb Fh y34 Fc;unfold yv at WE;go_wp2;go_quiet (fail);go_wp2;go_quiet (fail);go_wp2_with ((go_at_call 252);refine(WE.out _ (by first|exact(jQ0 _ _).drewN _ |exact((jQ0 _ _).drewN _).drewN _)).mono ?_;rintro e w1 ⟨rfl,r2,A2,c2,MR,Fu,MJ⟩;have LS:=MR.c1;have Y6:=MR.c3;have Gw:=MR.z 1;have ET:=MR.z 3;simp only at LS Y6;have Mn:=G MR;have Me:=G Fu;have Bu:=G MJ;clear MR Fu MJ);refine bodyPost_ret (results_none rfl _ _ _) rfl ?_;rw[HR.out];obtain⟨m1,k1⟩:=Mn.out.setAt (p+1);obtain⟨m2,k2⟩:=m1.setFin 0;rw[show((p+1:Nat):Int)=(p:Int)+1 by omega]at k1 m2 k2;have K2:Kp (MX g r') wr w1:=⟨Me.out.os,Me.out.tape,Me.out.output,Me.out.size,Me.out.block⟩;have K:=Fl.out.trans K2 (MX.trans G3.out);have F:MFr w r r2:=G3.out.trans Fl.out.size Bu.out;exact⟨rfl,r2,A2,c2,m2,(K.trans k1 (MX.trans F)).trans k2 (MX.trans F),F⟩
     ·rw[jJ5 y34]at Fh;have d1:((src[p].toNat:Int)==34)=false:=jM3 (by omega);by_cases y92:src[p].toNat=92
      ·rw[jJ6 y92]at Fh;have d2:((src[p].toNat:Int)==92)=true:=by rw[y92];rfl
       have Hs:=G (fun W (hO:Old wr W)=>by
        obtain⟨m1,k1⟩:=(Fb.mac.old hO).setFin 5;exact Fb.next hlt (e' :=5) (by omega) Fh (hO.mx.trans k1 (fun _ _ h=>h)) m1)
       clear Fb Fh y34 y92 Fc;go_wp2;go_quiet (fail);go_wp2;go_quiet (fail);go_wp2;exact Hs.out _ (by first|exact(jQ0 _ _).drewN _ |exact((jQ0 _ _).drewN _).drewN _)
      ·rw[jJ5 y92]at Fh;have d2:((src[p].toNat:Int)==92)=false:=jM3 (by omega);by_cases yr:src[p].toNat<32\/126<src[p].toNat
       ·rw[jJ6 yr]at Fh;have HR:=G (show R=.error p by rw[Fc.out,Fh]);have Fl:=G Fb.kp;clear Fb Fh y34 y92 Fc;by_cases y32:src[p].toNat<32
        ·have d3:(src[p].toNat:Int)<32:=(by omega);clear yr;go_wp2;go_quiet (fail);go_wp2;go_quiet (fail);go_wp2;refine⟨rfl,?_⟩;rw[HR.out];exact⟨rfl,⟨Fl.out.os,Fl.out.tape,Fl.out.output,Fl.out.size,Fl.out.block⟩⟩
        ·have d3:¬(src[p].toNat:Int)<32:=(by omega);have d4:(126:Int)<(src[p].toNat:Int):=(by omega);clear yr;go_wp2;go_quiet (fail);go_wp2;go_quiet (fail);go_wp2;refine⟨rfl,?_⟩;rw[HR.out];exact⟨rfl,⟨Fl.out.os,Fl.out.tape,Fl.out.output,Fl.out.size,Fl.out.block⟩⟩
       ·rw[jJ5 yr]at Fh;have d3:¬(src[p].toNat:Int)<32:=(by omega);have d4:¬(126:Int)<(src[p].toNat:Int):=(by omega);have Hs:=G (fun W (hO:Old wr W)=>Fb.next hlt (e' :=4) (by omega) Fh hO.mx (Fb.mac.old hO));clear Fb Fh y34 y92 yr Fc;go_wp2;go_quiet (fail);go_wp2;go_quiet (fail);go_wp2;exact Hs.out _ (by first|exact(jQ0 _ _).drewN _ |exact((jQ0 _ _).drewN _).drewN _)
    ·by_cases e5:e=5
     ·subst e5;rw[jCR]at Fh;cases hb:zo src[p].toNat with
      |some x=>
       rw[hb]at Fh;have HB:=G (fun W=>(Vo W src[p].toNat p).mono (R' :=fun e w' =>e=.returned (.int .u8 (x:Int))/\W=w') (fun e w' h=>⟨by have:=h.2;rw[hb]at this;exact this,h.1⟩));have hx:4<=x/\x<=7:=by
        unfold zo at hb;split at hb
        ·injection hb;omega
        ·split at hb
         ·injection hb;omega
         ·cases hb
       have Hs:=G (fun W (hO:Old wr W)=>by
        obtain⟨m1,k1⟩:=(Fb.mac.old hO).setFin x;exact Fb.next hlt (e' :=x) hx Fh (hO.mx.trans k1 (fun _ _ h=>h)) m1)
       clear Fb Fh hb Fc hx;go_wp2;go_quiet (fail);go_wp2;go_quiet (fail);go_wp2_with (go_at_call 253;refine(HB.out _).mono ?_;rintro e w1 ⟨rfl,rfl⟩);exact Hs.out _ (by first|exact(jQ0 _ _).drewN _ |exact((jQ0 _ _).drewN _).drewN _)
      |none=>
       rw[hb]at Fh;have HR:=G (show R=.error p by rw[Fc.out,Fh]);have Fl:=G Fb.kp;have HB:=G (fun W=>(Vo W src[p].toNat p).mono (R' :=fun e w' =>e=.panicked (KO p)/\W=w') (fun e w' h=>⟨by have:=h.2;rw[hb]at this;exact this,h.1⟩));clear Fb Fh hb Fc;go_wp2;go_quiet (fail);go_wp2;go_quiet (fail);go_wp2_with (go_at_call 253;refine(HB.out _).mono ?_;rintro e w1 ⟨rfl,rfl⟩);refine⟨rfl,?_⟩;rw[HR.out];exact⟨rfl,⟨Fl.out.os,Fl.out.tape,Fl.out.output,Fl.out.size,Fl.out.block⟩⟩
     ·have GR:=jDT src[p];have Hd:=G (fun W=>zJ W src[p]);unfold bv at Hd;generalize SS:yU src[p]=d at*;clear SS;rcases (show e=6\/e=7 by omega)with rfl|rfl
      ·rw[jj,jJ5 (by decide),jJ5 (by decide)]at Fh;by_cases G8:d=false/\(src[p].toNat<97\/102<src[p].toNat)
       ·obtain⟨rfl,hy⟩:=G8;rw[jJ6 (by rw[GR,jK3 (by omega)];rfl)]at Fh;have HR:=G (show R=.error p by rw[Fc.out,Fh]);have Fl:=G Fb.kp;clear Fb Fh Fc GR;by_cases y97:src[p].toNat<97
        ·have d3:(src[p].toNat:Int)<97:=(by omega);clear hy;go_wp2;go_quiet (fail);go_wp2;go_quiet (fail);go_wp2_with (go_at_call 219;refine(Hd.out _).mono ?_;rintro e w1 ⟨rfl,rfl⟩);refine⟨rfl,?_⟩;rw[HR.out];exact⟨rfl,⟨Fl.out.os,Fl.out.tape,Fl.out.output,Fl.out.size,Fl.out.block⟩⟩
        ·have d3:¬(src[p].toNat:Int)<97:=(by omega);have d4:(102:Int)<(src[p].toNat:Int):=(by omega);clear hy;go_wp2;go_quiet (fail);go_wp2;go_quiet (fail);go_wp2_with (go_at_call 219;refine(Hd.out _).mono ?_;rintro e w1 ⟨rfl,rfl⟩);refine⟨rfl,?_⟩;rw[HR.out];exact⟨rfl,⟨Fl.out.os,Fl.out.tape,Fl.out.output,Fl.out.size,Fl.out.block⟩⟩
       ·rw[jJ5 (by
         rw[GR];cases d
         ·have:97<=src[p].toNat/\src[p].toNat<=102:=by
           rcases Nat.lt_or_ge src[p].toNat 97 with h1|h1
           ·exact absurd ⟨rfl,.inl h1⟩ G8
           ·rcases Nat.lt_or_ge 102 src[p].toNat with h2|h2
            ·exact absurd ⟨rfl,.inr h2⟩ G8
            ·exact⟨h1,h2⟩
          rw[jK5 this];decide
         ·simp)]at Fh
        have Hs:=G (fun W (hO:Old wr W)=>by
         obtain⟨m1,k1⟩:=(Fb.mac.old hO).setFin 7;exact Fb.next hlt (e' :=7) (by omega) Fh (hO.mx.trans k1 (fun _ _ h=>h)) m1)
        cases d
        ·have d3:¬(src[p].toNat:Int)<97:=fun h=>G8 ⟨rfl,.inl (by omega)⟩;have d4:¬(102:Int)<(src[p].toNat:Int):=fun h=>G8 ⟨rfl,.inr (by omega)⟩;clear Fb Fh Fc GR G8;go_wp2;go_quiet (fail);go_wp2;go_quiet (fail);go_wp2_with (go_at_call 219;refine(Hd.out _).mono ?_;rintro e w1 ⟨rfl,rfl⟩);exact Hs.out _ (by first|exact(jQ0 _ _).drewN _ |exact((jQ0 _ _).drewN _).drewN _)
        ·clear Fb Fh Fc GR G8;go_wp2;go_quiet (fail);go_wp2;go_quiet (fail);go_wp2_with (go_at_call 219;refine(Hd.out _).mono ?_;rintro e w1 ⟨rfl,rfl⟩);exact Hs.out _ (by first|exact(jQ0 _ _).drewN _ |exact((jQ0 _ _).drewN _).drewN _)
      ·rw[jj,jJ5 (by decide),jJ5 (by decide)]at Fh;by_cases G8:d=false/\(src[p].toNat<97\/102<src[p].toNat)
       ·obtain⟨rfl,hy⟩:=G8;rw[jJ6 (by rw[GR,jK3 (by omega)];rfl)]at Fh;have HR:=G (show R=.error p by rw[Fc.out,Fh]);have Fl:=G Fb.kp;clear Fb Fh Fc GR;by_cases y97:src[p].toNat<97
        ·have d3:(src[p].toNat:Int)<97:=(by omega);clear hy;go_wp2;go_quiet (fail);go_wp2;go_quiet (fail);go_wp2_with (go_at_call 219;refine(Hd.out _).mono ?_;rintro e w1 ⟨rfl,rfl⟩);refine⟨rfl,?_⟩;rw[HR.out];exact⟨rfl,⟨Fl.out.os,Fl.out.tape,Fl.out.output,Fl.out.size,Fl.out.block⟩⟩
        ·have d3:¬(src[p].toNat:Int)<97:=(by omega);have d4:(102:Int)<(src[p].toNat:Int):=(by omega);clear hy;go_wp2;go_quiet (fail);go_wp2;go_quiet (fail);go_wp2_with (go_at_call 219;refine(Hd.out _).mono ?_;rintro e w1 ⟨rfl,rfl⟩);refine⟨rfl,?_⟩;rw[HR.out];exact⟨rfl,⟨Fl.out.os,Fl.out.tape,Fl.out.output,Fl.out.size,Fl.out.block⟩⟩
       ·rw[jJ5 (by
         rw[GR];cases d
         ·have:97<=src[p].toNat/\src[p].toNat<=102:=by
           rcases Nat.lt_or_ge src[p].toNat 97 with h1|h1
           ·exact absurd ⟨rfl,.inl h1⟩ G8
           ·rcases Nat.lt_or_ge 102 src[p].toNat with h2|h2
            ·exact absurd ⟨rfl,.inr h2⟩ G8
            ·exact⟨h1,h2⟩
          rw[jK5 this];decide
         ·simp)]at Fh
        have Hs:=G (fun W (hO:Old wr W)=>by
         obtain⟨m1,k1⟩:=(Fb.mac.old hO).setFin 8;obtain⟨m2,k2⟩:=m1.setFin 4;exact Fb.next hlt (e' :=4) (by omega) Fh ((hO.mx.trans k1 (fun _ _ h=>h)).trans k2 (fun _ _ h=>h)) m2)
        cases d
        ·have d3:¬(src[p].toNat:Int)<97:=fun h=>G8 ⟨rfl,.inl (by omega)⟩;have d4:¬(102:Int)<(src[p].toNat:Int):=fun h=>G8 ⟨rfl,.inr (by omega)⟩;clear Fb Fh Fc GR G8;go_wp2;go_quiet (fail);go_wp2;go_quiet (fail);go_wp2_with (go_at_call 219;refine(Hd.out _).mono ?_;rintro e w1 ⟨rfl,rfl⟩);exact Hs.out _ (by first|exact(jQ0 _ _).drewN _ |exact((jQ0 _ _).drewN _).drewN _)
        ·clear Fb Fh Fc GR G8;go_wp2;go_quiet (fail);go_wp2;go_quiet (fail);go_wp2_with (go_at_call 219;refine(Hd.out _).mono ?_;rintro e w1 ⟨rfl,rfl⟩);exact Hs.out _ (by first|exact(jQ0 _ _).drewN _ |exact((jQ0 _ _).drewN _).drewN _)
   ·have hp:p=src.size:=by have:=Fb.le;omega
    subst hp;have Fh:=Fb.go;rw[List.drop_of_length_le (by rw[jB];exact jL3 _)]at Fh;have HR:=G (show R=.ok {m with from_:=m.at_,at_:=src.size,fin:=e}by rw[Fc.out,Fh];rfl);have Hs:=G (fun W (hO:Old wr W)=>(⟨r',A,c,Fb.mac.old hO,Fb.kp.old hO,Fb.fr⟩:MStep w g r W src {m with from_:=m.at_,at_:=src.size,fin:=e}));have a1:¬(src.size:Int)<(src.size:Int):=(by omega);clear Fb Fh Fc hlt he;go_wp2;go_quiet (fail);go_wp2;go_end0;rw[HR.out];exact⟨rfl,Hs.out _ (by first|exact(jQ0 _ _).drewN _ |exact((jQ0 _ _).drewN _).drewN _)⟩
end Go.Proofs.YtifbhcfdealfaaaGreatDoor

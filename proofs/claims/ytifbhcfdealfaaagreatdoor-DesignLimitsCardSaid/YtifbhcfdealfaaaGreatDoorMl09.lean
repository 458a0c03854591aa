import Derived.Test.YtifbhcfdealfaaaGreatDoorMl08
import Derived.Defers
import Derived.Recover
set_option maxRecDepth 100000
set_option maxHeartbeats 25600000
namespace Go.Proofs.YtifbhcfdealfaaaGreatDoor
open Go.Proofs.Tryz
open Go.RowKit
theorem QY{m m' :Mc}{c:UInt8}{l:LB}(h5:∀n∈m.stack,n<85)(h:vP m (c::l)=.ok m'):m'.stack.length<=m.stack.length+12:=by
 rw[vP]at h;split at h
 ·injection h with h;rw[<-h];exact Nat.le_add_right _ _
 ·split at h
  ·unfold vS at h;simp only at h;injection h with h;split at h<;>(rw[<-h];exact Nat.le_add_right _ _)
  ·split at h
   ·unfold ke at h;split at h
    ·cases h
    ·rename_i hm;split at h
     ·cases h
     ·exact yq (by decide) h5 (by simpa using hm) h
     ·injection h with h;rw[<-h];exact Nat.le_add_right _ _
   ·split at h
    ·unfold kU at h;simp only at h;split at h
     ·rename_i hc;exact yq (zB _) h5 hc.2.2 h
     ·unfold vU at h;split at h
      ·cases h
      ·injection h with h;rw[<-h];exact Nat.le_add_right _ _
    ·unfold kf at h;simp only at h;split at h
     ·rename_i hc;split at h
      ·rename_i hh;exact yq (kD _) h5 hh.2.1 h
      ·exact yq (kD _) h5 hc.2 h
     ·split at h
      ·cases h
      ·rename_i hn;split at h
       ·injection h with h;rw[<-h];exact Nat.le_add_right _ _
       ·split at h
        ·cases h
        ·refine yq (kD _) h5 ?_ h;rw[not_or]at hn;simpa using hn.2
theorem jEH(s:BA)(a:Nat)(h:a<s.size):¬(sb s).length<=a:=by rw[jB];omega
structure RunSt(w:World)(g:Nat)(r:Option Nat)(src:BA)(X:Out)(f:Nat)(m:Mc)(wr:World)(A:OA)(c:Nat)(r' :Option Nat):Prop where
 go:X=VZ (sb src) f m
 fuel:src.size+1<=f+m.at_
 le:m.at_ <=src.size
 len:m.stack.length<=5+12*m.at_
 mac:Mac wr g r' src m A c
 kp:Kp (MX g r) w wr
 fr:MFr w r r'
theorem RunSt.next{w wr w' :World}{g:Nat}{r r' :Option Nat}{src:BA}{X:Out}{f:Nat}{m m' :Mc}{A:OA}{c:Nat}(h:RunSt w g r src X f m wr A c r')(hlt:m.at_ <src.size)
  (hs:vP m ((sb src).drop m.at_)=.ok m') (F3:MStep wr g r' w' src m'):
  (∃f m' A c r',RunSt w g r src X f m' w' A c r')/\src.size-atOf g w' <src.size-atOf g wr:=by
 obtain⟨r2,A2,c2,hM,hk,hf⟩:=F3;have Fh:=h.go;have Dr:=h.fuel;obtain⟨f',rfl⟩:∃f',f=f' +1:=⟨f-1,by omega⟩;rw[VZ,jJ5 (jEH src m.at_ hlt),hs]at Fh;have Dc:=hs;rw[vY src m.at_ hlt]at hs;have h1:=Vs hs;have h2:=QY h.mac.sym hs;have h3:=h.len;rw[<-vY src m.at_ hlt,jK8,jB]at h1;refine⟨⟨f',m',A2,c2,r2,Fh,by omega,by omega,by omega,hM,h.kp.trans hk (MX.trans h.fr),h.fr.trans h.kp.size hf⟩,?_⟩;rw[hM.atOf,h.mac.atOf];omega
theorem RunSt.wrong{w wr w' :World}{g:Nat}{r r' :Option Nat}{src:BA}{X:Out}{f k:Nat}{m:Mc}{A:OA}{c:Nat}(h:RunSt w g r src X f m wr A c r')(hlt:m.at_ <src.size)
  (hs:vP m ((sb src).drop m.at_)=.error k) (hk:Kp (MX g r') wr w'):X=.error k/\Kp (MX g r) w w' :=by
 have Fh:=h.go;have Dr:=h.fuel;obtain⟨f',rfl⟩:∃f',f=f' +1:=⟨f-1,by omega⟩;rw[VZ,jJ5 (jEH src m.at_ hlt),hs]at Fh;exact⟨Fh,h.kp.trans hk (MX.trans h.fr)⟩
theorem jCZ(w:World)(hg:Sg w)(g:Nat)(r:Option Nat)(src:BA)(A:OA)(c:Nat)(h:Mac w g r src startM A c)(hs:src.size<=60000):
  Calls prog 149 #[.pointer (some ⟨g,0,none⟩)] w (MOut w g r src (kC (sb src))):=by
 have H0:=G (show RunSt w g r src (kC (sb src)) (src.size+1) startM w A c r from⟨by rw[kC,jB],jL3 _,Nat.zero_le _,by decide,h,jQ0 _ _,.inl rfl⟩);have HG:=G (fun W (hk:Kp (MX g r) w W)=>hg.mx h hk);clear hg h;generalize kC (sb src)=X at*;go_enter func149,ntmps149;go_wp2;go_loopw [] (fun wr=>∃f m A c r',RunSt w g r src X f m wr A c r') (fun wr=>src.size-atOf g wr)
 case atStart=>exact⟨_,_,_,_,_,H0.out⟩
 case round=>
  clear H0;obtain⟨f,m,A,c,r',Fb⟩:=hrel;have GT:=Fb.mac.c0;have FI:=Fb.mac.c1;have Fv:=Fb.mac.z 1;have hlen:m.stack.length<=1000000:=by have:=Fb.len;have:=Fb.le;omega
  by_cases hlt:m.at_ <src.size
  ·have Gk:=G Fb;have EE:=G (HG.out wr Fb.kp);have a1:(m.at_:Int)<(src.size:Int):=(by omega);have a2:(0:Int)<=(m.at_:Int):=(by omega);have a3:(m.at_:Int).toNat=m.at_:=(by omega);have a4:IntKind.i64.wrap ((m.at_:Int)+1)=(m.at_:Int)+1:=jQ3 _ (by omega);have F5:vP m ((sb src).drop m.at_)=if vM src[m.at_]=true then .ok {m with at_:=m.at_ +1}else if src[m.at_].toNat=35 then vS m ((sb src).drop m.at_)else if src[m.at_].toNat=34 then ke m ((sb src).drop m.at_)
     else if jR src[m.at_]=true then kU m ((sb src).drop m.at_)else kf m src[m.at_] ((sb src).drop (m.at_ +1)):=by
    rw[vY src m.at_ hlt,vP]
   by_cases hb:vM src[m.at_]=true
   ·rw[jJ6 hb]at F5;have Gm:=jM8 hb;have Hn:=G (fun W (hO:Old wr W)=>by
     obtain⟨m1,k1⟩:=(Fb.mac.old hO).setAt (m.at_ +1);rw[show((m.at_ +1:Nat):Int)=(m.at_:Int)+1 by omega]at m1 k1;exact Fb.next (w' :=W.setCell ⟨g,1,none⟩ (.int .i64 ((m.at_:Int)+1))) hlt F5 ⟨r',A,c,m1,(hO.mx).trans k1 (fun _ _ h=>h),.inl rfl⟩)
    clear F5 Fb hb;rcases Gm with Gm|Gm|Gm|Gm
    all_goals
     have d1:((src[m.at_].toNat:Int)==32)=decide (src[m.at_].toNat=32):=by rw[Gm];rfl
     have d2:((src[m.at_].toNat:Int)==9)=decide (src[m.at_].toNat=9):=by rw[Gm];rfl
     have d3:((src[m.at_].toNat:Int)==10)=decide (src[m.at_].toNat=10):=by rw[Gm];rfl
     have d4:((src[m.at_].toNat:Int)==13)=decide (src[m.at_].toNat=13):=by rw[Gm];rfl
     simp only[Gm]at d1 d2 d3 d4;go_wp2;go_quiet (fail);go_wp2;go_quiet (fail);go_wp2;exact Hn.out _ (by first|exact jQ0 _ _ |exact(jQ0 _ _).drewN _ |exact((jQ0 _ _).drewN _).drewN _)
   ·rw[jJ5 hb]at F5;have d1:((src[m.at_].toNat:Int)==32)=false:=jM3 (fun e=>hb (jK5 (by omega)));have d2:((src[m.at_].toNat:Int)==9)=false:=jM3 (fun e=>hb (jK5 (by omega)));have d3:((src[m.at_].toNat:Int)==10)=false:=jM3 (fun e=>hb (jK5 (by omega)));have d4:((src[m.at_].toNat:Int)==13)=false:=jM3 (fun e=>hb (jK5 (by omega)));clear hb;by_cases Gv:src[m.at_].toNat=35
    ·rw[jJ6 Gv]at F5;have d5:((src[m.at_].toNat:Int)==35)=true:=by rw[Gv];rfl
     have HC:=G (fun W (hO:Old wr W)=>qj W g r' src m A c (Fb.mac.old hO) (by omega) (by omega));have HN:=G (fun W (hO:Old wr W) w' m' (hm:vS m ((sb src).drop m.at_)=.ok m') (hX:MStep W g r' w' src m')=>Fb.next (w' :=w') hlt (F5.trans hm) (MStep.trans hO.mx (.inl rfl) hX));clear F5 Fb Gv;go_wp2;go_quiet (fail);go_wp2;go_quiet (fail);go_wp2_with (go_at_call 204;refine(HC.out _ (by first|exact jQ0 _ _ |exact(jQ0 _ _).drewN _ |exact((jQ0 _ _).drewN _).drewN _)).mono ?_;rintro e w1 ⟨rfl,m',hm,hX⟩);exact HN.out _ (by first|exact jQ0 _ _ |exact(jQ0 _ _).drewN _ |exact((jQ0 _ _).drewN _).drewN _) _ _ hm hX
    ·rw[jJ5 Gv]at F5;have d5:((src[m.at_].toNat:Int)==35)=false:=jM3 (by omega);clear Gv;by_cases h34:src[m.at_].toNat=34
     ·rw[jJ6 h34]at F5;have d6:((src[m.at_].toNat:Int)==34)=true:=by rw[h34];rfl
      clear h34;have HC:=G (fun W (hO:Old wr W)=>jAB W g r' src m A c (Fb.mac.old hO) (by omega) hlt hlen);generalize hSP:ke m ((sb src).drop m.at_)=SP at*;cases SP with
      |ok m' =>
       have HN:=G (fun W (hO:Old wr W) w' (hX:MStep W g r' w' src m')=>Fb.next (w' :=w') hlt F5 (MStep.trans hO.mx (.inl rfl) hX));clear F5 Fb hSP;go_wp2;go_quiet (fail);go_wp2;go_quiet (fail);go_wp2_with (go_at_call 205;refine(HC.out _ (by first|exact jQ0 _ _ |exact(jQ0 _ _).drewN _ |exact((jQ0 _ _).drewN _).drewN _)).mono ?_;rintro e w1 ⟨rfl,hX⟩);exact HN.out _ (by first|exact jQ0 _ _ |exact(jQ0 _ _).drewN _ |exact((jQ0 _ _).drewN _).drewN _) _ hX
      |error k=>
       have HN:=G (fun W (hO:Old wr W) w' (hX:Kp (MX g r') W w')=>Fb.wrong (w' :=w') hlt F5 ((hO.mx).trans hX (fun _ _ h=>h)));clear F5 Fb hSP;go_wp2;go_quiet (fail);go_wp2;go_quiet (fail);go_wp2_with (go_at_call 205;refine(HC.out _ (by first|exact jQ0 _ _ |exact(jQ0 _ _).drewN _ |exact((jQ0 _ _).drewN _).drewN _)).mono ?_;rintro e w1 ⟨rfl,hX⟩);refine⟨rfl,?_⟩;obtain⟨h1,h2⟩:=HN.out _ (by first|exact jQ0 _ _ |exact(jQ0 _ _).drewN _ |exact((jQ0 _ _).drewN _).drewN _) _ hX;rw[h1];exact⟨rfl,h2⟩
     ·rw[jJ5 h34]at F5;have d6:((src[m.at_].toNat:Int)==34)=false:=jM3 (by omega);clear h34;have Hw:=G (fun W=>kw W src[m.at_]);unfold bv at Hw;by_cases hw:jR src[m.at_]=true
      ·rw[jJ6 hw]at F5;rw[hw]at Hw;have HC:=G (fun W (hO:Old wr W)=>QK W (EE.out.old hO) g r' src m A c (Fb.mac.old hO) (by omega) hlt hw hlen);clear hw;generalize hSP:kU m ((sb src).drop m.at_)=SP at*;cases SP with
       |ok m' =>
        have HN:=G (fun W (hO:Old wr W) w' (hX:MStep W g r' w' src m')=>Fb.next (w' :=w') hlt F5 (MStep.trans hO.mx (.inl rfl) hX));clear F5 Fb hSP;go_wp2;go_quiet (fail);go_wp2;go_quiet (fail);go_wp2_with (first|(go_at_call 165;refine(Hw.out _).mono ?_;rintro e w1 ⟨rfl,rfl⟩)|(go_at_call 206;refine(HC.out _ (by first|exact jQ0 _ _ |exact(jQ0 _ _).drewN _ |exact((jQ0 _ _).drewN _).drewN _)).mono ?_;rintro e w1 ⟨rfl,hX⟩));exact HN.out _ (by first|exact jQ0 _ _ |exact(jQ0 _ _).drewN _ |exact((jQ0 _ _).drewN _).drewN _) _ hX
       |error k=>
        have HN:=G (fun W (hO:Old wr W) w' (hX:Kp (MX g r') W w')=>Fb.wrong (w' :=w') hlt F5 ((hO.mx).trans hX (fun _ _ h=>h)));clear F5 Fb hSP;go_wp2;go_quiet (fail);go_wp2;go_quiet (fail);go_wp2_with (first|(go_at_call 165;refine(Hw.out _).mono ?_;rintro e w1 ⟨rfl,rfl⟩)|(go_at_call 206;refine(HC.out _ (by first|exact jQ0 _ _ |exact(jQ0 _ _).drewN _ |exact((jQ0 _ _).drewN _).drewN _)).mono ?_;rintro e w1 ⟨rfl,hX⟩));refine⟨rfl,?_⟩;obtain⟨h1,h2⟩:=HN.out _ (by first|exact jQ0 _ _ |exact(jQ0 _ _).drewN _ |exact((jQ0 _ _).drewN _).drewN _) _ hX;rw[h1];exact⟨rfl,h2⟩
      ·rw[jJ5 hw]at F5;rw[Bool.not_eq_true]at hw;rw[hw]at Hw;have HC:=G (fun W (hO:Old wr W)=>jAH W (EE.out.old hO) g r' src m A c (Fb.mac.old hO) (by omega) hlt hlen);clear hw;generalize hSP:kf m src[m.at_] ((sb src).drop (m.at_ +1))=SP at*;cases SP with
       |ok m' =>
        have HN:=G (fun W (hO:Old wr W) w' (hX:MStep W g r' w' src m')=>Fb.next (w' :=w') hlt F5 (MStep.trans hO.mx (.inl rfl) hX));clear F5 Fb hSP;go_wp2;go_quiet (fail);go_wp2;go_quiet (fail);go_wp2_with (first|(go_at_call 165;refine(Hw.out _).mono ?_;rintro e w1 ⟨rfl,rfl⟩)|(go_at_call 207;refine(HC.out _ (by first|exact jQ0 _ _ |exact(jQ0 _ _).drewN _ |exact((jQ0 _ _).drewN _).drewN _)).mono ?_;rintro e w1 ⟨rfl,hX⟩));exact HN.out _ (by first|exact jQ0 _ _ |exact(jQ0 _ _).drewN _ |exact((jQ0 _ _).drewN _).drewN _) _ hX
       |error k=>
        have HN:=G (fun W (hO:Old wr W) w' (hX:Kp (MX g r') W w')=>Fb.wrong (w' :=w') hlt F5 ((hO.mx).trans hX (fun _ _ h=>h)));clear F5 Fb hSP;go_wp2;go_quiet (fail);go_wp2;go_quiet (fail);go_wp2_with (first|(go_at_call 165;refine(Hw.out _).mono ?_;rintro e w1 ⟨rfl,rfl⟩)|(go_at_call 207;refine(HC.out _ (by first|exact jQ0 _ _ |exact(jQ0 _ _).drewN _ |exact((jQ0 _ _).drewN _).drewN _)).mono ?_;rintro e w1 ⟨rfl,hX⟩));refine⟨rfl,?_⟩;obtain⟨h1,h2⟩:=HN.out _ (by first|exact jQ0 _ _ |exact(jQ0 _ _).drewN _ |exact((jQ0 _ _).drewN _).drewN _) _ hX;rw[h1];exact⟨rfl,h2⟩
  ·have NB:src.size<=m.at_:=(by omega);have Fh:=Fb.go;have Dr:=Fb.fuel;have Gx:=Fb.le;obtain⟨f',rfl⟩:∃f',f=f' +1:=⟨f-1,by omega⟩;rw[VZ,jJ6 (by rw[jB];exact NB)]at Fh;have HR:=G Fh;have a1:¬(m.at_:Int)<(src.size:Int):=(by omega);have Hs:=G (fun n=>(⟨r',A,c,Fb.mac.drewN n,Fb.kp.drewN n,Fb.fr⟩:MStep w g r (wr.drewN n) src m));clear Fb Fh hlt;go_wp2;go_quiet (fail);go_wp2;go_end0;rw[HR.out];exact⟨rfl,Hs.out _⟩
theorem jDo(v:Value)(w:World):(Instr.typeAssert (.iface 242 v) 20 242 true).run prog w=.ok (.tuple #[v,.bool true]) w:=by
 simp[Instr.typeAssert,run_underlying underlying242]
theorem jFB(w:World)(pa pb:Addr)(x:Int)(y:Bool)(k:Nat)(ha:w.cell? pa=some (.int .i64 x))(hb:w.cell? pb=some (.bool y))(Is:w.frozen? pa=false)(EQ:w.frozen? pb=false)(Fe:pa.block≠pb.block):
  CallsD prog 148 #[.pointer (some pa),.pointer (some pb)] (.panicking (KO k)) w fun e u' w' =>
   e=.returned (.tuple #[])/\u' =.panicking [{v:=.iface 242 (.int .i64 (k:Int)),recovered:=true}]/\w' =(w.setCell pa (.int .i64 (k:Int))).setCell pb (.bool false):=by
 refine callsD_of_wpS func148 rfl fun c₀ cs hu=> ?_;unfold KO at hu;apply wpS_seq;apply wpS_region;simp[wpOpsS,go_sem,recoverD,hu,ntmps148,Exit.thenS];refine wpS_of_wp ?_;clear hu;simp only[Array.replicate_succ,Array.replicate_zero,List.push_toArray,List.append_toArray,jN8,jN6,jJ1,jJ2,jJ3];have Iu:=fun w=>jDo (.int .i64 (k:Int)) w;have FY:(w.setCell pa (.int .i64 (k:Int))).cell? pb=some (.bool y):=(World.cell?_of_block (Below.heap_setCell w pa _ pb.block (Ne.symm Fe))).trans hb;have EP:(w.setCell pa (.int .i64 (k:Int))).frozen? pb=false:=(World.frozen?_of_block (Below.heap_setCell w pa _ pb.block (Ne.symm Fe))).trans EQ;go_wp2;simp[bodyPostS,results,results148]
theorem QA(w:World)(pa pb:Addr):
  CallsD prog 148 #[.pointer (some pa),.pointer (some pb)] .returning w fun e u' w' =>e=.returned (.tuple #[])/\u' =.returning/\w' =w:=by
 refine callsD_of_wpS func148 rfl fun c₀ cs hu=> ?_;apply wpS_seq;apply wpS_region;simp[wpOpsS,go_sem,recoverD,hu,ntmps148,Exit.thenS];refine wpS_of_wp ?_;simp only[Array.replicate_succ,Array.replicate_zero,List.push_toArray,List.append_toArray,jN8,jN6,jJ1,jJ2,jJ3];go_wp2;cases c₀
 simp_all [bodyPostS,results,results148]
def jDs(w:World)(src:BA)(o:Out)(e:Ending)(w' :World):Prop:=
 match o with
 | .ok m=>∃g r A c,e=.returned (.tuple #[.pointer (some ⟨g,0,none⟩),.int .i64 (src.size:Int),.bool true])/\Mac w' g r src m A c/\Old w w' /\w.heap.size<=g/\(∀k,r=some k->w.heap.size<=k)
 | .error k=>∃p,e=.returned (.tuple #[.pointer p,.int .i64 (k:Int),.bool false])/\Old w w'
theorem XU(w:World)(src:BA)(h8:8<=w.heap.size):
  Mac ((w.alloc (.cells #[.int .u8 5,.int .u8 58,.int .u8 4,.int .u8 1,.int .u8 23] 203)).alloc (.cells #[.string src,.int .i64 0,.slice (some ⟨w.heap.size,0,none⟩) 5 5,.int .u8 0,.int .i64 0] 202)) (w.heap.size+1) (some w.heap.size) src startM (some ⟨w.heap.size,0,none⟩) 5:=by
 have e1:(w.alloc (.cells #[.int .u8 5,.int .u8 58,.int .u8 4,.int .u8 1,.int .u8 23] 203)).heap.size=w.heap.size+1:=(by simp);refine⟨by omega,?_,?_,rfl,by decide⟩
 ·rw[<-e1];exact jQ2 _ _ _
 ·refine⟨rfl,.inr ⟨w.heap.size,5,#[.int .u8 5,.int .u8 58,.int .u8 4,.int .u8 1,.int .u8 23],rfl,h8,?_,by decide,by decide,rfl,rfl⟩⟩;exact(jQ2 w 203 #[.int .u8 5,.int .u8 58,.int .u8 4,.int .u8 1,.int .u8 23]).alloc _
theorem VF(w:World)(hg:Sg w)(src:BA)(hs:src.size<=60000)(h8:8<=w.heap.size):Calls prog 106 #[.string src] w (jDs w src (kC (sb src))):=by
 have Dh:∀(fn:Fn) (first cap:Array Value) (w:World),(Instr.makeFunc fn first cap).run prog w=.ok (.func fn first cap) w:=fun _ _ _ _=>rfl
 go_enter_defers func106,ntmps106
 go_wp2_with fail;have hA:((w.alloc (.cells #[.int .i64 0] 3)).alloc (.cells #[.bool false] 4)).heap.size=w.heap.size+1+1:=(by simp);have hM:=XU ((w.alloc (.cells #[.int .i64 0] 3)).alloc (.cells #[.bool false] 4)) src (by omega);rw[hA]at hM;have hO:Old w ((((w.alloc (.cells #[.int .i64 0] 3)).alloc (.cells #[.bool false] 4)).alloc (.cells #[.int .u8 5,.int .u8 58,.int .u8 4,.int .u8 1,.int .u8 23] 203)).alloc (.cells #[.string src,.int .i64 0,.slice (some ⟨w.heap.size+1+1,0,none⟩) 5 5,.int .u8 0,.int .i64 0] 202)):=((((jQ0 NoX w).alloc _).alloc _).alloc _).alloc _;have ND:Blk ((((w.alloc (.cells #[.int .i64 0] 3)).alloc (.cells #[.bool false] 4)).alloc (.cells #[.int .u8 5,.int .u8 58,.int .u8 4,.int .u8 1,.int .u8 23] 203)).alloc (.cells #[.string src,.int .i64 0,.slice (some ⟨w.heap.size+1+1,0,none⟩) 5 5,.int .u8 0,.int .i64 0] 202)) w.heap.size 3 #[.int .i64 0]:=(((jQ2 w 3 #[.int .i64 0]).alloc _).alloc _).alloc _;have FY:Blk ((((w.alloc (.cells #[.int .i64 0] 3)).alloc (.cells #[.bool false] 4)).alloc (.cells #[.int .u8 5,.int .u8 58,.int .u8 4,.int .u8 1,.int .u8 23] 203)).alloc (.cells #[.string src,.int .i64 0,.slice (some ⟨w.heap.size+1+1,0,none⟩) 5 5,.int .u8 0,.int .i64 0] 202)) (w.heap.size+1) 4 #[.bool false]:=by
  have:=jQ2 (w.alloc (.cells #[.int .i64 0] 3)) 4 #[.bool false];rw[show(w.alloc (.cells #[.int .i64 0] 3)).heap.size=w.heap.size+1 by simp]at this;exact(this.alloc _).alloc _
 generalize ((((w.alloc (.cells #[.int .i64 0] 3)).alloc (.cells #[.bool false] 4)).alloc (.cells #[.int .u8 5,.int .u8 58,.int .u8 4,.int .u8 1,.int .u8 23] 203)).alloc (.cells #[.string src,.int .i64 0,.slice (some ⟨w.heap.size+1+1,0,none⟩) 5 5,.int .u8 0,.int .i64 0] 202))=W at*;refine(jCZ W (hg.old hO) _ _ src _ _ hM hs).mono ?_;clear hM hA;intro e w1 Rf;generalize kC (sb src)=X at*;generalize hS:w.heap.size=S at*;cases X with
 |ok m=>
  obtain⟨rfl,r2,A2,c2,MR,hk,hf⟩:=Rf;have ND:=ND.kp hk (fun h=>by rcases h with e|e;omega;have:=jL5 e;omega);have FY:=FY.kp hk (fun h=>by rcases h with e|e;omega;have:=jL5 e;omega);have q1:w1.cell? ⟨S,0,none⟩=some (.int .i64 0):=ND.at_ 0 rfl;have q2:w1.cell? ⟨S+1,0,none⟩=some (.bool false):=FY.at_ 0 rfl;have z1:=ND.frozen 0;have z2:=FY.frozen 0;have LU:=(ND.set_ 0 (.int .i64 (src.size:Int))).far (p:=⟨S+1,0,none⟩) (by simp) (.bool true);have LT:=(FY.far (p:=⟨S,0,none⟩) (by simp) (.int .i64 (src.size:Int))).set_ 0 (.bool true);have Fu:Kp (fun k=>k=S\/k=S+1) w1 ((w1.setCell ⟨S,0,none⟩ (.int .i64 (src.size:Int))).setCell ⟨S+1,0,none⟩ (.bool true)):=
   ((jQ0 _ w1).setCell (p:=⟨S,0,none⟩) (fun _=>.inl rfl) _).setCell (p:=⟨S+1,0,none⟩) (fun _=>.inr rfl) _
  have WP:∀k,r2=some k->¬(k=S\/k=S+1):=by
   intro k MG he;rcases hf with rfl|⟨k2,rfl,Gx⟩
   ·have:=jL5 MG;omega
   ·have:=jL5 MG;have:=FY.lt;have h9:=(‹Blk W (S+1) _ _›).lt;omega
  have FQ:=G (show jDs w src (.ok m) (.returned (.tuple #[.pointer (some ⟨S+1+1+1,0,none⟩),.int .i64 (src.size:Int),.bool true])) ((w1.setCell ⟨S,0,none⟩ (.int .i64 (src.size:Int))).setCell ⟨S+1,0,none⟩ (.bool true))from by
   refine⟨S+1+1+1,r2,A2,c2,rfl,MR.kp Fu (by omega) WP,?_,by omega,fun k MG=> ?_⟩
   ·refine(hO.trans hk (fun b hb hx=> ?_)).trans Fu (fun b hb hx=> ?_)
    ·rcases hx with hx|hx
     ·omega
     ·have:=jL5 hx;omega
    ·rcases hx with hx|hx<;>omega
   ·have:=WP k MG;rcases hf with rfl|⟨k2,rfl,Gx⟩
    ·have:=jL5 MG;omega
    ·have:=jL5 MG;have:=hO.size;omega)
  clear MR hk hf Fu WP hO;go_wp2;generalize ((w1.setCell ⟨S,0,none⟩ (.int .i64 (src.size:Int))).setCell ⟨S+1,0,none⟩ (.bool true))=WF at*;have f1:WF.cell? ⟨S,0,none⟩=some (.int .i64 (src.size:Int)):=LU.at_ 0 rfl;have f2:WF.cell? ⟨S+1,0,none⟩=some (.bool true):=LT.at_ 0 rfl;refine leaves_cons (f:=148) (args:= #[.pointer (some ⟨S,0,none⟩),.pointer (some ⟨S+1,0,none⟩)]) (by simp) (by simp[go_sem]) ?_;refine(QA WF ⟨S,0,none⟩ ⟨S+1,0,none⟩).mono ?_;rintro e u' w'' ⟨rfl,rfl,rfl⟩;simp[Leaves,settle,results,results106,go_sem,f1,f2];exact FQ.out
 |error k=>
  obtain⟨rfl,hk⟩:=Rf;have ND:=ND.kp hk (fun h=>by rcases h with e|e;omega;have:=jL5 e;omega);have FY:=FY.kp hk (fun h=>by rcases h with e|e;omega;have:=jL5 e;omega);have q1:w1.cell? ⟨S,0,none⟩=some (.int .i64 0):=ND.at_ 0 rfl;have q2:w1.cell? ⟨S+1,0,none⟩=some (.bool false):=FY.at_ 0 rfl;have z1:=ND.frozen 0;have z2:=FY.frozen 0;have LU:=(ND.set_ 0 (.int .i64 (k:Int))).far (p:=⟨S+1,0,none⟩) (by simp) (.bool false);have LT:=(FY.far (p:=⟨S,0,none⟩) (by simp) (.int .i64 (k:Int))).set_ 0 (.bool false);have Fu:Kp (fun k=>k=S\/k=S+1) w1 ((w1.setCell ⟨S,0,none⟩ (.int .i64 (k:Int))).setCell ⟨S+1,0,none⟩ (.bool false)):=
   ((jQ0 _ w1).setCell (p:=⟨S,0,none⟩) (fun _=>.inl rfl) _).setCell (p:=⟨S+1,0,none⟩) (fun _=>.inr rfl) _
  have FQ:=G (show jDs w src (.error k) (.returned (.tuple #[.pointer (some ⟨S+1+1+1,0,none⟩),.int .i64 (k:Int),.bool false])) ((w1.setCell ⟨S,0,none⟩ (.int .i64 (k:Int))).setCell ⟨S+1,0,none⟩ (.bool false))from by
   refine⟨_,rfl,(hO.trans hk (fun b hb hx=> ?_)).trans Fu (fun b hb hx=> ?_)⟩
   ·rcases hx with hx|hx
    ·omega
    ·have:=jL5 hx;omega
   ·rcases hx with hx|hx<;>omega)
  have Hc:=G (jFB w1 ⟨S,0,none⟩ ⟨S+1,0,none⟩ 0 false k q1 q2 z1 z2 (by simp));clear hk Fu hO;go_wp2;refine leaves_cons (f:=148) (args:= #[.pointer (some ⟨S,0,none⟩),.pointer (some ⟨S+1,0,none⟩)]) (by simp) (by simp[go_sem]) ?_;refine Hc.out.mono ?_;rintro e u' w'' ⟨rfl,rfl,rfl⟩;generalize ((w1.setCell ⟨S,0,none⟩ (.int .i64 (k:Int))).setCell ⟨S+1,0,none⟩ (.bool false))=WF at*;have f1:WF.cell? ⟨S,0,none⟩=some (.int .i64 (k:Int)):=LU.at_ 0 rfl;have f2:WF.cell? ⟨S+1,0,none⟩=some (.bool false):=LT.at_ 0 rfl;simp[Leaves,settle,results,results106,go_sem,f1,f2];exact FQ.out
theorem jA7:(prog.info? 5).map (fun i=>(i.zero,i.size,i.bytes))=some (some (.int .u8 0),1,1):=by kernel_rfl
def iv(i:Int):Value:=.int .i64 i
structure MNd where
 n:Nd
 A:OA
 c:Nat
 vA:OA
 vc:Nat
structure MSt where
 s:Stp
 pA:OA
 pc:Nat
 eA:OA
 ec:Nat
def ndC(x:MNd):List Value:=[iv x.n.op,.string x.n.name,iv x.n.vk,iv x.n.vn,.string x.n.vt,.slice x.vA x.n.vs.length x.vc,.slice x.A x.n.kids.length x.c]
def prC(p:Prm):List Value:=[.string p.name,iv p.at_,iv p.kind]
def efC(p:Eff):List Value:=[.string p.name,iv p.at_,iv p.worth]
def stC(x:MSt):List Value:=[.string x.s.name,iv x.s.at_,iv x.s.order,.slice x.pA x.s.params.length x.pc,.string x.s.in_,iv x.s.inAt,iv x.s.when_,.slice x.eA x.s.effects.length x.ec]
def atC(a:Atr):List Value:=[.string a.name,iv a.at_,iv a.order,iv a.kind,.bool a.opt,iv a.dflt,iv a.when_]
def sgC(a:Stg):List Value:=[.string a.name,iv a.at_,iv a.order,.string a.in_,iv a.inAt,iv a.opens,iv a.closes]
def miC(a:Mil):List Value:=[.string a.name,iv a.at_,iv a.order,.string a.in_,iv a.inAt,iv a.when_]
def oC(x:Int):List Value:=[iv x]
structure Sl where
 aA:OA
 ac:Nat
 gA:OA
 gc:Nat
 mA:OA
 mc:Nat
 pA:OA
 pc:Nat
 nA:OA
 nc:Nat
 oA:OA
 oc:Nat
 z:Nat->Prop
def jr(t:Tre)(s:Sl):List Value:=[.string t.name,iv t.at_,.slice s.aA t.attrs.length s.ac,.slice s.gA t.stages.length s.gc,.slice s.mA t.miles.length s.mc,.slice s.pA t.steps.length s.pc,.slice s.nA t.nodes.length s.nc,.slice s.oA t.ats.length s.oc]
def OX(g:Nat)(s:Sl):Nat->Prop:=fun b=>b=g\/s.aA.map (·.block)=some b\/s.gA.map (·.block)=some b\/s.mA.map (·.block)=some b\/s.pA.map (·.block)=some b\/s.nA.map (·.block)=some b\/s.oA.map (·.block)=some b
def AX(g:Nat)(s:Sl):Nat->Prop:=fun b=>OX g s b\/s.z b
structure Fr(g:Nat)(s s' :Sl)(w w' :World):Prop where
 kp:Kp (OX g s) w w'
 own:∀b,b<w.heap.size->OX g s' b->OX g s b
 z:s'.z=s.z
theorem Fr.refl(g:Nat)(s:Sl)(w:World):Fr g s s w w:=⟨jQ0 _ _,fun _ _ h=>h,rfl⟩
theorem Fr.trans{g:Nat}{s s1 s2:Sl}{w w1 w2:World}(h:Fr g s s1 w w1)(k:Fr g s1 s2 w1 w2):Fr g s s2 w w2:=
 ⟨h.kp.trans k.kp h.own,fun b hb e=>h.own b hb (k.own b (jL8 hb h.kp.size) e),k.z.trans h.z⟩
theorem Fr.of_g{g:Nat}(s:Sl){w w' :World}(h:Kp (GX g) w w'):Fr g s s w w' :=⟨h.mono (fun _ _ e=>.inl e),fun _ _ h=>h,rfl⟩
theorem Fr.of_old{g:Nat}(s:Sl){w w' :World}(h:Old w w'):Fr g s s w w' :=⟨h.mono (fun _ _ e=>e.elim),fun _ _ h=>h,rfl⟩
theorem ZY{g:Nat}{s s' :Sl}{w w' :World}{z n:Nat}{A:OA}{xs:List Value}(h:Rd w z A n xs)(ha:Av (AX g s) n A)(hz:0<z)(f:Fr g s s' w w'):Rd w' z A n xs/\Av (AX g s') n A:=
 ⟨h.kp f.kp (fun hn ad ea hx=>ha hn ad ea (.inl hx)),fun hn ad ea hx=>ha hn ad ea (hx.elim (fun e=>.inl (f.own _ (h.lt hz hn ea) e)) (fun e=>.inr (by rw[<-f.z];exact e)))⟩
structure OkN(w:World)(X:Nat->Prop)(x:MNd):Prop where
 kids:Rd w 1 x.A x.n.kids.length (x.n.kids.map iv)
 kav:Av X x.n.kids.length x.A
 vs:Rd w 1 x.vA x.n.vs.length (x.n.vs.map sv)
 vav:Av X x.n.vs.length x.vA
structure OkP(w:World)(X:Nat->Prop)(x:MSt):Prop where
 ps:Rd w 3 x.pA x.s.params.length (x.s.params.flatMap prC)
 pav:Av X x.s.params.length x.pA
 es:Rd w 3 x.eA x.s.effects.length (x.s.effects.flatMap efC)
 eav:Av X x.s.effects.length x.eA
def OkA(_:World)(_:Nat->Prop)(_:Atr):Prop:=True
def OkG(_:World)(_:Nat->Prop)(_:Stg):Prop:=True
def OkM(_:World)(_:Nat->Prop)(_:Mil):Prop:=True
def OkO(_:World)(_:Nat->Prop)(_:Int):Prop:=True
theorem OkN.fr{g:Nat}{s s' :Sl}{w w' :World}{x:MNd}(h:OkN w (AX g s) x)(f:Fr g s s' w w'):OkN w' (AX g s') x:=
 ⟨(ZY h.kids h.kav (by decide) f).1,(ZY h.kids h.kav (by decide) f).2,(ZY h.vs h.vav (by decide) f).1,(ZY h.vs h.vav (by decide) f).2⟩
theorem OkP.fr{g:Nat}{s s' :Sl}{w w' :World}{x:MSt}(h:OkP w (AX g s) x)(f:Fr g s s' w w'):OkP w' (AX g s') x:=
 ⟨(ZY h.ps h.pav (by decide) f).1,(ZY h.ps h.pav (by decide) f).2,(ZY h.es h.eav (by decide) f).1,(ZY h.es h.eav (by decide) f).2⟩
structure TRows(w:World)(X:Nat->Prop)(t:Tre)(s:Sl)(ns:List MNd)(ps:List MSt):Prop where
 rA:w.ownsRow 8 60 7 (.slice s.aA t.attrs.length s.ac) t.attrs.length (t.attrs.flatMap atC)
 rG:w.ownsRow 8 83 7 (.slice s.gA t.stages.length s.gc) t.stages.length (t.stages.flatMap sgC)
 rM:w.ownsRow 8 85 6 (.slice s.mA t.miles.length s.mc) t.miles.length (t.miles.flatMap miC)
 rP:w.ownsRow 8 66 8 (.slice s.pA t.steps.length s.pc) t.steps.length (ps.flatMap stC)
 rN:w.ownsRow 8 146 7 (.slice s.nA t.nodes.length s.nc) t.nodes.length (ns.flatMap ndC)
 rO:w.ownsRow 8 3 1 (.slice s.oA t.ats.length s.oc) t.ats.length (t.ats.flatMap oC)
 pe:ps.map (·.s)=t.steps
 ne:ns.map (·.n)=t.nodes
 po:∀x∈ps,OkP w X x
 no:∀x∈ns,OkN w X x
structure St(w:World)(g:Nat)(src:BA)(r:Rdr)(s:Sl):Prop where
 sg:Sg w
 g8:8<=g
 small:src.size<=1000000
 box:Rb w g src r (jr r.tree s)
 rows:∃ns ps,TRows w (AX g s) r.tree s ns ps
 from_:r.from_ <=r.at_
 at_:r.at_ <=src.size
 t58:r.t<58
 zlt:∀b,s.z b->b<w.heap.size
 z8:∀b,s.z b->¬b<8
 zno:∀b,OX g s b->¬s.z b
theorem zS{w:World}{b1 b2:Nat}{e1 e2:TypeId}{z1 z2:Nat}{v1 v2:Value}{n1 n2:Nat}{x1 x2:List Value}(h1:w.ownsRow b1 e1 z1 v1 n1 x1)(h2:w.ownsRow b2 e2 z2 v2 n2 x2)(Fe:e1≠e2):
  ∀k,v1.ownBlock=some k->v2.ownBlock≠some k:=by
 intro k hk;rcases h1.2 with⟨rfl,_⟩|⟨g',cap,cur,rfl,_,hh,_⟩
 ·cases hk
 ·have:g' =k:=(by simpa [Value.ownBlock]using hk);subst this;exact jH (t:=e1) h2 hh (fun e=>Fe e.symm)
section
variable{w w' w1 w2:World}{g:Nat}{src:BA}{r r' :Rdr}{s s' :Sl}{ns:List MNd}{ps:List MSt}{t:Tre}
theorem TRows.keep(h:TRows w (AX g s) t s ns ps){cs:Array Value}(hb:Blk w g 205 cs)(hk:Kp (GX g) w w'):TRows w' (AX g s) t s ns ps:=by
 have f:Fr g s s w w' :=Fr.of_g s hk;have K:∀{e:TypeId} {z:Nat} {v:Value} {n:Nat} {xs:List Value},w.ownsRow 8 e z v n xs->e≠205->w'.ownsRow 8 e z v n xs:=fun ho Fe=>
  jJ ho hk (fun k e e' =>jH ho hb Fe (by rw[e];exact congrArg some e'))
 exact⟨K h.rA (by decide),K h.rG (by decide),K h.rM (by decide),K h.rP (by decide),K h.rN (by decide),K h.rO (by decide),h.pe,h.ne,fun x hx=>(h.po x hx).fr f,fun x hx=>(h.no x hx).fr f⟩
theorem TRows.ox8(h:TRows w (AX g s) t s ns ps)(hg:8<=g)(b:Nat)(hb:OX g s b):8<=b/\(b=g\/b<w.heap.size):=by
 have K:∀{e:TypeId} {z:Nat} {A:OA} {c n:Nat} {xs:List Value},w.ownsRow 8 e z (.slice A n c) n xs->A.map (·.block)=some b->8<=b/\(b=g\/b<w.heap.size):=fun ho e=>
  have:=ho.lt b (by rw[jA];exact e)
  ⟨this.1,.inr this.2⟩
 rcases hb with e|e|e|e|e|e|e
 ·exact⟨by omega,.inl e⟩
 ·exact K h.rA e
 ·exact K h.rG e
 ·exact K h.rM e
 ·exact K h.rP e
 ·exact K h.rN e
 ·exact K h.rO e
theorem St.ox8(h:St w g src r s)(b:Nat)(hb:OX g s b):8<=b/\b<w.heap.size:=by
 obtain⟨ns,ps,hR⟩:=h.rows;have h1:=hR.ox8 h.g8 b hb;have h2:=h.box.lt;exact⟨h1.1,h1.2.elim (fun e=>by omega) id⟩
theorem St.sgf(h:St w g src r s)(f:Fr g s s' w w'):Sg w' :=h.sg.kp f.kp (fun e=>by have:=(h.ox8 _ e).1;omega) (fun e=>by have:=(h.ox8 _ e).1;omega)
theorem St.scan(h:St w g src r s)(hb:Rb w' g src r' (jr r.tree s))(ht:r'.tree=r.tree)(hk:Kp (GX g) w w')(h1:r'.from_ <=r'.at_)(h2:r'.at_ <=src.size)(h3:r'.t<58):St w' g src r' s/\Fr g s s w w' :=by
 obtain⟨ns,ps,hR⟩:=h.rows;exact⟨⟨h.sgf (Fr.of_g s hk),h.g8,h.small,by rw[ht];exact hb,⟨ns,ps,by rw[ht];exact hR.keep h.box hk⟩,h1,h2,h3,fun b hz=>jL8 (h.zlt b hz) hk.size,h.z8,h.zno⟩,Fr.of_g s hk⟩
theorem St.old(h:St w g src r s)(ho:Old w w'):St w' g src r s:=(h.scan (h.box.old ho) rfl (ho.mono (fun _ _ e=>e.elim)) h.from_ h.at_ h.t58).1
theorem St.drewN(h:St w g src r s)(n:Nat):St (w.drewN n) g src r s:=h.old ((jQ0 _ _).drewN n)
theorem St.lt(h:St w g src r s):g<w.heap.size:=h.box.lt
theorem St.zgrow(h:St w g src r s){Y:Nat->Prop}(hk:Kp Y w w')(hY:∀b,Y b->s.z b)(Z:Nat->Prop)(hZ:∀b,Z b->(s.z b\/w.heap.size<=b)/\b<w'.heap.size):St w' g src r {s with z:=Z}:=by
 obtain⟨ns,ps,hR⟩:=h.rows;have WR:∀b,OX g s b->¬Y b:=fun b hx hy=>h.zno b hx (hY b hy);have Gh:=fun{z n:Nat} {A:OA} {xs:List Value} (hr:Rd w z A n xs) (hz:0<z) (ha:Av (AX g s) n A)=>
  (show Rd w' z A n xs/\Av (AX g {s with z:=Z}) n A from⟨hr.kp hk (fun hn ad ea hy=>ha hn ad ea (.inr (hY _ hy))),fun hn ad ea hx=>hx.elim (fun e=>ha hn ad ea (.inl e)) (fun e=>(hZ _ e).1.elim (fun e=>ha hn ad ea (.inr e)) (fun e=>by have:=hr.lt hz hn ea;omega))⟩)
 have K:∀{e:TypeId} {z:Nat} {A:OA} {c n:Nat} {xs:List Value},w.ownsRow 8 e z (.slice A n c) n xs->(∀b,A.map (·.block)=some b->OX g s b)->w'.ownsRow 8 e z (.slice A n c) n xs:=fun ho Fz=>
  jJ ho hk (fun b e=>WR b (Fz b (by rw[<-jA];exact e)))
 refine⟨h.sg.kp hk (fun e=> ?_) (fun e=> ?_),h.g8,h.small,h.box.kp hk (WR _ (.inl rfl)),⟨ns,ps,?_⟩,h.from_,h.at_,h.t58,fun b hz=>(hZ b hz).2,fun b hz=>(hZ b hz).1.elim (h.z8 b) (fun e=>by have:=h.lt;have:=h.g8;omega),fun b hx hz=>(hZ b hz).1.elim (h.zno b hx) (fun e=>by have:=(h.ox8 b hx).2;omega)⟩
 ·exact h.z8 _ (hY _ e) (by decide)
 ·exact h.z8 _ (hY _ e) (by decide)
 ·exact⟨K hR.rA (fun b e=>.inr (.inl e)),K hR.rG (fun b e=>.inr (.inr (.inl e))),K hR.rM (fun b e=>.inr (.inr (.inr (.inl e)))),K hR.rP (fun b e=>.inr (.inr (.inr (.inr (.inl e))))),K hR.rN (fun b e=>.inr (.inr (.inr (.inr (.inr (.inl e)))))),K hR.rO (fun b e=>.inr (.inr (.inr (.inr (.inr (.inr e)))))),hR.pe,hR.ne,
   fun x hx=>⟨(Gh (hR.po x hx).ps (by decide) (hR.po x hx).pav).1,(Gh (hR.po x hx).ps (by decide) (hR.po x hx).pav).2,(Gh (hR.po x hx).es (by decide) (hR.po x hx).eav).1,(Gh (hR.po x hx).es (by decide) (hR.po x hx).eav).2⟩,
   fun x hx=>⟨(Gh (hR.no x hx).kids (by decide) (hR.no x hx).kav).1,(Gh (hR.no x hx).kids (by decide) (hR.no x hx).kav).2,(Gh (hR.no x hx).vs (by decide) (hR.no x hx).vav).1,(Gh (hR.no x hx).vs (by decide) (hR.no x hx).vav).2⟩⟩
theorem St.growc(hs:St w g src r s)(r' :Rdr)(s' :Sl)(i:Nat){T:TypeId}{z n0 c0 n:Nat}{A0:OA}{xs0 xs:List Value}(N0:w.ownsRow 8 T z (.slice A0 n0 c0) n0 xs0)(hT:T≠205)(h1:Old w w1){A' :OA}{c' :Nat}(Gg:w1.grownBy w2 (A0.map (·.block)))
  (hA:A'.map (·.block)=A0.map (·.block)\/A'.map (·.block)=some w1.heap.size) (ho:w2.ownsRow 8 T z (.slice A' n c') n xs)
  (hC:(rdC src r (jr r.tree s)).set i (.slice A' n c')=rdC src r' (jr r'.tree s')) (hX:∀b,A0.map (·.block)=some b->OX g s b) (AU:∀b,OX g s' b->A'.map (·.block)=some b\/OX g s b) (hz:s'.z=s.z) (h2:r'.from_=r.from_) (h3:r'.at_=r.at_) (h4:r'.t=r.t)
  (hR:Fr g s s' w (w2.setCell ⟨g,i,none⟩ (.slice A' n c'))->(w2.setCell ⟨g,i,none⟩ (.slice A' n c')).ownsRow 8 T z (.slice A' n c') n xs->(∀{e:TypeId} {z:Nat} {v:Value} {n1:Nat} {xs:List Value},w.ownsRow 8 e z v n1 xs->e≠205->e≠T->(w2.setCell ⟨g,i,none⟩ (.slice A' n c')).ownsRow 8 e z v n1 xs)->∃ns ps,TRows (w2.setCell ⟨g,i,none⟩ (.slice A' n c')) (AX g s') r'.tree s' ns ps):
  St (w2.setCell ⟨g,i,none⟩ (.slice A' n c')) g src r' s' /\Fr g s s' w (w2.setCell ⟨g,i,none⟩ (.slice A' n c')):=by
 have hb:=hs.box;have LN:A0.map (·.block)≠some g:=by rw[<-jA];exact jH N0 hb hT
 have FY:Rb w2 g src r (jr r.tree s):=(hb.old h1).kp (Kp.grown (jQ0 (fun b=>A0.map (·.block)=some b) w1) Gg (fun _ e _=>e)) LN;have Fu:Kp (fun b=>A0.map (·.block)=some b) w w2:=Kp.grown (h1.mono (fun _ _ e=>e.elim)) Gg (fun _ e _=>e);have Lj:Kp (GX g) w2 (w2.setCell ⟨g,i,none⟩ (.slice A' n c')):=(jQ0 (GX g) _).setCell (p:=⟨g,i,none⟩) (fun _=>rfl) _;have hf:Fr g s s' w (w2.setCell ⟨g,i,none⟩ (.slice A' n c')):=⟨(Fu.mono (fun b _ e=>hX b e)).trans Lj (fun b _ e=>.inl e),fun b hlt hx=>(AU b hx).elim (fun e=>hX b (hA.elim (fun hA=>by rw[<-hA];exact e) (fun hA=>by rw[hA]at e;injection e with e;have:=h1.size;omega))) id,hz⟩;refine⟨⟨hs.sgf hf,hs.g8,hs.small,?_,hR hf (jJ ho Lj (fun k e e' =>jH ho FY hT (by rw[e];exact congrArg some e'))) (fun ho Fe WT=>
  jJ (jJ ho Fu (fun k e e' =>zS ho N0 WT k e (by rw[jA];exact e'))) Lj (fun k e e' =>jH ho hb Fe (by rw[e];exact congrArg some e'))),by rw[h2,h3];exact hs.from_,by rw[h3];exact hs.at_,by rw[h4];exact hs.t58,fun b hx=>jL8 (hs.zlt b (by rw[<-hz];exact hx)) hf.kp.size,fun b hx=>hs.z8 b (by rw[<-hz];exact hx),fun b hx hy=>hs.zno b (hf.own b (hs.zlt b (by rw[<-hz];exact hy)) hx) (by rw[<-hz];exact hy)⟩,hf⟩
 have:=Blk.set_ FY i (.slice A' n c');unfold Rb;rw[jJ1,hC]at this;exact this
theorem St.growA(hs:St w g src r s)(h:TRows w (AX g s) r.tree s ns ps)(x:Atr)(_hx:OkA w (AX g s) x)(h1:Old w w1){A' :OA}{c' :Nat}(Gg:w1.grownBy w2 (s.aA.map (·.block)))
  (hA:A'.map (·.block)=s.aA.map (·.block)\/A'.map (·.block)=some w1.heap.size) (ho:w2.ownsRow 8 60 7 (.slice A' (r.tree.attrs.length+1) c') (r.tree.attrs.length+1) (r.tree.attrs.flatMap atC++atC x)):
  St (w2.setCell ⟨g,7,none⟩ (.slice A' (r.tree.attrs.length+1) c')) g src {r with tree:={r.tree with attrs:=r.tree.attrs++[x]}} {s with aA:=A',ac:=c'}/\
  Fr g s {s with aA:=A',ac:=c'} w (w2.setCell ⟨g,7,none⟩ (.slice A' (r.tree.attrs.length+1) c')):=by
 refine hs.growc _ _ 7 h.rA (by decide) h1 Gg hA ho (by simp[rdC,jr]) (fun b e=>by simp[OX,e]) (fun b e=>by unfold OX at e⊢;simp only at e;rcases e with e|e|e|e|e|e|e<;>simp[e]) rfl rfl rfl rfl fun hf HO K=>⟨ns,ps,?_⟩;constructor
 case pe=>first|exact h.pe|(rw[jN3,h.pe];rfl)
 case ne=>first|exact h.ne|(rw[jN3,h.ne];rfl)
 case po=>first|exact fun y hy=>(h.po y hy).fr hf|exact fun y hy=>(jM6 hy).elim (fun hy=>(h.po y hy).fr hf) (fun hy=>by rw[jM7 hy];exact _hx.fr hf)
 case no=>first|exact fun y hy=>(h.no y hy).fr hf|exact fun y hy=>(jM6 hy).elim (fun hy=>(h.no y hy).fr hf) (fun hy=>by rw[jM7 hy];exact _hx.fr hf)
 all_goals first|exact K (by first|exact h.rA|exact h.rG|exact h.rM|exact h.rP|exact h.rN|exact h.rO) (by decide) (by decide)|(rw[<-List.flatMap_singleton atC x,<-jN5]at HO;simpa using HO)
theorem St.growG(hs:St w g src r s)(h:TRows w (AX g s) r.tree s ns ps)(x:Stg)(_hx:OkG w (AX g s) x)(h1:Old w w1){A' :OA}{c' :Nat}(Gg:w1.grownBy w2 (s.gA.map (·.block)))
  (hA:A'.map (·.block)=s.gA.map (·.block)\/A'.map (·.block)=some w1.heap.size) (ho:w2.ownsRow 8 83 7 (.slice A' (r.tree.stages.length+1) c') (r.tree.stages.length+1) (r.tree.stages.flatMap sgC++sgC x)):
  St (w2.setCell ⟨g,8,none⟩ (.slice A' (r.tree.stages.length+1) c')) g src {r with tree:={r.tree with stages:=r.tree.stages++[x]}} {s with gA:=A',gc:=c'}/\
  Fr g s {s with gA:=A',gc:=c'} w (w2.setCell ⟨g,8,none⟩ (.slice A' (r.tree.stages.length+1) c')):=by
 refine hs.growc _ _ 8 h.rG (by decide) h1 Gg hA ho (by simp[rdC,jr]) (fun b e=>by simp[OX,e]) (fun b e=>by unfold OX at e⊢;simp only at e;rcases e with e|e|e|e|e|e|e<;>simp[e]) rfl rfl rfl rfl fun hf HO K=>⟨ns,ps,?_⟩;constructor
 case pe=>first|exact h.pe|(rw[jN3,h.pe];rfl)
 case ne=>first|exact h.ne|(rw[jN3,h.ne];rfl)
 case po=>first|exact fun y hy=>(h.po y hy).fr hf|exact fun y hy=>(jM6 hy).elim (fun hy=>(h.po y hy).fr hf) (fun hy=>by rw[jM7 hy];exact _hx.fr hf)
 case no=>first|exact fun y hy=>(h.no y hy).fr hf|exact fun y hy=>(jM6 hy).elim (fun hy=>(h.no y hy).fr hf) (fun hy=>by rw[jM7 hy];exact _hx.fr hf)
 all_goals first|exact K (by first|exact h.rA|exact h.rG|exact h.rM|exact h.rP|exact h.rN|exact h.rO) (by decide) (by decide)|(rw[<-List.flatMap_singleton sgC x,<-jN5]at HO;simpa using HO)
theorem St.growM(hs:St w g src r s)(h:TRows w (AX g s) r.tree s ns ps)(x:Mil)(_hx:OkM w (AX g s) x)(h1:Old w w1){A' :OA}{c' :Nat}(Gg:w1.grownBy w2 (s.mA.map (·.block)))
  (hA:A'.map (·.block)=s.mA.map (·.block)\/A'.map (·.block)=some w1.heap.size) (ho:w2.ownsRow 8 85 6 (.slice A' (r.tree.miles.length+1) c') (r.tree.miles.length+1) (r.tree.miles.flatMap miC++miC x)):
  St (w2.setCell ⟨g,9,none⟩ (.slice A' (r.tree.miles.length+1) c')) g src {r with tree:={r.tree with miles:=r.tree.miles++[x]}} {s with mA:=A',mc:=c'}/\
  Fr g s {s with mA:=A',mc:=c'} w (w2.setCell ⟨g,9,none⟩ (.slice A' (r.tree.miles.length+1) c')):=by
 refine hs.growc _ _ 9 h.rM (by decide) h1 Gg hA ho (by simp[rdC,jr]) (fun b e=>by simp[OX,e]) (fun b e=>by unfold OX at e⊢;simp only at e;rcases e with e|e|e|e|e|e|e<;>simp[e]) rfl rfl rfl rfl fun hf HO K=>⟨ns,ps,?_⟩;constructor
 case pe=>first|exact h.pe|(rw[jN3,h.pe];rfl)
 case ne=>first|exact h.ne|(rw[jN3,h.ne];rfl)
 case po=>first|exact fun y hy=>(h.po y hy).fr hf|exact fun y hy=>(jM6 hy).elim (fun hy=>(h.po y hy).fr hf) (fun hy=>by rw[jM7 hy];exact _hx.fr hf)
 case no=>first|exact fun y hy=>(h.no y hy).fr hf|exact fun y hy=>(jM6 hy).elim (fun hy=>(h.no y hy).fr hf) (fun hy=>by rw[jM7 hy];exact _hx.fr hf)
 all_goals first|exact K (by first|exact h.rA|exact h.rG|exact h.rM|exact h.rP|exact h.rN|exact h.rO) (by decide) (by decide)|(rw[<-List.flatMap_singleton miC x,<-jN5]at HO;simpa using HO)
theorem St.growP(hs:St w g src r s)(h:TRows w (AX g s) r.tree s ns ps)(x:MSt)(_hx:OkP w (AX g s) x)(h1:Old w w1){A' :OA}{c' :Nat}(Gg:w1.grownBy w2 (s.pA.map (·.block)))
  (hA:A'.map (·.block)=s.pA.map (·.block)\/A'.map (·.block)=some w1.heap.size) (ho:w2.ownsRow 8 66 8 (.slice A' (r.tree.steps.length+1) c') (r.tree.steps.length+1) (ps.flatMap stC++stC x)):
  St (w2.setCell ⟨g,10,none⟩ (.slice A' (r.tree.steps.length+1) c')) g src {r with tree:={r.tree with steps:=r.tree.steps++[x.s]}} {s with pA:=A',pc:=c'}/\
  Fr g s {s with pA:=A',pc:=c'} w (w2.setCell ⟨g,10,none⟩ (.slice A' (r.tree.steps.length+1) c')):=by
 refine hs.growc _ _ 10 h.rP (by decide) h1 Gg hA ho (by simp[rdC,jr]) (fun b e=>by simp[OX,e]) (fun b e=>by unfold OX at e⊢;simp only at e;rcases e with e|e|e|e|e|e|e<;>simp[e]) rfl rfl rfl rfl fun hf HO K=>⟨ns,(ps++[x]),?_⟩;constructor
 case pe=>first|exact h.pe|(rw[jN3,h.pe];rfl)
 case ne=>first|exact h.ne|(rw[jN3,h.ne];rfl)
 case po=>first|exact fun y hy=>(h.po y hy).fr hf|exact fun y hy=>(jM6 hy).elim (fun hy=>(h.po y hy).fr hf) (fun hy=>by rw[jM7 hy];exact _hx.fr hf)
 case no=>first|exact fun y hy=>(h.no y hy).fr hf|exact fun y hy=>(jM6 hy).elim (fun hy=>(h.no y hy).fr hf) (fun hy=>by rw[jM7 hy];exact _hx.fr hf)
 all_goals first|exact K (by first|exact h.rA|exact h.rG|exact h.rM|exact h.rP|exact h.rN|exact h.rO) (by decide) (by decide)|(rw[<-List.flatMap_singleton stC x,<-jN5]at HO;simpa using HO)
theorem St.growN(hs:St w g src r s)(h:TRows w (AX g s) r.tree s ns ps)(x:MNd)(_hx:OkN w (AX g s) x)(h1:Old w w1){A' :OA}{c' :Nat}(Gg:w1.grownBy w2 (s.nA.map (·.block)))
  (hA:A'.map (·.block)=s.nA.map (·.block)\/A'.map (·.block)=some w1.heap.size) (ho:w2.ownsRow 8 146 7 (.slice A' (r.tree.nodes.length+1) c') (r.tree.nodes.length+1) (ns.flatMap ndC++ndC x)):
  St (w2.setCell ⟨g,11,none⟩ (.slice A' (r.tree.nodes.length+1) c')) g src {r with tree:={r.tree with nodes:=r.tree.nodes++[x.n]}} {s with nA:=A',nc:=c'}/\
  Fr g s {s with nA:=A',nc:=c'} w (w2.setCell ⟨g,11,none⟩ (.slice A' (r.tree.nodes.length+1) c')):=by
 refine hs.growc _ _ 11 h.rN (by decide) h1 Gg hA ho (by simp[rdC,jr]) (fun b e=>by simp[OX,e]) (fun b e=>by unfold OX at e⊢;simp only at e;rcases e with e|e|e|e|e|e|e<;>simp[e]) rfl rfl rfl rfl fun hf HO K=>⟨(ns++[x]),ps,?_⟩;constructor
 case pe=>first|exact h.pe|(rw[jN3,h.pe];rfl)
 case ne=>first|exact h.ne|(rw[jN3,h.ne];rfl)
 case po=>first|exact fun y hy=>(h.po y hy).fr hf|exact fun y hy=>(jM6 hy).elim (fun hy=>(h.po y hy).fr hf) (fun hy=>by rw[jM7 hy];exact _hx.fr hf)
 case no=>first|exact fun y hy=>(h.no y hy).fr hf|exact fun y hy=>(jM6 hy).elim (fun hy=>(h.no y hy).fr hf) (fun hy=>by rw[jM7 hy];exact _hx.fr hf)
 all_goals first|exact K (by first|exact h.rA|exact h.rG|exact h.rM|exact h.rP|exact h.rN|exact h.rO) (by decide) (by decide)|(rw[<-List.flatMap_singleton ndC x,<-jN5]at HO;simpa using HO)
theorem St.growO(hs:St w g src r s)(h:TRows w (AX g s) r.tree s ns ps)(x:Int)(_hx:OkO w (AX g s) x)(h1:Old w w1){A' :OA}{c' :Nat}(Gg:w1.grownBy w2 (s.oA.map (·.block)))
  (hA:A'.map (·.block)=s.oA.map (·.block)\/A'.map (·.block)=some w1.heap.size) (ho:w2.ownsRow 8 3 1 (.slice A' (r.tree.ats.length+1) c') (r.tree.ats.length+1) (r.tree.ats.flatMap oC++oC x)):
  St (w2.setCell ⟨g,12,none⟩ (.slice A' (r.tree.ats.length+1) c')) g src {r with tree:={r.tree with ats:=r.tree.ats++[x]}} {s with oA:=A',oc:=c'}/\
  Fr g s {s with oA:=A',oc:=c'} w (w2.setCell ⟨g,12,none⟩ (.slice A' (r.tree.ats.length+1) c')):=by
 refine hs.growc _ _ 12 h.rO (by decide) h1 Gg hA ho (by simp[rdC,jr]) (fun b e=>by simp[OX,e]) (fun b e=>by unfold OX at e⊢;simp only at e;rcases e with e|e|e|e|e|e|e<;>simp[e]) rfl rfl rfl rfl fun hf HO K=>⟨ns,ps,?_⟩;constructor
 case pe=>first|exact h.pe|(rw[jN3,h.pe];rfl)
 case ne=>first|exact h.ne|(rw[jN3,h.ne];rfl)
 case po=>first|exact fun y hy=>(h.po y hy).fr hf|exact fun y hy=>(jM6 hy).elim (fun hy=>(h.po y hy).fr hf) (fun hy=>by rw[jM7 hy];exact _hx.fr hf)
 case no=>first|exact fun y hy=>(h.no y hy).fr hf|exact fun y hy=>(jM6 hy).elim (fun hy=>(h.no y hy).fr hf) (fun hy=>by rw[jM7 hy];exact _hx.fr hf)
 all_goals first|exact K (by first|exact h.rA|exact h.rG|exact h.rM|exact h.rP|exact h.rN|exact h.rO) (by decide) (by decide)|(rw[<-List.flatMap_singleton oC x,<-jN5]at HO;simpa using HO)
end
theorem KW:∀(l:LB) (k:Nat),strLen l=some k->k<=l.length
 |[],k,h=>by rw[strLen]at h;cases h
 |[c],k,h=>by
  rw[strLen]at h;split at h
  ·injection h with h;simp only[jK6,jN2];omega
  ·split at h
   ·cases h
   ·obtain⟨q,hq,rfl⟩:=jM4 h;rw[strLen]at hq;cases hq
 |c::d::l,k,h=>by
  rw[strLen]at h;split at h
  ·injection h with h;simp only[jK6];omega
  ·split at h
   ·obtain⟨q,hq,rfl⟩:=jM4 h;have:=KW l q hq;simp only[jK6];omega
   ·obtain⟨q,hq,rfl⟩:=jM4 h;have:=KW (d::l) q hq;simp only[jK6]at this⊢;omega
theorem jAo(l:LB)(n t:Nat)(h:qa l=some (n,t)):n<=l.length/\t<58:=by
 cases l with
 |nil=>cases h
 |cons c l=>
  rw[qa]at h;split at h
  ·injection h with h;injection h with h1 h2;rw[<-h1,<-h2];exact⟨kt _ _,zB _⟩
  ·split at h
   ·obtain⟨q,hq,e⟩:=jM4 h;injection e with e1 e2;have:=KW l q hq;rw[<-e1,<-e2];exact⟨by simp only[jK6];omega,by decide⟩
   ·split at h
    ·rename_i hh;injection h with h;injection h with h1 h2;rw[<-h1,<-h2];refine⟨?_,kD _⟩;cases l with
     |nil=>exact absurd hh.1 (by decide)
     |cons d l=>simp only[jK6];omega
    ·injection h with h;injection h with h1 h2;rw[<-h1,<-h2];exact⟨by simp only[jK6];omega,kD _⟩
theorem XI(src:LB)(r r' :Rdr)(h:jc src r=some r')(ha:r.at_ <=src.length)(ht:r.t<58):r'.from_ <=r'.at_ /\r'.at_ <=src.length/\r'.t<58/\r'.tree=r.tree/\r'.order=r.order:=by
 have hK:=JZ false (src.drop r.at_);rw[jK8]at hK;unfold jc at h;have hk:r.at_ +jQ false (src.drop r.at_)<=src.length:=(by omega);generalize r.at_ +jQ false (src.drop r.at_)=K at*;simp only at h;split at h
 ·injection h with h;rw[<-h];exact⟨jL3 _,hk,ht,rfl,rfl⟩
 ·obtain⟨x,hx,e⟩:=jM4 h;obtain⟨n,t⟩:=x;have:=jAo _ n t hx;rw[jK8]at this;rw[<-e];exact⟨by simp only;omega,by simp only;omega,this.2,rfl,rfl⟩
def Sc(w:World)(g:Nat)(src:BA)(s:Sl)(r' :Rdr)(v:Value)(e:Ending)(w' :World):Prop:=e=.returned v/\St w' g src r' s/\Fr g s s w w'
theorem jN(w:World)(g:Nat)(src:BA)(r r' :Rdr)(s:Sl)(h:St w g src r s)(hn:jc (sb src) r=some r'):
  Calls prog 150 #[.pointer (some ⟨g,0,none⟩)] w (Sc w g src s r' (.tuple #[])):=by
 refine(jAZ w h.sg g h.g8 src r r' _ h.box h.at_ h.small hn).mono ?_;rintro e w' ⟨rfl,hb,hk⟩;have hf:=XI (sb src) r r' hn (by rw[jB];exact h.at_) h.t58;rw[jB]at hf;exact⟨rfl,h.scan hb hf.2.2.2.1 hk hf.1 hf.2.1 hf.2.2.1⟩
theorem vr(w:World)(g:Nat)(src:BA)(r:Rdr)(s:Sl)(h:St w g src r s):
  Calls prog 209 #[.pointer (some ⟨g,0,none⟩)] w fun e w' =>e=.returned (.string ⟨(jh (sb src) r).toArray⟩)/\∃n,w' =w.drewN n:=by
 have:=Ji w g src r _ h.box h.from_ h.at_
 rwa [<-XP (src.extract r.from_ r.at_),Qg]at this
theorem Jy:∀(f:Nat) (l:LB) (q k:Nat),l.length<f->jj l q 4=.shut k->q<k/\JX f l=(k-q,true)
 |0,_,_,_,h,_=>by omega
 |_ +1,[],_,_,_,h=>by cases h
 |f+1,c::l,q,k,hf,h=>by
  rw[jK6]at hf;rw[jj,jJ6 rfl]at h;unfold JX;by_cases h34:c.toNat=34
  ·rw[jJ6 h34]at h;injection h with h;rw[jJ6 h34];exact⟨by omega,by rw[show k-q=1 by omega]⟩
  rw[jJ5 h34]at h⊢;by_cases h92:c.toNat=92
  ·rw[jJ6 h92]at h;rw[jJ5 (by omega),jJ5 (by omega)];cases l with
   |nil=>cases h
   |cons d l=>
    rw[jK6]at hf;rw[jj,jJ5 (by decide),jJ6 rfl]at h;simp only;by_cases hx:d.toNat=120
    ·rw[jJ6 hx]at h;rw[jJ5 (by omega),jJ5 (by omega)];cases l with
     |nil=>cases h
     |cons a l=>
      rw[jj,jJ5 (by decide),jJ5 (by decide)]at h;cases ha:Vi a with
      |false=>rw[ha,jJ6 rfl]at h;cases h
      |true=>
       rw[ha,jJ5 (by decide),jJ5 (by decide)]at h;simp only[ha,Bool.true_eq_false,if_false];cases l with
       |nil=>cases h
       |cons b l=>
        rw[jj,jJ5 (by decide),jJ5 (by decide)]at h;cases hb:Vi b with
        |false=>rw[hb,jJ6 rfl]at h;cases h
        |true=>
         rw[hb,jJ5 (by decide),jJ6 (by decide)]at h;simp only[jK6]at hf;obtain⟨h1,h2⟩:=Jy f l _ k (by omega) h;simp only[hb,Bool.true_eq_false,if_false,h2];exact⟨by omega,by rw[show k-(q+1+1+1+1)+4=k-q by omega]⟩
    ·rw[jJ5 hx]at h;by_cases hd:d.toNat=34\/d.toNat=92\/d.toNat=110\/d.toNat=116
     ·rw[jJ6 hd]at h;rw[jJ5 (by omega),jJ6 hx];obtain⟨h1,h2⟩:=Jy f l _ k (by omega) h;rw[h2];exact⟨by omega,by simp only;rw[show k-(q+1+1)+2=k-q by omega]⟩
     ·rw[jJ5 hd]at h;cases h
  ·rw[jJ5 h92]at h;by_cases h32:c.toNat<32\/126<c.toNat
   ·rw[jJ6 h32]at h;cases h
   ·rw[jJ5 h32]at h⊢;rw[jJ6 h92];obtain⟨h1,h2⟩:=Jy f l _ k (by omega) h;rw[h2];exact⟨by omega,by simp only;rw[show k-(q+1)+1=k-q by omega]⟩
theorem Zw:∀(f g:Nat) (l:LB),l.length<f->l.length<g->JX f l=JX g l
 |0,_,_,h,_=>by omega
 |_,0,_,_,h=>by omega
 |f+1,g+1,[],_,_=>rfl
 |f+1,g+1,c::l,hf,hg=>by
  rw[jK6]at hf hg;unfold JX;split
  ·rfl
  split
  ·rfl
  split
  ·rw[Zw f g l (by omega) (by omega)]
  cases l with
  |nil=>rfl
  |cons d l=>
   rw[jK6]at hf hg;simp only;split
   ·rfl
   split
   ·rw[Zw f g l (by omega) (by omega)]
   cases l with
   |nil=>rfl
   |cons a l=>
    simp only;split
    ·rfl
    cases l with
    |nil=>rfl
    |cons b l=>
     simp only[jK6]at hf hg⊢;split
     ·rfl
     rw[Zw f g l (by omega) (by omega)]
theorem jAG:∀c:Fin 256,jf [UInt8.ofNat c.val,61]≠0↔(c.val=58\/c.val=33\/c.val=60\/c.val=62):=by decide+kernel
theorem Yq(c:UInt8):jf [c,61]≠0↔(c.toNat=58\/c.toNat=33\/c.toNat=60\/c.toNat=62):=by
 have:=jAG ⟨c.toNat,UInt8.toNat_lt c⟩;simpa using this
theorem jFR{l:LB}{x:Nat×Nat}(h:qa l=some x)(h3:x.2=3->(JX l.length (l.drop 1))=(x.1-1,true)):jGF l=x.1:=by
 cases l with
 |nil=>cases h
 |cons c r=>
  unfold qa at h;unfold jGF;simp only at h⊢;by_cases h1:jR c=true
  ·rw[jJ6 h1]at h⊢;injection h with h;rw[<-h]
  rw[jJ5 h1]at h⊢;by_cases h34:c.toNat=34
  ·rw[jJ6 h34]at h⊢;obtain⟨k,hk,e⟩:=jM4 h;subst e;have h3:=h3 rfl;simp only[List.drop_one,List.tail_cons,jK6]at h3;rw[h3];rfl
  rw[jJ5 h34]at h⊢;have hh:r.headD 0=61↔r.head? =some 61:=by
   cases r with
   |nil=>simp
   |cons a r=>simp
  by_cases h2:r.headD 0=61/\jf [c,61]≠0
  ·rw[jJ6 h2]at h;rw[jJ6 ⟨hh.1 h2.1,(Yq c).1 h2.2⟩];injection h with h;rw[<-h]
  ·rw[jJ5 h2]at h;rw[jJ5 (fun e=>h2 ⟨hh.2 e.1,(Yq c).2 e.2⟩)];injection h with h;rw[<-h]
end Go.Proofs.YtifbhcfdealfaaaGreatDoor

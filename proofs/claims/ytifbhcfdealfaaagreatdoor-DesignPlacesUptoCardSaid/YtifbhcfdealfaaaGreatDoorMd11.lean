import Derived.Test.YtifbhcfdealfaaaGreatDoorMd08
import Derived.Defers
import Derived.Recover
set_option maxRecDepth 100000
set_option maxHeartbeats 25600000
namespace Go.Proofs.YtifbhcfdealfaaaGreatDoor
open Go.Proofs.Tryz
open Go.RowKit
theorem QY{m m' :Mc}{c:UInt8}{l:LB}(h5:∀n∈m.stack,n<85)(h:vP m (c::l)=.ok m'):m'.stack.length<=m.stack.length+12:=by
 rw[vP]at h;split at h
 ·injection h with h;rw[<-h];exact Nat.le_add_right _ _
 ·split at h
  ·unfold vS at h;simp only at h;injection h with h;split at h<;>(rw[<-h];exact Nat.le_add_right _ _)
  ·split at h
   ·unfold ke at h;split at h
    ·cases h
    ·rename_i hm;split at h
     ·cases h
     ·exact yq (by decide) h5 (by simpa using hm) h
     ·injection h with h;rw[<-h];exact Nat.le_add_right _ _
   ·split at h
    ·unfold kU at h;simp only at h;split at h
     ·rename_i hc;exact yq (zB _) h5 hc.2.2 h
     ·unfold vU at h;split at h
      ·cases h
      ·injection h with h;rw[<-h];exact Nat.le_add_right _ _
    ·unfold kf at h;simp only at h;split at h
     ·rename_i hc;split at h
      ·rename_i hh;exact yq (kD _) h5 hh.2.1 h
      ·exact yq (kD _) h5 hc.2 h
     ·split at h
      ·cases h
      ·rename_i hn;split at h
       ·injection h with h;rw[<-h];exact Nat.le_add_right _ _
       ·split at h
        ·cases h
        ·refine yq (kD _) h5 ?_ h;rw[not_or]at hn;simpa using hn.2
theorem jEH(s:BA)(a:Nat)(h:a<s.size):¬(sb s).length<=a:=by rw[jB];omega
structure RunSt(w:World)(g:Nat)(r:Option Nat)(src:BA)(X:Out)(f:Nat)(m:Mc)(wr:World)(A:OA)(c:Nat)(r' :Option Nat):Prop where
 go:X=VZ (sb src) f m
 fuel:src.size+1<=f+m.at_
 le:m.at_ <=src.size
 len:m.stack.length<=5+12*m.at_
 mac:Mac wr g r' src m A c
 kp:Kp (MX g r) w wr
 fr:MFr w r r'
theorem RunSt.next{w wr w' :World}{g:Nat}{r r' :Option Nat}{src:BA}{X:Out}{f:Nat}{m m' :Mc}{A:OA}{c:Nat}(h:RunSt w g r src X f m wr A c r')(hlt:m.at_ <src.size)
  (hs:vP m ((sb src).drop m.at_)=.ok m') (F3:MStep wr g r' w' src m'):
  (∃f m' A c r',RunSt w g r src X f m' w' A c r')/\src.size-atOf g w' <src.size-atOf g wr:=by
 obtain⟨r2,A2,c2,hM,hk,hf⟩:=F3;have Fh:=h.go;have Dr:=h.fuel;obtain⟨f',rfl⟩:∃f',f=f' +1:=⟨f-1,by omega⟩;rw[VZ,jJ5 (jEH src m.at_ hlt),hs]at Fh;have Dc:=hs;rw[vY src m.at_ hlt]at hs;have h1:=Vs hs;have h2:=QY h.mac.sym hs;have h3:=h.len;rw[<-vY src m.at_ hlt,jK8,jB]at h1;refine⟨⟨f',m',A2,c2,r2,Fh,by omega,by omega,by omega,hM,h.kp.trans hk (MX.trans h.fr),h.fr.trans h.kp.size hf⟩,?_⟩;rw[hM.atOf,h.mac.atOf];omega
theorem RunSt.wrong{w wr w' :World}{g:Nat}{r r' :Option Nat}{src:BA}{X:Out}{f k:Nat}{m:Mc}{A:OA}{c:Nat}(h:RunSt w g r src X f m wr A c r')(hlt:m.at_ <src.size)
  (hs:vP m ((sb src).drop m.at_)=.error k) (hk:Kp (MX g r') wr w'):X=.error k/\Kp (MX g r) w w' :=by
 have Fh:=h.go;have Dr:=h.fuel;obtain⟨f',rfl⟩:∃f',f=f' +1:=⟨f-1,by omega⟩;rw[VZ,jJ5 (jEH src m.at_ hlt),hs]at Fh;exact⟨Fh,h.kp.trans hk (MX.trans h.fr)⟩
theorem jCZ(w:World)(hg:Sg w)(g:Nat)(r:Option Nat)(src:BA)(A:OA)(c:Nat)(h:Mac w g r src startM A c)(hs:src.size<=60000):
  Calls prog 149 #[.pointer (some ⟨g,0,none⟩)] w (MOut w g r src (kC (sb src))):=by
 have H0:=G (show RunSt w g r src (kC (sb src)) (src.size+1) startM w A c r from⟨by rw[kC,jB],jL3 _,Nat.zero_le _,by decide,h,jQ0 _ _,.inl rfl⟩);have HG:=G (fun W (hk:Kp (MX g r) w W)=>hg.mx h hk);clear hg h;generalize kC (sb src)=X at*;go_enter func149,ntmps149;go_wp2;go_loopw [] (fun wr=>∃f m A c r',RunSt w g r src X f m wr A c r') (fun wr=>src.size-atOf g wr)
 case atStart=>exact⟨_,_,_,_,_,H0.out⟩
 case round=>
  clear H0;obtain⟨f,m,A,c,r',Fb⟩:=hrel;have GT:=Fb.mac.c0;have FI:=Fb.mac.c1;have Fv:=Fb.mac.z 1;have hlen:m.stack.length<=1000000:=by have:=Fb.len;have:=Fb.le;omega
  by_cases hlt:m.at_ <src.size
  ·have Gk:=G Fb;have EE:=G (HG.out wr Fb.kp);have a1:(m.at_:Int)<(src.size:Int):=(by omega);have a2:(0:Int)<=(m.at_:Int):=(by omega);have a3:(m.at_:Int).toNat=m.at_:=(by omega);have a4:IntKind.i64.wrap ((m.at_:Int)+1)=(m.at_:Int)+1:=jQ3 _ (by omega);have F5:vP m ((sb src).drop m.at_)=if vM src[m.at_]=true then .ok {m with at_:=m.at_ +1}else if src[m.at_].toNat=35 then vS m ((sb src).drop m.at_)else if src[m.at_].toNat=34 then ke m ((sb src).drop m.at_)
     else if jR src[m.at_]=true then kU m ((sb src).drop m.at_)else kf m src[m.at_] ((sb src).drop (m.at_ +1)):=by
    rw[vY src m.at_ hlt,vP]
   by_cases hb:vM src[m.at_]=true
   ·rw[jJ6 hb]at F5;have Gm:=jM8 hb;have Hn:=G (fun W (hO:Old wr W)=>by
     obtain⟨m1,k1⟩:=(Fb.mac.old hO).setAt (m.at_ +1);rw[show((m.at_ +1:Nat):Int)=(m.at_:Int)+1 by omega]at m1 k1;exact Fb.next (w' :=W.setCell ⟨g,1,none⟩ (.int .i64 ((m.at_:Int)+1))) hlt F5 ⟨r',A,c,m1,(hO.mx).trans k1 (fun _ _ h=>h),.inl rfl⟩)
    clear F5 Fb hb;rcases Gm with Gm|Gm|Gm|Gm
    all_goals
     have d1:((src[m.at_].toNat:Int)==32)=decide (src[m.at_].toNat=32):=by rw[Gm];rfl
     have d2:((src[m.at_].toNat:Int)==9)=decide (src[m.at_].toNat=9):=by rw[Gm];rfl
     have d3:((src[m.at_].toNat:Int)==10)=decide (src[m.at_].toNat=10):=by rw[Gm];rfl
     have d4:((src[m.at_].toNat:Int)==13)=decide (src[m.at_].toNat=13):=by rw[Gm];rfl
     simp only[Gm]at d1 d2 d3 d4;go_wp2;go_quiet (fail);go_wp2;go_quiet (fail);go_wp2;exact Hn.out _ (by first|exact jQ0 _ _ |exact(jQ0 _ _).drewN _ |exact((jQ0 _ _).drewN _).drewN _)
   ·rw[jJ5 hb]at F5;have d1:((src[m.at_].toNat:Int)==32)=false:=jM3 (fun e=>hb (jK5 (by omega)));have d2:((src[m.at_].toNat:Int)==9)=false:=jM3 (fun e=>hb (jK5 (by omega)));have d3:((src[m.at_].toNat:Int)==10)=false:=jM3 (fun e=>hb (jK5 (by omega)));have d4:((src[m.at_].toNat:Int)==13)=false:=jM3 (fun e=>hb (jK5 (by omega)));clear hb;by_cases Gv:src[m.at_].toNat=35
    ·rw[jJ6 Gv]at F5;have d5:((src[m.at_].toNat:Int)==35)=true:=by rw[Gv];rfl
     have HC:=G (fun W (hO:Old wr W)=>qj W g r' src m A c (Fb.mac.old hO) (by omega) (by omega));have HN:=G (fun W (hO:Old wr W) w' m' (hm:vS m ((sb src).drop m.at_)=.ok m') (hX:MStep W g r' w' src m')=>Fb.next (w' :=w') hlt (F5.trans hm) (MStep.trans hO.mx (.inl rfl) hX));clear F5 Fb Gv;go_wp2;go_quiet (fail);go_wp2;go_quiet (fail);go_wp2_with (go_at_call 204;refine(HC.out _ (by first|exact jQ0 _ _ |exact(jQ0 _ _).drewN _ |exact((jQ0 _ _).drewN _).drewN _)).mono ?_;rintro e w1 ⟨rfl,m',hm,hX⟩);exact HN.out _ (by first|exact jQ0 _ _ |exact(jQ0 _ _).drewN _ |exact((jQ0 _ _).drewN _).drewN _) _ _ hm hX
    ·rw[jJ5 Gv]at F5;have d5:((src[m.at_].toNat:Int)==35)=false:=jM3 (by omega);clear Gv;by_cases h34:src[m.at_].toNat=34
     ·rw[jJ6 h34]at F5;have d6:((src[m.at_].toNat:Int)==34)=true:=by rw[h34];rfl
      clear h34;have HC:=G (fun W (hO:Old wr W)=>jAB W g r' src m A c (Fb.mac.old hO) (by omega) hlt hlen);generalize hSP:ke m ((sb src).drop m.at_)=SP at*;cases SP with
      |ok m' =>
       have HN:=G (fun W (hO:Old wr W) w' (hX:MStep W g r' w' src m')=>Fb.next (w' :=w') hlt F5 (MStep.trans hO.mx (.inl rfl) hX));clear F5 Fb hSP;go_wp2;go_quiet (fail);go_wp2;go_quiet (fail);go_wp2_with (go_at_call 205;refine(HC.out _ (by first|exact jQ0 _ _ |exact(jQ0 _ _).drewN _ |exact((jQ0 _ _).drewN _).drewN _)).mono ?_;rintro e w1 ⟨rfl,hX⟩);exact HN.out _ (by first|exact jQ0 _ _ |exact(jQ0 _ _).drewN _ |exact((jQ0 _ _).drewN _).drewN _) _ hX
      |error k=>
       have HN:=G (fun W (hO:Old wr W) w' (hX:Kp (MX g r') W w')=>Fb.wrong (w' :=w') hlt F5 ((hO.mx).trans hX (fun _ _ h=>h)));clear F5 Fb hSP;go_wp2;go_quiet (fail);go_wp2;go_quiet (fail);go_wp2_with (go_at_call 205;refine(HC.out _ (by first|exact jQ0 _ _ |exact(jQ0 _ _).drewN _ |exact((jQ0 _ _).drewN _).drewN _)).mono ?_;rintro e w1 ⟨rfl,hX⟩);refine⟨rfl,?_⟩;obtain⟨h1,h2⟩:=HN.out _ (by first|exact jQ0 _ _ |exact(jQ0 _ _).drewN _ |exact((jQ0 _ _).drewN _).drewN _) _ hX;rw[h1];exact⟨rfl,h2⟩
     ·rw[jJ5 h34]at F5;have d6:((src[m.at_].toNat:Int)==34)=false:=jM3 (by omega);clear h34;have Hw:=G (fun W=>kw W src[m.at_]);unfold bv at Hw;by_cases hw:jR src[m.at_]=true
      ·rw[jJ6 hw]at F5;rw[hw]at Hw;have HC:=G (fun W (hO:Old wr W)=>QK W (EE.out.old hO) g r' src m A c (Fb.mac.old hO) (by omega) hlt hw hlen);clear hw;generalize hSP:kU m ((sb src).drop m.at_)=SP at*;cases SP with
       |ok m' =>
        have HN:=G (fun W (hO:Old wr W) w' (hX:MStep W g r' w' src m')=>Fb.next (w' :=w') hlt F5 (MStep.trans hO.mx (.inl rfl) hX));clear F5 Fb hSP;go_wp2;go_quiet (fail);go_wp2;go_quiet (fail);go_wp2_with (first|(go_at_call 165;refine(Hw.out _).mono ?_;rintro e w1 ⟨rfl,rfl⟩)|(go_at_call 206;refine(HC.out _ (by first|exact jQ0 _ _ |exact(jQ0 _ _).drewN _ |exact((jQ0 _ _).drewN _).drewN _)).mono ?_;rintro e w1 ⟨rfl,hX⟩));exact HN.out _ (by first|exact jQ0 _ _ |exact(jQ0 _ _).drewN _ |exact((jQ0 _ _).drewN _).drewN _) _ hX
       |error k=>
        have HN:=G (fun W (hO:Old wr W) w' (hX:Kp (MX g r') W w')=>Fb.wrong (w' :=w') hlt F5 ((hO.mx).trans hX (fun _ _ h=>h)));clear F5 Fb hSP;go_wp2;go_quiet (fail);go_wp2;go_quiet (fail);go_wp2_with (first|(go_at_call 165;refine(Hw.out _).mono ?_;rintro e w1 ⟨rfl,rfl⟩)|(go_at_call 206;refine(HC.out _ (by first|exact jQ0 _ _ |exact(jQ0 _ _).drewN _ |exact((jQ0 _ _).drewN _).drewN _)).mono ?_;rintro e w1 ⟨rfl,hX⟩));refine⟨rfl,?_⟩;obtain⟨h1,h2⟩:=HN.out _ (by first|exact jQ0 _ _ |exact(jQ0 _ _).drewN _ |exact((jQ0 _ _).drewN _).drewN _) _ hX;rw[h1];exact⟨rfl,h2⟩
      ·rw[jJ5 hw]at F5;rw[Bool.not_eq_true]at hw;rw[hw]at Hw;have HC:=G (fun W (hO:Old wr W)=>jAH W (EE.out.old hO) g r' src m A c (Fb.mac.old hO) (by omega) hlt hlen);clear hw;generalize hSP:kf m src[m.at_] ((sb src).drop (m.at_ +1))=SP at*;cases SP with
       |ok m' =>
        have HN:=G (fun W (hO:Old wr W) w' (hX:MStep W g r' w' src m')=>Fb.next (w' :=w') hlt F5 (MStep.trans hO.mx (.inl rfl) hX));clear F5 Fb hSP;go_wp2;go_quiet (fail);go_wp2;go_quiet (fail);go_wp2_with (first|(go_at_call 165;refine(Hw.out _).mono ?_;rintro e w1 ⟨rfl,rfl⟩)|(go_at_call 207;refine(HC.out _ (by first|exact jQ0 _ _ |exact(jQ0 _ _).drewN _ |exact((jQ0 _ _).drewN _).drewN _)).mono ?_;rintro e w1 ⟨rfl,hX⟩));exact HN.out _ (by first|exact jQ0 _ _ |exact(jQ0 _ _).drewN _ |exact((jQ0 _ _).drewN _).drewN _) _ hX
       |error k=>
        have HN:=G (fun W (hO:Old wr W) w' (hX:Kp (MX g r') W w')=>Fb.wrong (w' :=w') hlt F5 ((hO.mx).trans hX (fun _ _ h=>h)));clear F5 Fb hSP;go_wp2;go_quiet (fail);go_wp2;go_quiet (fail);go_wp2_with (first|(go_at_call 165;refine(Hw.out _).mono ?_;rintro e w1 ⟨rfl,rfl⟩)|(go_at_call 207;refine(HC.out _ (by first|exact jQ0 _ _ |exact(jQ0 _ _).drewN _ |exact((jQ0 _ _).drewN _).drewN _)).mono ?_;rintro e w1 ⟨rfl,hX⟩));refine⟨rfl,?_⟩;obtain⟨h1,h2⟩:=HN.out _ (by first|exact jQ0 _ _ |exact(jQ0 _ _).drewN _ |exact((jQ0 _ _).drewN _).drewN _) _ hX;rw[h1];exact⟨rfl,h2⟩
  ·have NB:src.size<=m.at_:=(by omega);have Fh:=Fb.go;have Dr:=Fb.fuel;have Gx:=Fb.le;obtain⟨f',rfl⟩:∃f',f=f' +1:=⟨f-1,by omega⟩;rw[VZ,jJ6 (by rw[jB];exact NB)]at Fh;have HR:=G Fh;have a1:¬(m.at_:Int)<(src.size:Int):=(by omega);have Hs:=G (fun n=>(⟨r',A,c,Fb.mac.drewN n,Fb.kp.drewN n,Fb.fr⟩:MStep w g r (wr.drewN n) src m));clear Fb Fh hlt;go_wp2;go_quiet (fail);go_wp2;go_end0;rw[HR.out];exact⟨rfl,Hs.out _⟩
theorem jDo(v:Value)(w:World):(Instr.typeAssert (.iface 242 v) 20 242 true).run prog w=.ok (.tuple #[v,.bool true]) w:=by
 simp[Instr.typeAssert,run_underlying underlying242]
theorem jFB(w:World)(pa pb:Addr)(x:Int)(y:Bool)(k:Nat)(ha:w.cell? pa=some (.int .i64 x))(hb:w.cell? pb=some (.bool y))(Is:w.frozen? pa=false)(EQ:w.frozen? pb=false)(Fe:pa.block≠pb.block):
  CallsD prog 148 #[.pointer (some pa),.pointer (some pb)] (.panicking (KO k)) w fun e u' w' =>
   e=.returned (.tuple #[])/\u' =.panicking [{v:=.iface 242 (.int .i64 (k:Int)),recovered:=true}]/\w' =(w.setCell pa (.int .i64 (k:Int))).setCell pb (.bool false):=by
 refine callsD_of_wpS func148 rfl fun c₀ cs hu=> ?_;unfold KO at hu;apply wpS_seq;apply wpS_region;simp[wpOpsS,go_sem,recoverD,hu,ntmps148,Exit.thenS];refine wpS_of_wp ?_;clear hu;simp only[Array.replicate_succ,Array.replicate_zero,List.push_toArray,List.append_toArray,jN8,jN6,jJ1,jJ2,jJ3];have Iu:=fun w=>jDo (.int .i64 (k:Int)) w;have FY:(w.setCell pa (.int .i64 (k:Int))).cell? pb=some (.bool y):=(World.cell?_of_block (Below.heap_setCell w pa _ pb.block (Ne.symm Fe))).trans hb;have EP:(w.setCell pa (.int .i64 (k:Int))).frozen? pb=false:=(World.frozen?_of_block (Below.heap_setCell w pa _ pb.block (Ne.symm Fe))).trans EQ;go_wp2;simp[bodyPostS,results,results148]
theorem QA(w:World)(pa pb:Addr):
  CallsD prog 148 #[.pointer (some pa),.pointer (some pb)] .returning w fun e u' w' =>e=.returned (.tuple #[])/\u' =.returning/\w' =w:=by
 refine callsD_of_wpS func148 rfl fun c₀ cs hu=> ?_;apply wpS_seq;apply wpS_region;simp[wpOpsS,go_sem,recoverD,hu,ntmps148,Exit.thenS];refine wpS_of_wp ?_;simp only[Array.replicate_succ,Array.replicate_zero,List.push_toArray,List.append_toArray,jN8,jN6,jJ1,jJ2,jJ3];go_wp2;cases c₀
 simp_all [bodyPostS,results,results148]
def jDs(w:World)(src:BA)(o:Out)(e:Ending)(w' :World):Prop:=
 match o with
 | .ok m=>∃g r A c,e=.returned (.tuple #[.pointer (some ⟨g,0,none⟩),.int .i64 (src.size:Int),.bool true])/\Mac w' g r src m A c/\Old w w' /\w.heap.size<=g/\(∀k,r=some k->w.heap.size<=k)
 | .error k=>∃p,e=.returned (.tuple #[.pointer p,.int .i64 (k:Int),.bool false])/\Old w w'
theorem XU(w:World)(src:BA)(h8:8<=w.heap.size):
  Mac ((w.alloc (.cells #[.int .u8 5,.int .u8 58,.int .u8 4,.int .u8 1,.int .u8 23] 203)).alloc (.cells #[.string src,.int .i64 0,.slice (some ⟨w.heap.size,0,none⟩) 5 5,.int .u8 0,.int .i64 0] 202)) (w.heap.size+1) (some w.heap.size) src startM (some ⟨w.heap.size,0,none⟩) 5:=by
 have e1:(w.alloc (.cells #[.int .u8 5,.int .u8 58,.int .u8 4,.int .u8 1,.int .u8 23] 203)).heap.size=w.heap.size+1:=(by simp);refine⟨by omega,?_,?_,rfl,by decide⟩
 ·rw[<-e1];exact jQ2 _ _ _
 ·refine⟨rfl,.inr ⟨w.heap.size,5,#[.int .u8 5,.int .u8 58,.int .u8 4,.int .u8 1,.int .u8 23],rfl,h8,?_,by decide,by decide,rfl,rfl⟩⟩;exact(jQ2 w 203 #[.int .u8 5,.int .u8 58,.int .u8 4,.int .u8 1,.int .u8 23]).alloc _
theorem VF(w:World)(hg:Sg w)(src:BA)(hs:src.size<=60000)(h8:8<=w.heap.size):Calls prog 106 #[.string src] w (jDs w src (kC (sb src))):=by
 have Dh:∀(fn:Fn) (first cap:Array Value) (w:World),(Instr.makeFunc fn first cap).run prog w=.ok (.func fn first cap) w:=fun _ _ _ _=>rfl
 go_enter_defers func106,ntmps106
 go_wp2_with fail;have hA:((w.alloc (.cells #[.int .i64 0] 3)).alloc (.cells #[.bool false] 4)).heap.size=w.heap.size+1+1:=(by simp);have hM:=XU ((w.alloc (.cells #[.int .i64 0] 3)).alloc (.cells #[.bool false] 4)) src (by omega);rw[hA]at hM;have hO:Old w ((((w.alloc (.cells #[.int .i64 0] 3)).alloc (.cells #[.bool false] 4)).alloc (.cells #[.int .u8 5,.int .u8 58,.int .u8 4,.int .u8 1,.int .u8 23] 203)).alloc (.cells #[.string src,.int .i64 0,.slice (some ⟨w.heap.size+1+1,0,none⟩) 5 5,.int .u8 0,.int .i64 0] 202)):=((((jQ0 NoX w).alloc _).alloc _).alloc _).alloc _;have ND:Blk ((((w.alloc (.cells #[.int .i64 0] 3)).alloc (.cells #[.bool false] 4)).alloc (.cells #[.int .u8 5,.int .u8 58,.int .u8 4,.int .u8 1,.int .u8 23] 203)).alloc (.cells #[.string src,.int .i64 0,.slice (some ⟨w.heap.size+1+1,0,none⟩) 5 5,.int .u8 0,.int .i64 0] 202)) w.heap.size 3 #[.int .i64 0]:=(((jQ2 w 3 #[.int .i64 0]).alloc _).alloc _).alloc _;have FY:Blk ((((w.alloc (.cells #[.int .i64 0] 3)).alloc (.cells #[.bool false] 4)).alloc (.cells #[.int .u8 5,.int .u8 58,.int .u8 4,.int .u8 1,.int .u8 23] 203)).alloc (.cells #[.string src,.int .i64 0,.slice (some ⟨w.heap.size+1+1,0,none⟩) 5 5,.int .u8 0,.int .i64 0] 202)) (w.heap.size+1) 4 #[.bool false]:=by
  have:=jQ2 (w.alloc (.cells #[.int .i64 0] 3)) 4 #[.bool false];rw[show(w.alloc (.cells #[.int .i64 0] 3)).heap.size=w.heap.size+1 by simp]at this;exact(this.alloc _).alloc _
 generalize ((((w.alloc (.cells #[.int .i64 0] 3)).alloc (.cells #[.bool false] 4)).alloc (.cells #[.int .u8 5,.int .u8 58,.int .u8 4,.int .u8 1,.int .u8 23] 203)).alloc (.cells #[.string src,.int .i64 0,.slice (some ⟨w.heap.size+1+1,0,none⟩) 5 5,.int .u8 0,.int .i64 0] 202))=W at*;refine(jCZ W (hg.old hO) _ _ src _ _ hM hs).mono ?_;clear hM hA;intro e w1 Rf;generalize kC (sb src)=X at*;generalize hS:w.heap.size=S at*;cases X with
 |ok m=>
  obtain⟨rfl,r2,A2,c2,MR,hk,hf⟩:=Rf;have ND:=ND.kp hk (fun h=>by rcases h with e|e;omega;have:=jL5 e;omega);have FY:=FY.kp hk (fun h=>by rcases h with e|e;omega;have:=jL5 e;omega);have q1:w1.cell? ⟨S,0,none⟩=some (.int .i64 0):=ND.at_ 0 rfl;have q2:w1.cell? ⟨S+1,0,none⟩=some (.bool false):=FY.at_ 0 rfl;have z1:=ND.frozen 0;have z2:=FY.frozen 0;have LU:=(ND.set_ 0 (.int .i64 (src.size:Int))).far (p:=⟨S+1,0,none⟩) (by simp) (.bool true);have LT:=(FY.far (p:=⟨S,0,none⟩) (by simp) (.int .i64 (src.size:Int))).set_ 0 (.bool true);have Fu:Kp (fun k=>k=S\/k=S+1) w1 ((w1.setCell ⟨S,0,none⟩ (.int .i64 (src.size:Int))).setCell ⟨S+1,0,none⟩ (.bool true)):=
   ((jQ0 _ w1).setCell (p:=⟨S,0,none⟩) (fun _=>.inl rfl) _).setCell (p:=⟨S+1,0,none⟩) (fun _=>.inr rfl) _
  have WP:∀k,r2=some k->¬(k=S\/k=S+1):=by
   intro k MG he;rcases hf with rfl|⟨k2,rfl,Gx⟩
   ·have:=jL5 MG;omega
   ·have:=jL5 MG;have:=FY.lt;have h9:=(‹Blk W (S+1) _ _›).lt;omega
  have FQ:=G (show jDs w src (.ok m) (.returned (.tuple #[.pointer (some ⟨S+1+1+1,0,none⟩),.int .i64 (src.size:Int),.bool true])) ((w1.setCell ⟨S,0,none⟩ (.int .i64 (src.size:Int))).setCell ⟨S+1,0,none⟩ (.bool true))from by
   refine⟨S+1+1+1,r2,A2,c2,rfl,MR.kp Fu (by omega) WP,?_,by omega,fun k MG=> ?_⟩
   ·refine(hO.trans hk (fun b hb hx=> ?_)).trans Fu (fun b hb hx=> ?_)
    ·rcases hx with hx|hx
     ·omega
     ·have:=jL5 hx;omega
    ·rcases hx with hx|hx<;>omega
   ·have:=WP k MG;rcases hf with rfl|⟨k2,rfl,Gx⟩
    ·have:=jL5 MG;omega
    ·have:=jL5 MG;have:=hO.size;omega)
  clear MR hk hf Fu WP hO;go_wp2;generalize ((w1.setCell ⟨S,0,none⟩ (.int .i64 (src.size:Int))).setCell ⟨S+1,0,none⟩ (.bool true))=WF at*;have f1:WF.cell? ⟨S,0,none⟩=some (.int .i64 (src.size:Int)):=LU.at_ 0 rfl;have f2:WF.cell? ⟨S+1,0,none⟩=some (.bool true):=LT.at_ 0 rfl;refine leaves_cons (f:=148) (args:= #[.pointer (some ⟨S,0,none⟩),.pointer (some ⟨S+1,0,none⟩)]) (by simp) (by simp[go_sem]) ?_;refine(QA WF ⟨S,0,none⟩ ⟨S+1,0,none⟩).mono ?_;rintro e u' w'' ⟨rfl,rfl,rfl⟩;simp[Leaves,settle,results,results106,go_sem,f1,f2];exact FQ.out
 |error k=>
  obtain⟨rfl,hk⟩:=Rf;have ND:=ND.kp hk (fun h=>by rcases h with e|e;omega;have:=jL5 e;omega);have FY:=FY.kp hk (fun h=>by rcases h with e|e;omega;have:=jL5 e;omega);have q1:w1.cell? ⟨S,0,none⟩=some (.int .i64 0):=ND.at_ 0 rfl;have q2:w1.cell? ⟨S+1,0,none⟩=some (.bool false):=FY.at_ 0 rfl;have z1:=ND.frozen 0;have z2:=FY.frozen 0;have LU:=(ND.set_ 0 (.int .i64 (k:Int))).far (p:=⟨S+1,0,none⟩) (by simp) (.bool false);have LT:=(FY.far (p:=⟨S,0,none⟩) (by simp) (.int .i64 (k:Int))).set_ 0 (.bool false);have Fu:Kp (fun k=>k=S\/k=S+1) w1 ((w1.setCell ⟨S,0,none⟩ (.int .i64 (k:Int))).setCell ⟨S+1,0,none⟩ (.bool false)):=
   ((jQ0 _ w1).setCell (p:=⟨S,0,none⟩) (fun _=>.inl rfl) _).setCell (p:=⟨S+1,0,none⟩) (fun _=>.inr rfl) _
  have FQ:=G (show jDs w src (.error k) (.returned (.tuple #[.pointer (some ⟨S+1+1+1,0,none⟩),.int .i64 (k:Int),.bool false])) ((w1.setCell ⟨S,0,none⟩ (.int .i64 (k:Int))).setCell ⟨S+1,0,none⟩ (.bool false))from by
   refine⟨_,rfl,(hO.trans hk (fun b hb hx=> ?_)).trans Fu (fun b hb hx=> ?_)⟩
   ·rcases hx with hx|hx
    ·omega
    ·have:=jL5 hx;omega
   ·rcases hx with hx|hx<;>omega)
  have Hc:=G (jFB w1 ⟨S,0,none⟩ ⟨S+1,0,none⟩ 0 false k q1 q2 z1 z2 (by simp));clear hk Fu hO;go_wp2;refine leaves_cons (f:=148) (args:= #[.pointer (some ⟨S,0,none⟩),.pointer (some ⟨S+1,0,none⟩)]) (by simp) (by simp[go_sem]) ?_;refine Hc.out.mono ?_;rintro e u' w'' ⟨rfl,rfl,rfl⟩;generalize ((w1.setCell ⟨S,0,none⟩ (.int .i64 (k:Int))).setCell ⟨S+1,0,none⟩ (.bool false))=WF at*;have f1:WF.cell? ⟨S,0,none⟩=some (.int .i64 (k:Int)):=LU.at_ 0 rfl;have f2:WF.cell? ⟨S+1,0,none⟩=some (.bool false):=LT.at_ 0 rfl;simp[Leaves,settle,results,results106,go_sem,f1,f2];exact FQ.out
theorem jA7:(prog.info? 5).map (fun i=>(i.zero,i.size,i.bytes))=some (some (.int .u8 0),1,1):=by kernel_rfl
end Go.Proofs.YtifbhcfdealfaaaGreatDoor

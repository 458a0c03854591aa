import Derived.Test.YtmmjcbbogokmfaaGreatDoorMp10
import Derived.Defers
import Derived.Recover
set_option maxRecDepth 100000
set_option maxHeartbeats 25600000
namespace Go.Proofs.YtmmjcbbogokmfaaGreatDoor
open Go.Proofs.Tryz
open Go.RowKit
theorem qP{m m' :Mc}{c:UInt8}{l:LB}(h5:∀n∈m.stack,n<85)(h:Ji m (c::l)=.ok m'):m'.stack.length<=m.stack.length+12:=by
 rw[Ji]at h;split at h
 ·injection h with h;rw[<-h];exact Nat.le_add_right _ _
 ·split at h
  ·unfold vu at h;simp only at h;injection h with h;split at h<;>(rw[<-h];exact Nat.le_add_right _ _)
  ·split at h
   ·unfold vO at h;split at h
    ·cases h
    ·rename_i hm;split at h
     ·cases h
     ·exact JA (by decide) h5 (by simpa using hm) h
     ·injection h with h;rw[<-h];exact Nat.le_add_right _ _
   ·split at h
    ·unfold vg at h;simp only at h;split at h
     ·rename_i hc;exact JA (KP _) h5 hc.2.2 h
     ·unfold zU at h;split at h
      ·cases h
      ·injection h with h;rw[<-h];exact Nat.le_add_right _ _
    ·unfold yG at h;simp only at h;split at h
     ·rename_i hc;split at h
      ·rename_i hh;exact JA (vh _) h5 hh.2.1 h
      ·exact JA (vh _) h5 hc.2 h
     ·split at h
      ·cases h
      ·rename_i hn;split at h
       ·injection h with h;rw[<-h];exact Nat.le_add_right _ _
       ·split at h
        ·cases h
        ·refine JA (vh _) h5 ?_ h;rw[not_or]at hn;simpa using hn.2
theorem jGR(s:BA)(a:Nat)(h:a<s.size):¬(sb s).length<=a:=by rw[jB];omega
structure RunSt(w:World)(g:Nat)(r:Option Nat)(src:BA)(X:Out)(f:Nat)(m:Mc)(wr:World)(A:OA)(c:Nat)(r' :Option Nat):Prop where
 go:X=UC (sb src) f m
 fuel:src.size+1<=f+m.at_
 le:m.at_ <=src.size
 len:m.stack.length<=5+12*m.at_
 mac:Mac wr g r' src m A c
 kp:Kp (MX g r) w wr
 fr:MFr w r r'
theorem RunSt.next{w wr w' :World}{g:Nat}{r r' :Option Nat}{src:BA}{X:Out}{f:Nat}{m m' :Mc}{A:OA}{c:Nat}(h:RunSt w g r src X f m wr A c r')(hlt:m.at_ <src.size)
  (hs:Ji m ((sb src).drop m.at_)=.ok m') (Hv:MStep wr g r' w' src m'):
  (∃f m' A c r',RunSt w g r src X f m' w' A c r')/\src.size-atOf g w' <src.size-atOf g wr:=by
 obtain⟨r2,A2,c2,hM,hk,hf⟩:=Hv;have Fs:=h.go;have DY:=h.fuel;obtain⟨f',rfl⟩:∃f',f=f' +1:=⟨f-1,by omega⟩;rw[UC,jJ5 (jGR src m.at_ hlt),hs]at Fs;have DI:=hs;rw[yB src m.at_ hlt]at hs;have h1:=ZX hs;have h2:=qP h.mac.sym hs;have h3:=h.len;rw[<-yB src m.at_ hlt,jK8,jB]at h1;refine⟨⟨f',m',A2,c2,r2,Fs,by omega,by omega,by omega,hM,h.kp.trans hk (MX.trans h.fr),h.fr.trans h.kp.size hf⟩,?_⟩;rw[hM.atOf,h.mac.atOf];omega
theorem RunSt.wrong{w wr w' :World}{g:Nat}{r r' :Option Nat}{src:BA}{X:Out}{f k:Nat}{m:Mc}{A:OA}{c:Nat}(h:RunSt w g r src X f m wr A c r')(hlt:m.at_ <src.size)
  (hs:Ji m ((sb src).drop m.at_)=.error k) (hk:Kp (MX g r') wr w'):X=.error k/\Kp (MX g r) w w' :=by
 have Fs:=h.go;have DY:=h.fuel;obtain⟨f',rfl⟩:∃f',f=f' +1:=⟨f-1,by omega⟩;rw[UC,jJ5 (jGR src m.at_ hlt),hs]at Fs;exact⟨Fs,h.kp.trans hk (MX.trans h.fr)⟩
theorem jEe(w:World)(hg:Sg w)(g:Nat)(r:Option Nat)(src:BA)(A:OA)(c:Nat)(h:Mac w g r src Yx A c)(hs:src.size<=60000):
  Calls prog 134 #[.pointer (some ⟨g,0,none⟩)] w (MOut w g r src (vv (sb src))):=by
 have H0:=G (show RunSt w g r src (vv (sb src)) (src.size+1) Yx w A c r from⟨by rw[vv,jB],jL3 _,Nat.zero_le _,by decide,h,jQ0 _ _,.inl rfl⟩);have HG:=G (fun W (hk:Kp (MX g r) w W)=>hg.mx h hk);clear hg h;generalize vv (sb src)=X at*;go_enter func134,ntmps134;go_wp2;go_loopw [] (fun wr=>∃f m A c r',RunSt w g r src X f m wr A c r') (fun wr=>src.size-atOf g wr)
 case atStart=>exact⟨_,_,_,_,_,H0.out⟩
 case round=>
  clear H0;obtain⟨f,m,A,c,r',Fe⟩:=hrel;have Nl:=Fe.mac.c0;have G6:=Fe.mac.c1;have Fi:=Fe.mac.z 1;have hlen:m.stack.length<=1000000:=by have:=Fe.len;have:=Fe.le;omega
  by_cases hlt:m.at_ <src.size
  ·have Gg:=G Fe;have EV:=G (HG.out wr Fe.kp);have a1:(m.at_:Int)<(src.size:Int):=(by omega);have a2:(0:Int)<=(m.at_:Int):=(by omega);have a3:(m.at_:Int).toNat=m.at_:=(by omega);have a4:IntKind.i64.wrap ((m.at_:Int)+1)=(m.at_:Int)+1:=jQ3 _ (by omega);have hI:Ji m ((sb src).drop m.at_)=if VU src[m.at_]=true then .ok {m with at_:=m.at_ +1}else if src[m.at_].toNat=35 then vu m ((sb src).drop m.at_)else if src[m.at_].toNat=34 then vO m ((sb src).drop m.at_)
     else if ju src[m.at_]=true then vg m ((sb src).drop m.at_)else yG m src[m.at_] ((sb src).drop (m.at_ +1)):=by
    rw[yB src m.at_ hlt,Ji]
   by_cases hb:VU src[m.at_]=true
   ·rw[jJ6 hb]at hI;have NW:=jM8 hb;have Hn:=G (fun W (hO:Old wr W)=>by
     obtain⟨m1,k1⟩:=(Fe.mac.old hO).setAt (m.at_ +1);rw[show((m.at_ +1:Nat):Int)=(m.at_:Int)+1 by omega]at m1 k1;exact Fe.next (w' :=W.setCell ⟨g,1,none⟩ (.int .i64 ((m.at_:Int)+1))) hlt hI ⟨r',A,c,m1,(hO.mx).trans k1 (fun _ _ h=>h),.inl rfl⟩)
    clear hI Fe hb;rcases NW with NW|NW|NW|NW
    all_goals
     have d1:((src[m.at_].toNat:Int)==32)=decide (src[m.at_].toNat=32):=by rw[NW];rfl
     have d2:((src[m.at_].toNat:Int)==9)=decide (src[m.at_].toNat=9):=by rw[NW];rfl
     have d3:((src[m.at_].toNat:Int)==10)=decide (src[m.at_].toNat=10):=by rw[NW];rfl
     have d4:((src[m.at_].toNat:Int)==13)=decide (src[m.at_].toNat=13):=by rw[NW];rfl
     simp only[NW]at d1 d2 d3 d4;go_wp2;go_quiet (fail);go_wp2;go_quiet (fail);go_wp2;exact Hn.out _ (by first|exact jQ0 _ _ |exact(jQ0 _ _).drewN _ |exact((jQ0 _ _).drewN _).drewN _)
   ·rw[jJ5 hb]at hI;have d1:((src[m.at_].toNat:Int)==32)=false:=jM3 (fun e=>hb (jK5 (by omega)));have d2:((src[m.at_].toNat:Int)==9)=false:=jM3 (fun e=>hb (jK5 (by omega)));have d3:((src[m.at_].toNat:Int)==10)=false:=jM3 (fun e=>hb (jK5 (by omega)));have d4:((src[m.at_].toNat:Int)==13)=false:=jM3 (fun e=>hb (jK5 (by omega)));clear hb;by_cases h35:src[m.at_].toNat=35
    ·rw[jJ6 h35]at hI;have d5:((src[m.at_].toNat:Int)==35)=true:=by rw[h35];rfl
     have HC:=G (fun W (hO:Old wr W)=>ui W g r' src m A c (Fe.mac.old hO) (by omega) (by omega));have HN:=G (fun W (hO:Old wr W) w' m' (hm:vu m ((sb src).drop m.at_)=.ok m') (hX:MStep W g r' w' src m')=>Fe.next (w' :=w') hlt (hI.trans hm) (MStep.trans hO.mx (.inl rfl) hX));clear hI Fe h35;go_wp2;go_quiet (fail);go_wp2;go_quiet (fail);go_wp2_with (go_at_call 160;refine(HC.out _ (by first|exact jQ0 _ _ |exact(jQ0 _ _).drewN _ |exact((jQ0 _ _).drewN _).drewN _)).mono ?_;rintro e w1 ⟨rfl,m',hm,hX⟩);exact HN.out _ (by first|exact jQ0 _ _ |exact(jQ0 _ _).drewN _ |exact((jQ0 _ _).drewN _).drewN _) _ _ hm hX
    ·rw[jJ5 h35]at hI;have d5:((src[m.at_].toNat:Int)==35)=false:=jM3 (by omega);clear h35;by_cases h34:src[m.at_].toNat=34
     ·rw[jJ6 h34]at hI;have d6:((src[m.at_].toNat:Int)==34)=true:=by rw[h34];rfl
      clear h34;have HC:=G (fun W (hO:Old wr W)=>jCR W g r' src m A c (Fe.mac.old hO) (by omega) hlt hlen);generalize hSP:vO m ((sb src).drop m.at_)=SP at*;cases SP with
      |ok m' =>
       have HN:=G (fun W (hO:Old wr W) w' (hX:MStep W g r' w' src m')=>Fe.next (w' :=w') hlt hI (MStep.trans hO.mx (.inl rfl) hX));clear hI Fe hSP;go_wp2;go_quiet (fail);go_wp2;go_quiet (fail);go_wp2_with (go_at_call 161;refine(HC.out _ (by first|exact jQ0 _ _ |exact(jQ0 _ _).drewN _ |exact((jQ0 _ _).drewN _).drewN _)).mono ?_;rintro e w1 ⟨rfl,hX⟩);exact HN.out _ (by first|exact jQ0 _ _ |exact(jQ0 _ _).drewN _ |exact((jQ0 _ _).drewN _).drewN _) _ hX
      |error k=>
       have HN:=G (fun W (hO:Old wr W) w' (hX:Kp (MX g r') W w')=>Fe.wrong (w' :=w') hlt hI ((hO.mx).trans hX (fun _ _ h=>h)));clear hI Fe hSP;go_wp2;go_quiet (fail);go_wp2;go_quiet (fail);go_wp2_with (go_at_call 161;refine(HC.out _ (by first|exact jQ0 _ _ |exact(jQ0 _ _).drewN _ |exact((jQ0 _ _).drewN _).drewN _)).mono ?_;rintro e w1 ⟨rfl,hX⟩);refine⟨rfl,?_⟩;obtain⟨h1,h2⟩:=HN.out _ (by first|exact jQ0 _ _ |exact(jQ0 _ _).drewN _ |exact((jQ0 _ _).drewN _).drewN _) _ hX;rw[h1];exact⟨rfl,h2⟩
     ·rw[jJ5 h34]at hI;have d6:((src[m.at_].toNat:Int)==34)=false:=jM3 (by omega);clear h34;have Hw:=G (fun W=>vZ W src[m.at_]);unfold bv at Hw;by_cases hw:ju src[m.at_]=true
      ·rw[jJ6 hw]at hI;rw[hw]at Hw;have HC:=G (fun W (hO:Old wr W)=>UH W (EV.out.old hO) g r' src m A c (Fe.mac.old hO) (by omega) hlt hw hlen);clear hw;generalize hSP:vg m ((sb src).drop m.at_)=SP at*;cases SP with
       |ok m' =>
        have HN:=G (fun W (hO:Old wr W) w' (hX:MStep W g r' w' src m')=>Fe.next (w' :=w') hlt hI (MStep.trans hO.mx (.inl rfl) hX));clear hI Fe hSP;go_wp2;go_quiet (fail);go_wp2;go_quiet (fail);go_wp2_with (first|(go_at_call 129;refine(Hw.out _).mono ?_;rintro e w1 ⟨rfl,rfl⟩)|(go_at_call 162;refine(HC.out _ (by first|exact jQ0 _ _ |exact(jQ0 _ _).drewN _ |exact((jQ0 _ _).drewN _).drewN _)).mono ?_;rintro e w1 ⟨rfl,hX⟩));exact HN.out _ (by first|exact jQ0 _ _ |exact(jQ0 _ _).drewN _ |exact((jQ0 _ _).drewN _).drewN _) _ hX
       |error k=>
        have HN:=G (fun W (hO:Old wr W) w' (hX:Kp (MX g r') W w')=>Fe.wrong (w' :=w') hlt hI ((hO.mx).trans hX (fun _ _ h=>h)));clear hI Fe hSP;go_wp2;go_quiet (fail);go_wp2;go_quiet (fail);go_wp2_with (first|(go_at_call 129;refine(Hw.out _).mono ?_;rintro e w1 ⟨rfl,rfl⟩)|(go_at_call 162;refine(HC.out _ (by first|exact jQ0 _ _ |exact(jQ0 _ _).drewN _ |exact((jQ0 _ _).drewN _).drewN _)).mono ?_;rintro e w1 ⟨rfl,hX⟩));refine⟨rfl,?_⟩;obtain⟨h1,h2⟩:=HN.out _ (by first|exact jQ0 _ _ |exact(jQ0 _ _).drewN _ |exact((jQ0 _ _).drewN _).drewN _) _ hX;rw[h1];exact⟨rfl,h2⟩
      ·rw[jJ5 hw]at hI;rw[Bool.not_eq_true]at hw;rw[hw]at Hw;have HC:=G (fun W (hO:Old wr W)=>jCf W (EV.out.old hO) g r' src m A c (Fe.mac.old hO) (by omega) hlt hlen);clear hw;generalize hSP:yG m src[m.at_] ((sb src).drop (m.at_ +1))=SP at*;cases SP with
       |ok m' =>
        have HN:=G (fun W (hO:Old wr W) w' (hX:MStep W g r' w' src m')=>Fe.next (w' :=w') hlt hI (MStep.trans hO.mx (.inl rfl) hX));clear hI Fe hSP;go_wp2;go_quiet (fail);go_wp2;go_quiet (fail);go_wp2_with (first|(go_at_call 129;refine(Hw.out _).mono ?_;rintro e w1 ⟨rfl,rfl⟩)|(go_at_call 163;refine(HC.out _ (by first|exact jQ0 _ _ |exact(jQ0 _ _).drewN _ |exact((jQ0 _ _).drewN _).drewN _)).mono ?_;rintro e w1 ⟨rfl,hX⟩));exact HN.out _ (by first|exact jQ0 _ _ |exact(jQ0 _ _).drewN _ |exact((jQ0 _ _).drewN _).drewN _) _ hX
       |error k=>
        have HN:=G (fun W (hO:Old wr W) w' (hX:Kp (MX g r') W w')=>Fe.wrong (w' :=w') hlt hI ((hO.mx).trans hX (fun _ _ h=>h)));clear hI Fe hSP;go_wp2;go_quiet (fail);go_wp2;go_quiet (fail);go_wp2_with (first|(go_at_call 129;refine(Hw.out _).mono ?_;rintro e w1 ⟨rfl,rfl⟩)|(go_at_call 163;refine(HC.out _ (by first|exact jQ0 _ _ |exact(jQ0 _ _).drewN _ |exact((jQ0 _ _).drewN _).drewN _)).mono ?_;rintro e w1 ⟨rfl,hX⟩));refine⟨rfl,?_⟩;obtain⟨h1,h2⟩:=HN.out _ (by first|exact jQ0 _ _ |exact(jQ0 _ _).drewN _ |exact((jQ0 _ _).drewN _).drewN _) _ hX;rw[h1];exact⟨rfl,h2⟩
  ·have Nj:src.size<=m.at_:=(by omega);have Fs:=Fe.go;have DY:=Fe.fuel;have Fa:=Fe.le;obtain⟨f',rfl⟩:∃f',f=f' +1:=⟨f-1,by omega⟩;rw[UC,jJ6 (by rw[jB];exact Nj)]at Fs;have HR:=G Fs;have a1:¬(m.at_:Int)<(src.size:Int):=(by omega);have Hs:=G (fun n=>(⟨r',A,c,Fe.mac.drewN n,Fe.kp.drewN n,Fe.fr⟩:MStep w g r (wr.drewN n) src m));clear Fe Fs hlt;go_wp2;go_quiet (fail);go_wp2;go_end0;rw[HR.out];exact⟨rfl,Hs.out _⟩
theorem jGA(v:Value)(w:World):(Instr.typeAssert (.iface 215 v) 20 215 true).run prog w=.ok (.tuple #[v,.bool true]) w:=by
 simp[Instr.typeAssert,run_underlying underlying215]
theorem jHH(w:World)(pa pb:Addr)(x:Int)(y:Bool)(k:Nat)(ha:w.cell? pa=some (.int .i64 x))(hb:w.cell? pb=some (.bool y))(Il:w.frozen? pa=false)(Ad:w.frozen? pb=false)(Fh:pa.block≠pb.block):
  CallsD prog 133 #[.pointer (some pa),.pointer (some pb)] (.panicking (Vn k)) w fun e u' w' =>
   e=.returned (.tuple #[])/\u' =.panicking [{v:=.iface 215 (.int .i64 (k:Int)),recovered:=true}]/\w' =(w.setCell pa (.int .i64 (k:Int))).setCell pb (.bool false):=by
 refine callsD_of_wpS func133 rfl fun c₀ cs hu=> ?_;unfold Vn at hu;apply wpS_seq;apply wpS_region;simp[wpOpsS,go_sem,recoverD,hu,ntmps133,Exit.thenS];refine wpS_of_wp ?_;clear hu;simp only[Array.replicate_succ,Array.replicate_zero,List.push_toArray,List.append_toArray,jN8,jN6,jJ1,jJ2,jJ3];have Io:=fun w=>jGA (.int .i64 (k:Int)) w;have Fj:(w.setCell pa (.int .i64 (k:Int))).cell? pb=some (.bool y):=(World.cell?_of_block (Below.heap_setCell w pa _ pb.block (Ne.symm Fh))).trans hb;have Ac:(w.setCell pa (.int .i64 (k:Int))).frozen? pb=false:=(World.frozen?_of_block (Below.heap_setCell w pa _ pb.block (Ne.symm Fh))).trans Ad;go_wp2;simp[bodyPostS,results,results133]
theorem Xu(w:World)(pa pb:Addr):
  CallsD prog 133 #[.pointer (some pa),.pointer (some pb)] .returning w fun e u' w' =>e=.returned (.tuple #[])/\u' =.returning/\w' =w:=by
 refine callsD_of_wpS func133 rfl fun c₀ cs hu=> ?_;apply wpS_seq;apply wpS_region;simp[wpOpsS,go_sem,recoverD,hu,ntmps133,Exit.thenS];refine wpS_of_wp ?_;simp only[Array.replicate_succ,Array.replicate_zero,List.push_toArray,List.append_toArray,jN8,jN6,jJ1,jJ2,jJ3];go_wp2;cases c₀
 simp_all [bodyPostS,results,results133]
def jGC(w:World)(src:BA)(o:Out)(e:Ending)(w' :World):Prop:=
 match o with
 | .ok m=>∃g r A c,e=.returned (.tuple #[.pointer (some ⟨g,0,none⟩),.int .i64 (src.size:Int),.bool true])/\Mac w' g r src m A c/\Old w w' /\w.heap.size<=g/\(∀k,r=some k->w.heap.size<=k)
 | .error k=>∃p,e=.returned (.tuple #[.pointer p,.int .i64 (k:Int),.bool false])/\Old w w'
theorem jAz(w:World)(src:BA)(h8:8<=w.heap.size):
  Mac ((w.alloc (.cells #[.int .u8 5,.int .u8 58,.int .u8 4,.int .u8 1,.int .u8 23] 163)).alloc (.cells #[.string src,.int .i64 0,.slice (some ⟨w.heap.size,0,none⟩) 5 5,.int .u8 0,.int .i64 0] 162)) (w.heap.size+1) (some w.heap.size) src Yx (some ⟨w.heap.size,0,none⟩) 5:=by
 have e1:(w.alloc (.cells #[.int .u8 5,.int .u8 58,.int .u8 4,.int .u8 1,.int .u8 23] 163)).heap.size=w.heap.size+1:=(by simp);refine⟨by omega,?_,?_,rfl,by decide⟩
 ·rw[<-e1];exact jQ2 _ _ _
 ·refine⟨rfl,.inr ⟨w.heap.size,5,#[.int .u8 5,.int .u8 58,.int .u8 4,.int .u8 1,.int .u8 23],rfl,h8,?_,by decide,by decide,rfl,rfl⟩⟩;exact(jQ2 w 163 #[.int .u8 5,.int .u8 58,.int .u8 4,.int .u8 1,.int .u8 23]).alloc _
theorem Yc(w:World)(hg:Sg w)(src:BA)(hs:src.size<=60000)(h8:8<=w.heap.size):Calls prog 76 #[.string src] w (jGC w src (vv (sb src))):=by
 have AB:∀(fn:Fn) (first cap:Array Value) (w:World),(Instr.makeFunc fn first cap).run prog w=.ok (.func fn first cap) w:=fun _ _ _ _=>rfl
 go_enter_defers func76,ntmps76
 go_wp2_with fail;have hA:((w.alloc (.cells #[.int .i64 0] 3)).alloc (.cells #[.bool false] 4)).heap.size=w.heap.size+1+1:=(by simp);have hM:=jAz ((w.alloc (.cells #[.int .i64 0] 3)).alloc (.cells #[.bool false] 4)) src (by omega);rw[hA]at hM;have hO:Old w ((((w.alloc (.cells #[.int .i64 0] 3)).alloc (.cells #[.bool false] 4)).alloc (.cells #[.int .u8 5,.int .u8 58,.int .u8 4,.int .u8 1,.int .u8 23] 163)).alloc (.cells #[.string src,.int .i64 0,.slice (some ⟨w.heap.size+1+1,0,none⟩) 5 5,.int .u8 0,.int .i64 0] 162)):=((((jQ0 NoX w).alloc _).alloc _).alloc _).alloc _;have GR:Blk ((((w.alloc (.cells #[.int .i64 0] 3)).alloc (.cells #[.bool false] 4)).alloc (.cells #[.int .u8 5,.int .u8 58,.int .u8 4,.int .u8 1,.int .u8 23] 163)).alloc (.cells #[.string src,.int .i64 0,.slice (some ⟨w.heap.size+1+1,0,none⟩) 5 5,.int .u8 0,.int .i64 0] 162)) w.heap.size 3 #[.int .i64 0]:=(((jQ2 w 3 #[.int .i64 0]).alloc _).alloc _).alloc _;have Fj:Blk ((((w.alloc (.cells #[.int .i64 0] 3)).alloc (.cells #[.bool false] 4)).alloc (.cells #[.int .u8 5,.int .u8 58,.int .u8 4,.int .u8 1,.int .u8 23] 163)).alloc (.cells #[.string src,.int .i64 0,.slice (some ⟨w.heap.size+1+1,0,none⟩) 5 5,.int .u8 0,.int .i64 0] 162)) (w.heap.size+1) 4 #[.bool false]:=by
  have:=jQ2 (w.alloc (.cells #[.int .i64 0] 3)) 4 #[.bool false];rw[show(w.alloc (.cells #[.int .i64 0] 3)).heap.size=w.heap.size+1 by simp]at this;exact(this.alloc _).alloc _
 generalize ((((w.alloc (.cells #[.int .i64 0] 3)).alloc (.cells #[.bool false] 4)).alloc (.cells #[.int .u8 5,.int .u8 58,.int .u8 4,.int .u8 1,.int .u8 23] 163)).alloc (.cells #[.string src,.int .i64 0,.slice (some ⟨w.heap.size+1+1,0,none⟩) 5 5,.int .u8 0,.int .i64 0] 162))=W at*;refine(jEe W (hg.old hO) _ _ src _ _ hM hs).mono ?_;clear hM hA;intro e w1 SN;generalize vv (sb src)=X at*;generalize hS:w.heap.size=S at*;cases X with
 |ok m=>
  obtain⟨rfl,r2,A2,c2,Lo,hk,hf⟩:=SN;have GR:=GR.kp hk (fun h=>by rcases h with e|e;omega;have:=jL5 e;omega);have Fj:=Fj.kp hk (fun h=>by rcases h with e|e;omega;have:=jL5 e;omega);have q1:w1.cell? ⟨S,0,none⟩=some (.int .i64 0):=GR.at_ 0 rfl;have q2:w1.cell? ⟨S+1,0,none⟩=some (.bool false):=Fj.at_ 0 rfl;have z1:=GR.frozen 0;have z2:=Fj.frozen 0;have Rr:=(GR.set_ 0 (.int .i64 (src.size:Int))).far (p:=⟨S+1,0,none⟩) (by simp) (.bool true);have Rq:=(Fj.far (p:=⟨S,0,none⟩) (by simp) (.int .i64 (src.size:Int))).set_ 0 (.bool true);have hU:Kp (fun k=>k=S\/k=S+1) w1 ((w1.setCell ⟨S,0,none⟩ (.int .i64 (src.size:Int))).setCell ⟨S+1,0,none⟩ (.bool true)):=
   ((jQ0 _ w1).setCell (p:=⟨S,0,none⟩) (fun _=>.inl rfl) _).setCell (p:=⟨S+1,0,none⟩) (fun _=>.inr rfl) _
  have FX:∀k,r2=some k->¬(k=S\/k=S+1):=by
   intro k Ra he;rcases hf with rfl|⟨k2,rfl,Fa⟩
   ·have:=jL5 Ra;omega
   ·have:=jL5 Ra;have:=Fj.lt;have h9:=(‹Blk W (S+1) _ _›).lt;omega
  have Gf:=G (show jGC w src (.ok m) (.returned (.tuple #[.pointer (some ⟨S+1+1+1,0,none⟩),.int .i64 (src.size:Int),.bool true])) ((w1.setCell ⟨S,0,none⟩ (.int .i64 (src.size:Int))).setCell ⟨S+1,0,none⟩ (.bool true))from by
   refine⟨S+1+1+1,r2,A2,c2,rfl,Lo.kp hU (by omega) FX,?_,by omega,fun k Ra=> ?_⟩
   ·refine(hO.trans hk (fun b hb hx=> ?_)).trans hU (fun b hb hx=> ?_)
    ·rcases hx with hx|hx
     ·omega
     ·have:=jL5 hx;omega
    ·rcases hx with hx|hx<;>omega
   ·have:=FX k Ra;rcases hf with rfl|⟨k2,rfl,Fa⟩
    ·have:=jL5 Ra;omega
    ·have:=jL5 Ra;have:=hO.size;omega)
  clear Lo hk hf hU FX hO;go_wp2;generalize ((w1.setCell ⟨S,0,none⟩ (.int .i64 (src.size:Int))).setCell ⟨S+1,0,none⟩ (.bool true))=WF at*;have f1:WF.cell? ⟨S,0,none⟩=some (.int .i64 (src.size:Int)):=Rr.at_ 0 rfl;have f2:WF.cell? ⟨S+1,0,none⟩=some (.bool true):=Rq.at_ 0 rfl;refine leaves_cons (f:=133) (args:= #[.pointer (some ⟨S,0,none⟩),.pointer (some ⟨S+1,0,none⟩)]) (by simp) (by simp[go_sem]) ?_;refine(Xu WF ⟨S,0,none⟩ ⟨S+1,0,none⟩).mono ?_;rintro e u' w'' ⟨rfl,rfl,rfl⟩;simp[Leaves,settle,results,results76,go_sem,f1,f2];exact Gf.out
 |error k=>
  obtain⟨rfl,hk⟩:=SN;have GR:=GR.kp hk (fun h=>by rcases h with e|e;omega;have:=jL5 e;omega);have Fj:=Fj.kp hk (fun h=>by rcases h with e|e;omega;have:=jL5 e;omega);have q1:w1.cell? ⟨S,0,none⟩=some (.int .i64 0):=GR.at_ 0 rfl;have q2:w1.cell? ⟨S+1,0,none⟩=some (.bool false):=Fj.at_ 0 rfl;have z1:=GR.frozen 0;have z2:=Fj.frozen 0;have Rr:=(GR.set_ 0 (.int .i64 (k:Int))).far (p:=⟨S+1,0,none⟩) (by simp) (.bool false);have Rq:=(Fj.far (p:=⟨S,0,none⟩) (by simp) (.int .i64 (k:Int))).set_ 0 (.bool false);have hU:Kp (fun k=>k=S\/k=S+1) w1 ((w1.setCell ⟨S,0,none⟩ (.int .i64 (k:Int))).setCell ⟨S+1,0,none⟩ (.bool false)):=
   ((jQ0 _ w1).setCell (p:=⟨S,0,none⟩) (fun _=>.inl rfl) _).setCell (p:=⟨S+1,0,none⟩) (fun _=>.inr rfl) _
  have Gf:=G (show jGC w src (.error k) (.returned (.tuple #[.pointer (some ⟨S+1+1+1,0,none⟩),.int .i64 (k:Int),.bool false])) ((w1.setCell ⟨S,0,none⟩ (.int .i64 (k:Int))).setCell ⟨S+1,0,none⟩ (.bool false))from by
   refine⟨_,rfl,(hO.trans hk (fun b hb hx=> ?_)).trans hU (fun b hb hx=> ?_)⟩
   ·rcases hx with hx|hx
    ·omega
    ·have:=jL5 hx;omega
   ·rcases hx with hx|hx<;>omega)
  have Hc:=G (jHH w1 ⟨S,0,none⟩ ⟨S+1,0,none⟩ 0 false k q1 q2 z1 z2 (by simp));clear hk hU hO;go_wp2;refine leaves_cons (f:=133) (args:= #[.pointer (some ⟨S,0,none⟩),.pointer (some ⟨S+1,0,none⟩)]) (by simp) (by simp[go_sem]) ?_;refine Hc.out.mono ?_;rintro e u' w'' ⟨rfl,rfl,rfl⟩;generalize ((w1.setCell ⟨S,0,none⟩ (.int .i64 (k:Int))).setCell ⟨S+1,0,none⟩ (.bool false))=WF at*;have f1:WF.cell? ⟨S,0,none⟩=some (.int .i64 (k:Int)):=Rr.at_ 0 rfl;have f2:WF.cell? ⟨S+1,0,none⟩=some (.bool false):=Rq.at_ 0 rfl;simp[Leaves,settle,results,results76,go_sem,f1,f2];exact Gf.out
inductive Rp (w:World):OA->LB->Prop
 |nil:Rp w none []
 |cons (g:Nat) (p:BA) (nx:OA) (l:LB):0<p.size->Blk w g 225 #[.string p,.pointer nx,.int .i64 ((sb p++l).length:Int)]->Rp w nx l->Rp w (some ⟨g,0,none⟩) (sb p++l)
theorem Rp.old{w w1:World}{a:OA}{l:LB}(h:Rp w a l)(ho:Old w w1):Rp w1 a l:=by
 induction h with
 |nil=>exact .nil
 |cons g p nx l hp hb _ ih=>exact .cons g p nx l hp (hb.old ho) ih
theorem Rp.kp{X:Nat->Prop}{w w1:World}{n:Nat}{a:OA}{l:LB}(h:Rp w a l)(hn:w.heap.size<=n)(ho:Kp X w w1)(hx:∀b,b<n->¬X b):Rp w1 a l:=by
 induction h with
 |nil=>exact .nil
 |cons g p nx l hp hb _ ih=>exact .cons g p nx l hp (hb.kp ho (hx g (jL8 hb.lt hn))) ih
theorem Rp.nil_of{w:World}{l:LB}(h:Rp w none l):l=[]:=by cases h;rfl
theorem Rp.nil_iff{w:World}{a:OA}{l:LB}(h:Rp w a l):a=none↔l=[]:=by
 cases h with
 |nil=>simp
 |cons g p nx l hp _ _=>
  constructor
  ·intro e;cases e
  ·intro e;have:=congrArg List.length e;rw[jJ4,jB,jN2]at this;omega
theorem Ky(w:World)(a:OA)(l:LB)(h:Rp w a l):Calls prog 174 #[.pointer a] w fun e w' =>e=.returned (.int .i64 (l.length:Int))/\w=w' :=by
 cases h with
 |nil=>
  go_enter func174,ntmps174;go_wp2;go_ret;exact⟨rfl,rfl⟩
 |cons g p nx l hp hb _=>
  have h2:=hb.at_ 2 (v:=.int .i64 ((sb p++l).length:Int)) rfl;generalize (sb p++l).length=n at*;go_enter func174,ntmps174;go_wp2;go_ret;exact⟨rfl,rfl⟩
theorem jf(w:World)(a:OA)(l:LB)(h:Rp w a l)(p:BA)(hl:p.size+l.length<=1000000000000):
  Calls prog 142 #[.pointer a,.string p] w fun e w' =>∃b,e=.returned (.pointer b)/\Rp w' b (sb p++l)/\Old w w' :=by
 have HL:=G (Ky w a l h);by_cases h0:p.size=0
 ·have Cm:p=⟨#[]⟩:=jEB (List.eq_nil_of_length_eq_zero (by rw[jB];exact h0));subst Cm;have Hr:=G h;clear h h0 HL;go_enter func142,ntmps142;go_wp2;go_ret;exact⟨a,rfl,Hr.out,jQ0 _ _⟩
 ·have Fh:(p.toList==[])=false:=jM3 (fun e=>h0 (by rw[ByteArray.toList_eq]at e;rw[<-jB];show(sb p).length=0;unfold sb;rw[e];rfl));have ew:IntKind.i64.wrap ((p.size:Int)+(l.length:Int))=(p.size:Int)+(l.length:Int):=jQ3 _ (by omega);have Hr:=G (show Rp (w.alloc (.cells #[.string p,.pointer a,.int .i64 ((p.size:Int)+(l.length:Int))] 225)) (some ⟨w.heap.size,0,none⟩) (sb p++l)from by
   refine .cons w.heap.size p a l (by omega) ?_ (h.old ((jQ0 _ _).alloc _));rw[jJ4,jB,show((p.size+l.length:Nat):Int)=(p.size:Int)+(l.length:Int)by omega];exact jQ2 _ _ _)
  clear h h0;generalize l.length=n at*;go_enter func142,ntmps142;go_wp2_with (go_at_call 174;refine HL.out.mono ?_;rintro e w1 ⟨rfl,rfl⟩);go_ret;exact⟨_,rfl,Hr.out,(jQ0 _ _).alloc _⟩
theorem KU:(prog.info? 5).map (fun i=>(i.zero,i.size,i.bytes))=some (some (.int .u8 0),1,1):=by kernel_rfl
def rlen(v:Value)(w:World):Nat:=match v with| .pointer (some ad)=>(intOf ((w.cell? ⟨ad.block,2,none⟩).getD undef)).toNat|_=>0
theorem Rp.rlen{w:World}{a:OA}{l:LB}(h:Rp w a l):rlen (.pointer a) w=l.length:=by
 cases h with
 |nil=>rfl
 |cons g p nx l hp hb _=>
  show(intOf ((w.cell? ⟨g,2,none⟩).getD undef)).toNat=_;rw[hb.at_ 2 (v:=.int .i64 ((sb p++l).length:Int)) rfl];exact jL1 _
structure RopSt(w:World)(l:LB)(wr:World)(a:OA)(acc rest:LB)(A:OA)(c:Nat):Prop where
 eq:l=acc++rest
 own:wr.ownsRow w.heap.size 5 1 (.slice A acc.length c) acc.length (acc.map bv)
 old:Old w wr
 src:Rp w a rest
theorem XQ(w:World)(a:OA)(l:LB)(h:Rp w a l)(hl:l.length<=1000000000000):
  Calls prog 80 #[.pointer a] w fun e w' =>∃A c,e=.returned (.slice A l.length c)/\w'.ownsRow w.heap.size 5 1 (.slice A l.length c) l.length (l.map bv)/\Old w w' :=by
 obtain⟨i0,hi,Fm,GI,GW⟩:=info_parts KU;have H0:=G (show RopSt w l w a [] l none 0 from⟨rfl,World.ownsRow_nil _ _ _ _,jQ0 _ _,h⟩);clear h;go_enter func80,ntmps80;go_wp2;go_loopw [0,3] (fun p v wr=>∃a acc rest A c,p=.pointer a/\v=.slice A acc.length c/\RopSt w l wr a acc rest A c) (fun p _ wr=>rlen p wr)
 case atStart=>exact⟨a,[],l,none,0,rfl,rfl,H0.out⟩
 case round=>
  clear H0;obtain⟨a,acc,rest,A,c,rfl,rfl,Hv⟩:=hrel;have WM:=G ((Hv.src.old Hv.old).rlen);have Ht:=Hv.eq;have Hi:=Hv.own;have R0:=Hv.src;have Ge:=G Hv.old;clear Hv;cases R0 with
  |nil=>
   rw[jN7]at Ht;subst Ht;have No:=G Hi;clear Hi;go_wp2;go_ret;exact⟨A,c,rfl,No.out,Ge.out⟩
  |cons g p nx l2 hp hb hn=>
   have NW:=hb.old Ge.out;have Nl:=NW.at_ 0 (v:=.string p) rfl;have Hb:=G hb;have Hn:=G hn;have Mo:=G Ht;have hlen:acc.length+p.size<=1000000000000:=by
    have:=congrArg List.length Ht;rw[jJ4,jJ4,jB]at this;omega
   clear hb hn Ht NW;have GA:=G (show acc.length+p.size<=maxLen by unfold maxLen;omega);have D8:=G Ge.out.size;generalize hk:acc.length=k at*;go_wp2_with (at_builtin;refine jh _ rfl (.tmp 10) (.tmp 14) 33 9 rfl w.heap.size 5 i0 underlying33 underlying9 hi Fm GI GW (.slice A k c) k (acc.map bv) rfl Hi p rfl GA.out (by omega) D8.out ?_;intro A' c' w3 FC hgrow Fc;have L8:Old w w3:=Ge.out.grown hgrow (fun k e hlt=>by have:=(Hi.lt k e).1;omega);have P8:w3.cell? ⟨g,1,none⟩=some (.pointer nx):=(Hb.out.old L8).at_ 1 rfl;have PV:=G L8;clear L8);have Hv:RopSt w l w3 nx (acc++sb p) l2 A' c' :=⟨by rw[Mo.out,jK1],by
    rw[jJ4,jB,hk,jN3];exact FC,PV.out,Hn.out⟩
   refine⟨⟨nx,acc++sb p,l2,A',c',rfl,by rw[jJ4,jB,hk],Hv⟩,?_⟩;rw[WM.out,(Hn.out.old PV.out).rlen,jJ4,jB];omega
theorem Xb{w:World}{g base:Nat}{t:TypeId}{xs:List Value}(h:Blk w g t xs.toArray)(hb:base<=g)(hm:xs.length<=maxLen):w.ownsRow base t 1 (.slice (some ⟨g,0,none⟩) xs.length xs.length) xs.length xs:=by
 refine⟨by simp,.inr ⟨g,xs.length,xs.toArray,rfl,hb,h,jL3 _,hm,by simp,by simp⟩⟩
structure BRow(w:World)(base:Nat)(l:LB)(A:OA)(c:Nat):Prop where
 own:w.ownsRow base 5 1 (.slice A l.length c) l.length (l.map bv)
 le:base<=w.heap.size
def From(base:Nat):Nat->Prop:=fun k=>base<=k
section
variable{w w' :World}{base:Nat}{l:LB}{A:OA}{c:Nat}
theorem BRow.rd(h:BRow w base l A c):Rd w 1 A l.length (l.map bv):=Rd.of_own h.own
theorem BRow.old(h:BRow w base l A c)(ho:Old w w'):BRow w' base l A c:=⟨jV h.own ho (fun _ _ f=>f),jL4 h.le ho.size⟩
theorem BRow.kp{X:Nat->Prop}(h:BRow w base l A c)(ho:Kp X w w')(hx:∀k,base<=k->k<w.heap.size->¬X k):BRow w' base l A c:=by
 refine⟨jV h.own ho (fun k e=> ?_),jL4 h.le ho.size⟩;have:=h.own.lt k e;exact hx k this.1 this.2
theorem BRow.drewN(h:BRow w base l A c)(n:Nat):BRow (w.drewN n) base l A c:=h.old ((jQ0 _ _).drewN n)
theorem BRow.alloc(h:BRow w base l A c)(o:Obj):BRow (w.alloc o) base l A c:=h.old ((jQ0 _ _).alloc o)
theorem BRow.new(w:World)(l:LB)(hm:l.length<=maxLen):BRow (w.alloc (.cells (l.map bv).toArray 5)) w.heap.size l (some ⟨w.heap.size,0,none⟩) l.length:=by
 refine⟨?_,by simp⟩;have:=Xb (base:=w.heap.size) (jQ2 w 5 (l.map bv).toArray) (jL3 _) (by simpa using hm);simpa using this
theorem BRow.grown{A' :OA}{c' :Nat}{m:LB}{n:Nat}(h:BRow w base l A c)(hn:m.length=n){xs:List Value}(WD:xs=m.map bv)
  (Hi:w'.ownsRow base 5 1 (.slice A' (l.length+n) c') (l.length+n) (l.map bv++xs)) (hg:w.grownBy w' (Value.slice A l.length c).ownBlock):
  BRow w' base (l++m) A' c' /\Kp (From base) w w' :=by
 subst hn WD;refine⟨⟨by rw[jJ4,jN3];exact Hi,jL4 h.le hg.size⟩,?_⟩;exact(jQ0 (From base) w).grown hg (fun k e _=>(h.own.lt k e).1)
end
theorem From.old{w w1 w2:World}{base:Nat}(h:Old w w1)(hk:Kp (From base) w1 w2)(hb:w.heap.size<=base):Old w w2:=h.trans hk (fun b NW hx=>by have:base<=b:=hx;omega)
section
variable{w:World}{ops:Array Oper}{rest:List Oper}{o:Oper}{a:Act}{Q:Exit->Act->World->Prop}
theorem vN(s x:Operand){base:Nat}{l:LB}{A:OA}{c:Nat}(h:BRow w base l A c){B:OA}{m:LB}{d:Nat}(hr:Rd w 1 B m.length (m.map bv))(hl:l.length+m.length<=10000000000000)
  (Wb:o.guard=none) (ho:o.op=.call {callee:=.builtin .append,args:= #[s,x],argTypes:= #[33,33]}) (hs:a.eval s=.slice A l.length c) (hx:a.eval x=.slice B m.length d)
  (hK:∀(out:LB) A' c' w',Hid (out=l++m)->BRow w' base out A' c' ->Kp (From base) w w' ->wpList prog ops Q rest (a.put o.dst (.slice A' out.length c')) w'):wpList prog ops Q (o::rest) a w:=by
 obtain⟨i0,hi,Fm,Fi,Fl⟩:=info_parts KU;refine jE w Wb s x 33 ho base 5 i0 (.int .u8 0) 1 1 underlying33 hi Fm Fi Fl rfl (by decide) (.slice A l.length c) l.length (l.map bv) hs h.own B m.length d (m.map bv) hx hr (qy _) (by unfold maxLen;omega) (by omega) h.le ?_;intro A' c' w' Hi hg _;obtain⟨h1,h2⟩:=h.grown rfl rfl Hi hg;have:=hK _ A' c' w' (G rfl) h1 h2
 rwa [jJ4]at this
theorem JU{K:Act->World->Prop}{E:Prop}(s x:Operand){base:Nat}{l:LB}{A:OA}{c:Nat}(h:BRow w base l A c){B:OA}{m:LB}{d:Nat}(hr:Rd w 1 B m.length (m.map bv))(hl:l.length+m.length<=10000000000000)
  (Wb:o.guard=none) (ho:o.op=.call {callee:=.builtin .append,args:= #[s,x],argTypes:= #[33,33]}) (hs:a.eval s=.slice A l.length c) (hx:a.eval x=.slice B m.length d)
  (hK:∀(out:LB) A' c' w',Hid (out=l++m)->BRow w' base out A' c' ->Kp (From base) w w' ->K (a.put o.dst (.slice A' out.length c')) w'):if Region.wanted o (yielded ops a.tmps)=true then Oper.wp prog o a w K Q else E:=by
 obtain⟨i0,hi,Fm,Fi,Fl⟩:=info_parts KU;refine kX w Wb s x 33 ho base 5 i0 (.int .u8 0) 1 1 underlying33 hi Fm Fi Fl rfl (by decide) (.slice A l.length c) l.length (l.map bv) hs h.own B m.length d (m.map bv) hx hr (qy _) (by unfold maxLen;omega) (by omega) h.le ?_;intro A' c' w' Hi hg _;obtain⟨h1,h2⟩:=h.grown rfl rfl Hi hg;have:=hK _ A' c' w' (G rfl) h1 h2
 rwa [jJ4]at this
theorem jCA(s x:Operand){base:Nat}{l:LB}{A:OA}{c:Nat}(h:BRow w base l A c){t:BA}(hl:l.length+t.size<=10000000000000)
  (Wb:o.guard=none) (ho:o.op=.call {callee:=.builtin .append,args:= #[s,x],argTypes:= #[33,9]}) (hs:a.eval s=.slice A l.length c) (hx:a.eval x=.string t)
  (hK:∀(out:LB) A' c' w',Hid (out=l++sb t)->BRow w' base out A' c' ->Kp (From base) w w' ->wpList prog ops Q rest (a.put o.dst (.slice A' out.length c')) w'):wpList prog ops Q (o::rest) a w:=by
 obtain⟨i0,hi,Fm,Fi,Fl⟩:=info_parts KU;refine jh w Wb s x 33 9 ho base 5 i0 underlying33 underlying9 hi Fm Fi Fl (.slice A l.length c) l.length (l.map bv) hs h.own t hx (by unfold maxLen;omega) (by omega) h.le ?_;intro A' c' w' Hi hg _;obtain⟨h1,h2⟩:=h.grown (jB t) rfl Hi hg;have:=hK _ A' c' w' (G rfl) h1 h2
 rwa [jJ4,jB]at this
end
theorem jAW(c:UInt8):(yQ c).length<=4:=by
 unfold yQ
 repeat' split
 all_goals simp
theorem Kq:∀(l:LB),(l.flatMap yQ).length<=4*l.length
 |[]=>by simp
 |c::l=>by
  have:=jAW c;have:=Kq l;rw[jL9,jJ4,jK6];omega
theorem vV(w:World)(T:TypeId)(l:LB):Rd (w.alloc (.cells (l.map bv).toArray T)) 1 (some ⟨w.heap.size,0,none⟩) l.length (l.map bv):=by
 refine⟨by simp,fun _=>⟨_,_,rfl,fun j u hu=> ?_⟩⟩;have hb:=jQ2 w T (l.map bv).toArray;have:=hb.cell j;simp only[Nat.zero_add];rw[this];simpa using hu
theorem jHO(z:UInt8):bits .and .u8 (z.toNat:Int) 15=((z.toNat% 16:Nat):Int):=by
 have h:∀n:Fin 256,bits .and .u8 (n.val:Int) 15=((n.val% 16:Nat):Int):=(by decide+kernel);exact h ⟨z.toNat,z.toNat_lt⟩
theorem VP(k:Nat)(h:k<16):(⟨#[48,49,50,51,52,53,54,55,56,57,97,98,99,100,101,102]⟩:BA)[k]'(by exact h)=Vj k:=by
 have h2:∀n:Fin 16,(⟨#[48,49,50,51,52,53,54,55,56,57,97,98,99,100,101,102]⟩:BA)[n.val]'(by exact n.isLt)=Vj n.val:=(by decide+kernel);exact h2 ⟨k,h⟩
theorem XW(w:World)(s:BA)(hs:s.size<=100000000):Calls prog 222 #[.string s] w fun e w' =>e=.returned (.string ⟨(kw (sb s)).toArray⟩)/\Old w w' :=by
 have Hs:=G hs;have H0:=G (show BRow (w.alloc (.cells #[.int .u8 34] 5)) w.heap.size [34] (some ⟨w.heap.size,0,none⟩) 1 from BRow.new w [34] (by decide));go_enter func222,ntmps222;go_wp2_with fail;go_loopw [3,9] (fun v i wr=>∃(j:Nat) (A:OA) (c:Nat) (bl:LB),j<=s.size/\i=.int .i64 (j:Int)/\v=.slice A bl.length c/\Hid (bl=34::((sb s).take j).flatMap yQ)/\BRow wr w.heap.size bl A c/\Old w wr) (fun _ i _=>s.size-(intOf i).toNat)
 case atStart=>exact⟨0,_,_,[34],Nat.zero_le _,rfl,rfl,G rfl,H0.out,(jQ0 _ _).alloc _⟩
 case round=>
  obtain⟨j,A,c,bl,hj,rfl,rfl,HE,hb,ho⟩:=hrel;have HB:=G hb;have HO:=G ho;have HL:=G (show bl.length<=400000001 by
   have h1:=Kq ((sb s).take j);have h2:=Hs.out;rw[jK9,jB]at h1;rw[HE.out,jK6];omega)
  clear hb ho;by_cases hlt:j<s.size
  ·have b2:(0:Int)<=(j:Int):=(by omega);have b3:(j:Int)<(s.size:Int):=(by omega);have b4:(j:Int).toNat=j:=(by omega);have b5:IntKind.i64.wrap ((j:Int)+1)=(j:Int)+1:=jQ3 _ (by omega);have HN:=G (show∀out:LB,out=bl++yQ s[j]->out=34::((sb s).take (j+1)).flatMap yQ from fun out e=>by rw[e,HE.out,yN s j hlt,jN5,jL9,List.flatMap_nil,jN7];rfl);obtain⟨z,hz⟩:∃z,s[j]=z:=⟨_,rfl⟩;rw[hz]at HN;clear HE;by_cases h34:z=34
   ·subst h34;go_wp2_with (first|(at_builtin;refine vN (.tmp 26) (.tmp 28) (HB.out.alloc _) (m:=[92,34]) (vV _ _ [92,34]) (by have:=HL.out;simp only[jK6,jN2];omega) rfl rfl rfl rfl ?_;intro out A2 c2 w2 eo h2 hU)|fail);go_roundw
    case rel=>exact⟨j+1,A2,c2,out,by omega,by rw[show((j+1:Nat):Int)=(j:Int)+1 by omega],rfl,G (HN.out _ (eo.out.trans rfl)),h2,From.old (HO.out.alloc _) hU (jL3 _)⟩
    case measure=>simp only[intOf];omega
   by_cases h92:z=92
   ·subst h92;go_wp2_with (first|(at_builtin;refine vN (.tmp 26) (.tmp 28) (HB.out.alloc _) (m:=[92,92]) (vV _ _ [92,92]) (by have:=HL.out;simp only[jK6,jN2];omega) rfl rfl rfl rfl ?_;intro out A2 c2 w2 eo h2 hU)|fail);go_roundw
    case rel=>exact⟨j+1,A2,c2,out,by omega,by rw[show((j+1:Nat):Int)=(j:Int)+1 by omega],rfl,G (HN.out _ (eo.out.trans rfl)),h2,From.old (HO.out.alloc _) hU (jL3 _)⟩
    case measure=>simp only[intOf];omega
   by_cases GK:z=10
   ·subst GK;go_wp2_with (first|(at_builtin;refine jCA (.tmp 33) (.const (.string ⟨#[92,110]⟩)) HB.out (t:=⟨#[92,110]⟩) (by have:=HL.out;show bl.length+2<=_;omega) rfl rfl rfl rfl ?_;intro out A2 c2 w2 eo h2 hU)|fail);go_roundw
    case rel=>exact⟨j+1,A2,c2,out,by omega,by rw[show((j+1:Nat):Int)=(j:Int)+1 by omega],rfl,G (HN.out _ (eo.out.trans rfl)),h2,From.old HO.out hU (jL3 _)⟩
    case measure=>simp only[intOf];omega
   by_cases h9:z=9
   ·subst h9;go_wp2_with (first|(at_builtin;refine jCA (.tmp 38) (.const (.string ⟨#[92,116]⟩)) HB.out (t:=⟨#[92,116]⟩) (by have:=HL.out;show bl.length+2<=_;omega) rfl rfl rfl rfl ?_;intro out A2 c2 w2 eo h2 hU)|fail);go_roundw
    case rel=>exact⟨j+1,A2,c2,out,by omega,by rw[show((j+1:Nat):Int)=(j:Int)+1 by omega],rfl,G (HN.out _ (eo.out.trans rfl)),h2,From.old HO.out hU (jL3 _)⟩
    case measure=>simp only[intOf];omega
   have n34:¬(z.toNat:Int)=34:=fun e=>h34 (UInt8.toNat_inj.1 (show z.toNat=34 by omega));have n92:¬(z.toNat:Int)=92:=fun e=>h92 (UInt8.toNat_inj.1 (show z.toNat=92 by omega));have n10:¬(z.toNat:Int)=10:=fun e=>GK (UInt8.toNat_inj.1 (show z.toNat=10 by omega));have n9:¬(z.toNat:Int)=9:=fun e=>h9 (UInt8.toNat_inj.1 (show z.toNat=9 by omega));clear h34 h92 GK h9;have e34:((z.toNat:Int)==34)=false:=jM3 n34;have e92:((z.toNat:Int)==92)=false:=jM3 n92;have e10:((z.toNat:Int)==10)=false:=jM3 n10;have e9:((z.toNat:Int)==9)=false:=jM3 n9;have HQ:=G (show yQ z=if z.toNat<32\/126<z.toNat then [92,120,Vj (z.toNat/16),Vj (z.toNat% 16)]else [z]by unfold yQ;rw[jJ5 (by omega),jJ5 (by omega),jJ5 (by omega)]);by_cases Wr:z.toNat<32
   ·have m1:(z.toNat:Int)<32:=(by omega);have f1:decide ((z.toNat:Int)<32)=true:=jK5 m1;have Wy:=G (HQ.out.trans (jJ6 (.inl Wr)));rw[Wy.out]at HN;clear HQ Wy;go_wp2_with fail;obtain⟨q,hq⟩:∃q:Nat,z.toNat/16=q:=⟨_,rfl⟩;obtain⟨r,hr⟩:∃r:Nat,z.toNat% 16=r:=⟨_,rfl⟩;rw[hq,hr]at HN;have q16:q<16:=by have:=z.toNat_lt;omega
    have r16:r<16:=(by omega);have Cl:(z.toNat:Int)/16=(q:Int):=(by omega);have Ci:bits .and .u8 (z.toNat:Int) 15=(r:Int):=(by rw[jHO,hr]);have q0:(0:Int)<=(q:Int):=(by omega);have q1:(q:Int)<16:=(by omega);have q2:(q:Int).toNat=q:=(by omega);have r0:(0:Int)<=(r:Int):=(by omega);have r1:(r:Int)<16:=(by omega);have r2:(r:Int).toNat=r:=(by omega);have Cd:=VP q q16;have Cc:=VP r r16;clear hq hr;refine jL (S:=fun W=>Kp (From w.heap.size) wr W) 10 rfl (by kernel_rfl) (jQ0 _ wr).drew (fun Ha=> ?_);refine uz (ls' :=([false,false,false,false,false,false,false,false,false,false]:List Bool).toArray) rfl ?_;refine' jH 0 rfl rfl (by kernel_rfl) (fun _ _ _ h=>h) rfl Ha (fun w' Hh=> ?_) ?_;rotate_left;(skip;clear Hh;go_simp<;>with_reducible rfl);simp only[Act.put,jJ1,jJ2,jJ3];refine' jH 1 rfl rfl (by kernel_rfl) (fun _ _ _ h=>h) rfl Ha (fun w' Hh=> ?_) ?_;rotate_left;(skip;clear Hh;go_simp<;>with_reducible rfl);simp only[Act.put,jJ1,jJ2,jJ3];refine' jH 4 rfl rfl (by kernel_rfl) (fun _ _ _ h=>h) rfl Ha (fun w' Hh=> ?_) ?_;rotate_left;(skip;clear Hh;go_simp<;>with_reducible rfl);simp only[Act.put,jJ1,jJ2,jJ3];refine' jH 2 rfl rfl (by kernel_rfl) (fun _ _ _ h=>h) rfl Ha (fun w' Hh=> ?_) ?_;rotate_left;(skip;clear Hh;go_simp<;>with_reducible rfl);simp only[Act.put,jJ1,jJ2,jJ3];refine' jH 5 rfl rfl (by kernel_rfl) (fun _ _ _ h=>h) rfl Ha (fun w' Hh=> ?_) ?_;rotate_left;(skip;clear Hh;go_simp<;>with_reducible rfl);simp only[Act.put,jJ1,jJ2,jJ3];refine' jH 3 rfl rfl (by kernel_rfl) (fun _ _ _ h=>h) rfl Ha (fun w' Hh=> ?_) ?_;rotate_left;(skip;clear Hh;go_simp<;>with_reducible rfl);simp only[Act.put,jJ1,jJ2,jJ3];refine' jH 6 rfl rfl (by kernel_rfl) (fun _ _ _ h=>h) rfl Ha (fun w' Hh=> ?_) ?_;rotate_left;(skip;clear Hh;go_simp<;>with_reducible rfl);simp only[Act.put,jJ1,jJ2,jJ3];refine jn 7 rfl (by kernel_rfl) (fun K hK=> ?_);go_simp;refine hK.out _ _ (((jQ0 _ wr).drew).alloc _) (fun Ha=> ?_);clear hK K;simp only[jJ1,jJ2,jJ3];refine jn 8 rfl (by kernel_rfl) (fun K hK=> ?_);refine JU (.tmp 47) (.tmp 54) ((HB.out.old ((jQ0 NoX wr).drew)).alloc _) (m:=[92,120,Vj q,Vj r]) (vV _ _ [92,120,Vj q,Vj r]) (by have:=HL.out;simp only[jK6,jN2];omega) rfl rfl rfl rfl ?_;intro out A2 c2 w2 eo h2 hU;refine hK.out _ _ ((((jQ0 _ wr).drew).alloc _).trans hU (fun _ _ e=>e)) (fun Ha=> ?_);clear hK K;simp only[Act.put,jJ1,jJ2,jJ3];refine' jH 9 rfl rfl (by kernel_rfl) (fun _ _ _ h=>h) rfl Ha (fun w' Hh=> ?_) ?_;rotate_left;(skip;clear Hh;go_simp<;>with_reducible rfl);simp only[Act.put,jJ1,jJ2,jJ3];refine wpAnyH_done (by kernel_rfl) ?_ _;go_wp2_with fail;go_roundw
    case rel=>exact⟨j+1,A2,c2,out,by omega,by rw[show((j+1:Nat):Int)=(j:Int)+1 by omega],rfl,G (HN.out _ (eo.out.trans rfl)),h2,From.old ((HO.out.trans ((jQ0 NoX wr).drew) (fun _ _ e=>e)).alloc _) hU (jL3 _)⟩
    case measure=>simp only[intOf];omega
   ·by_cases Rc:126<z.toNat
    ·have m1:¬(z.toNat:Int)<32:=(by omega);have m2:(126:Int)<(z.toNat:Int):=(by omega);have f1:decide ((z.toNat:Int)<32)=false:=jK3 m1;have f2:decide ((126:Int)<(z.toNat:Int))=true:=jK5 m2;have Wy:=G (HQ.out.trans (jJ6 (.inr Rc)));rw[Wy.out]at HN;clear HQ Wy;go_wp2_with fail;obtain⟨q,hq⟩:∃q:Nat,z.toNat/16=q:=⟨_,rfl⟩;obtain⟨r,hr⟩:∃r:Nat,z.toNat% 16=r:=⟨_,rfl⟩;rw[hq,hr]at HN;have q16:q<16:=by have:=z.toNat_lt;omega
     have r16:r<16:=(by omega);have Cl:(z.toNat:Int)/16=(q:Int):=(by omega);have Ci:bits .and .u8 (z.toNat:Int) 15=(r:Int):=(by rw[jHO,hr]);have q0:(0:Int)<=(q:Int):=(by omega);have q1:(q:Int)<16:=(by omega);have q2:(q:Int).toNat=q:=(by omega);have r0:(0:Int)<=(r:Int):=(by omega);have r1:(r:Int)<16:=(by omega);have r2:(r:Int).toNat=r:=(by omega);have Cd:=VP q q16;have Cc:=VP r r16;clear hq hr;refine jL (S:=fun W=>Kp (From w.heap.size) wr W) 10 rfl (by kernel_rfl) (jQ0 _ wr).drew (fun Ha=> ?_);refine uz (ls' :=([false,false,false,false,false,false,false,false,false,false]:List Bool).toArray) rfl ?_;refine' jH 0 rfl rfl (by kernel_rfl) (fun _ _ _ h=>h) rfl Ha (fun w' Hh=> ?_) ?_;rotate_left;(skip;clear Hh;go_simp<;>with_reducible rfl);simp only[Act.put,jJ1,jJ2,jJ3];refine' jH 1 rfl rfl (by kernel_rfl) (fun _ _ _ h=>h) rfl Ha (fun w' Hh=> ?_) ?_;rotate_left;(skip;clear Hh;go_simp<;>with_reducible rfl);simp only[Act.put,jJ1,jJ2,jJ3];refine' jH 4 rfl rfl (by kernel_rfl) (fun _ _ _ h=>h) rfl Ha (fun w' Hh=> ?_) ?_;rotate_left;(skip;clear Hh;go_simp<;>with_reducible rfl);simp only[Act.put,jJ1,jJ2,jJ3];refine' jH 2 rfl rfl (by kernel_rfl) (fun _ _ _ h=>h) rfl Ha (fun w' Hh=> ?_) ?_;rotate_left;(skip;clear Hh;go_simp<;>with_reducible rfl);simp only[Act.put,jJ1,jJ2,jJ3];refine' jH 5 rfl rfl (by kernel_rfl) (fun _ _ _ h=>h) rfl Ha (fun w' Hh=> ?_) ?_;rotate_left;(skip;clear Hh;go_simp<;>with_reducible rfl);simp only[Act.put,jJ1,jJ2,jJ3];refine' jH 3 rfl rfl (by kernel_rfl) (fun _ _ _ h=>h) rfl Ha (fun w' Hh=> ?_) ?_;rotate_left;(skip;clear Hh;go_simp<;>with_reducible rfl);simp only[Act.put,jJ1,jJ2,jJ3];refine' jH 6 rfl rfl (by kernel_rfl) (fun _ _ _ h=>h) rfl Ha (fun w' Hh=> ?_) ?_;rotate_left;(skip;clear Hh;go_simp<;>with_reducible rfl);simp only[Act.put,jJ1,jJ2,jJ3];refine jn 7 rfl (by kernel_rfl) (fun K hK=> ?_);go_simp;refine hK.out _ _ (((jQ0 _ wr).drew).alloc _) (fun Ha=> ?_);clear hK K;simp only[jJ1,jJ2,jJ3];refine jn 8 rfl (by kernel_rfl) (fun K hK=> ?_);refine JU (.tmp 47) (.tmp 54) ((HB.out.old ((jQ0 NoX wr).drew)).alloc _) (m:=[92,120,Vj q,Vj r]) (vV _ _ [92,120,Vj q,Vj r]) (by have:=HL.out;simp only[jK6,jN2];omega) rfl rfl rfl rfl ?_;intro out A2 c2 w2 eo h2 hU;refine hK.out _ _ ((((jQ0 _ wr).drew).alloc _).trans hU (fun _ _ e=>e)) (fun Ha=> ?_);clear hK K;simp only[Act.put,jJ1,jJ2,jJ3];refine' jH 9 rfl rfl (by kernel_rfl) (fun _ _ _ h=>h) rfl Ha (fun w' Hh=> ?_) ?_;rotate_left;(skip;clear Hh;go_simp<;>with_reducible rfl);simp only[Act.put,jJ1,jJ2,jJ3];refine wpAnyH_done (by kernel_rfl) ?_ _;go_wp2_with fail;go_roundw
     case rel=>exact⟨j+1,A2,c2,out,by omega,by rw[show((j+1:Nat):Int)=(j:Int)+1 by omega],rfl,G (HN.out _ (eo.out.trans rfl)),h2,From.old ((HO.out.trans ((jQ0 NoX wr).drew) (fun _ _ e=>e)).alloc _) hU (jL3 _)⟩
     case measure=>simp only[intOf];omega
    ·have m1:¬(z.toNat:Int)<32:=(by omega);have m2:¬(126:Int)<(z.toNat:Int):=(by omega);have f1:decide ((z.toNat:Int)<32)=false:=jK3 m1;have f2:decide ((126:Int)<(z.toNat:Int))=false:=jK3 m2;have Wy:=G (HQ.out.trans (jJ5 (fun h=>h.elim Wr Rc)));rw[Wy.out]at HN;clear HQ Wy;go_wp2_with (first|(at_builtin;refine vN (.tmp 15) (.tmp 17) (HB.out.alloc _) (m:=[z]) (vV _ _ [z]) (by have:=HL.out;simp only[jK6,jN2];omega) rfl rfl rfl rfl ?_;intro out A2 c2 w2 eo h2 hU)|fail);go_roundw
     case rel=>exact⟨j+1,A2,c2,out,by omega,by rw[show((j+1:Nat):Int)=(j:Int)+1 by omega],rfl,G (HN.out _ (eo.out.trans rfl)),h2,From.old (HO.out.alloc _) hU (jL3 _)⟩
     case measure=>simp only[intOf];omega
  ·obtain rfl:j=s.size:=(by omega);have HF:=G (show∀out:LB,out=bl++[34]->out=kw (sb s)from fun out e=>by rw[e,HE.out,<-jB,List.take_length];rfl);clear HE hj;go_wp2_with (first|(at_builtin;refine vN (.tmp 57) (.tmp 58) (HB.out.alloc _) (m:=[34]) (vV _ _ [34]) (by have:=HL.out;simp only[jK6,jN2];omega) rfl rfl rfl rfl ?_;intro out A2 c2 w2 eo h2 hU;have WU:=jj (P:=prog) w2 (src:=33) (dst:=9) underlying33 underlying5 underlying9 A2 out.length c2 out h2.rd)|fail);go_ret;exact⟨by rw[HF.out out eo.out];rfl,From.old (HO.out.alloc _) hU (jL3 _)⟩
end Go.Proofs.YtmmjcbbogokmfaaGreatDoor

import Derived.Test.YtifbhcfdealfaaaGreatDoorMl17
import Derived.Test.YtifbhcfdealfaaaGreatDoorMl18
set_option maxRecDepth 100000
set_option maxHeartbeats 25600000
namespace Go.Proofs.YtifbhcfdealfaaaGreatDoor
open Go.Proofs.Tryz
open Go.RowKit
structure BdS where
 b0:Nat
 b1:Nat
 b2:Nat
 b3:Nat
 b4:Nat
 uA:OA
 uc:Nat
 ups:List Int
 xA:OA
 xc:Nat
 all:List Use
 p:Wr9N
def Jt(u:Use):List Value:=[iv u.fr,iv u.root,iv u.ahead,iv u.step,iv u.lays]
def mv(b:Nat):Value:=.map (some b)
def bdC(t:Tre)(s:Sl)(b:BdS):List Value:=[.string t.name,iv t.at_,.slice s.aA t.attrs.length s.ac,.slice s.gA t.stages.length s.gc,.slice s.mA t.miles.length s.mc,.slice s.pA t.steps.length s.pc,.slice s.nA t.nodes.length s.nc,.slice s.oA t.ats.length s.oc,
 mv b.b0,mv b.b1,mv b.b2,mv b.b3,mv b.b4,.slice b.uA b.ups.length b.uc,.slice b.xA b.all.length b.xc,iv b.p.1,iv (b.p.2:Int)]
def Bx(w:World)(g:Nat)(t:Tre)(s:Sl)(b:BdS):Prop:=Blk w g 138 (bdC t s b).toArray
def BxR(W:World)(g:Nat)(t:Tre)(s:Sl)(b:BdS)(p:Wr9N)(w' :World):Prop:=Bx w' g t s {b with p:=p}/\Kp (fun k=>k=g) W w'
theorem Bx.same{w:World}{g:Nat}{t:Tre}{s:Sl}{b:BdS}(h:Bx w g t s b):BxR w g t s b b.p w:=⟨h,jQ0 _ _⟩
theorem kH(W:World)(g:Nat)(t:Tre)(s:Sl)(b:BdS)(h:Bx W g t s b)(at_:Int)(e:Nat):
  Calls prog 171 #[.pointer (some ⟨g,0,none⟩),iv at_,iv (e:Int)] W fun d w' =>d=.returned (.tuple #[])/\BxR W g t s b (kW b.p at_ e) w' :=by
 have c15:=Blk.at_ h 15 (v:=iv b.p.1) rfl;have c16:=Blk.at_ h 16 (v:=iv (b.p.2:Int)) rfl;have z15:=Blk.frozen h 15;have z16:=Blk.frozen h 16;have fin:BxR W g t s b (at_,e) ((W.setCell ⟨g,15,none⟩ (iv at_)).setCell ⟨g,16,none⟩ (iv (e:Int))):=
  ⟨(Blk.setL (cs:=bdC t s b) h 15 (iv at_)).setL 16 (iv (e:Int)),((jQ0 (fun k=>k=g) W).setCell (p:=⟨g,15,none⟩) (fun _=>rfl) _).setCell (p:=⟨g,16,none⟩) (fun _=>rfl) _⟩
 have Hf:=G fin;have Hs:=G h.same;unfold kW;by_cases h0:b.p.2=0
 ·rw[jJ6 (.inl h0)];rw[h0]at c16;clear h h0 fin;unfold iv at*;simp only[Int.cast_ofNat_Int]at c16;generalize b.p.1=x at c15;generalize (e:Int)=e' at*;go_enter func171,ntmps171;go_wp2;go_end0;exact⟨by trivial,Hf.out⟩
 ·have t0:((b.p.2:Int)==0)=false:=jM3 (by omega);by_cases h1:at_ <b.p.1
  ·rw[jJ6 (.inr h1)];clear h h0 fin;unfold iv at*;generalize b.p.1=x at c15 h1;generalize (b.p.2:Int)=y at c16 t0;generalize (e:Int)=e' at*;go_enter func171,ntmps171;go_wp2;go_end0;exact⟨by trivial,Hf.out⟩
  ·rw[jJ5 (fun hh=>hh.elim h0 h1)];clear h h0 fin;unfold iv at*;generalize b.p.1=x at c15 h1;generalize (b.p.2:Int)=y at c16 t0;generalize (e:Int)=e' at*;go_enter func171,ntmps171;go_wp2;go_end0;exact⟨by trivial,Hs.out⟩
theorem zz:Maps.Keyed prog 9:=Maps.string_keyed underlying9
theorem vT(w:World):(zeroValue 3).run prog w=.ok (.int .i64 0) w:=by kernel_rfl
abbrev MW(w:World)(b n:Nat)(f:BA->Option Int):Prop:=MapW prog 9 3 w b n f
theorem MW.kp{X:Nat->Prop}{w w' :World}{b n:Nat}{f:BA->Option Int}(h:MW w b n f)(hk:Kp X w w')(hb:¬X b):MW w' b n f:=MapW.same h (hk.block b (MapW.lt h) hb)
theorem MW.old{w w' :World}{b n:Nat}{f:BA->Option Int}(h:MW w b n f)(hk:Old w w'):MW w' b n f:=h.kp hk (fun hf=>hf)
theorem MW.new(w:World):MW (w.alloc (.map #[] 0)) w.heap.size 0 (fun _=>none):=⟨_,World.ownsMap_made w _ _ _,MapR.empty⟩
theorem MW.ne{w:World}{b n:Nat}{f:BA->Option Int}(h:MW w b n f){g:Nat}{t:TypeId}{cs:Array Value}(hb:Blk w g t cs):b≠g:=by
 rintro rfl;obtain⟨D,⟨es,clock,h1,_⟩,_⟩:=h;unfold Blk at hb;rw[hb]at h1;cases h1
theorem qP(W:World)(g:Nat)(t:Tre)(s:Sl)(b:BdS)(h:Bx W g t s b)(L:List BA)(n:Nat)(hm:MW W b.b1 n (jW L))(x:BA)(hx:x.size<=9223372036854775807):
  Calls prog 173 #[.pointer (some ⟨g,0,none⟩),.int .i64 1,.string x] W fun d w' =>d=.returned (iv (jC L x))/\W=w' :=by
 have c1:=Blk.at_ h (8+1) (v:=.map (some b.b1)) rfl;have Fa:=WideMaps.keyOf_string_mk (P:=prog) underlying9 (s:=x) (by unfold maxLen;omega);obtain⟨D,hI,hR⟩:=hm;have hh:=hR.has_ x;have ha:=hR.at_ x;rw[jp]at hh;have F9:=G hI;have Fd:=G Fa;unfold kS at hh ha;by_cases hp:0<=jC L x
 ·rw[jK5 hp]at hh;rw[ku L x hp]at ha;have Hh:=G hh;have Ha:=G ha;clear h hI hR Fa hh ha hp hx;unfold iv at*;go_enter func173,ntmps173;go_wp2_with (first|(at_lookup;refine wpList_lookup_own_ok_int _ rfl _ _ 134 rfl 9 3 .i64 zz underlying134 underlying3 (vT _) b.b1 n D rfl F9.out _ _ rfl Fd.out ?_;intro c F1 Fo;rw[Hh.out];obtain rfl:c=jC L x:=(by rw[Ha.out]at F1;injection F1 with F1;injection F1 with _ F1;exact F1.symm);clear F1 Fo)|fail);go_ret;exact⟨rfl,rfl⟩
 ·rw[jK3 hp]at hh;have Hh:=G hh;have GM:jC L x= -1:=by have:=yc L x;omega
  rw[GM];clear h hI hR Fa hh ha hp hx GM;unfold iv at*;go_enter func173,ntmps173;go_wp2_with (first|(at_lookup;refine wpList_lookup_own_ok_int _ rfl _ _ 134 rfl 9 3 .i64 zz underlying134 underlying3 (vT _) b.b1 n D rfl F9.out _ _ rfl Fd.out ?_;intro c F1 Fo;rw[Hh.out];clear F1 Fo)|fail);go_ret;exact⟨rfl,rfl⟩
def jGl(W:World)(g:Nat)(t:Tre)(s:Sl)(b:BdS)(L:List BA)(n:Nat)(x:BA)(at_:Int)(w' :World):Prop:=
 Bx w' g t s {b with p:=jP (decide (0<=jC L x)) b.p at_ 92}/\MW w' b.b1 (n+1) (jW (L++[x]))/\Kp (fun k=>k=g\/k=b.b1) W w'
theorem jEj(W:World)(g:Nat)(t:Tre)(s:Sl)(b:BdS)(h:Bx W g t s b)(L:List BA)(n:Nat)(hn:n<=2000000)(hm:MW W b.b1 n (jW L))(x:BA)(hx:x.size<=9223372036854775807)(at_:Int)(hl:L.length<=2000000):
  Calls prog 117 #[.pointer (some ⟨g,0,none⟩),.int .i64 1,.int .i64 (L.length:Int),.string x,iv at_] W fun d w' =>d=.returned (.tuple #[])/\jGl W g t s b L n x at_ w' :=by
 have c1:=Blk.at_ h (8+1) (v:=.map (some b.b1)) rfl;have Fa:=WideMaps.keyOf_string_mk (P:=prog) underlying9 (s:=x) (by unfold maxLen;omega);have Fe:=hm.ne h;have hw:=kH W g t s b h at_ 92;obtain⟨D,hI,hR⟩:=hm;have hh:=hR.has_ x;rw[jp]at hh;have F9:=G hI;have HR:=G hR;have Fd:=G Fa;have Hw:=G hw;have Hh:=G hh;unfold kS at Hh;have Hb:=G h;have GK:=G Fe;have Hn:=G hn;have Hv:=G (plainElem_int (H:=Unit) (P:=prog) underlying3 (WalkArith.wf_i64 (n:=(L.length:Int)) (by omega)));unfold jGl;by_cases hp:0<=jC L x
 ·have Hp:=G hp;rw[jK5 hp]at Hh⊢;clear h hI hR Fa hh hx hw Fe hn hl hp;unfold iv at*;go_enter func117,ntmps117;go_wp2_with (first|(at_lookup;refine wpList_lookup_own_ok_int _ rfl _ _ 134 rfl 9 3 .i64 zz underlying134 underlying3 (vT _) b.b1 n D rfl F9.out _ _ rfl Fd.out ?_;intro c F1 Fo;rw[Hh.out];clear F1 Fo)|(go_at_call 171;refine Hw.out.mono ?_;rintro e w1 ⟨rfl,hX⟩;have HX:=G hX;clear hX)|fail);refine bodyPost_ret (results_none rfl _ _ _) rfl ?_;exact⟨rfl,HX.out.1,(MapW.mono (MW.kp ⟨D,F9.out,HR.out⟩ HX.out.2 GK.out) (Nat.le_succ n)).congr (zP Hp.out),HX.out.2.mono (fun _ _ e=>.inl e)⟩
 ·have Hp:=G hp;rw[jK3 hp]at Hh⊢;clear h hI hR Fa hh hx hw hl hp Fe hn;unfold iv at*;go_enter func117,ntmps117;go_wp2_with (first|(at_lookup;refine wpList_lookup_own_ok_int _ rfl _ _ 134 rfl 9 3 .i64 zz underlying134 underlying3 (vT _) b.b1 n D rfl F9.out _ _ rfl Fd.out ?_;intro c F1 Fo;rw[Hh.out];clear F1 Fo)|(at_mapUpdate;refine wpList_mapUpdate_own _ rfl _ _ _ 134 rfl 9 3 zz underlying134 _ b.b1 n D rfl F9.out (by have:=Hn.out;unfold maxLen;omega) _ _ _ rfl rfl Fd.out _ [] Hv.out ?_;intro w1 G4 FD;have HO:=G G4;have HG:=G FD;clear G4 FD)|fail);go_end0;have kk:Kp (fun k=>k=b.b1) W w1:=Kp.grown (jQ0 _ _) HG.out (fun k e _=>by injection e with e;exact e.symm);exact⟨rfl,Blk.kp Hb.out kk (fun e=>GK.out e.symm),MapW.congr ⟨_,HO.out,HR.out.put x (L.length:Int)⟩ (zQ (by have:=Hp.out;omega)),kk.mono (fun _ _ e=>.inr e)⟩
theorem qO(W:World)(g:Nat)(t:Tre)(s:Sl)(b:BdS)(h:Bx W g t s b)(L:List BA)(n:Nat)(hm:MW W b.b2 n (jW L))(x:BA)(hx:x.size<=9223372036854775807):
  Calls prog 173 #[.pointer (some ⟨g,0,none⟩),.int .i64 2,.string x] W fun d w' =>d=.returned (iv (jC L x))/\W=w' :=by
 have c1:=Blk.at_ h (8+2) (v:=.map (some b.b2)) rfl;have Fa:=WideMaps.keyOf_string_mk (P:=prog) underlying9 (s:=x) (by unfold maxLen;omega);obtain⟨D,hI,hR⟩:=hm;have hh:=hR.has_ x;have ha:=hR.at_ x;rw[jp]at hh;have F9:=G hI;have Fd:=G Fa;unfold kS at hh ha;by_cases hp:0<=jC L x
 ·rw[jK5 hp]at hh;rw[ku L x hp]at ha;have Hh:=G hh;have Ha:=G ha;clear h hI hR Fa hh ha hp hx;unfold iv at*;go_enter func173,ntmps173;go_wp2_with (first|(at_lookup;refine wpList_lookup_own_ok_int _ rfl _ _ 134 rfl 9 3 .i64 zz underlying134 underlying3 (vT _) b.b2 n D rfl F9.out _ _ rfl Fd.out ?_;intro c F1 Fo;rw[Hh.out];obtain rfl:c=jC L x:=(by rw[Ha.out]at F1;injection F1 with F1;injection F1 with _ F1;exact F1.symm);clear F1 Fo)|fail);go_ret;exact⟨rfl,rfl⟩
 ·rw[jK3 hp]at hh;have Hh:=G hh;have GM:jC L x= -1:=by have:=yc L x;omega
  rw[GM];clear h hI hR Fa hh ha hp hx GM;unfold iv at*;go_enter func173,ntmps173;go_wp2_with (first|(at_lookup;refine wpList_lookup_own_ok_int _ rfl _ _ 134 rfl 9 3 .i64 zz underlying134 underlying3 (vT _) b.b2 n D rfl F9.out _ _ rfl Fd.out ?_;intro c F1 Fo;rw[Hh.out];clear F1 Fo)|fail);go_ret;exact⟨rfl,rfl⟩
def jGk(W:World)(g:Nat)(t:Tre)(s:Sl)(b:BdS)(L:List BA)(n:Nat)(x:BA)(at_:Int)(w' :World):Prop:=
 Bx w' g t s {b with p:=jP (decide (0<=jC L x)) b.p at_ 92}/\MW w' b.b2 (n+1) (jW (L++[x]))/\Kp (fun k=>k=g\/k=b.b2) W w'
theorem jEi(W:World)(g:Nat)(t:Tre)(s:Sl)(b:BdS)(h:Bx W g t s b)(L:List BA)(n:Nat)(hn:n<=2000000)(hm:MW W b.b2 n (jW L))(x:BA)(hx:x.size<=9223372036854775807)(at_:Int)(hl:L.length<=2000000):
  Calls prog 117 #[.pointer (some ⟨g,0,none⟩),.int .i64 2,.int .i64 (L.length:Int),.string x,iv at_] W fun d w' =>d=.returned (.tuple #[])/\jGk W g t s b L n x at_ w' :=by
 have c1:=Blk.at_ h (8+2) (v:=.map (some b.b2)) rfl;have Fa:=WideMaps.keyOf_string_mk (P:=prog) underlying9 (s:=x) (by unfold maxLen;omega);have Fe:=hm.ne h;have hw:=kH W g t s b h at_ 92;obtain⟨D,hI,hR⟩:=hm;have hh:=hR.has_ x;rw[jp]at hh;have F9:=G hI;have HR:=G hR;have Fd:=G Fa;have Hw:=G hw;have Hh:=G hh;unfold kS at Hh;have Hb:=G h;have GK:=G Fe;have Hn:=G hn;have Hv:=G (plainElem_int (H:=Unit) (P:=prog) underlying3 (WalkArith.wf_i64 (n:=(L.length:Int)) (by omega)));unfold jGk;by_cases hp:0<=jC L x
 ·have Hp:=G hp;rw[jK5 hp]at Hh⊢;clear h hI hR Fa hh hx hw Fe hn hl hp;unfold iv at*;go_enter func117,ntmps117;go_wp2_with (first|(at_lookup;refine wpList_lookup_own_ok_int _ rfl _ _ 134 rfl 9 3 .i64 zz underlying134 underlying3 (vT _) b.b2 n D rfl F9.out _ _ rfl Fd.out ?_;intro c F1 Fo;rw[Hh.out];clear F1 Fo)|(go_at_call 171;refine Hw.out.mono ?_;rintro e w1 ⟨rfl,hX⟩;have HX:=G hX;clear hX)|fail);refine bodyPost_ret (results_none rfl _ _ _) rfl ?_;exact⟨rfl,HX.out.1,(MapW.mono (MW.kp ⟨D,F9.out,HR.out⟩ HX.out.2 GK.out) (Nat.le_succ n)).congr (zP Hp.out),HX.out.2.mono (fun _ _ e=>.inl e)⟩
 ·have Hp:=G hp;rw[jK3 hp]at Hh⊢;clear h hI hR Fa hh hx hw hl hp Fe hn;unfold iv at*;go_enter func117,ntmps117;go_wp2_with (first|(at_lookup;refine wpList_lookup_own_ok_int _ rfl _ _ 134 rfl 9 3 .i64 zz underlying134 underlying3 (vT _) b.b2 n D rfl F9.out _ _ rfl Fd.out ?_;intro c F1 Fo;rw[Hh.out];clear F1 Fo)|(at_mapUpdate;refine wpList_mapUpdate_own _ rfl _ _ _ 134 rfl 9 3 zz underlying134 _ b.b2 n D rfl F9.out (by have:=Hn.out;unfold maxLen;omega) _ _ _ rfl rfl Fd.out _ [] Hv.out ?_;intro w1 G4 FD;have HO:=G G4;have HG:=G FD;clear G4 FD)|fail);go_end0;have kk:Kp (fun k=>k=b.b2) W w1:=Kp.grown (jQ0 _ _) HG.out (fun k e _=>by injection e with e;exact e.symm);exact⟨rfl,Blk.kp Hb.out kk (fun e=>GK.out e.symm),MapW.congr ⟨_,HO.out,HR.out.put x (L.length:Int)⟩ (zQ (by have:=Hp.out;omega)),kk.mono (fun _ _ e=>.inr e)⟩
theorem jCj(W:World)(g:Nat)(t:Tre)(s:Sl)(b:BdS)(h:Bx W g t s b)(L:List BA)(n:Nat)(hm:MW W b.b3 n (jW L))(x:BA)(hx:x.size<=9223372036854775807):
  Calls prog 173 #[.pointer (some ⟨g,0,none⟩),.int .i64 3,.string x] W fun d w' =>d=.returned (iv (jC L x))/\W=w' :=by
 have c1:=Blk.at_ h (8+3) (v:=.map (some b.b3)) rfl;have Fa:=WideMaps.keyOf_string_mk (P:=prog) underlying9 (s:=x) (by unfold maxLen;omega);obtain⟨D,hI,hR⟩:=hm;have hh:=hR.has_ x;have ha:=hR.at_ x;rw[jp]at hh;have F9:=G hI;have Fd:=G Fa;unfold kS at hh ha;by_cases hp:0<=jC L x
 ·rw[jK5 hp]at hh;rw[ku L x hp]at ha;have Hh:=G hh;have Ha:=G ha;clear h hI hR Fa hh ha hp hx;unfold iv at*;go_enter func173,ntmps173;go_wp2_with (first|(at_lookup;refine wpList_lookup_own_ok_int _ rfl _ _ 134 rfl 9 3 .i64 zz underlying134 underlying3 (vT _) b.b3 n D rfl F9.out _ _ rfl Fd.out ?_;intro c F1 Fo;rw[Hh.out];obtain rfl:c=jC L x:=(by rw[Ha.out]at F1;injection F1 with F1;injection F1 with _ F1;exact F1.symm);clear F1 Fo)|fail);go_ret;exact⟨rfl,rfl⟩
 ·rw[jK3 hp]at hh;have Hh:=G hh;have GM:jC L x= -1:=by have:=yc L x;omega
  rw[GM];clear h hI hR Fa hh ha hp hx GM;unfold iv at*;go_enter func173,ntmps173;go_wp2_with (first|(at_lookup;refine wpList_lookup_own_ok_int _ rfl _ _ 134 rfl 9 3 .i64 zz underlying134 underlying3 (vT _) b.b3 n D rfl F9.out _ _ rfl Fd.out ?_;intro c F1 Fo;rw[Hh.out];clear F1 Fo)|fail);go_ret;exact⟨rfl,rfl⟩
def jGj(W:World)(g:Nat)(t:Tre)(s:Sl)(b:BdS)(L:List BA)(n:Nat)(x:BA)(at_:Int)(w' :World):Prop:=
 Bx w' g t s {b with p:=jP (decide (0<=jC L x)) b.p at_ 92}/\MW w' b.b3 (n+1) (jW (L++[x]))/\Kp (fun k=>k=g\/k=b.b3) W w'
theorem jEh(W:World)(g:Nat)(t:Tre)(s:Sl)(b:BdS)(h:Bx W g t s b)(L:List BA)(n:Nat)(hn:n<=2000000)(hm:MW W b.b3 n (jW L))(x:BA)(hx:x.size<=9223372036854775807)(at_:Int)(hl:L.length<=2000000):
  Calls prog 117 #[.pointer (some ⟨g,0,none⟩),.int .i64 3,.int .i64 (L.length:Int),.string x,iv at_] W fun d w' =>d=.returned (.tuple #[])/\jGj W g t s b L n x at_ w' :=by
 have c1:=Blk.at_ h (8+3) (v:=.map (some b.b3)) rfl;have Fa:=WideMaps.keyOf_string_mk (P:=prog) underlying9 (s:=x) (by unfold maxLen;omega);have Fe:=hm.ne h;have hw:=kH W g t s b h at_ 92;obtain⟨D,hI,hR⟩:=hm;have hh:=hR.has_ x;rw[jp]at hh;have F9:=G hI;have HR:=G hR;have Fd:=G Fa;have Hw:=G hw;have Hh:=G hh;unfold kS at Hh;have Hb:=G h;have GK:=G Fe;have Hn:=G hn;have Hv:=G (plainElem_int (H:=Unit) (P:=prog) underlying3 (WalkArith.wf_i64 (n:=(L.length:Int)) (by omega)));unfold jGj;by_cases hp:0<=jC L x
 ·have Hp:=G hp;rw[jK5 hp]at Hh⊢;clear h hI hR Fa hh hx hw Fe hn hl hp;unfold iv at*;go_enter func117,ntmps117;go_wp2_with (first|(at_lookup;refine wpList_lookup_own_ok_int _ rfl _ _ 134 rfl 9 3 .i64 zz underlying134 underlying3 (vT _) b.b3 n D rfl F9.out _ _ rfl Fd.out ?_;intro c F1 Fo;rw[Hh.out];clear F1 Fo)|(go_at_call 171;refine Hw.out.mono ?_;rintro e w1 ⟨rfl,hX⟩;have HX:=G hX;clear hX)|fail);refine bodyPost_ret (results_none rfl _ _ _) rfl ?_;exact⟨rfl,HX.out.1,(MapW.mono (MW.kp ⟨D,F9.out,HR.out⟩ HX.out.2 GK.out) (Nat.le_succ n)).congr (zP Hp.out),HX.out.2.mono (fun _ _ e=>.inl e)⟩
 ·have Hp:=G hp;rw[jK3 hp]at Hh⊢;clear h hI hR Fa hh hx hw hl hp Fe hn;unfold iv at*;go_enter func117,ntmps117;go_wp2_with (first|(at_lookup;refine wpList_lookup_own_ok_int _ rfl _ _ 134 rfl 9 3 .i64 zz underlying134 underlying3 (vT _) b.b3 n D rfl F9.out _ _ rfl Fd.out ?_;intro c F1 Fo;rw[Hh.out];clear F1 Fo)|(at_mapUpdate;refine wpList_mapUpdate_own _ rfl _ _ _ 134 rfl 9 3 zz underlying134 _ b.b3 n D rfl F9.out (by have:=Hn.out;unfold maxLen;omega) _ _ _ rfl rfl Fd.out _ [] Hv.out ?_;intro w1 G4 FD;have HO:=G G4;have HG:=G FD;clear G4 FD)|fail);go_end0;have kk:Kp (fun k=>k=b.b3) W w1:=Kp.grown (jQ0 _ _) HG.out (fun k e _=>by injection e with e;exact e.symm);exact⟨rfl,Blk.kp Hb.out kk (fun e=>GK.out e.symm),MapW.congr ⟨_,HO.out,HR.out.put x (L.length:Int)⟩ (zQ (by have:=Hp.out;omega)),kk.mono (fun _ _ e=>.inr e)⟩
theorem jFh(W:World)(g:Nat)(t:Tre)(s:Sl)(b:BdS)(h:Bx W g t s b)(L:List BA)(n:Nat)(hm:MW W b.b4 n (jW L))(x:BA)(hx:x.size<=9223372036854775807):
  Calls prog 173 #[.pointer (some ⟨g,0,none⟩),.int .i64 4,.string x] W fun d w' =>d=.returned (iv (jC L x))/\W=w' :=by
 have c1:=Blk.at_ h (8+4) (v:=.map (some b.b4)) rfl;have Fa:=WideMaps.keyOf_string_mk (P:=prog) underlying9 (s:=x) (by unfold maxLen;omega);obtain⟨D,hI,hR⟩:=hm;have hh:=hR.has_ x;have ha:=hR.at_ x;rw[jp]at hh;have F9:=G hI;have Fd:=G Fa;unfold kS at hh ha;by_cases hp:0<=jC L x
 ·rw[jK5 hp]at hh;rw[ku L x hp]at ha;have Hh:=G hh;have Ha:=G ha;clear h hI hR Fa hh ha hp hx;unfold iv at*;go_enter func173,ntmps173;go_wp2_with (first|(at_lookup;refine wpList_lookup_own_ok_int _ rfl _ _ 134 rfl 9 3 .i64 zz underlying134 underlying3 (vT _) b.b4 n D rfl F9.out _ _ rfl Fd.out ?_;intro c F1 Fo;rw[Hh.out];obtain rfl:c=jC L x:=(by rw[Ha.out]at F1;injection F1 with F1;injection F1 with _ F1;exact F1.symm);clear F1 Fo)|fail);go_ret;exact⟨rfl,rfl⟩
 ·rw[jK3 hp]at hh;have Hh:=G hh;have GM:jC L x= -1:=by have:=yc L x;omega
  rw[GM];clear h hI hR Fa hh ha hp hx GM;unfold iv at*;go_enter func173,ntmps173;go_wp2_with (first|(at_lookup;refine wpList_lookup_own_ok_int _ rfl _ _ 134 rfl 9 3 .i64 zz underlying134 underlying3 (vT _) b.b4 n D rfl F9.out _ _ rfl Fd.out ?_;intro c F1 Fo;rw[Hh.out];clear F1 Fo)|fail);go_ret;exact⟨rfl,rfl⟩
def jGi(W:World)(g:Nat)(t:Tre)(s:Sl)(b:BdS)(L:List BA)(n:Nat)(x:BA)(at_:Int)(w' :World):Prop:=
 Bx w' g t s {b with p:=jP (decide (0<=jC L x)) b.p at_ 92}/\MW w' b.b4 (n+1) (jW (L++[x]))/\Kp (fun k=>k=g\/k=b.b4) W w'
theorem jEg(W:World)(g:Nat)(t:Tre)(s:Sl)(b:BdS)(h:Bx W g t s b)(L:List BA)(n:Nat)(hn:n<=2000000)(hm:MW W b.b4 n (jW L))(x:BA)(hx:x.size<=9223372036854775807)(at_:Int)(hl:L.length<=2000000):
  Calls prog 117 #[.pointer (some ⟨g,0,none⟩),.int .i64 4,.int .i64 (L.length:Int),.string x,iv at_] W fun d w' =>d=.returned (.tuple #[])/\jGi W g t s b L n x at_ w' :=by
 have c1:=Blk.at_ h (8+4) (v:=.map (some b.b4)) rfl;have Fa:=WideMaps.keyOf_string_mk (P:=prog) underlying9 (s:=x) (by unfold maxLen;omega);have Fe:=hm.ne h;have hw:=kH W g t s b h at_ 92;obtain⟨D,hI,hR⟩:=hm;have hh:=hR.has_ x;rw[jp]at hh;have F9:=G hI;have HR:=G hR;have Fd:=G Fa;have Hw:=G hw;have Hh:=G hh;unfold kS at Hh;have Hb:=G h;have GK:=G Fe;have Hn:=G hn;have Hv:=G (plainElem_int (H:=Unit) (P:=prog) underlying3 (WalkArith.wf_i64 (n:=(L.length:Int)) (by omega)));unfold jGi;by_cases hp:0<=jC L x
 ·have Hp:=G hp;rw[jK5 hp]at Hh⊢;clear h hI hR Fa hh hx hw Fe hn hl hp;unfold iv at*;go_enter func117,ntmps117;go_wp2_with (first|(at_lookup;refine wpList_lookup_own_ok_int _ rfl _ _ 134 rfl 9 3 .i64 zz underlying134 underlying3 (vT _) b.b4 n D rfl F9.out _ _ rfl Fd.out ?_;intro c F1 Fo;rw[Hh.out];clear F1 Fo)|(go_at_call 171;refine Hw.out.mono ?_;rintro e w1 ⟨rfl,hX⟩;have HX:=G hX;clear hX)|fail);refine bodyPost_ret (results_none rfl _ _ _) rfl ?_;exact⟨rfl,HX.out.1,(MapW.mono (MW.kp ⟨D,F9.out,HR.out⟩ HX.out.2 GK.out) (Nat.le_succ n)).congr (zP Hp.out),HX.out.2.mono (fun _ _ e=>.inl e)⟩
 ·have Hp:=G hp;rw[jK3 hp]at Hh⊢;clear h hI hR Fa hh hx hw hl hp Fe hn;unfold iv at*;go_enter func117,ntmps117;go_wp2_with (first|(at_lookup;refine wpList_lookup_own_ok_int _ rfl _ _ 134 rfl 9 3 .i64 zz underlying134 underlying3 (vT _) b.b4 n D rfl F9.out _ _ rfl Fd.out ?_;intro c F1 Fo;rw[Hh.out];clear F1 Fo)|(at_mapUpdate;refine wpList_mapUpdate_own _ rfl _ _ _ 134 rfl 9 3 zz underlying134 _ b.b4 n D rfl F9.out (by have:=Hn.out;unfold maxLen;omega) _ _ _ rfl rfl Fd.out _ [] Hv.out ?_;intro w1 G4 FD;have HO:=G G4;have HG:=G FD;clear G4 FD)|fail);go_end0;have kk:Kp (fun k=>k=b.b4) W w1:=Kp.grown (jQ0 _ _) HG.out (fun k e _=>by injection e with e;exact e.symm);exact⟨rfl,Blk.kp Hb.out kk (fun e=>GK.out e.symm),MapW.congr ⟨_,HO.out,HR.out.put x (L.length:Int)⟩ (zQ (by have:=Hp.out;omega)),kk.mono (fun _ _ e=>.inr e)⟩
theorem jE0(L:List BA)(x:BA)(at_:Int)(p:Wr9N):inB L x at_ p=if x.size≠0/\jC L x<0 then kW p at_ 34 else p:=by
 unfold inB jP;by_cases h1:x.size=0
 ·simp[h1]
 ·by_cases h2:jC L x<0
  ·simp[h1,h2]
  ·simp[h1,h2]
theorem Uc(W:World)(g:Nat)(t:Tre)(s:Sl)(b:BdS)(h:Bx W g t s b)(L:List BA)(n:Nat)(hm:MW W b.b2 n (jW L))(x:BA)(hx:x.size<=9223372036854775807)(at_:Int):
  Calls prog 174 #[.pointer (some ⟨g,0,none⟩),.string x,iv at_] W fun d w' =>d=.returned (iv (jC L x))/\BxR W g t s b (inB L x at_ b.p) w' :=by
 have Hp:=G (qO W g t s b h L n hm x hx);have Hw:=G (kH W g t s b h at_ 34);have Hs:=G h.same;rw[jE0];by_cases h1:x.size=0
 ·have q1:(!x.toList.isEmpty)=false:=by rw[zM,jK5 h1];rfl
  rw[jJ5 (fun hh=>hh.1 h1)];clear h hm hx h1;unfold iv at*;generalize jC L x=q at*;go_enter func174,ntmps174;go_wp2_with (first|(go_at_call 173;refine Hp.out.mono ?_;rintro e w1 ⟨rfl,rfl⟩)|fail);go_ret;exact⟨rfl,Hs.out⟩
 ·have q1:(!x.toList.isEmpty)=true:=by rw[zM,jK3 h1];rfl
  by_cases h2:jC L x<0
  ·rw[jJ6 ⟨h1,h2⟩];clear h hm hx h1;unfold iv at*;generalize jC L x=q at*;go_enter func174,ntmps174;go_wp2_with (first|(go_at_call 173;refine Hp.out.mono ?_;rintro e w1 ⟨rfl,rfl⟩)|(go_at_call 171;refine Hw.out.mono ?_;rintro e w1 ⟨rfl,hX⟩;have HX:=G hX;clear hX)|fail);go_ret;exact⟨rfl,HX.out⟩
  ·rw[jJ5 (fun hh=>h2 hh.2)];clear h hm hx h1;unfold iv at*;generalize jC L x=q at*;go_enter func174,ntmps174;go_wp2_with (first|(go_at_call 173;refine Hp.out.mono ?_;rintro e w1 ⟨rfl,rfl⟩)|fail);go_ret;exact⟨rfl,Hs.out⟩
theorem QE(W:World)(g:Nat)(t:Tre)(s:Sl)(b:BdS)(h:Bx W g t s b)(i most:Nat)(at_:Int):
  Calls prog 180 #[.pointer (some ⟨g,0,none⟩),.int .i64 (i:Int),.int .i64 (most:Int),iv at_] W fun d w' =>d=.returned (.tuple #[])/\BxR W g t s b (JS i most at_ b.p) w' :=by
 have Hw:=G (kH W g t s b h at_ 7);have Hs:=G h.same;unfold JS jP;by_cases h1:most<=i
 ·have q1:(most:Int)<=(i:Int):=(by omega);rw[jK5 h1,jJ6 rfl];clear h h1;unfold iv at*;generalize (i:Int)=i' at*;generalize (most:Int)=m' at*;go_enter func180,ntmps180;go_wp2_with (first|(go_at_call 171;refine Hw.out.mono ?_;rintro e w1 ⟨rfl,hX⟩;have HX:=G hX;clear hX)|fail);go_end0;exact⟨rfl,HX.out⟩
 ·have q1:¬(most:Int)<=(i:Int):=(by omega);rw[jK3 h1,jJ5 (by decide)];clear h h1;unfold iv at*;generalize (i:Int)=i' at*;generalize (most:Int)=m' at*;go_enter func180,ntmps180;go_wp2_with fail;go_end0;exact⟨rfl,Hs.out⟩
theorem QW:∀(ks:List Int) (i:Nat) (kid kid' :List Bool),zy i ks kid=some kid' ->(∀k∈ks,0<=k/\k<(i:Int))/\kid'.length=kid.length
 |[],_,_,_,h=>by
  obtain rfl:=jL5 h;exact⟨fun _ hk=>(by cases hk),rfl⟩
 |k::l,i,kid,kid',h=>by
  rw[zy]at h;split at h
  ·cases h
  ·rename_i hn;obtain⟨h1,h2⟩:=QW l i _ _ h;rw[List.length_set]at h2;refine⟨fun x hx=> ?_,h2⟩;rcases jN4 hx with rfl|hx
   ·exact⟨by omega,by omega⟩
   ·exact h1 x hx
theorem xB:∀(l:List Nd) (i:Nat) (kid:List Bool),yE i l kid=true->∀(j:Nat) (n:Nd),l[j]? =some n->js n=true/\∀k∈n.kids,0<=k/\k<((i+j:Nat):Int)
 |[],_,_,_,j,n,hj=>by cases hj
 |x::l,i,kid,h,j,n,hj=>by
  rw[yE]at h;split at h
  ·rename_i hr;split at h
   ·rename_i kid' hk;cases j with
    |zero=>
     obtain rfl:=jL5 hj;exact⟨hr,by rw[Nat.add_zero];exact(QW _ _ _ _ hk).1⟩
    |succ j=>
     have:=xB l (i+1) kid' h j n hj;rw[show i+(j+1)=i+1+j by omega];exact this
   ·cases h
  ·cases h
theorem uJ{n:Nd}(h:js n=true):1<=n.op/\n.op<34/\((n.op=7\/n.op=8\/n.op=27)->n.kids.length=1)/\(n.op=23->n.kids.length=3)/\
  ((9<=n.op/\n.op<=22\/n.op=28\/31<=n.op/\n.op<=33)->n.kids.length=2):=by
 unfold js at h;by_cases h1:n.op=1
 ·exact⟨by omega,by omega,by omega,by omega,by omega⟩
 rw[jJ5 h1]at h;by_cases h2:n.op=2
 ·exact⟨by omega,by omega,by omega,by omega,by omega⟩
 rw[jJ5 h2]at h;by_cases h3:n.op=3
 ·exact⟨by omega,by omega,by omega,by omega,by omega⟩
 rw[jJ5 h3]at h;have h:=(Bool.and_eq_true_iff.1 h).2;by_cases h4:n.op=4\/n.op=29\/n.op=30
 ·exact⟨by omega,by omega,by omega,by omega,by omega⟩
 rw[jJ5 h4]at h;by_cases h5:n.op=5\/n.op=24\/n.op=25\/n.op=26
 ·exact⟨by omega,by omega,by omega,by omega,by omega⟩
 rw[jJ5 h5]at h;by_cases h6:n.op=6
 ·exact⟨by omega,by omega,by omega,by omega,by omega⟩
 rw[jJ5 h6]at h;by_cases h7:n.op=7\/n.op=8\/n.op=27
 ·rw[jJ6 h7]at h;have:=jM8 (Bool.and_eq_true_iff.1 h).1;exact⟨by omega,by omega,fun _=>this,by omega,by omega⟩
 rw[jJ5 h7]at h;by_cases h8:n.op=23
 ·rw[jJ6 h8]at h;have:=jM8 (Bool.and_eq_true_iff.1 h).1;exact⟨by omega,by omega,by omega,fun _=>this,by omega⟩
 rw[jJ5 h8]at h;have ha:=(Bool.and_eq_true_iff.1 h).1;have h9:=jM8 (Bool.and_eq_true_iff.1 ha).1;have Nm:=jM8 (Bool.and_eq_true_iff.1 ha).2;exact⟨h9.1,h9.2,by omega,by omega,fun _=>Nm⟩
abbrev iq(i:Int):Value:=.int .i64 i
def kdC(k:Kd):List Value:=[iq k.1,.bool k.2]
def kdV(k:Kd):Value:=.agg #[iq k.1,.bool k.2]
def Kn(w:World):Prop:=w.rangeAt 0 0 (kdC noK)
theorem Kn.kp{X:Nat->Prop}{w w' :World}(h:Kn w)(hk:Kp X w w')(h0:¬X 0):Kn w' :=Jc h hk h0
theorem Kn.old{w w' :World}(h:Kn w)(hk:Old w w'):Kn w' :=h.kp hk (fun f=>f)
theorem Kn.c0{w:World}(h:Kn w):w.cell? ⟨0,0,none⟩=some (.int .i64 0):=h 0 _ rfl
theorem Kn.c1{w:World}(h:Kn w):w.cell? ⟨0,1,none⟩=some (.bool true):=h 1 _ rfl
theorem jCz(w:World)(op:Int)(k:Kd):Calls prog 264 #[iq op,kdV k] w fun e w' =>e=.returned (.tuple #[iq (jBv op k).1,.bool (jBv op k).2])/\Old w w' :=by
 obtain⟨a,o⟩:=k;unfold jBv kdV;by_cases h7:op=7
 ·subst h7;rw[jJ6 rfl];go_enter func264,ntmps264;go_wp2;go_quiet (fail);go_wp2
  go_ret2
  exact⟨rfl,((jQ0 _ _).alloc _).drewN _⟩
 ·by_cases h8:op=8
  ·subst h8;rw[jJ5 (by decide),jJ6 rfl];go_enter func264,ntmps264;go_wp2;go_quiet (fail);go_wp2
   go_ret2
   exact⟨rfl,((jQ0 _ _).alloc _).drewN _⟩
  ·have b7:(op==7)=false:=jM3 h7;have b8:(op==8)=false:=jM3 h8;rw[jJ5 h7,jJ5 h8];by_cases h3:a=3
   ·subst h3;go_enter func264,ntmps264;go_wp2;go_quiet (fail);go_wp2
    go_ret2
    exact⟨rfl,((jQ0 _ _).alloc _).drewN _⟩
   ·have b3:decide (a=3)=false:=jK3 h3;have b4:(a==3)=false:=jM3 h3;rw[b3,Bool.false_or];clear h7 h8;go_enter func264,ntmps264;go_wp2;go_quiet (fail);go_wp2
    go_ret2
    exact⟨rfl,((jQ0 _ _).alloc _).drewN _⟩
theorem jBE(w:World)(hn:Kn w)(x y:Kd):Calls prog 27 #[kdV x,kdV y] w fun e w' =>e=.returned (.bool (jBF x y))/\Old w w' :=by
 obtain⟨a,o⟩:=x;obtain⟨b,p⟩:=y;have n0:=hn.c0;have n1:=hn.c1;have hp:0<w.heap.size:=jU n0;clear hn;unfold jBF kdV noK;simp only[Prod.mk.injEq];by_cases h0:a=0
 ·subst h0;by_cases hb:b=0
  ·subst hb;cases o<;>cases p
   all_goals
    go_enter func27,ntmps27;go_wp2;go_ret;exact⟨rfl,((jQ0 _ _).alloc _).alloc _⟩
  ·have q1:((0:Int)==b)=false:=jM3 (fun e=>hb e.symm);have q2:decide ((0:Int)=b)=false:=jK3 (fun e=>hb e.symm);rw[q2];clear hb;cases o<;>cases p
   all_goals
    go_enter func27,ntmps27;go_wp2;go_ret;exact⟨rfl,((jQ0 _ _).alloc _).alloc _⟩
 ·have q0:(a==0)=false:=jM3 h0;rw[jJ5 (fun hh=>h0 hh.1)];by_cases hb:a=b
  ·subst hb;clear h0;cases o<;>cases p
   all_goals
    go_enter func27,ntmps27;go_wp2;go_ret;exact⟨rfl,((jQ0 _ _).alloc _).alloc _⟩
  ·have q1:(a==b)=false:=jM3 hb;rw[jK3 hb];clear hb h0;cases o<;>cases p
   all_goals
    go_enter func27,ntmps27;go_wp2;go_ret;exact⟨rfl,((jQ0 _ _).alloc _).alloc _⟩
theorem jDP(GN:List BA):∀(l:List (BA×Int)) (p:Wr9N),(qc GN l p).2=0->p.2=0
 |[],_,h=>h
 |_::l,_,h=>(vN (e:=34) (by decide) (jDP GN l _ h)).2
theorem jBq(AN:List BA):∀(l:List Prm) (old:List BA) (p:Wr9N),(YA AN old l p).2=0->p.2=0
 |[],_,_,h=>h
 |_::l,_,_,h=>(vN (e:=92) (by decide) (jBq AN l _ _ h)).2
theorem jB6(AN GN:List BA):∀(l:List Eff) (old:List (BA×Bool)) (p:Wr9N),(Ky AN GN old l p).2=0->p.2=0
 |[],_,_,h=>h
 |x::l,_,_,h=>by
  have h2:=jB6 AN GN l _ _ h;by_cases e:jC (if x.worth<0 then GN else AN) x.name<0
  ·rw[jJ6 e]at h2;exact absurd h2 (qy (by decide))
  ·rw[jJ5 e]at h2;exact(vN (e:=92) (by decide) h2).2
theorem QX(AN GN:List BA):∀(l:List Stp) (p:Wr9N),(yY AN GN l p).2=0->p.2=0
 |[],_,h=>h
 |_::l,_,h=>(vN (e:=34) (by decide) (jBq AN _ _ _ (jB6 AN GN _ _ _ (QX AN GN l _ h)))).2
theorem XH(t:Tre)(u:Use):∀(k i:Nat) (p:Wr9N),(yZ t u i k p).2=0->p.2=0
 |0,_,_,h=>h
 |k+1,i,_,h=>by
  have h2:=XH t u k (i+1) _ h;split at h2
  ·exact(vN (e:=34) (by decide) h2).2
  ·exact h2
theorem jBb(t:Tre):∀(l:List Use) (p:Wr9N),(yP t l p).2=0->p.2=0
 |[],_,h=>h
 |_::l,_,h=>XH t _ _ _ _ (jBb t l _ h)
theorem uT{t:Tre}{all:List Use}{name:BA}{p:Wr9N}(h:(vE t all name p).2=0):t.name=name:=by
 have h2:=(vN (e:=34) (by decide) (jDP _ _ _ (jDP _ _ _ (QX _ _ _ _ (jBb _ _ _ h))))).1;simpa using h2
theorem XY{t:Tre}{D:List Dk}{name:BA}{k:Int}(h:Kr t D name=(k,0)):t.name=name:=by
 unfold Kr at h;simp only at h;by_cases e:(vE t (Zs t D) name (VG t)).2=0
 ·exact uT e
 ·rw[jJ6 e]at h;exact absurd (congrArg Prod.snd h) e
theorem jDQ:(prog.info? 256).map (fun i=>(i.zero,i.size,i.bytes))=some (some (.agg #[.int .i64 0,.int .i64 0,.int .i64 0,.int .i64 0,.int .i64 0]),5,40):=by kernel_rfl
theorem jCn(u:Use):∀v∈Jt u,v.oneCell' =true:=by
 intro v hv;simp only[Jt,iv,List.mem_cons,List.mem_nil_iff,or_false]at hv;rcases hv with rfl|rfl|rfl|rfl|rfl<;>rfl
structure UsW(base:Nat)(W:World)(g q0 q1:Nat)(t:Tre)(s:Sl)(b:BdS)(fr:Int):Prop where
 bx:Bx W g t s b
 c0:Blk W q0 130 #[.pointer (some ⟨g,0,none⟩)]
 c1:Blk W q1 3 #[iv fr]
 row:W.ownsRow base 256 5 (.slice b.xA b.all.length b.xc) b.all.length (b.all.flatMap Jt)
 le:base<=W.heap.size
def UsX(g q1:Nat)(b:BdS):Nat->Prop:=fun k=>k=g\/k=q1\/b.xA.map (·.block)=some k
section
variable{base g q0 q1:Nat}{W W' :World}{t:Tre}{s:Sl}{b:BdS}{fr:Int}
theorem UsW.old(h:UsW base W g q0 q1 t s b fr)(ho:Old W W'):UsW base W' g q0 q1 t s b fr:=
 ⟨Blk.old h.bx ho,h.c0.old ho,h.c1.old ho,jJ h.row ho (fun _ _ e=>e),jL4 h.le ho.size⟩
theorem UsW.g_ne(h:UsW base W g q0 q1 t s b fr):b.xA.map (·.block)≠some g:=by rw[<-jA];exact jH h.row h.bx (by decide)
theorem UsW.q0_ne(h:UsW base W g q0 q1 t s b fr):b.xA.map (·.block)≠some q0:=by rw[<-jA];exact jH h.row h.c0 (by decide)
theorem UsW.q1_ne(h:UsW base W g q0 q1 t s b fr):b.xA.map (·.block)≠some q1:=by rw[<-jA];exact jH h.row h.c1 (by decide)
end
theorem UsW.blk{base g q0 q1:Nat}{W W' :World}{t:Tre}{s:Sl}{b:BdS}{fr:Int}(h:UsW base W g q0 q1 t s b fr){lb:Nat}{T:TypeId}{cs:Array Value}(hb:Blk W lb T cs)(h1:T≠138)(h2:T≠3)(h3:256≠T)(hk:Kp (UsX g q1 b) W W'):Blk W' lb T cs:=
 hb.kp hk (fun e=>by
  rcases e with rfl|rfl|e
  ·exact Blk.ne_ hb h.bx h1 rfl
  ·exact Blk.ne_ hb h.c1 h2 rfl
  ·exact jH h.row hb h3 (by rw[jA];exact e))
def UsR(base:Nat)(W:World)(g q0 q1:Nat)(t:Tre)(s:Sl)(b:BdS)(S:UseS)(w' :World):Prop:=
 ∃A c,UsW base w' g q0 q1 t s {b with xA:=A,xc:=c,all:=S.1} S.2/\Kp (UsX g q1 b) W w'
theorem KJ{α:Type}{f:α->List Value}(l:List α)(x:α):(l++[x]).flatMap f=l.flatMap f++f x:=by
 rw[jN5,jL9,List.flatMap_nil,jN7]
theorem jDp(base:Nat)(W:World)(g q0 q1:Nat)(t:Tre)(s:Sl)(b:BdS)(fr:Int)(h:UsW base W g q0 q1 t s b fr)(hl:b.all.length<=2000000000)(root ahead step lays:Int)(hr:root<=2000000000):
  Calls prog 172 #[iv root,iv ahead,iv step,iv lays,.pointer (some ⟨q0,0,none⟩),.pointer (some ⟨q1,0,none⟩)] W fun e w' =>e=.returned (.tuple #[])/\UsR base W g q0 q1 t s b (Jr root ahead step lays (b.all,fr)) w' :=by
 have H:=G h;unfold Jr;by_cases h0:0<=root
 ·rw[jJ6 h0];have p0:=h.c0.at_ 0 (v:=.pointer (some ⟨g,0,none⟩)) rfl;have p1:=h.c1.at_ 0 (v:=iv fr) rfl;have p14:=Blk.at_ h.bx 14 (v:=.slice b.xA b.all.length b.xc) rfl;have z14:=Blk.frozen h.bx 14;have z1:=h.c1.frozen 0;have q1' :IntKind.i64.wrap (root+1)=root+1:=jQ3 _ (by omega);obtain⟨i0,hi,FJ,Fv,FU⟩:=info_parts jDQ;have FM:=G (show b.all.length+1<=maxLen by unfold maxLen;omega);have FN:=G (show(b.all.length+1)*40<=140737488355328 by omega);have HO:=G ((jQ0 NoX W).drew.alloc (.cells (Jt ⟨fr,root,ahead,step,lays⟩).toArray 256));have fin:∀A1 c1 w2,w2.ownsRow base 256 5 (.slice A1 (b.all.length+1) c1) (b.all.length+1) (b.all.flatMap Jt++Jt ⟨fr,root,ahead,step,lays⟩)->(W.drew.alloc (.cells (Jt ⟨fr,root,ahead,step,lays⟩).toArray 256)).grownBy w2 (b.xA.map (·.block))->
    w2.cell? ⟨q0,0,none⟩=some (.pointer (some ⟨g,0,none⟩))/\w2.cell? ⟨g,14,none⟩=some (.slice b.xA b.all.length b.xc)/\w2.frozen? ⟨g,14,none⟩=false/\w2.cell? ⟨q1,0,none⟩=some (iv fr)/\w2.frozen? ⟨q1,0,none⟩=false/\
    UsR base W g q0 q1 t s b (b.all++[⟨fr,root,ahead,step,lays⟩],root+1) ((w2.setCell ⟨g,14,none⟩ (.slice A1 (b.all.length+1) c1)).setCell ⟨q1,0,none⟩ (iv (root+1))):=by
   intro A1 c1 w2 hI Gg;have k2:=vL Gg;have hO:=HO.out;have bx2:Bx w2 g t s b:=(Blk.old H.out.bx hO).kp k2 H.out.g_ne;have c02:=(H.out.c0.old hO).kp k2 H.out.q0_ne;have c12:=(H.out.c1.old hO).kp k2 H.out.q1_ne;have ne1:q1≠g:=Blk.ne_ c12 bx2 (by decide);have ne0:q0≠g:=Blk.ne_ c02 bx2 (by decide);have ne2:q0≠q1:=Blk.ne_ c02 c12 (by decide);have kk:Kp (UsX g q1 b) W w2:=Kp.trans (hO.mono (fun _ _ e=>e.elim)) k2 (fun k hk e=>.inr (.inr e));refine⟨c02.at_ 0 rfl,Blk.at_ bx2 14 rfl,Blk.frozen bx2 14,c12.at_ 0 rfl,c12.frozen 0,A1,c1,⟨?_,?_,?_,?_,?_⟩,?_⟩
   ·have h1:=(Blk.setL (cs:=bdC t s b) bx2 14 (.slice A1 (b.all.length+1) c1)).far (p:=⟨q1,0,none⟩) ne1.symm (iv (root+1));unfold Bx;show Blk _ g _ (bdC t s {b with xA:=A1,xc:=c1,all:=b.all++[⟨fr,root,ahead,step,lays⟩]}).toArray;simp only[bdC,jJ4,List.length_singleton]at h1⊢;exact h1
   ·exact(c02.far (p:=⟨g,14,none⟩) ne0 _).far (p:=⟨q1,0,none⟩) ne2 _
   ·exact(c12.far (p:=⟨g,14,none⟩) ne1 _).set_ 0 (iv (root+1))
   ·have k3:Kp (fun k=>k=g\/k=q1) w2 ((w2.setCell ⟨g,14,none⟩ (.slice A1 (b.all.length+1) c1)).setCell ⟨q1,0,none⟩ (iv (root+1))):=
     ((jQ0 (fun k=>k=g\/k=q1) w2).setCell (p:=⟨g,14,none⟩) (fun _=>.inl rfl) _).setCell (p:=⟨q1,0,none⟩) (fun _=>.inr rfl) _
    show World.ownsRow _ base _ 5 (.slice A1 (b.all++[_]).length c1) (b.all++[_]).length _;rw[jJ4,List.length_singleton,KJ];refine jJ hI k3 (fun k e hx=> ?_);rcases hx with rfl|rfl
    ·exact jH hI bx2 (by decide) e
    ·exact jH hI c12 (by decide) e
   ·exact jL4 (jL4 H.out.le hO.size) (by have:=k2.size;simpa [World.setCell]using this)
   ·exact(kk.setCell (p:=⟨g,14,none⟩) (fun _=>.inl rfl) _).setCell (p:=⟨q1,0,none⟩) (fun _=>.inr (.inl rfl)) _
  have HF:=G fin;have Gq:g<W.heap.size:=Blk.lt h.bx;have Aj:q0<W.heap.size:=h.c0.lt;have TW:q1<W.heap.size:=h.c1.lt;clear h hl hr fin;unfold iv at*;go_enter func172,ntmps172;go_wp2;go_region_law ((refine jl _ rfl (.tmp 16) (.tmp 23) 136 rfl base 256 i0 _ 5 40 underlying136 hi FJ Fv FU rfl (by decide) (.slice b.xA b.all.length b.xc) b.all.length (b.all.flatMap Jt) rfl (jJ H.out.row HO.out (fun _ _ e=>e)) _ 1 1 (Jt ⟨fr,root,ahead,step,lays⟩) rfl (Rd.row_new _ _ 5 1 _ rfl) (jCn _) FM.out FN.out (jL4 H.out.le HO.out.size) ?_;intro A1 c1 w2 hI hgrow F1;rw[jA]at hgrow;obtain⟨p0,p14,z14,p1,z1,hR⟩:=HF.out A1 c1 w2 hI hgrow;have HR:=G hR;clear hI hgrow F1 hR))
  all_goals
   go_wp2;go_end0;exact⟨rfl,HR.out⟩
 ·rw[jJ5 h0];have hs:UsR base W g q0 q1 t s b (b.all,fr) W:=⟨b.xA,b.xc,h,jQ0 _ _⟩;have HS:=G hs;clear h hl hr hs;unfold iv at*;go_enter func172,ntmps172;go_wp2;go_end0;exact⟨rfl,HS.out⟩
end Go.Proofs.YtifbhcfdealfaaaGreatDoor

import Derived.Test.YtmmjcbbogokmfaaGreatDoorMp13
import Derived.Test.YtmmjcbbogokmfaaGreatDoorMp24
import Derived.Test.YtmmjcbbogokmfaaGreatDoorMp25
set_option maxRecDepth 100000
set_option maxHeartbeats 25600000
namespace Go.Proofs.YtmmjcbbogokmfaaGreatDoor
open Go.Proofs.Tryz
open Go.RowKit
theorem Qt:∀(f n:Nat),n<10^(f+1)->xl (f+1) n=Lib.decDigits n
 |0,n,h=>by
  have h1:n<10:=h;rw[Lib.decDigits,xl,jJ6 h1,dif_pos h1]
 |f+1,n,h=>by
  rw[Lib.decDigits,xl];by_cases h1:n<10
  ·rw[jJ6 h1,dif_pos h1]
  ·rw[jJ5 h1,dif_neg h1,Qt f (n/10) (by rw[Nat.pow_succ]at h;omega)]
theorem jDM{n:Int}(h0:0<=n)(h1:n<=9223372036854775807):Lib.itoa n=qF n:=by
 rw[Lib.itoa,jJ5 (by omega),qF,Qt 19 _ (by omega)]
def TabW(w:World):Prop:=Lib.TabIs prog w "internal/strconv.uint64pow10" .u64 Lib.pow10Tab
theorem gPow:prog.globalNamed "internal/strconv.uint64pow10" =some 3:=by kernel_rfl
theorem TabW.kp{X:Nat->Prop}{w w' :World}(h:TabW w)(hk:Kp X w w')(h3:¬X 3):TabW w' :=by
 unfold TabW Lib.TabIs World.var? at*;rw[gPow]at*;simp only[jL2]at*;have hl:3<w.heap.size:=by
  rcases Nat.lt_or_ge 3 w.heap.size with hl|hl
  ·exact hl
  ·rw[Array.getElem?_eq_none hl]at h;cases h
 rw[hk.block 3 hl h3];exact h
theorem TabW.old{w w' :World}(h:TabW w)(hk:Old w w'):TabW w' :=h.kp hk (fun f=>f)
theorem jCy(w:World)(q:Nat)(os:Array Obj):Old w (Sort.grow (w.drewN q) os):=
 ⟨rfl,rfl,rfl,by simp[Sort.grow],fun k hk _=>by
  show(w.heap++os)[k]? =w.heap[k]?;rw[Array.getElem?_append_left hk]⟩
theorem jDN(w:World)(hT:TabW w)(n:Int)(h0:0<=n)(h1:n<=9223372036854775807):Calls prog 221 #[.int .i64 n] w fun e w' =>e=.returned (.string ⟨(qF n).toArray⟩)/\Old w w' :=
 (Any.strconv_Itoa jHu n (by omega) h1 w hT).mono fun e w' ⟨he,k,os,hw⟩=>⟨by rw[he,jDM h0 h1],by rw[hw];exact jCy w k os⟩
theorem Pr.tab{w W:World}{t:Tre}{s:Sl}{next:Nat}{l:LB}{B:OA}{bc:Nat}(h:Pr w t s next l B bc W)(hT:TabW w)(h8:8<=w.heap.size):TabW W:=hT.kp h.kp (fun e:w.heap.size<=3=>by omega)
theorem jD5(w W:World)(hT:TabW w)(h8:8<=w.heap.size)(t:Tre)(s:Sl)(f:Nat)(next:Nat)(l l' :LB)(B:OA)(bc:Nat)(h:Pr w t s next l B bc W)(x:MNd)(Hm:x.n.op=1)(hv:0<=x.n.vn/\x.n.vn<=9223372036854775807)(hk:yz t.nodes f x.n l=some l')(hl:l'.length<=jN):
  Calls prog 193 #[.pointer (some ⟨w.heap.size,0,none⟩),.agg (ndC x).toArray] W (PrR w t s next l' W):=by
 unfold yz at hk;have HT:=G (fun X (hX:Old W X)=>(h.tab hT h8).old hX);obtain⟨⟨op,name,vk,vn,vt,vs,kids⟩,A,c,vA,vc⟩:=x;simp only at Hm hv hk;subst Hm;rw[jJ6 rfl]at hk;injection hk with hk;have HV:=G hv;have HO:=G ((jQ0 NoX W).alloc (.cells (ndC ⟨⟨1,name,vk,vn,vt,vs,kids⟩,A,c,vA,vc⟩).toArray 46));have HP:=G (fun X (hX:Old W X)=>JJ w X t s next l B bc (h.old hX) [⟨(qF vn).toArray⟩] (show(jT l (([⟨(qF vn).toArray⟩]:List BA).map sb)).length<=jN from by show(jI l _).length<=jN;exact(congrArg List.length hk).symm▸hl) (show 1<=1000 by decide));have Hk:=G (show jT l (([⟨(qF vn).toArray⟩]:List BA).map sb)=l' from hk);rw[Hk.out]at HP;clear h hk hl hv hT;unfold ndC iv at*;go_enter func193,ntmps193;go_wp2_with (first|(go_at_call 221;refine(jDN _ (HT.out _ HO.out) _ HV.out.1 HV.out.2).mono ?_;rintro e w1 ⟨rfl,FN⟩;have G8:=G (HO.out.trans FN (fun _ _ e=>e));clear FN)|(go_at_call 53;refine(HP.out _ G8.out).mono ?_;rintro e w2 ⟨rfl,B2,c2,hX,hf⟩)|fail);go_end0;exact⟨rfl,B2,c2,hX,(FrP.of_old G8.out).trans hf⟩
theorem jB5(w W:World)(hT:TabW w)(h8:8<=w.heap.size)(t:Tre)(s:Sl)(f:Nat)(next:Nat)(l l' :LB)(B:OA)(bc:Nat)(h:Pr w t s next l B bc W)(x:MNd)(Hm:x.n.op=3)(hv:x.n.vt.size<=100000000)(hk:yz t.nodes f x.n l=some l')(hl:l'.length<=jN):
  Calls prog 193 #[.pointer (some ⟨w.heap.size,0,none⟩),.agg (ndC x).toArray] W (PrR w t s next l' W):=by
 unfold yz at hk;have HT:=G (fun X (hX:Old W X)=>(h.tab hT h8).old hX);obtain⟨⟨op,name,vk,vn,vt,vs,kids⟩,A,c,vA,vc⟩:=x;simp only at Hm hv hk;subst Hm;rw[jJ5 (by decide),jJ5 (by decide),jJ6 rfl]at hk;injection hk with hk;have HV:=G hv;have HO:=G ((jQ0 NoX W).alloc (.cells (ndC ⟨⟨3,name,vk,vn,vt,vs,kids⟩,A,c,vA,vc⟩).toArray 46));have HP:=G (fun X (hX:Old W X)=>JJ w X t s next l B bc (h.old hX) [⟨(kw (sb vt)).toArray⟩] (show(jT l (([⟨(kw (sb vt)).toArray⟩]:List BA).map sb)).length<=jN from by show(jI l _).length<=jN;exact(congrArg List.length hk).symm▸hl) (show 1<=1000 by decide));have Hk:=G (show jT l (([⟨(kw (sb vt)).toArray⟩]:List BA).map sb)=l' from hk);rw[Hk.out]at HP;clear h hk hl hv hT;unfold ndC iv at*;go_enter func193,ntmps193;go_wp2_with (first|(go_at_call 222;refine(XW _ _ HV.out).mono ?_;rintro e w1 ⟨rfl,FN⟩;have G8:=G (HO.out.trans FN (fun _ _ e=>e));clear FN)|(go_at_call 53;refine(HP.out _ G8.out).mono ?_;rintro e w2 ⟨rfl,B2,c2,hX,hf⟩)|fail);go_end0;exact⟨rfl,B2,c2,hX,(FrP.of_old G8.out).trans hf⟩
theorem jB4(w:World)(hT:TabW w)(h8:8<=w.heap.size)(t:Tre)(s:Sl)(h:∀n∈t.nodes,(n.op=1->0<=n.vn/\n.vn<=9223372036854775807)/\n.vt.size<=100000000):qD w t s:=fun W next l B bc x hm ho hp f l' hk hl=>by
 rcases ho with e|e
 ·exact jD5 w W hT h8 t s f next l l' B bc hp x e ((h _ hm).1 e) hk hl
 ·exact jB5 w W hT h8 t s f next l l' B bc hp x e (h _ hm).2 hk hl
theorem zX(w W:World)(t:Tre)(s:Sl)(PX:PxAll w t s (t.nodes.length+1))(next:Nat)(l l' :LB)(B:OA)(bc:Nat)(h:Pr w t s next l B bc W)(k:Nat)(hk:k=W.heap.size)(ws:List BA)(root:Int)
  (he:vY t.nodes root (ws.map sb) l=some l') (hl:l'.length<=jN) (Wm:ws.length<=1000):
  Calls prog 118 #[.pointer (some ⟨w.heap.size,0,none⟩),.int .i64 root,.slice (some ⟨k,0,none⟩) ws.length ws.length] (W.alloc (.cells (ws.map sv).toArray 9)) (PrR w t s next l' W):=by
 unfold vY at he;by_cases h0:0<=root
 ·rw[jJ6 h0]at he;unfold exP at he;exact yO w W t s _ PX next l l' B bc h k hk ws root h0 he (jL4 (jm _ _ _ _ _ _ he) hl) hl Wm
 ·rw[jJ5 h0]at he;injection he with he;subst he hk;have HO:=G ((jQ0 NoX W).alloc (.cells (ws.map sv).toArray 9));have H:=G (h.old HO.out);clear h hl Wm PX;go_enter func118,ntmps118;go_wp2_with fail;go_end0;exact⟨rfl,B,bc,H.out,FrP.of_old HO.out⟩
theorem jFP{pk:Int}(h:kq pk=true):∃(z:Nat) (ks:BA),(11+RowKit.wrap64 (pk-1))% 256=(z:Int)/\z<35/\(wvs resL)[z]? =some (.string ks)/\YX pk=tb ks:=by
 have hc:pk=1\/pk=2\/pk=3\/pk=4\/pk=5:=by
  have:1<=pk/\pk<=5:=jM8 h;omega
 rw[show RowKit.wrap64 (pk-1)=pk-1 from IntWalk.wrap64_in _ (by omega)];rcases hc with rfl|rfl|rfl|rfl|rfl
 ·exact⟨11,⟨#[105,110,116]⟩,by decide,by decide,rfl,rfl⟩
 ·exact⟨12,⟨#[98,111,111,108]⟩,by decide,by decide,rfl,rfl⟩
 ·exact⟨13,⟨#[116,101,120,116]⟩,by decide,by decide,rfl,rfl⟩
 ·exact⟨14,⟨#[116,105,109,101]⟩,by decide,by decide,rfl,rfl⟩
 ·exact⟨15,⟨#[115,101,116]⟩,by decide,by decide,rfl,rfl⟩
theorem jHE(w W:World)(hg:Sg w)(Fg:8<=w.heap.size)(t:Tre)(s:Sl)(ns:List MNd)(ps:List MSt)(TD:TrD w t s ns ps)(PX:PxAll w t s (t.nodes.length+1))(i:Nat)(a:Atr)(ha:t.attrs[i]? =some a)(Lh:kq a.kind=true)(next:Nat)(l l4:LB)(B:OA)(bc:Nat)(h:Pr w t s next l B bc W)(hk:xd t.nodes a l=some l4)(hl:(l4++[10]).length<=jN):
  Calls prog 54 #[.pointer (some ⟨w.heap.size,0,none⟩),.int .i64 1,iv (i:Int)] W (PrR w t s next (l4++[10]) W):=by
 obtain⟨i0,hi,Fm,Fi,Fl⟩:=info_parts VN;obtain⟨b,o,hA,hc⟩:=jP (C:=atC) (fun x=>rfl) TD.rA ha (jM5 ha).1;have hlt:=(jM5 ha).1;have FK:=TD.nA;have Wc:=h.c2;rw[hA]at Wc;have hw:=fun j u hu=>h.cellw (hc j u hu);obtain⟨name,at_,order,opt,kind,dflt,when_⟩:=a;simp only at Lh;obtain⟨z,ks,ew,PF,hz,LL⟩:=jFP Lh;have e1:(z:Int).toNat=z:=(by omega);have e2:(0:Int)<=(z:Int):=(by omega);have e3:(z:Int)<35:=(by omega);unfold xd at hk;obtain⟨l2,h2,hk⟩:=jM2 hk;obtain⟨l3,h3,e4⟩:=jM4 hk;simp only[LL]at h2;subst e4;have c0:W.cell? ⟨b,o+i*7,none⟩=some (.string name):=hw 0 _ rfl;have c1:W.cell? ⟨b,o+i*7+1,none⟩=some (.int .i64 at_):=hw 1 _ rfl;have c2:W.cell? ⟨b,o+i*7+2,none⟩=some (.int .i64 order):=hw 2 _ rfl;have c3:W.cell? ⟨b,o+i*7+3,none⟩=some (.int .i64 kind):=hw 3 _ rfl;have c4:W.cell? ⟨b,o+i*7+4,none⟩=some (.bool opt):=hw 4 _ rfl;have c5:W.cell? ⟨b,o+i*7+5,none⟩=some (.int .i64 dflt):=hw 5 _ rfl;have c6:W.cell? ⟨b,o+i*7+6,none⟩=some (.int .i64 when_):=hw 6 _ rfl;have f1:(0:Int)<=(i:Int):=(by omega);have f2:(i:Int).toNat=i:=(by omega);have f3:(i:Int)<(t.attrs.length:Int):=(by omega);have ho:Old W (W.alloc (.cells #[.string name,.int .i64 at_,.int .i64 order,.int .i64 kind,.bool opt,.int .i64 dflt,.int .i64 when_] 114)):=(jQ0 NoX W).alloc _;have BN:=G (jQ2 W 114 #[.string name,.int .i64 at_,.int .i64 order,.int .i64 kind,.bool opt,.int .i64 dflt,.int .i64 when_]);have F:=G (FrP.of_old ho);have g4:=(vJ hl).1;have g3:l3.length<=jN:=jL4 (jG l3 [59]).1 g4;have We:=G (vJ hl);have g2:l2.length<=jN:=jL4 (kY _ _ _ _ _ h3) g3;have g1:=jL4 (kY _ _ _ _ _ h2) g2;have g0:=jL4 (jG _ (tb ks)).1 g1;have g00:(jT l [[97,116,116,114,105,98,117,116,101],tb name,[58]]).length<=jN:=by
  split at g0
  ·exact jL4 (jG _ [111,112,116,105,111,110,97,108]).1 g0
  ·exact g0
 have P1:=G (jQ w _ t s next l B bc (h.old ho) (W.heap.size+1) (by simp) [⟨#[97,116,116,114,105,98,117,116,101]⟩,name,⟨#[58]⟩] g00 (show 3<=1000 by decide));have PO:=G (fun W1 B1 c1 Q (g0:(jI (jT l [[97,116,116,114,105,98,117,116,101],tb name,[58]]) [111,112,116,105,111,110,97,108]).length<=jN) (hp:Pr w t s next (jT l [[97,116,116,114,105,98,117,116,101],tb name,[58]]) B1 c1 W1) (hQ:Q=W1.heap.size)=>jQ w W1 t s next _ B1 c1 hp Q hQ [⟨#[111,112,116,105,111,110,97,108]⟩] g0 (show 1<=1000 by decide));have P3:=G (fun W1 B1 c1 Q (hp:Pr w t s next _ B1 c1 W1) (hQ:Q=W1.heap.size)=>jQ w W1 t s next _ B1 c1 hp Q hQ [ks] g1 (show 1<=1000 by decide));have RU1:=G (fun W1 B1 c1 Q (hp:Pr w t s next _ B1 c1 W1) (hQ:Q=W1.heap.size)=>zX w W1 t s PX next _ l2 B1 c1 hp Q hQ [⟨#[61]⟩] dflt h2 g2 (show 1<=1000 by decide));have RU2:=G (fun W1 B1 c1 Q (hp:Pr w t s next l2 B1 c1 W1) (hQ:Q=W1.heap.size)=>zX w W1 t s PX next l2 l3 B1 c1 hp Q hQ [⟨#[119,104,101,110]⟩] when_ h3 g3 (show 1<=1000 by decide));have P4:=G (fun W1 B1 c1 Q (hp:Pr w t s next l3 B1 c1 W1) (hQ:Q=W1.heap.size)=>jQ w W1 t s next l3 B1 c1 hp Q hQ [⟨#[59]⟩] g4 (show 1<=1000 by decide));have G0:=G g0;clear Lh PF LL h hA hc hw ha hlt TD ho hk h2 h3 g00 g0 g1 g2 g3 g4 hl PX;have NF:=G (show(jI l3 [59]).map bv++[bv 10]=(jI l3 [59]++[10]).map bv by rw[jN3 (l₂:=[10])];rfl);unfold iv at*;cases opt
 all_goals
  simp only[if_true,Bool.false_eq_true,if_false]at P3 RU1 G0;go_enter func54,ntmps54;go_wp2_with (first|((first|(go_at_call 53;first|refine(P4.out _ _ _ _ H.out (by simp)).mono ?_ |refine(P3.out _ _ _ _ H.out (by simp)).mono ?_ |refine(PO.out _ _ _ _ G0.out H.out (by simp)).mono ?_ |refine P1.out.mono ?_)|(go_at_call 118;first|refine(RU2.out _ _ _ _ H.out (by simp)).mono ?_ |refine(RU1.out _ _ _ _ H.out (by simp)).mono ?_));rintro e w1 ⟨rfl,B1,c1',hX,hf⟩;have H:=G hX;have F:=G (F.out.trans hf);have BN:=G (hf.blk _ _ _ (by decide) (by decide) BN.out);have n3:=BN.out.at_ 3 (v:=.int .i64 kind) rfl;have n4:=BN.out.at_ 4 (v:=.bool _) rfl;have n5:=BN.out.at_ 5 (v:=.int .i64 dflt) rfl;have n6:=BN.out.at_ 6 (v:=.int .i64 when_) rfl;have ck:=(hX.sg hg Fg).res z _ hz;rw[Nat.zero_add]at ck;have k9:=hX.c9;clear hX hf)|(at_builtin;refine jE _ rfl (.tmp 143) (.tmp 144) 33 rfl w.heap.size 5 i0 (.int .u8 0) 1 1 underlying33 hi Fm Fi Fl rfl (by decide) (.slice B1 (jI l3 [59]).length c1') (jI l3 [59]).length ((jI l3 [59]).map bv) rfl (jV H.out.own ((jQ0 NoX _).alloc _) (fun _ _ e=>e)) _ 1 1 [bv 10] rfl (Rd.one_new _ _ _) (ji _ rfl) We.out.2.1 We.out.2.2.1 (jL4 H.out.kp.size ((jQ0 NoX _).alloc _).size) ?_;intro B7 c7' w7 Hi hgrow Fc;rw[jC]at hgrow;rw[NF.out,We.out.2.2.2]at Hi;have HG:=H.out.grow ((jQ0 NoX _).alloc _) hgrow Hi;have Mx:=HG.1.at_ 9 rfl;have MZ:=HG.1.frozen 9;have HN:=G HG.2;clear Hi hgrow Fc HG)|fail);go_end0;rw[<-We.out.2.2.2]at HN;exact⟨rfl,B7,c7',HN.out.1,F.out.trans HN.out.2⟩
theorem Zd{ns:List Nd}{root:Int}{w b b' :LB}(h:Ym ns root w b=some b'):¬0<=root/\b' =b\/0<=root/\∃m,vY ns root [w,[119,104,101,110]] b=some m/\b' =jI m [59]:=by
 unfold Ym at h;split at h
 case isFalse h0=>injection h with h;exact .inl ⟨h0,h.symm⟩
 case isTrue h0=>
  obtain⟨m,h1,h2⟩:=jM4 h;exact .inr ⟨h0,m,h1,h2.symm⟩
theorem jHD(w W:World)(t:Tre)(s:Sl)(ns:List MNd)(ps:List MSt)(TD:TrD w t s ns ps)(PX:PxAll w t s (t.nodes.length+1))(i:Nat)(a:Stg)(ha:t.stages[i]? =some a)(next:Nat)(l l4:LB)(B:OA)(bc:Nat)(h:Pr w t s next l B bc W)(hk:xb t.nodes a l=some l4)(hl:(l4++[10]).length<=jN):
  Calls prog 54 #[.pointer (some ⟨w.heap.size,0,none⟩),.int .i64 2,iv (i:Int)] W (PrR w t s next (l4++[10]) W):=by
 obtain⟨i0,hi,Fm,Fi,Fl⟩:=info_parts VN;obtain⟨b,o,hA,hc⟩:=jP (C:=sgC) (fun x=>rfl) TD.rG ha (jM5 ha).1;have hlt:=(jM5 ha).1;have FK:=TD.nG;have Wc:=h.c3;rw[hA]at Wc;have hw:=fun j u hu=>h.cellw (hc j u hu);obtain⟨name,at_,order,in_,inAt,opens,closes⟩:=a;unfold xb at hk;obtain⟨l2,h2,hk⟩:=jM2 hk;obtain⟨l3,h3,e4⟩:=jM4 hk;simp only at h2 h3;have c0:W.cell? ⟨b,o+i*7,none⟩=some (.string name):=hw 0 _ rfl;have c1:W.cell? ⟨b,o+i*7+1,none⟩=some (.int .i64 at_):=hw 1 _ rfl;have c2:W.cell? ⟨b,o+i*7+2,none⟩=some (.int .i64 order):=hw 2 _ rfl;have c3:W.cell? ⟨b,o+i*7+3,none⟩=some (.string in_):=hw 3 _ rfl;have c4:W.cell? ⟨b,o+i*7+4,none⟩=some (.int .i64 inAt):=hw 4 _ rfl;have c5:W.cell? ⟨b,o+i*7+5,none⟩=some (.int .i64 opens):=hw 5 _ rfl;have c6:W.cell? ⟨b,o+i*7+6,none⟩=some (.int .i64 closes):=hw 6 _ rfl;have f1:(0:Int)<=(i:Int):=(by omega);have f2:(i:Int).toNat=i:=(by omega);have f3:(i:Int)<(t.stages.length:Int):=(by omega);have ho:Old W (W.alloc (.cells #[.string name,.int .i64 at_,.int .i64 order,.string in_,.int .i64 inAt,.int .i64 opens,.int .i64 closes] 117)):=(jQ0 NoX W).alloc _;have BN:=G (jQ2 W 117 #[.string name,.int .i64 at_,.int .i64 order,.string in_,.int .i64 inAt,.int .i64 opens,.int .i64 closes]);have F:=G (FrP.of_old ho);have We:=G (vJ hl);have g4:(jI l3 [125]).length<=jN:=e4▸(vJ hl).1;have HC:=G (show∀B c W1,Pr w t s next (jI l3 [125]) B c W1->Pr w t s next l4 B c W1 from fun _ _ _ h=>e4▸h);have g3:=jL4 (jG l3 [125]).1 g4;clear e4 hk hl;generalize hlb:jI (inP in_ (jT l [[115,116,97,103,101],tb name])) [123]=lb at h2;have R:∃m1,l2.length<=jN/\lb.length<=jN/\(¬0<=opens/\l2=lb\/0<=opens/\vY t.nodes opens [[111,112,101,110,115],[119,104,101,110]] lb=some m1/\m1.length<=jN/\l2=jI m1 [59]):=by
  have g2:l2.length<=jN:=by
   rcases Zd h3 with⟨_,e⟩|⟨_,m,e,rfl⟩
   ·exact e▸g3
   ·exact jL4 (kY _ _ _ _ _ e) (jL4 (jG m [59]).1 g3)
  rcases Zd h2 with⟨h0,e⟩|⟨h0,m,e,rfl⟩
  ·exact⟨[],g2,e▸g2,.inl ⟨h0,e⟩⟩
  ·have gm:=jL4 (jG m [59]).1 g2;exact⟨m,g2,jL4 (kY _ _ _ _ _ e) gm,.inr ⟨h0,e,gm,rfl⟩⟩
 obtain⟨m1,g2,g1,hR⟩:=R;subst hlb;have g0:(inP in_ (jT l [[115,116,97,103,101],tb name])).length<=jN:=jL4 (jG _ _).1 g1;have g00:(jT l [[115,116,97,103,101],tb name]).length<=jN:=jL4 (VE in_ _) g0;generalize hla:inP in_ (jT l [[115,116,97,103,101],tb name])=la at*;have P1:=G (jQ w _ t s next l B bc (h.old ho) (W.heap.size+1) (by simp) [⟨#[115,116,97,103,101]⟩,name] g00 (show 2<=1000 by decide));have IN:=G (fun W1 B1 c1 (hp:Pr w t s next (jT l [[115,116,97,103,101],tb name]) B1 c1 W1)=>Zt w W1 t s next _ B1 c1 hp in_ (hla▸g0));rw[hla]at IN;have PB:=G (fun W1 B1 c1 Q (hp:Pr w t s next la B1 c1 W1) (hQ:Q=W1.heap.size)=>jQ w W1 t s next _ B1 c1 hp Q hQ [⟨#[123]⟩] g1 (show 1<=1000 by decide));have PZ:=G (fun W1 B1 c1 Q (hp:Pr w t s next l3 B1 c1 W1) (hQ:Q=W1.heap.size)=>jQ w W1 t s next _ B1 c1 hp Q hQ [⟨#[125]⟩] g4 (show 1<=1000 by decide));clear h hA hc hw ha hlt TD ho h2 g00 g0 g1 g4 hla;unfold iv at*;rcases hR with⟨Hm,rfl⟩|⟨Hm,Bg,g2m,rfl⟩<;>rcases Zd h3 with⟨Nk,rfl⟩|⟨Nk,m2,Be,rfl⟩
 all_goals
  try have RO:=G (fun W1 B1 c1 Q (hp:Pr w t s next (jI la [123]) B1 c1 W1) (hQ:Q=W1.heap.size)=>zX w W1 t s PX next _ m1 B1 c1 hp Q hQ [⟨#[111,112,101,110,115]⟩,⟨#[119,104,101,110]⟩] opens Bg g2m (show 2<=1000 by decide))
  try have SO:=G (fun W1 B1 c1 Q (hp:Pr w t s next m1 B1 c1 W1) (hQ:Q=W1.heap.size)=>jQ w W1 t s next m1 B1 c1 hp Q hQ [⟨#[59]⟩] g2 (show 1<=1000 by decide))
  try have RC:=G (fun W1 B1 c1 Q (hp:Pr w t s next _ B1 c1 W1) (hQ:Q=W1.heap.size)=>zX w W1 t s PX next _ m2 B1 c1 hp Q hQ [⟨#[99,108,111,115,101,115]⟩,⟨#[119,104,101,110]⟩] closes Be (jL4 (jG m2 [59]).1 g3) (show 2<=1000 by decide))
  try have SC:=G (fun W1 B1 c1 Q (hp:Pr w t s next m2 B1 c1 W1) (hQ:Q=W1.heap.size)=>jQ w W1 t s next m2 B1 c1 hp Q hQ [⟨#[59]⟩] g3 (show 1<=1000 by decide))
  clear h3 g2 g3;go_enter func54,ntmps54;go_wp2_with (first|((first|(go_at_call 53;first|refine(PZ.out _ _ _ _ H.out (by simp)).mono ?_ |refine(SC.out _ _ _ _ H.out (by simp)).mono ?_ |refine(SO.out _ _ _ _ H.out (by simp)).mono ?_ |refine(PB.out _ _ _ _ H.out (by simp)).mono ?_ |refine P1.out.mono ?_)|(go_at_call 119;refine(IN.out _ _ _ H.out).mono ?_)|(go_at_call 118;first|refine(RC.out _ _ _ _ H.out (by simp)).mono ?_ |refine(RO.out _ _ _ _ H.out (by simp)).mono ?_));rintro e w1 ⟨rfl,B1,c1',hX,hf⟩;have H:=G hX;have F:=G (F.out.trans hf);have BN:=G (hf.blk _ _ _ (by decide) (by decide) BN.out);have n3:=BN.out.at_ 3 (v:=.string in_) rfl;have n5:=BN.out.at_ 5 (v:=.int .i64 opens) rfl;have n6:=BN.out.at_ 6 (v:=.int .i64 closes) rfl;(try have H:=G (HC.out _ _ _ H.out));have k9:=H.out.c9;clear hX hf)|(at_builtin;refine jE _ rfl (.tmp 143) (.tmp 144) 33 rfl w.heap.size 5 i0 (.int .u8 0) 1 1 underlying33 hi Fm Fi Fl rfl (by decide) (.slice B1 l4.length c1') l4.length (l4.map bv) rfl (jV H.out.own ((jQ0 NoX _).alloc _) (fun _ _ e=>e)) _ 1 1 [bv 10] rfl (Rd.one_new _ _ _) (ji _ rfl) We.out.2.1 We.out.2.2.1 (jL4 H.out.kp.size ((jQ0 NoX _).alloc _).size) ?_;intro BZ cZ' wZ Hi hgrow Fc;rw[jC]at hgrow;rw[show l4.map bv++[bv 10]=(l4++[10]).map bv by rw[jN3 (l₂:=[10])];rfl,We.out.2.2.2]at Hi;have HG:=H.out.grow ((jQ0 NoX _).alloc _) hgrow Hi;have Mx:=HG.1.at_ 9 rfl;have MZ:=HG.1.frozen 9;have HN:=G HG.2;clear Hi hgrow Fc HG)|fail);go_end0;rw[<-We.out.2.2.2]at HN;exact⟨rfl,BZ,cZ',HN.out.1,F.out.trans HN.out.2⟩
theorem qZ{t:Tre}:∀{l:List (Int×Int)} {a b:Nat},jw t l a=some b->∀d∈l,∃x y,kZ t d x=some y
 |[],_,_,_,_,h=>by cases h
 |e::l,a,b,h,d,hd=>by
  rw[jw]at h;obtain⟨c,h1,h2⟩:=jM2 h;rcases jN4 hd with rfl|hd
  ·exact⟨a,c,h1⟩
  ·exact qZ h2 d hd
theorem jDV{t:Tre}(h:ua t=true){d:Int×Int}(hd:d∈(jv t).l):∃x y,kZ t d x=some y:=by
 unfold ua at h;rw[Bool.and_eq_true,Bool.and_eq_true,decide_eq_true_eq]at h;exact qZ h.2 d hd
theorem jCO{ns:List Nd}{f:Nat}{root:Int}{a b:Nat}(h:kQ ns f root a=some b):0<=root:=by
 cases f with
 |zero=>cases h
 |succ f=>
  rw[kQ]at h;by_cases h1:root<0\/(ns.length:Int)<=root
  ·rw[jJ6 h1]at h;cases h
  ·omega
theorem Zx(w W:World)(hg:Sg w)(Fg:8<=w.heap.size)(t:Tre)(s:Sl)(ns:List MNd)(ps:List MSt)(TD:TrD w t s ns ps)(PX:PxAll w t s (t.nodes.length+1))(d:Int×Int)(Ti:d.1=1\/d.1=2\/d.1=3)(NR:0<=d.2){x y:Nat}(hr:kZ t d x=some y)(next:Nat)(l l' :LB)(B:OA)(bc:Nat)(h:Pr w t s next l B bc W)(hk:Kg t d l=some l')(hl:l'.length<=jN):
  Calls prog 54 #[.pointer (some ⟨w.heap.size,0,none⟩),iv d.1,iv d.2] W (PrR w t s next l' W):=by
 obtain⟨fam,k⟩:=d;simp only at Ti NR⊢;obtain⟨i,rfl⟩:∃i:Nat,k=(i:Int):=⟨k.toNat,by omega⟩;unfold Kg at hk;unfold kZ at hr;simp only[jL1]at hk hr;obtain⟨l4,h4,rfl⟩:=jM4 hk;rcases Ti with rfl|rfl|rfl
 ·rw[jJ6 rfl]at h4 hr;obtain⟨a,ha,h4⟩:=jM2 h4;rw[ha,jL2]at hr;unfold KI at hr;split at hr
  ·rename_i hb;exact jHE w W hg Fg t s ns ps TD PX i a ha hb.2 next l l4 B bc h h4 hl
  ·cases hr
 ·rw[jJ5 (by decide),jJ6 rfl]at h4 hr;obtain⟨a,ha,h4⟩:=jM2 h4;exact jHD w W t s ns ps TD PX i a ha next l l4 B bc h h4 hl
 ·rw[jJ5 (by decide),jJ5 (by decide),jJ6 rfl]at h4 hr;obtain⟨a,ha,h4⟩:=jM2 h4;rw[ha,jL2]at hr;unfold Jd at hr;split at hr
  ·exact jEI w W t s ns ps TD PX i a ha (jCO hr) next l l4 B bc h h4 hl
  ·cases hr
theorem gPowT:(prog.globals[3]?).map (·.type)=some 297:=by kernel_rfl
theorem jFp:prog.cellsOf 297=20:=by kernel_rfl
theorem jDx:prog.cellsOf 288=1:=by kernel_rfl
theorem jCU:(Rows.laid_internal_strconv_uint64pow10:DataW Unit)=Lib.tabData .u64 Lib.pow10Tab:=by rfl
theorem jCT{W:World}{l:List (String×DataW Unit)}(h:laidMet prog l W)(hm:("internal/strconv.uint64pow10",Rows.laid_internal_strconv_uint64pow10)∈l):TabW W:=by
 rw[jCU]at hm;obtain⟨ps,hv,_⟩:=h;obtain⟨g',t',cs,fuel,p,h1,h2,h3,h4⟩:=JY hv _ _ hm;obtain rfl:=jL5 (gPow.symm.trans h1);obtain rfl:=jL5 (gPowT.symm.trans h2);have e:=Lib.cells_of_tab underlying297 underlying288 jDx jFp h4;unfold TabW Lib.TabIs;rw[h3]
 congr 1
 rw[<-e]
end Go.Proofs.YtmmjcbbogokmfaaGreatDoor

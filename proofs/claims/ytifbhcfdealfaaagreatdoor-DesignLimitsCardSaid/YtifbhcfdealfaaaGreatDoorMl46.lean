import Derived.Test.YtifbhcfdealfaaaGreatDoorMl42
set_option maxRecDepth 100000
set_option maxHeartbeats 25600000
namespace Go.Proofs.YtifbhcfdealfaaaGreatDoor
open Go.Proofs.Tryz
def k1L:LB:=[116,121,112,101,32,116,32,123,32,97,116,116,114,105,98,117,116,101,32,120,32,58,32,105,110,116,32,61,32,52,32,59,32,115,116,97,103,101,32,115,32,123,32,125,32,125]
def k2L:LB:=[116,121,112,101,32,116,32,123,10,115,116,97,103,101,32,115,32,105,110,32,116,32,123,32,125,32,109,105,108,101,115,116,111,110,101,32,115,32,114,101,97,99,104,101,100,32,119,104,101,110,32,49,32,59]
def k3L:LB:=k2L++[32,125]
def k1N:Nd:=⟨1,⟨#[]⟩,1,4,⟨#[]⟩,[],[]⟩
def k1A:Atr:=⟨⟨#[120]⟩,19,0,false,1,0,-1⟩
def k1G:Stg:=⟨⟨#[115]⟩,39,1,⟨#[]⟩,0,-1,-1⟩
def k1T:Tre:=⟨⟨#[116]⟩,5,[29],[k1N],[],[k1A],[k1G],[]⟩
def k1D:List Dk:=[.A k1A,.jG9 k1G]
def k3N:Nd:=⟨1,⟨#[]⟩,1,1,⟨#[]⟩,[],[]⟩
def k3G:Stg:=⟨⟨#[115]⟩,15,0,⟨#[116]⟩,20,-1,-1⟩
def k3M:Mil:=⟨⟨#[115]⟩,36,1,⟨#[]⟩,0,0⟩
def k3T:Tre:=⟨⟨#[116]⟩,5,[51],[k3N],[],[],[k3G],[k3M]⟩
def k3D:List Dk:=[.jG9 k3G,.M k3M]
def okB(l:LB):Option Bool:=match kC l with
 | .ok m=>some m.stack.isEmpty
 | .error _=>none
theorem jA1:okB k1L=some true:=by decide+kernel
theorem jAw:okB k2L=some false:=by decide+kernel
theorem jAv:okB k3L=some true:=by decide+kernel
theorem xT{l:LB}(h:okB l=some true):∃m,kC l=.ok m/\m.stack=[]:=by
 unfold okB at h;cases hb:kC l with
 |error k=>rw[hb]at h;cases h
 |ok m=>
  rw[hb]at h;exact⟨m,rfl,List.isEmpty_iff.1 (jL5 h)⟩
theorem qE{l:LB}(h:okB l=some false):∃m,kC l=.ok m/\m.stack≠ []:=by
 unfold okB at h;cases hb:kC l with
 |error k=>rw[hb]at h;cases h
 |ok m=>
  rw[hb]at h;exact⟨m,rfl,fun e=>by simp only at h;rw[e]at h;cases h⟩
theorem jDM:∃r,Jb k1L 60=some r/\r.tree=k1T:=by
 refine⟨_,rfl,?_⟩;rfl
theorem jDL:∃r,Jb k3L 60=some r/\r.tree=k3T:=by
 refine⟨_,rfl,?_⟩;rfl
theorem jF0:WfT 46 k1T k1D:=by
 refine⟨⟨rfl,by decide,fun i x hx=> ?_,by decide,by decide⟩,by decide,rfl,rfl,rfl,rfl,fun i d hd=> ?_,by decide,by decide,by decide,(by show Rise 0 [0,-1,-1,-1] 1;simp[Rise]),by decide,?_,by decide,by decide,by decide,by decide⟩
 ·match i,hx with
  |0,hx=>obtain rfl:=jL5 hx;exact⟨by decide,fun _ h=>by cases h⟩
 ·match i,hd with
  |0,hd=>obtain rfl:=jL5 hd;rfl
  |1,hd=>obtain rfl:=jL5 hd;rfl
 ·intro d hd;rcases jN4 hd with rfl|hd
  ·trivial
  ·obtain rfl:=jM7 hd;trivial
theorem jFz:WfT 56 k3T k3D:=by
 refine⟨⟨rfl,by decide,fun i x hx=> ?_,by decide,by decide⟩,by decide,rfl,rfl,rfl,rfl,fun i d hd=> ?_,by decide,by decide,by decide,(by show Rise 0 [-1,-1,0] 1;simp[Rise]),by decide,?_,by decide,by decide,by decide,by decide⟩
 ·match i,hx with
  |0,hx=>obtain rfl:=jL5 hx;exact⟨by decide,fun _ h=>by cases h⟩
 ·match i,hd with
  |0,hd=>obtain rfl:=jL5 hd;rfl
  |1,hd=>obtain rfl:=jL5 hd;rfl
 ·intro d hd;rcases jN4 hd with rfl|hd
  ·trivial
  ·obtain rfl:=jM7 hd;trivial
theorem k1_look:Kr k1T k1D ⟨#[116]⟩=(0,0):=by decide+kernel
theorem k3_look:Kr k3T k3D ⟨#[116]⟩=(20,34):=by decide+kernel
theorem k2_len:k2L.length=54/\kK k2L 54=2/\vz k2L 54=46:=by decide+kernel
theorem k3_place:kK k3L 20=2/\vz k3L 20=12:=by decide+kernel
open Go.RowKit
def ZR:BA:=⟨#[116]⟩
theorem zl:kY (sb ZR)=true:=by decide+kernel
theorem jAt(w:World)(hg:Sg w)(Gc:Kn w)(h8:8<=w.heap.size)(A:OA)(c:Nat)(hr:Rd w 1 A 46 (k1L.map bv)):Calls prog 12 #[.string ZR,.slice A 46 c] w (jBa w k1L k1T):=by
 obtain⟨m,hb,hm⟩:=xT jA1;obtain⟨r,GA,ht⟩:=jDM;rw[<-ht];exact Za w hg Gc h8 A 46 c k1L hr (by decide) m hb hm 60 r GA k1D (by rw[ht];exact jF0) ZR zl 0 (by rw[ht];exact k1_look.symm)
theorem jAs(w:World)(hg:Sg w)(h8:8<=w.heap.size)(A:OA)(c:Nat)(hr:Rd w 1 A 54 (k2L.map bv))(hc:54<=c):Calls prog 12 #[.string ZR,.slice A 54 c] w (QJ w k2L 54 90):=by
 obtain⟨m,hb,hm⟩:=qE jAw;exact yj w hg A 54 c k2L hr hc (by decide) ZR zl 54 90 (jL3 _) (by decide) (fun W ho=>Kk W (hg.old ho) (jL4 h8 ho.size) A 54 c k2L (hr.old ho) (by decide) m hb hm)
theorem jAr(w:World)(hg:Sg w)(Gc:Kn w)(h8:8<=w.heap.size)(A:OA)(c:Nat)(hr:Rd w 1 A 56 (k3L.map bv))(hc:56<=c):Calls prog 12 #[.string ZR,.slice A 56 c] w (QJ w k3L 20 34):=by
 obtain⟨m,hb,hm⟩:=xT jAv;obtain⟨r,GA,ht⟩:=jDL;exact VC w hg Gc h8 A 56 c k3L hr hc (by decide) m hb hm 60 r GA k3D (by rw[ht];exact jFz) ZR zl 20 34 (by rw[ht];exact k3_look.symm) (by decide)
section
variable{w:World}{q:Nat}{src:BA}{s:Sl}{ns:List MNd}{ps:List MSt}{b:BdS}
theorem jDO(h:TyW w q src k1T s ns ps b):Calls prog 14 #[.pointer (some ⟨q,0,none⟩)] w fun e w' =>e=.returned (.string ⟨#[116]⟩)/\w=w' :=yV w q src k1T s ns ps b h
theorem jEv(h:TyW w q src k1T s ns ps b):Calls prog 47 #[.pointer (some ⟨q,0,none⟩),.int .i64 0] w fun e w' =>e=.returned (.int .i64 (-1))/\w=w' :=jCL w q src k1T s b h.bx h.up 0 (-1) (by decide+kernel)
theorem jEu(h:TyW w q src k1T s ns ps b):Calls prog 47 #[.pointer (some ⟨q,0,none⟩),.int .i64 1] w fun e w' =>e=.returned (.int .i64 (-1))/\w=w' :=jCK w q src k1T s b h.bx 1 (.inr (by decide+kernel))
theorem jAy(h:TyW w q src k1T s ns ps b):Calls prog 26 #[.pointer (some ⟨q,0,none⟩),.int .i64 2,.string ⟨#[115]⟩] w fun e w' =>e=.returned (.tuple #[.int .i64 0,.bool true])/\w=w' :=by
 have:=QP w q src k1T s b h.bx k1T.nG 1000000 h.m2 ⟨#[115]⟩ (by decide) (by decide+kernel)
 rwa [show jC k1T.nG ⟨#[115]⟩=0 by decide+kernel]at this
def yI:BA:=⟨#[99,45,49]⟩
theorem YJ:JO yI=true:=by decide+kernel
theorem ug:JO ⟨#[67]⟩=false:=by decide+kernel
theorem jA0(hg:Sg w)(h:TyW w q src k1T s ns ps b):Calls prog 19 #[.pointer (some ⟨q,0,none⟩),.string yI,.int .i64 3] w fun e w' =>(∃vA vC A c,e=.returned (.tuple #[.agg (za yI ⟨#[116]⟩ vA 1 vC).toArray,.int .i64 0])/\Rd w' 5 vA 1 (bnC ⟨#[120]⟩ 4 A c))/\Old w w' :=
 Xz w hg q src k1T s ns ps b h k1A rfl rfl k1N rfl rfl (by decide) yI YJ (by decide) (by decide)
theorem jDN(w:World)(q:Nat):Calls prog 19 #[.pointer (some ⟨q,0,none⟩),.string ⟨#[67]⟩,.int .i64 (-1)] w fun e w' =>e=.returned (.tuple #[.agg zCasL.toArray,.int .i64 34])/\Old w w' :=jBC w q ⟨#[67]⟩ (-1) ug (by decide)
theorem jAx(h:TyW w q src k1T s ns ps b)(vA:OA)(vC:Nat)(A:OA)(c:Nat)(hr:Rd w 5 vA 1 (bnC ⟨#[120]⟩ 4 A c)):Calls prog 20 #[.pointer (some ⟨q,0,none⟩),.agg (za yI ⟨#[116]⟩ vA 1 vC).toArray] w fun e w' =>e=.returned (.int .i64 0)/\Old w w' :=
 Qk w q src k1T s ns ps b h k1A rfl rfl (by decide+kernel) (by decide) (za yI ⟨#[116]⟩ vA 1 vC) yI vA vC 4 A c rfl rfl rfl rfl rfl rfl rfl rfl hr YJ (by decide)
theorem jAz(h:TyW w q src k1T s ns ps b)(vA:OA)(vC:Nat):Calls prog 20 #[.pointer (some ⟨q,0,none⟩),.agg (za yI ⟨#[117]⟩ vA 1 vC).toArray] w fun e w' =>e=.returned (.int .i64 134)/\Old w w' :=
 qK w q src k1T s ns ps b h (za yI ⟨#[117]⟩ vA 1 vC) yI ⟨#[117]⟩ rfl rfl YJ (by decide) (by decide)
end
theorem qL(w:World)(T:TypeId)(fr:Nat×Nat)(xs:List Value)(n:Nat)(hn:xs.length=n):Rd (w.alloc (.cells xs.toArray T fr)) 1 (some ⟨w.heap.size,0,none⟩) n xs:=
 ⟨by omega,fun _=>⟨_,_,rfl,fun j u hu=>by
  rw[Nat.zero_add,cell_of_row _ w.heap.size j xs.toArray T fr (heap_alloc_new w _)];simpa using hu⟩⟩
theorem jF1{w:World}{q:Nat}{src:BA}{s:Sl}{ns:List MNd}{ps:List MSt}{b:BdS}(h:TyW w q src k1T s ns ps b)(i:Int)(hi:i=0\/i=1):Calls prog 47 #[.pointer (some ⟨q,0,none⟩),.int .i64 i] w fun e w' =>e=.returned (.int .i64 (-1))/\w=w' :=by
 rcases hi with rfl|rfl
 ·exact jEv h
 ·exact jEu h
theorem Kw(w:World)(hg:Sg w)(Gc:Kn w)(h8:8<=w.heap.size):Calls prog 17 #[] w fun e w' =>e=.returned (.bool true)/\Old w w' :=by
 have FI:=fun(W:World)=>Lib.run_convert_bytes_const (P:=prog) W 22 5 #[.int .u8 116,.int .u8 121,.int .u8 112,.int .u8 101,.int .u8 32,.int .u8 116,.int .u8 32,.int .u8 123,.int .u8 32,.int .u8 97,.int .u8 116,.int .u8 116,.int .u8 114,.int .u8 105,.int .u8 98,.int .u8 117,.int .u8 116,.int .u8 101,.int .u8 32,.int .u8 120,.int .u8 32,.int .u8 58,.int .u8 32,.int .u8 105,.int .u8 110,.int .u8 116,.int .u8 32,.int .u8 61,.int .u8 32,.int .u8 52,.int .u8 32,.int .u8 59,.int .u8 32,.int .u8 115,.int .u8 116,.int .u8 97,.int .u8 103,.int .u8 101,.int .u8 32,.int .u8 115,.int .u8 32,.int .u8 123,.int .u8 32,.int .u8 125,.int .u8 32,.int .u8 125] 46 46 underlying22 underlying5;have O1:=G (show Old w (w.alloc (.cells #[.int .u8 116,.int .u8 121,.int .u8 112,.int .u8 101,.int .u8 32,.int .u8 116,.int .u8 32,.int .u8 123,.int .u8 32,.int .u8 97,.int .u8 116,.int .u8 116,.int .u8 114,.int .u8 105,.int .u8 98,.int .u8 117,.int .u8 116,.int .u8 101,.int .u8 32,.int .u8 120,.int .u8 32,.int .u8 58,.int .u8 32,.int .u8 105,.int .u8 110,.int .u8 116,.int .u8 32,.int .u8 61,.int .u8 32,.int .u8 52,.int .u8 32,.int .u8 59,.int .u8 32,.int .u8 115,.int .u8 116,.int .u8 97,.int .u8 103,.int .u8 101,.int .u8 32,.int .u8 115,.int .u8 32,.int .u8 123,.int .u8 32,.int .u8 125,.int .u8 32,.int .u8 125] 5 (46,46+1)))from(jQ0 _ _).alloc _);have HP:=G (jAt (w.alloc (.cells #[.int .u8 116,.int .u8 121,.int .u8 112,.int .u8 101,.int .u8 32,.int .u8 116,.int .u8 32,.int .u8 123,.int .u8 32,.int .u8 97,.int .u8 116,.int .u8 116,.int .u8 114,.int .u8 105,.int .u8 98,.int .u8 117,.int .u8 116,.int .u8 101,.int .u8 32,.int .u8 120,.int .u8 32,.int .u8 58,.int .u8 32,.int .u8 105,.int .u8 110,.int .u8 116,.int .u8 32,.int .u8 61,.int .u8 32,.int .u8 52,.int .u8 32,.int .u8 59,.int .u8 32,.int .u8 115,.int .u8 116,.int .u8 97,.int .u8 103,.int .u8 101,.int .u8 32,.int .u8 115,.int .u8 32,.int .u8 123,.int .u8 32,.int .u8 125,.int .u8 32,.int .u8 125] 5 (46,46+1))) (hg.old O1.out) (Gc.old O1.out) (jL4 h8 O1.out.size) (some ⟨w.heap.size,0,none⟩) 46 (qL w 5 (46,46+1) (k1L.map bv) 46 rfl));have Hg:=G hg;have Hk:=G Gc;have H8:=G h8;clear hg Gc h8;unfold jBa ZR iv at HP;go_enter func17,ntmps17;go_upto_region 2 with(first|(go_at_call 12;refine HP.out.mono ?_;rintro e w2 ⟨q,rfl,hq,⟨s,ns,ps,b,hT⟩,hO⟩;have HT:=G hT;have HQ:=G hq;have O2:=G (jM O1.out hO);clear hT hq hO)|fail);clear HP FI;have B3:=G (jQ2 w2 25 #[.int .i64 0,.int .i64 0,.int .i64 0]);have O3:=G (O2.out.alloc (.cells #[.int .i64 0,.int .i64 0,.int .i64 0] 25));have T3:=G (HT.out.old ((jQ0 NoX w2).alloc (.cells #[.int .i64 0,.int .i64 0,.int .i64 0] 25)));generalize w2.alloc (.cells #[.int .i64 0,.int .i64 0,.int .i64 0] 25)=w3 at*;have p0:=B3.out.at_ 0 (v:=.int .i64 0) rfl;have p1:=B3.out.at_ 1 (v:=.int .i64 0) rfl;have p2:=B3.out.at_ 2 (v:=.int .i64 0) rfl;go_upto_region 4 with(first
  |(go_at_call 14;refine(jDO T3.out).mono ?_;rintro e w4 ⟨rfl,rfl⟩)
  |(go_at_call 47;refine(jF1 T3.out _ (by decide)).mono ?_;rintro e w4 ⟨rfl,rfl⟩)
  |fail)
 clear p0 p1 p2;obtain⟨Z0,DG⟩:∃Z,Z=zCasL:=⟨_,rfl⟩;have HF:=G (jA0 (Hg.out.old O3.out) T3.out);go_upto_region 6 with(first
  |(go_at_call 26;refine(jAy T3.out).mono ?_;rintro e w4 ⟨rfl,rfl⟩)
  |(go_at_call 19;refine HF.out.mono ?_;rintro e w5 ⟨⟨vA,vC,A1,c1,rfl,hB⟩,hO⟩;obtain⟨L,hL⟩:∃L,L=za yI ⟨#[116]⟩ vA 1 vC:=⟨_,rfl⟩;rw[<-hL];have FA:=G (show(prog.info? 52).map (·.size)=some L.toArray.size from by rw[hL];exact Zt);have Wp:=G (show L.toArray.all (·.oneCell')=true from by rw[hL];exact JR _ _ _ _ _);have CB0:=G (show Blk (w5.alloc (.cells #[.string ⟨#[]⟩,.string ⟨#[]⟩,.int .i64 0,.int .u8 0,.int .u8 0,.int .u8 0,.int .u8 0,.int .u8 0,.int .u8 0,.int .u8 0,.int .u8 0,.int .u8 0,.int .u8 0,.int .u8 0,.int .u8 0,.int .u8 0,.int .u8 0,.int .u8 0,.int .u8 0,.int .u8 0,.int .u8 0,.int .u8 0,.int .u8 0,.int .u8 0,.int .u8 0,.int .u8 0,.int .u8 0,.int .u8 0,.int .u8 0,.int .u8 0,.int .u8 0,.int .u8 0,.int .u8 0,.int .u8 0,.int .u8 0,.slice none 0 0,.slice none 0 0,.slice none 0 0,.slice none 0 0] 52)) w5.heap.size 52 zCasL.toArray from jQ2 w5 52 zCasL.toArray);have PM:=G (CB0.out.there 0 L.toArray.size (by rw[hL];exact(jL3 39:0+39<=39)));have CB:=G (CB0.out.setWhole L (by rw[hL];rfl));have K6:=G (show Old w5 ((w5.alloc (.cells #[.string ⟨#[]⟩,.string ⟨#[]⟩,.int .i64 0,.int .u8 0,.int .u8 0,.int .u8 0,.int .u8 0,.int .u8 0,.int .u8 0,.int .u8 0,.int .u8 0,.int .u8 0,.int .u8 0,.int .u8 0,.int .u8 0,.int .u8 0,.int .u8 0,.int .u8 0,.int .u8 0,.int .u8 0,.int .u8 0,.int .u8 0,.int .u8 0,.int .u8 0,.int .u8 0,.int .u8 0,.int .u8 0,.int .u8 0,.int .u8 0,.int .u8 0,.int .u8 0,.int .u8 0,.int .u8 0,.int .u8 0,.int .u8 0,.slice none 0 0,.slice none 0 0,.slice none 0 0,.slice none 0 0] 52)).setCells w5.heap.size 0 L)from((jQ0 _ _).alloc _).trans (Kp.setCells _ 0 _ _) (fun b hb e=>absurd hb (by have e2:b=w5.heap.size:=e;omega)));have O5:=G (jM O3.out hO);have B5:=G (B3.out.old hO);have T5:=G (T3.out.old hO);have EK:=G hB;have W5:=G hL;have IM:=G (show w2.heap.size<w5.heap.size from B5.out.lt);clear hO hB hL)
  |((with_reducible refine JU 52 (.tmp 6) (.tmp 49) ?_);refine jQ1 rfl 52 (.tmp 6) (.tmp 49) rfl w5.heap.size 0 L.toArray rfl rfl PM.out FA.out Wp.out ?_)
  |fail)
 clear CB0 PM Wp;have O6:=G (jM O5.out K6.out);have B6:=G (B5.out.old K6.out);have T6:=G (T5.out.old K6.out);have N6:=G (EK.out.old K6.out);clear HF EK;generalize (w5.alloc (.cells #[.string ⟨#[]⟩,.string ⟨#[]⟩,.int .i64 0,.int .u8 0,.int .u8 0,.int .u8 0,.int .u8 0,.int .u8 0,.int .u8 0,.int .u8 0,.int .u8 0,.int .u8 0,.int .u8 0,.int .u8 0,.int .u8 0,.int .u8 0,.int .u8 0,.int .u8 0,.int .u8 0,.int .u8 0,.int .u8 0,.int .u8 0,.int .u8 0,.int .u8 0,.int .u8 0,.int .u8 0,.int .u8 0,.int .u8 0,.int .u8 0,.int .u8 0,.int .u8 0,.int .u8 0,.int .u8 0,.int .u8 0,.int .u8 0,.slice none 0 0,.slice none 0 0,.slice none 0 0,.slice none 0 0] 52)).setCells w5.heap.size 0 L=w6 at*;have l0:=CB.out.at_ 0 (v:=.string yI) (by rw[W5.out];rfl);have l1:=CB.out.at_ 1 (v:=.string ⟨#[116]⟩) (by rw[W5.out];rfl);have l35:=CB.out.at_ 35 (v:=.slice vA 1 vC) (by rw[W5.out];rfl);have Ta:=G CB.out.range;have HR:=G (jAx T6.out vA vC A1 c1 N6.out);rw[<-W5.out]at HR;obtain⟨vb,vo,PY,D6⟩:=N6.out.2 (by decide);have f2:w6.cell? ⟨vb,vo+2,none⟩=some (.int .i64 4):=D6 2 _ rfl;clear D6;have II:=G PY;rw[PY]at l35;clear PY;unfold yI at l0;go_upto_region 8 with(first
  |((with_reducible refine yN 52 (.tmp 6) ?_);refine Jo rfl 52 (.tmp 6) rfl w5.heap.size 0 rfl L _ Ta.out underlying52 rfl FA.out ?_)
  |(go_at_call 20;refine HR.out.mono ?_;rintro e w7 ⟨rfl,hO⟩;have K7:=G (jM K6.out hO);have CB7:=G (CB.out.old hO);clear hO)
  |fail)
 have HN:=G (fun W=>jDN W q);rw[<-DG]at HN;clear DG l0 l35 f2 Ta HR l1 CB B6 T6 N6 O6;go_upto_region 9 with(first
  |(go_at_call 19;refine(HN.out _).mono ?_;rintro e w8 ⟨rfl,hO⟩;have K8:=G (jM K7.out hO);have CB8:=G (CB7.out.old hO);clear hO)
  |fail)
 clear HN K7 CB7;have l1:=CB8.out.at_ 1 (v:=.string ⟨#[116]⟩) (by rw[W5.out];rfl);have z1:=CB8.out.frozen 1;obtain⟨L2,GV⟩:∃L,L=za yI ⟨#[117]⟩ vA 1 vC:=⟨_,rfl⟩;have CB9:=G (show Blk (w8.setCell ⟨w5.heap.size,1,none⟩ (.string ⟨#[117]⟩)) w5.heap.size 52 L2.toArray from by
  have h:=CB8.out.setL 1 (.string ⟨#[117]⟩);rw[W5.out]at h;rw[GV];exact h)
 have K9:=G (show Old w5 (w8.setCell ⟨w5.heap.size,1,none⟩ (.string ⟨#[117]⟩))from K8.out.setCell (p:=⟨w5.heap.size,1,none⟩) (fun e=>absurd e (Nat.lt_irrefl _)) _);go_upto_region 10 with fail;clear l1 z1 CB8 K8;generalize w8.setCell ⟨w5.heap.size,1,none⟩ (.string ⟨#[117]⟩)=w9 at*;have Wn:=G CB9.out.range;have Cn:=G GV;have GW:=G (show(prog.info? 52).map (·.size)=some L2.toArray.size from by rw[GV];exact Zt);have Ws:=G (jAz (T5.out.old K9.out) vA vC);rw[<-GV]at Ws;clear GV;go_upto_region 12 with(first
  |((with_reducible refine yN 52 (.tmp 6) ?_);refine Jo rfl 52 (.tmp 6) rfl w5.heap.size 0 rfl L2 _ Wn.out underlying52 rfl GW.out ?_)
  |(go_at_call 20;refine Ws.out.mono ?_;rintro e w10 ⟨rfl,hO⟩;have K10:=G (jM K9.out hO);clear hO)
  |fail)
 clear Wn Cn GW Ws K9 CB9;have O10:=G (jM O5.out K10.out);have B10:=G (B5.out.old K10.out);have PT:=G (show w.heap.size<=w2.heap.size from O2.out.size);clear T5 B5 O5 K10 T3 B3 O3 HT;have Fm:=fun(W:World)=>Lib.run_convert_bytes_const (P:=prog) W 22 5 #[.int .u8 116,.int .u8 121,.int .u8 112,.int .u8 101,.int .u8 32,.int .u8 116,.int .u8 32,.int .u8 123,.int .u8 10,.int .u8 115,.int .u8 116,.int .u8 97,.int .u8 103,.int .u8 101,.int .u8 32,.int .u8 115,.int .u8 32,.int .u8 105,.int .u8 110,.int .u8 32,.int .u8 116,.int .u8 32,.int .u8 123,.int .u8 32,.int .u8 125,.int .u8 32,.int .u8 109,.int .u8 105,.int .u8 108,.int .u8 101,.int .u8 115,.int .u8 116,.int .u8 111,.int .u8 110,.int .u8 101,.int .u8 32,.int .u8 115,.int .u8 32,.int .u8 114,.int .u8 101,.int .u8 97,.int .u8 99,.int .u8 104,.int .u8 101,.int .u8 100,.int .u8 32,.int .u8 119,.int .u8 104,.int .u8 101,.int .u8 110,.int .u8 32,.int .u8 49,.int .u8 32,.int .u8 59] 54 54 underlying22 underlying5;have Oa:=G (show Old w (w10.alloc (.cells #[.int .u8 116,.int .u8 121,.int .u8 112,.int .u8 101,.int .u8 32,.int .u8 116,.int .u8 32,.int .u8 123,.int .u8 10,.int .u8 115,.int .u8 116,.int .u8 97,.int .u8 103,.int .u8 101,.int .u8 32,.int .u8 115,.int .u8 32,.int .u8 105,.int .u8 110,.int .u8 32,.int .u8 116,.int .u8 32,.int .u8 123,.int .u8 32,.int .u8 125,.int .u8 32,.int .u8 109,.int .u8 105,.int .u8 108,.int .u8 101,.int .u8 115,.int .u8 116,.int .u8 111,.int .u8 110,.int .u8 101,.int .u8 32,.int .u8 115,.int .u8 32,.int .u8 114,.int .u8 101,.int .u8 97,.int .u8 99,.int .u8 104,.int .u8 101,.int .u8 100,.int .u8 32,.int .u8 119,.int .u8 104,.int .u8 101,.int .u8 110,.int .u8 32,.int .u8 49,.int .u8 32,.int .u8 59] 5 (54,54+1)))from O10.out.alloc _);have Ba:=G (show Blk (w10.alloc (.cells #[.int .u8 116,.int .u8 121,.int .u8 112,.int .u8 101,.int .u8 32,.int .u8 116,.int .u8 32,.int .u8 123,.int .u8 10,.int .u8 115,.int .u8 116,.int .u8 97,.int .u8 103,.int .u8 101,.int .u8 32,.int .u8 115,.int .u8 32,.int .u8 105,.int .u8 110,.int .u8 32,.int .u8 116,.int .u8 32,.int .u8 123,.int .u8 32,.int .u8 125,.int .u8 32,.int .u8 109,.int .u8 105,.int .u8 108,.int .u8 101,.int .u8 115,.int .u8 116,.int .u8 111,.int .u8 110,.int .u8 101,.int .u8 32,.int .u8 115,.int .u8 32,.int .u8 114,.int .u8 101,.int .u8 97,.int .u8 99,.int .u8 104,.int .u8 101,.int .u8 100,.int .u8 32,.int .u8 119,.int .u8 104,.int .u8 101,.int .u8 110,.int .u8 32,.int .u8 49,.int .u8 32,.int .u8 59] 5 (54,54+1))) w2.heap.size 25 #[.int .i64 0,.int .i64 0,.int .i64 0]from B10.out.alloc _);have Mx:=G (show Calls prog 12 #[.string ⟨#[116]⟩,.slice (some ⟨w10.heap.size,0,none⟩) 54 54] (w10.alloc (.cells #[.int .u8 116,.int .u8 121,.int .u8 112,.int .u8 101,.int .u8 32,.int .u8 116,.int .u8 32,.int .u8 123,.int .u8 10,.int .u8 115,.int .u8 116,.int .u8 97,.int .u8 103,.int .u8 101,.int .u8 32,.int .u8 115,.int .u8 32,.int .u8 105,.int .u8 110,.int .u8 32,.int .u8 116,.int .u8 32,.int .u8 123,.int .u8 32,.int .u8 125,.int .u8 32,.int .u8 109,.int .u8 105,.int .u8 108,.int .u8 101,.int .u8 115,.int .u8 116,.int .u8 111,.int .u8 110,.int .u8 101,.int .u8 32,.int .u8 115,.int .u8 32,.int .u8 114,.int .u8 101,.int .u8 97,.int .u8 99,.int .u8 104,.int .u8 101,.int .u8 100,.int .u8 32,.int .u8 119,.int .u8 104,.int .u8 101,.int .u8 110,.int .u8 32,.int .u8 49,.int .u8 32,.int .u8 59] 5 (54,54+1))) (fun d w' =>d=.returned (.tuple #[.pointer none,.agg #[.int .i64 54,.int .i64 2,.int .i64 46],.int .i64 90])/\Old (w10.alloc (.cells #[.int .u8 116,.int .u8 121,.int .u8 112,.int .u8 101,.int .u8 32,.int .u8 116,.int .u8 32,.int .u8 123,.int .u8 10,.int .u8 115,.int .u8 116,.int .u8 97,.int .u8 103,.int .u8 101,.int .u8 32,.int .u8 115,.int .u8 32,.int .u8 105,.int .u8 110,.int .u8 32,.int .u8 116,.int .u8 32,.int .u8 123,.int .u8 32,.int .u8 125,.int .u8 32,.int .u8 109,.int .u8 105,.int .u8 108,.int .u8 101,.int .u8 115,.int .u8 116,.int .u8 111,.int .u8 110,.int .u8 101,.int .u8 32,.int .u8 115,.int .u8 32,.int .u8 114,.int .u8 101,.int .u8 97,.int .u8 99,.int .u8 104,.int .u8 101,.int .u8 100,.int .u8 32,.int .u8 119,.int .u8 104,.int .u8 101,.int .u8 110,.int .u8 32,.int .u8 49,.int .u8 32,.int .u8 59] 5 (54,54+1))) w')from by
  have h:=jAs (w10.alloc (.cells #[.int .u8 116,.int .u8 121,.int .u8 112,.int .u8 101,.int .u8 32,.int .u8 116,.int .u8 32,.int .u8 123,.int .u8 10,.int .u8 115,.int .u8 116,.int .u8 97,.int .u8 103,.int .u8 101,.int .u8 32,.int .u8 115,.int .u8 32,.int .u8 105,.int .u8 110,.int .u8 32,.int .u8 116,.int .u8 32,.int .u8 123,.int .u8 32,.int .u8 125,.int .u8 32,.int .u8 109,.int .u8 105,.int .u8 108,.int .u8 101,.int .u8 115,.int .u8 116,.int .u8 111,.int .u8 110,.int .u8 101,.int .u8 32,.int .u8 115,.int .u8 32,.int .u8 114,.int .u8 101,.int .u8 97,.int .u8 99,.int .u8 104,.int .u8 101,.int .u8 100,.int .u8 32,.int .u8 119,.int .u8 104,.int .u8 101,.int .u8 110,.int .u8 32,.int .u8 49,.int .u8 32,.int .u8 59] 5 (54,54+1))) (Hg.out.old Oa.out) (jL4 H8.out Oa.out.size) (some ⟨w10.heap.size,0,none⟩) 54 (qL w10 5 (54,54+1) (k2L.map bv) 54 rfl) (jL3 _);unfold QJ at h;rw[show xJ k2L 54=[.int .i64 54,.int .i64 2,.int .i64 46]from by unfold xJ;rw[k2_len.2.1,k2_len.2.2];rfl]at h;exact h)
 go_upto_region 13 with(first|(go_at_call 12;refine Mx.out.mono ?_;rintro e w12 ⟨rfl,hO⟩;have Ob:=G (jM Oa.out hO);have Bb:=G (Ba.out.old hO);have d0:=Bb.out.at_ 0 (v:=.int .i64 0) rfl;have d1:=Bb.out.at_ 1 (v:=.int .i64 0) rfl;have d2:=Bb.out.at_ 2 (v:=.int .i64 0) rfl;have z0:=Bb.out.frozen 0;have z1:=Bb.out.frozen 1;have z2:=Bb.out.frozen 2;clear hO)|fail);have Ow13:=G (show Old w (((w12.setCell ⟨w2.heap.size,0,none⟩ (.int .i64 54)).setCell ⟨w2.heap.size,1,none⟩ (.int .i64 2)).setCell ⟨w2.heap.size,2,none⟩ (.int .i64 46))from((Ob.out.setCell (p:=⟨w2.heap.size,0,none⟩) (fun e=>absurd e (Nat.not_lt.2 PT.out)) _).setCell (p:=⟨w2.heap.size,1,none⟩) (fun e=>absurd e (Nat.not_lt.2 PT.out)) _).setCell (p:=⟨w2.heap.size,2,none⟩) (fun e=>absurd e (Nat.not_lt.2 PT.out)) _);have Bw13:=G (show Blk (((w12.setCell ⟨w2.heap.size,0,none⟩ (.int .i64 54)).setCell ⟨w2.heap.size,1,none⟩ (.int .i64 2)).setCell ⟨w2.heap.size,2,none⟩ (.int .i64 46)) w2.heap.size 25 #[.int .i64 54,.int .i64 2,.int .i64 46]from((Bb.out.set_ 0 _).set_ 1 _).set_ 2 _);clear d0 d1 d2 z0 z1 z2 Fm Mx Oa Ba Ob Bb O10 B10;generalize (((w12.setCell ⟨w2.heap.size,0,none⟩ (.int .i64 54)).setCell ⟨w2.heap.size,1,none⟩ (.int .i64 2)).setCell ⟨w2.heap.size,2,none⟩ (.int .i64 46))=w13 at*;have p0:=Bw13.out.at_ 0 (v:=.int .i64 54) rfl;have p1:=Bw13.out.at_ 1 (v:=.int .i64 2) rfl;have p2:=Bw13.out.at_ 2 (v:=.int .i64 46) rfl;go_upto_region 15 with fail;clear p0 p1 p2;have Fm:=fun(W:World)=>Lib.run_convert_bytes_const (P:=prog) W 22 5 #[.int .u8 116,.int .u8 121,.int .u8 112,.int .u8 101,.int .u8 32,.int .u8 116,.int .u8 32,.int .u8 123,.int .u8 10,.int .u8 115,.int .u8 116,.int .u8 97,.int .u8 103,.int .u8 101,.int .u8 32,.int .u8 115,.int .u8 32,.int .u8 105,.int .u8 110,.int .u8 32,.int .u8 116,.int .u8 32,.int .u8 123,.int .u8 32,.int .u8 125,.int .u8 32,.int .u8 109,.int .u8 105,.int .u8 108,.int .u8 101,.int .u8 115,.int .u8 116,.int .u8 111,.int .u8 110,.int .u8 101,.int .u8 32,.int .u8 115,.int .u8 32,.int .u8 114,.int .u8 101,.int .u8 97,.int .u8 99,.int .u8 104,.int .u8 101,.int .u8 100,.int .u8 32,.int .u8 119,.int .u8 104,.int .u8 101,.int .u8 110,.int .u8 32,.int .u8 49,.int .u8 32,.int .u8 59,.int .u8 32,.int .u8 125] 56 56 underlying22 underlying5;have Oa:=G (show Old w (w13.alloc (.cells #[.int .u8 116,.int .u8 121,.int .u8 112,.int .u8 101,.int .u8 32,.int .u8 116,.int .u8 32,.int .u8 123,.int .u8 10,.int .u8 115,.int .u8 116,.int .u8 97,.int .u8 103,.int .u8 101,.int .u8 32,.int .u8 115,.int .u8 32,.int .u8 105,.int .u8 110,.int .u8 32,.int .u8 116,.int .u8 32,.int .u8 123,.int .u8 32,.int .u8 125,.int .u8 32,.int .u8 109,.int .u8 105,.int .u8 108,.int .u8 101,.int .u8 115,.int .u8 116,.int .u8 111,.int .u8 110,.int .u8 101,.int .u8 32,.int .u8 115,.int .u8 32,.int .u8 114,.int .u8 101,.int .u8 97,.int .u8 99,.int .u8 104,.int .u8 101,.int .u8 100,.int .u8 32,.int .u8 119,.int .u8 104,.int .u8 101,.int .u8 110,.int .u8 32,.int .u8 49,.int .u8 32,.int .u8 59,.int .u8 32,.int .u8 125] 5 (56,56+1)))from Ow13.out.alloc _);have Ba:=G (show Blk (w13.alloc (.cells #[.int .u8 116,.int .u8 121,.int .u8 112,.int .u8 101,.int .u8 32,.int .u8 116,.int .u8 32,.int .u8 123,.int .u8 10,.int .u8 115,.int .u8 116,.int .u8 97,.int .u8 103,.int .u8 101,.int .u8 32,.int .u8 115,.int .u8 32,.int .u8 105,.int .u8 110,.int .u8 32,.int .u8 116,.int .u8 32,.int .u8 123,.int .u8 32,.int .u8 125,.int .u8 32,.int .u8 109,.int .u8 105,.int .u8 108,.int .u8 101,.int .u8 115,.int .u8 116,.int .u8 111,.int .u8 110,.int .u8 101,.int .u8 32,.int .u8 115,.int .u8 32,.int .u8 114,.int .u8 101,.int .u8 97,.int .u8 99,.int .u8 104,.int .u8 101,.int .u8 100,.int .u8 32,.int .u8 119,.int .u8 104,.int .u8 101,.int .u8 110,.int .u8 32,.int .u8 49,.int .u8 32,.int .u8 59,.int .u8 32,.int .u8 125] 5 (56,56+1))) w2.heap.size 25 #[.int .i64 54,.int .i64 2,.int .i64 46]from Bw13.out.alloc _);have Mx:=G (show Calls prog 12 #[.string ⟨#[116]⟩,.slice (some ⟨w13.heap.size,0,none⟩) 56 56] (w13.alloc (.cells #[.int .u8 116,.int .u8 121,.int .u8 112,.int .u8 101,.int .u8 32,.int .u8 116,.int .u8 32,.int .u8 123,.int .u8 10,.int .u8 115,.int .u8 116,.int .u8 97,.int .u8 103,.int .u8 101,.int .u8 32,.int .u8 115,.int .u8 32,.int .u8 105,.int .u8 110,.int .u8 32,.int .u8 116,.int .u8 32,.int .u8 123,.int .u8 32,.int .u8 125,.int .u8 32,.int .u8 109,.int .u8 105,.int .u8 108,.int .u8 101,.int .u8 115,.int .u8 116,.int .u8 111,.int .u8 110,.int .u8 101,.int .u8 32,.int .u8 115,.int .u8 32,.int .u8 114,.int .u8 101,.int .u8 97,.int .u8 99,.int .u8 104,.int .u8 101,.int .u8 100,.int .u8 32,.int .u8 119,.int .u8 104,.int .u8 101,.int .u8 110,.int .u8 32,.int .u8 49,.int .u8 32,.int .u8 59,.int .u8 32,.int .u8 125] 5 (56,56+1))) (fun d w' =>d=.returned (.tuple #[.pointer none,.agg #[.int .i64 20,.int .i64 2,.int .i64 12],.int .i64 34])/\Old (w13.alloc (.cells #[.int .u8 116,.int .u8 121,.int .u8 112,.int .u8 101,.int .u8 32,.int .u8 116,.int .u8 32,.int .u8 123,.int .u8 10,.int .u8 115,.int .u8 116,.int .u8 97,.int .u8 103,.int .u8 101,.int .u8 32,.int .u8 115,.int .u8 32,.int .u8 105,.int .u8 110,.int .u8 32,.int .u8 116,.int .u8 32,.int .u8 123,.int .u8 32,.int .u8 125,.int .u8 32,.int .u8 109,.int .u8 105,.int .u8 108,.int .u8 101,.int .u8 115,.int .u8 116,.int .u8 111,.int .u8 110,.int .u8 101,.int .u8 32,.int .u8 115,.int .u8 32,.int .u8 114,.int .u8 101,.int .u8 97,.int .u8 99,.int .u8 104,.int .u8 101,.int .u8 100,.int .u8 32,.int .u8 119,.int .u8 104,.int .u8 101,.int .u8 110,.int .u8 32,.int .u8 49,.int .u8 32,.int .u8 59,.int .u8 32,.int .u8 125] 5 (56,56+1))) w')from by
  have h:=jAr (w13.alloc (.cells #[.int .u8 116,.int .u8 121,.int .u8 112,.int .u8 101,.int .u8 32,.int .u8 116,.int .u8 32,.int .u8 123,.int .u8 10,.int .u8 115,.int .u8 116,.int .u8 97,.int .u8 103,.int .u8 101,.int .u8 32,.int .u8 115,.int .u8 32,.int .u8 105,.int .u8 110,.int .u8 32,.int .u8 116,.int .u8 32,.int .u8 123,.int .u8 32,.int .u8 125,.int .u8 32,.int .u8 109,.int .u8 105,.int .u8 108,.int .u8 101,.int .u8 115,.int .u8 116,.int .u8 111,.int .u8 110,.int .u8 101,.int .u8 32,.int .u8 115,.int .u8 32,.int .u8 114,.int .u8 101,.int .u8 97,.int .u8 99,.int .u8 104,.int .u8 101,.int .u8 100,.int .u8 32,.int .u8 119,.int .u8 104,.int .u8 101,.int .u8 110,.int .u8 32,.int .u8 49,.int .u8 32,.int .u8 59,.int .u8 32,.int .u8 125] 5 (56,56+1))) (Hg.out.old Oa.out) (Hk.out.old Oa.out) (jL4 H8.out Oa.out.size) (some ⟨w13.heap.size,0,none⟩) 56 (qL w13 5 (56,56+1) (k3L.map bv) 56 rfl) (jL3 _);unfold QJ at h;rw[show xJ k3L 20=[.int .i64 20,.int .i64 2,.int .i64 12]from by unfold xJ;rw[k3_place.1,k3_place.2];rfl]at h;exact h)
 go_upto_region 16 with(first|(go_at_call 12;refine Mx.out.mono ?_;rintro e w15 ⟨rfl,hO⟩;have Ob:=G (jM Oa.out hO);have Bb:=G (Ba.out.old hO);have d0:=Bb.out.at_ 0 (v:=.int .i64 54) rfl;have d1:=Bb.out.at_ 1 (v:=.int .i64 2) rfl;have d2:=Bb.out.at_ 2 (v:=.int .i64 46) rfl;have z0:=Bb.out.frozen 0;have z1:=Bb.out.frozen 1;have z2:=Bb.out.frozen 2;clear hO)|fail);have Ow16:=G (show Old w (((w15.setCell ⟨w2.heap.size,0,none⟩ (.int .i64 20)).setCell ⟨w2.heap.size,1,none⟩ (.int .i64 2)).setCell ⟨w2.heap.size,2,none⟩ (.int .i64 12))from((Ob.out.setCell (p:=⟨w2.heap.size,0,none⟩) (fun e=>absurd e (Nat.not_lt.2 PT.out)) _).setCell (p:=⟨w2.heap.size,1,none⟩) (fun e=>absurd e (Nat.not_lt.2 PT.out)) _).setCell (p:=⟨w2.heap.size,2,none⟩) (fun e=>absurd e (Nat.not_lt.2 PT.out)) _);have Bw16:=G (show Blk (((w15.setCell ⟨w2.heap.size,0,none⟩ (.int .i64 20)).setCell ⟨w2.heap.size,1,none⟩ (.int .i64 2)).setCell ⟨w2.heap.size,2,none⟩ (.int .i64 12)) w2.heap.size 25 #[.int .i64 20,.int .i64 2,.int .i64 12]from((Bb.out.set_ 0 _).set_ 1 _).set_ 2 _);clear d0 d1 d2 z0 z1 z2 Fm Mx Oa Ba Ob Bb Ow13 Bw13;generalize (((w15.setCell ⟨w2.heap.size,0,none⟩ (.int .i64 20)).setCell ⟨w2.heap.size,1,none⟩ (.int .i64 2)).setCell ⟨w2.heap.size,2,none⟩ (.int .i64 12))=w16 at*;have p0:=Bw16.out.at_ 0 (v:=.int .i64 20) rfl;have p1:=Bw16.out.at_ 1 (v:=.int .i64 2) rfl;have p2:=Bw16.out.at_ 2 (v:=.int .i64 12) rfl;go_wp2;go_ret;exact⟨rfl,Ow16.out⟩
theorem QU:∀(l:LB) (k e j:Nat),jj l k e=.wrong j\/jj l k e=.shut j->j<=k+l.length
 |[],k,e,j,h=>by rcases h with h|h<;>cases h
 |c::l,k,e,j,h=>by
  rw[jK6];have ih:∀e',jj l (k+1) e' =.wrong j\/jj l (k+1) e' =.shut j->j<=k+(l.length+1):=fun e' h=>by
   have:=QU l (k+1) e' j h;omega
  have bad:TxR.wrong k=.wrong j\/TxR.wrong k=.shut j->j<=k+(l.length+1):=fun h=>by
   rcases h with h|h
   ·injection h with h;omega
   ·cases h
  rw[jj]at h;split at h
  ·split at h
   ·rcases h with h|h
    ·cases h
    ·injection h with h;omega
   split at h
   ·exact ih _ h
   split at h
   ·exact bad h
   ·exact ih _ h
  split at h
  ·split at h
   ·exact ih _ h
   split at h
   ·exact ih _ h
   ·exact bad h
  split at h
  ·exact bad h
  ·exact ih _ h
theorem xE(name int:Bool)(ws:List LB):∀(l w:LB) (k j:Nat),vD name int ws w l k=some j->j<=k+l.length
 |[],w,k,j,h=>by cases h
 |c::l,w,k,j,h=>by
  rw[jK6];rw[vD]at h;split at h
  ·obtain rfl:=jL5 h;omega
  split at h
  ·have:=xE name int ws l _ (k+1) j h;omega
  ·obtain rfl:=jL5 h;omega
theorem zw{t:Nat}(ht:t<58){m:Mc}{k j:Nat}(h:jz t m.stack=true):vI t m k≠ .error j:=by
 obtain⟨s,_,e⟩:=KU t ht m k h;rw[e];exact fun h=>by cases h
theorem jCT{m:Mc}{l:LB}{k:Nat}(h:vP m l=.error k):k<=m.at_ +l.length:=by
 cases l with
 |nil=>cases h
 |cons c l=>
  rw[vP]at h;split at h
  ·cases h
  split at h
  ·cases h
  split at h
  ·unfold ke at h;split at h
   ·injection h with h;omega
   ·rename_i h3;have h3:jz 3 m.stack=true:=(by simpa using h3);split at h
    ·rename_i j hj;injection h with h;have:=QU _ _ _ _ (.inl hj);simp only[List.drop_succ_cons,List.drop_zero]at this;rw[jK6];omega
    ·exact absurd h (zw (by decide) h3)
    ·cases h
  split at h
  ·unfold kU at h;simp only at h;split at h
   ·rename_i h1;exact absurd h (zw (zB _) h1.2.2)
   ·unfold vU at h;split at h
    ·rename_i j hj;injection h with h;have:=xE _ _ _ _ _ _ _ hj;rw[<-h];exact this
    ·cases h
  ·unfold kf at h;simp only at h;split at h
   ·rename_i h1;split at h
    ·rename_i h2;exact absurd h (zw (kD _) h2.2.1)
    ·exact absurd h (zw (kD _) h1.2)
   split at h
   ·injection h with h;omega
   ·rename_i h2;have h2:jz (jf [c,61]) m.stack=true:=by
     cases h3:jz (jf [c,61]) m.stack with
     |true=>rfl
     |false=>exact absurd (.inr h3) h2
    split at h
    ·cases h
    split at h
    ·injection h with h;rw[jK6];omega
    ·exact absurd h (zw (kD _) h2)
theorem jBl(src:LB):∀(f:Nat) (m:Mc) (k:Nat),VZ src f m=.error k->k<=src.length
 |0,m,k,h=>by cases h
 |f+1,m,k,h=>by
  rw[VZ]at h;split at h
  ·cases h
  ·split at h
   ·rename_i hl j hj;injection h with h;have:=jCT hj;rw[jK8]at this;omega
   ·exact jBl src f _ k h
theorem xn{src:LB}{k:Nat}(h:kC src=.error k):k<=src.length:=jBl src _ _ k h
theorem jD7{t:Tre}(h:TSz t):TrB t:=
 ⟨h.lA,h.lG,h.lM,h.lS,h.nl,by have:=h.ats;have:=h.nl;omega,h.pr,fun n hn=>⟨by have:=h.kl n hn;omega,by rw[h.vs n hn];decide⟩⟩
theorem Yx(l:LB)(hn:l.length<=4000000000)(name:BA):
  (∃k e,k<=l.length/\e≠0/\∀(w:World) (A:OA) (n c:Nat),Sg w->Kn w->8<=w.heap.size->Rd w 1 A n (l.map bv)->n<=c->Calls prog 12 #[.string name,.slice A n c] w (QJ w l k e))
  \/(∃t,t.name=name/\TSz t/\∀(w:World) (A:OA) (n c:Nat),Sg w->Kn w->8<=w.heap.size->Rd w 1 A n (l.map bv)->n<=c->Calls prog 12 #[.string name,.slice A n c] w (jBa w l t)):=by
 have len:∀{w:World} {A:OA} {n:Nat},Rd w 1 A n (l.map bv)->l.length=n:=fun hr=>(by simpa using hr.1);cases hl:kY (sb name)with
 |false=>exact .inl ⟨0,34,Nat.zero_le _,by decide,fun w A n c hg _ _ hr hc=>qg w hg A n c l hr hc (by have:=len hr;omega) name hl⟩
 |true=>
  by_cases hs:l.length<=60000
  ·cases hb:kC l with
   |error k=>exact .inl ⟨k,90,xn hb,by decide,fun w A n c hg _ h8 hr hc=>yj w hg A n c l hr hc (by have:=len hr;omega) name hl k 90 (by have:=len hr;have:=xn hb;omega) (by decide) fun W ho=>Qv W (hg.old ho) (jL4 h8 ho.size) A n c l (hr.old ho) hs k hb⟩
   |ok m=>
    by_cases hm:m.stack=[]
    ·obtain⟨r,GA⟩:=jAN hb hm hs;obtain⟨D,wf⟩:=jCh GA;have hp:=XX (D:=D) wf.pls name;cases NS:Kr r.tree D name with
     |mk k e=>
      rw[NS]at hp;obtain⟨h0,h1⟩:=hp;simp only at h0 h1;obtain⟨k',rfl⟩:=Int.eq_ofNat_of_zero_le h0;by_cases he:e=0
      ·subst he;exact .inr ⟨r.tree,XY NS,QS wf (by omega),fun w A n c hg hk h8 hr _=>Za w hg hk h8 A n c l hr hs m hb hm _ r GA D wf name hl _ NS.symm⟩
      ·exact .inl ⟨k',e,by omega,he,fun w A n c hg hk h8 hr hc=>VC w hg hk h8 A n c l hr hc hs m hb hm _ r GA D wf name hl k' e NS.symm he⟩
    ·exact .inl ⟨l.length,90,jL3 _,by decide,fun w A n c hg _ h8 hr hc=>yj w hg A n c l hr hc (by have:=len hr;omega) name hl l.length 90 (by have:=len hr;omega) (by decide) fun W ho=>Kk W (hg.old ho) (jL4 h8 ho.size) A n c l (hr.old ho) hs m hb hm⟩
  ·exact .inl ⟨0,6,Nat.zero_le _,by decide,fun w A n c hg _ _ hr hc=>yj w hg A n c l hr hc (by have:=len hr;omega) name hl 0 6 (Nat.zero_le _) (by decide) fun W _=>uO W A n c (by have:=len hr;omega)⟩
end Go.Proofs.YtifbhcfdealfaaaGreatDoor

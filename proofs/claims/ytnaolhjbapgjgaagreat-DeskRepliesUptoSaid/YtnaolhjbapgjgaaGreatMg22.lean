import Derived.Test.YtnaolhjbapgjgaaGreatMg21
set_option maxRecDepth 100000
set_option maxHeartbeats 6400000
namespace Go.Proofs.YtnaolhjbapgjgaaGreat
open Go.Proofs.Tryz
open Go.RowKit
theorem zH{P:Program}{fn:Func}{R:Ending->World->Prop}{a:Act}{w:World}{p u v:Tmp}{ty:TypeId}{g:Nat}{t:TypeId}{cs:Array Value}{d:TypeDesc}(h:fn.results= #[.cell p ty,.tmp u,.tmp v])
  (hp:a.tmps.getD p undef=.pointer (some ⟨g,0,none⟩)) (hb:Blk w g t cs) (hu:P.underlying ty=some d) (hd:(match d with| .struct _ | .array _ _=>true|_=>false)=true) (hi:(P.info? ty).map (·.size)=some cs.size)
  (Do:a.defers=[]) (hR:R (.returned (.tuple #[.agg cs,a.tmps.getD u undef,a.tmps.getD v undef])) w):bodyPost P fn R .ret a w:=by
 refine bodyPost_ret ?_ Do hR;have hl:=run_loadVar_row (P:=P) w g t ty cs (0,0) d hb hu hd hi;simp only[results,h];simp only[Array.getD_eq_getD_getElem?]at hp;simp[hp,asAddr,hl]
theorem yN:(prog.info? 29).map (·.size)=some 4:=by kernel_rfl
def RtvPost(w:World)(V:Val×Rs)(e:Ending)(w' :World):Prop:=
 ∃A c n y,e=.returned (.tuple #[vV V.1 A c,.int .i64 n,.int .i64 y])/\(V.2.why=0->y=0/\n=(V.2.at_:Int))/\(V.2.why≠0->y≠0)/\Rd w' 1 A V.1.s.length (V.1.s.map sv)/\Av (fun k=>k<w.heap.size) V.1.s.length A/\V.1.s.length<=c/\Old w w'
def zero4:List Value:=[.int .i64 0,.int .i64 0,.string ⟨#[]⟩,.slice none 0 0]
theorem RtvPost.bad{w w' :World}{V:Val×Rs}(n y:Int)(hV:V.1=vK)(hw:V.2.why≠0)(hy:y≠0)(ho:Old w w'):RtvPost w V (.returned (.tuple #[.agg zero4.toArray,.int .i64 n,.int .i64 y])) w' :=by
 refine⟨none,0,n,y,?_,fun h=>absurd h hw,fun _=>hy,?_,?_,?_,ho⟩
 all_goals rw[hV]
 ·rfl
 ·exact Rd.none_
 ·exact fun h=>absurd h (by simp[vK])
 ·exact jL3 _
structure TvSt(w:World)(R V:Nat)(cs:List Value)(s:List BA)(A:OA)(c:Nat)(W:World):Prop where
 boxV:Blk W V 29 cs.toArray
 boxR:Blk W R 29 zero4.toArray
 rd:Rd W 1 A s.length (s.map sv)
 av:Av (fun k=>k<w.heap.size+2) s.length A
 cap:s.length<=c
 big:s.length<=1000000000000
 old:Old w W
 le:w.heap.size=R
 lt:V=R+1
theorem TvSt.still{w W W' :World}{R V c:Nat}{cs:List Value}{s:List BA}{A:OA}(h:TvSt w R V cs s A c W)(ho:Old W W'):TvSt w R V cs s A c W' :=
 ⟨h.boxV.old ho,h.boxR.old ho,h.rd.old ho,h.av,h.cap,h.big,h.old.old ho,h.le,h.lt⟩
theorem TvSt.put{w W W' :World}{R V c c' :Nat}{cs cs' :List Value}{s s' :List BA}{A A' :OA}(h:TvSt w R V cs s A c W)(hk:Kp (fun k=>k=V) W W')(hb:Blk W' V 29 cs'.toArray)(hr:Rd W' 1 A' s'.length (s'.map sv))(ha:Av (fun k=>k<w.heap.size+2) s'.length A')(hc:s'.length<=c')(hg:s'.length<=1000000000000):TvSt w R V cs' s' A' c' W' :=
 ⟨hb,h.boxR.kp hk (fun e=>by have:=h.lt;omega),hr,ha,hc,hg,h.old.trans hk (fun b hb e=>by have:=h.le;have:=h.lt;omega),h.le,h.lt⟩
theorem TvSt.set{w W:World}{R V:Nat}{cs:List Value}(h:TvSt w R V cs [] none 0 W)(i:Nat)(v:Value):TvSt w R V (cs.set i v) [] none 0 (W.setCell ⟨V,i,none⟩ v):=
 h.put ((jQ0 (fun k=>k=V) W).setCell (p:=⟨V,i,none⟩) (fun _=>rfl) v) (by rw[<-jJ1];exact h.boxV.set_ i v) Rd.none_ (fun h=>absurd h (by simp)) (jL3 _) (Nat.zero_le _)
theorem TvSt.told{w W:World}{R V c:Nat}{cs:List Value}{s:List BA}{A:OA}(h:TvSt w R V cs s A c W)(vs:List Value)(hl:4=vs.length):
  Blk (W.setCells R 0 vs) R 29 vs.toArray/\Old w (W.setCells R 0 vs)/\Rd (W.setCells R 0 vs) 1 A s.length (s.map sv):=
 ⟨h.boxR.setWhole vs hl,h.old.trans (Kp.setCells R 0 vs W) (fun b hb e=>by have:=h.le;omega),h.rd.kp (Kp.setCells R 0 vs W) (fun hn ad e hx=>h.av hn ad e (by have:=h.le;have h2:ad.block=R:=hx;omega))⟩
theorem jDI(w:World)(A:OA)(c n k:Nat)(b:LB)(hr:Rd w 1 A n (b.map bv))(hn:n=b.length)(hk:k<=8):
  Calls prog 183 #[.slice A n c,.int .i64 (k:Int)] w fun e w' =>∃p:Int,e=.returned (.tuple #[.int .u64 ((tkN b k ⟨0,0⟩).1:Int),.int .i64 p,.int .i64 (tkN b k ⟨0,0⟩).2.why])/\((tkN b k ⟨0,0⟩).2.why=0->p=((tkN b k ⟨0,0⟩).2.at_:Int))/\w=w' :=by
 by_cases h:k<=n
 ·have e:tkN b k ⟨0,0⟩=(jq (b.take k),⟨k,0⟩):=by simp[tkN];omega
  rw[e];refine(jDG w A c n k b hr hn h hk).mono ?_;rintro e w' ⟨rfl,rfl⟩;exact⟨k,rfl,fun _=>rfl,rfl⟩
 ·have e:tkN b k ⟨0,0⟩=(0,⟨0,8⟩):=by simp[tkN];omega
  rw[e];refine(jDH w A c n k (by omega)).mono ?_;rintro e w' ⟨rfl,rfl⟩;exact⟨0,rfl,fun _=>rfl,rfl⟩
theorem jGO(v:Val)(q:Nat)(y:Int)(hy:y≠0):Jw (sh 1 (v,⟨q,y⟩))=(vK,⟨1+q,y⟩):=by
 unfold Jw sh;exact jJ6 hy
theorem jGN(v:Val)(q:Nat):Jw (sh 1 (v,⟨q,0⟩))=if jS v≠0 then(vK,⟨1+q,8⟩)else(v,⟨1+q,0⟩):=by
 unfold Jw sh;exact jJ5 (fun h=>h rfl)
theorem jC1(b:LB)(h:0<b.length):tkN b 1 ⟨0,0⟩=((b.getD 0 0).toNat,⟨1,0⟩):=by
 have h1:=jAV b h;have h2:0+1<=b.length:=(by omega);simp only[tkN,List.drop_zero,h1];rw[jJ5 (by simp),jJ6 h2]
theorem jHZ(w:World)(A:OA)(c:Nat):Calls prog 165 #[.slice A 0 c] w (RtvPost w (jc [] ⟨0,0⟩)):=by
 have HT:=G (show(jc [] ⟨0,0⟩).1=vK/\(jc [] ⟨0,0⟩).2.why≠0 by
  have e:tkN [] 1 ⟨0,0⟩=(0,⟨0,8⟩):=rfl;rw[jc,e];simp[vF,Jw])
 generalize jc [] ⟨0,0⟩=TV at HT⊢;have hb:=jQ2 w 29 zero4.toArray;have Hb:=G hb;have Hz:=G (hb.setWhole zero4 rfl);have Ho:=G (show Old w ((w.alloc (.cells zero4.toArray 29)).setCells w.heap.size 0 zero4)from((jQ0 NoX w).alloc _).trans (Kp.setCells _ _ _ _) (fun b hb e=>by omega));clear hb;go_enter func165,ntmps165;go_wp2_with (first|refine jQ1 rfl 29 (.tmp 2) (.tmp 13) rfl w.heap.size 0 _ rfl rfl (Hb.out.there 0 4 (by decide)) yN (jR rfl) ?_ |fail);refine zH (g:=w.heap.size) (cs:=zero4.toArray) rfl rfl Hz.out underlying29 rfl (by kernel_rfl) rfl ?_;exact .bad 0 8 HT.out.1 HT.out.2 (by decide) Ho.out
theorem jC9(b:LB)(m:Int)(p:Nat)(h:(jb b m p).2.2≠0):(jb b m p).1=[]:=by
 revert h
 unfold jb;split
 ·intro _;rfl
 split
 ·intro _;rfl
 split
 ·intro _;rfl
 ·intro h;exact absurd rfl h
theorem jA6(b:LB):(kI b 64 1024 ⟨0,0⟩).1.length<=1000000000000:=by
 simp only[kI];split
 ·simp
 split
 ·simp
 split
 ·simp
 split
 ·simp
 ·have h1:=qE b 1024 (jq ((b.drop 0).take 2)) (0+2) [];have h2:=jm (b.drop 0) 2;simp only[List.length_nil]at h1;simp only;omega
theorem jFl(w:World)(bb o c:Nat)(b:LB)(hr:Rd w 1 (some ⟨bb,o,none⟩) b.length (b.map bv))(hc:b.length<=c)(hlen:b.length<=100000000000)(hb:0<b.length):
  Calls prog 165 #[.slice (some ⟨bb,o,none⟩) b.length c] w (RtvPost w (jc b ⟨0,0⟩)):=by
 obtain⟨k,hk⟩:∃k,(b.getD 0 0).toNat=k:=⟨_,rfl⟩;have SR:k<256:=by rw[<-hk];exact UInt8.toNat_lt _
 have HT:=G (show jc b ⟨0,0⟩=Jw (sh 1 (vF (b.drop 1) k ⟨0,0⟩))by
  rw[jc,jC1 b hb];simp only[hk];have:=jAe b 1 hb k 0 0;rw[Nat.add_zero]at this;rw[this])
 generalize jc b ⟨0,0⟩=TV at HT⊢;have Fw:w.cell? ⟨bb,o,none⟩=some (.int .u8 (k:Int)):=by
  obtain⟨b',o',e,GA⟩:=hr.byte (k:=0) hb;injection e with e;injection e with e1 e2;subst e1 e2;rw[hk,Nat.add_zero]at GA;exact GA
 obtain⟨m,hm⟩:∃m,b.length=m+1:=⟨b.length-1,by omega⟩;have hcut:=hr.cut (k:=1) (cap:=c) hb hc;rw[Nat.mul_one,<-List.map_drop]at hcut;have Gi:=fun W=>uv (P:=prog) kE kA (some ⟨bb,o,none⟩) b.length c 1 .i64 1 rfl (by omega) W;rw[Nat.mul_one]at Gi;generalize (if c=1 then some (⟨bb,o,none⟩:Addr)else(some (⟨bb,o,none⟩:Addr)).map (·.add 1))=AA at hcut Gi;have Sa:b.length-1=(b.drop 1).length:=(by rw[jK8]);rw[hm,Nat.add_sub_cancel]at hcut Gi Sa;rw[hm];have Nd:=G hcut;have PA:=G Sa;have Fi:=G (show m<=100000000000 by omega);have Rq:=G (show m<=c-1 by omega);generalize b.drop 1=l at*;have hbbl:=Jm Fw;clear hcut Sa hlen hk hr hb hm hc;have Fq:=G (show TvSt w w.heap.size (w.heap.size+1) [.int .i64 (k:Int),.int .i64 0,.string ⟨#[]⟩,.slice none 0 0] [] none 0 ((w.alloc (.cells zero4.toArray 29)).alloc (.cells ([.int .i64 (k:Int),.int .i64 0,.string ⟨#[]⟩,.slice none 0 0]:List Value).toArray 29))from by
  have h1:=jQ2 (w.alloc (.cells zero4.toArray 29)) 29 ([.int .i64 (k:Int),.int .i64 0,.string ⟨#[]⟩,.slice none 0 0]:List Value).toArray;rw[show(w.alloc (.cells zero4.toArray 29)).heap.size=w.heap.size+1 by simp]at h1;exact⟨h1,(jQ2 w _ _).alloc _,Rd.none_,(fun h=>absurd h (by simp)),jL3 _,Nat.zero_le _,((jQ0 NoX w).alloc _).alloc _,rfl,rfl⟩)
 unfold zero4 at Fq;go_enter func165,ntmps165;go_upto_region 5 with(fail);have OP:(((w.alloc (.cells #[.int .i64 0,.int .i64 0,.string ⟨#[]⟩,.slice none 0 0] 29)).alloc (.cells #[.int .i64 (k:Int),.int .i64 0,.string ⟨#[]⟩,.slice none 0 0] 29))).heap.size=w.heap.size+2:=(by simp);generalize (w.alloc _).alloc _=W0 at*;go_cut [7] (fun x wx=>x=.int .i64 0/\wx=W0)
 case first=>
  go_wp2_with fail;go_meet
  case rel=>exact⟨rfl,rfl⟩
 case rest=>
 obtain⟨rfl,rfl⟩:=hcut;rename_i hK;refine hK _ _ (wp_seq_k (fun K hK2=> ?_));go_cut [5,6,7] (fun x p z wx=>x=.pointer (some ⟨w.heap.size+1,0,none⟩)/\∃(v:Val) (A:OA) (d:Nat) (n y:Int) (q:Nat),p=.int .i64 n/\z=.int .i64 y/\vF l k ⟨0,0⟩=(v,⟨q,y⟩)/\(y=0->n=q/\q<=100000000000)/\TvSt w w.heap.size (w.heap.size+1) [.int .i64 v.kind,.int .i64 v.n,.string v.t,.slice A v.s.length d] v.s A d wx)
 case first=>
  have hc:k=1\/k=4\/k=2\/k=3\/k=5\/(k=0\/5<k):=(by omega);have c0:=Fq.out.boxV.at_ 0 (v:=.int .i64 (k:Int)) rfl;have c1:=Fq.out.boxV.at_ 1 (v:=.int .i64 0) rfl;have z1:=Fq.out.boxV.frozen 1;rcases hc with rfl|rfl|rfl|rfl|rfl|hc
  ·have HK:=G (show vF l 1 ⟨0,0⟩=(⟨1,i64 (tkN l 8 ⟨0,0⟩).1,ByteArray.empty,[]⟩,(tkN l 8 ⟨0,0⟩).2)by simp[vF]);have Hq:=G (show(tkN l 8 ⟨0,0⟩).2.at_ <=100 by simp only[tkN];split<;>(try split)<;>simp);have HC:=G (jDI wc AA (c-1) m 8 l (Nd.out.old Fq.out.old) PA.out (by decide));generalize tkN l 8 ⟨0,0⟩=TK at HK HC Hq;obtain⟨u,q,y⟩:=TK;simp only at HK HC Hq;go_wp2_with fail;refine HC.out.mono ?_;rintro e w3 ⟨n,rfl,hn,rfl⟩;have Hn:=G hn;clear hn;go_wp2_with fail;go_meet
   case rel=>exact⟨rfl,⟨1,wrap64 (u:Int),⟨#[]⟩,[]⟩,none,0,n,y,q,rfl,rfl,HK.out,fun h=>⟨Hn.out h,by have:=Hq.out;omega⟩,Fq.out.set 1 (.int .i64 (wrap64 (u:Int)))⟩
  ·have HK:=G (show vF l 4 ⟨0,0⟩=(⟨4,i64 (tkN l 8 ⟨0,0⟩).1,ByteArray.empty,[]⟩,(tkN l 8 ⟨0,0⟩).2)by simp[vF]);have Hq:=G (show(tkN l 8 ⟨0,0⟩).2.at_ <=100 by simp only[tkN];split<;>(try split)<;>simp);have HC:=G (jDI wc AA (c-1) m 8 l (Nd.out.old Fq.out.old) PA.out (by decide));generalize tkN l 8 ⟨0,0⟩=TK at HK HC Hq;obtain⟨u,q,y⟩:=TK;simp only at HK HC Hq;go_wp2_with fail;refine HC.out.mono ?_;rintro e w3 ⟨n,rfl,hn,rfl⟩;have Hn:=G hn;clear hn;go_wp2_with fail;go_meet
   case rel=>exact⟨rfl,⟨4,wrap64 (u:Int),⟨#[]⟩,[]⟩,none,0,n,y,q,rfl,rfl,HK.out,fun h=>⟨Hn.out h,by have:=Hq.out;omega⟩,Fq.out.set 1 (.int .i64 (wrap64 (u:Int)))⟩
  ·have HK:=G (show vF l 2 ⟨0,0⟩=(⟨2,if(jw l ⟨0,0⟩).1=true then 1 else 0,ByteArray.empty,[]⟩,(jw l ⟨0,0⟩).2)by simp[vF]);have Hq:=G (show(jw l ⟨0,0⟩).2.at_ <=100 by simp only[jw];split<;>(try split)<;>simp);have HC:=G (jHc wc AA (c-1) m l (Nd.out.old Fq.out.old) PA.out);generalize jw l ⟨0,0⟩=TK at HK HC Hq;obtain⟨u,q,y⟩:=TK;simp only at HK HC Hq;go_wp2_with fail;refine HC.out.mono ?_;rintro e w3 ⟨rfl,rfl⟩;cases u
   ·go_wp2_with fail;go_meet
    case rel=>exact⟨rfl,⟨2,0,⟨#[]⟩,[]⟩,none,0,q,y,q,rfl,rfl,HK.out,fun _=>⟨rfl,by have:=Hq.out;omega⟩,Fq.out⟩
   ·go_wp2_with fail;go_meet
    case rel=>exact⟨rfl,⟨2,1,⟨#[]⟩,[]⟩,none,0,q,y,q,rfl,rfl,HK.out,fun _=>⟨rfl,by have:=Hq.out;omega⟩,Fq.out.set 1 (.int .i64 1)⟩
  ·have HK:=G (show vF l 3 ⟨0,0⟩=(⟨3,0,⟨(jb l 1024 0).1.toArray⟩,[]⟩,⟨if(jb l 1024 0).2.2≠0 then 0 else(jb l 1024 0).2.1,(jb l 1024 0).2.2⟩)by
    simp only[vF,zx];by_cases h:(jb l 1024 0).2.2=0
    ·simp[h]
    ·have h1:(jb l 1024 0).1=[]:=jC9 _ _ _ h;simp[h,h1])
   have Hq:=G (Vv l 1024 0 (Nat.zero_le _));have HC:=G (jDF wc AA (c-1) m 1024 l (Nd.out.old Fq.out.old) PA.out Rq.out Fi.out (by decide) (by decide));generalize jb l 1024 0=TK at HK HC Hq;obtain⟨u,q0,y⟩:=TK;simp only at HK HC Hq;generalize (⟨u.toArray⟩:BA)=tx at*;go_wp2_with fail;refine HC.out.mono ?_;rintro e w3 ⟨n,rfl,hn,Gj⟩;have Fq:=G (Fq.out.still Gj);have Hn:=G hn;clear hn Gj c0 c1 z1;have c2:=Fq.out.boxV.at_ 2 (v:=.string ⟨#[]⟩) rfl;have z2:=Fq.out.boxV.frozen 2;go_wp2_with fail;go_meet
   case rel=>exact⟨rfl,⟨3,0,tx,[]⟩,none,0,n,y,_,rfl,rfl,HK.out,fun h=>⟨by rw[Hn.out h,jJ5 (fun h' =>h' h)],by have:=Hq.out;have:=Fi.out;have:=PA.out;split<;>omega⟩,Fq.out.set 2 (.string tx)⟩
  ·have HK:=G (show vF l 5 ⟨0,0⟩=(⟨5,0,ByteArray.empty,(kI l 64 1024 ⟨0,0⟩).1⟩,(kI l 64 1024 ⟨0,0⟩).2)by simp[vF]);have Hq:=G (show(kI l 64 1024 ⟨0,0⟩).2.why=0->(kI l 64 1024 ⟨0,0⟩).2.at_ <=l.length from fun h=>((xO (bs:=l) 64 1024 ⟨0,0⟩) h).2.2 (Nat.zero_le _));have Sq:=G (show(kI l 64 1024 ⟨0,0⟩).1.length<=1000000000000 from jA6 l);have HC:=G (PA.out▸jHY wc AA (c-1) l (PA.out▸Nd.out.old Fq.out.old) (PA.out▸Rq.out) (PA.out▸Fi.out));unfold TxPost at HC;generalize kI l 64 1024 ⟨0,0⟩=TK at HK HC Hq Sq;obtain⟨s,q,y⟩:=TK;simp only at HK HC Hq Sq;go_wp2_with fail;refine HC.out.mono ?_;rintro e w3 ⟨sA,sc,n,rfl,hn,Fa,FA,SV,Gj⟩;rw[OP]at FA;have Fq:=G (Fq.out.still Gj);have Hn:=G hn;have Hp:=G (show Rd w3 1 sA s.length (s.map sv)/\Av (fun k=>k<w.heap.size+2) s.length sA/\s.length<=sc from⟨Fa,FA,SV⟩);clear hn Gj Fa FA SV c0 c1 z1;have c3:=Fq.out.boxV.at_ 3 (v:=.slice none 0 0) rfl;have z3:=Fq.out.boxV.frozen 3;go_wp2_with fail;go_meet
   case rel=>exact⟨rfl,⟨5,0,⟨#[]⟩,s⟩,sA,sc,n,y,q,rfl,rfl,HK.out,fun h=>⟨Hn.out h,by have:=Hq.out h;have:=Fi.out;have:=PA.out;omega⟩,
    Fq.out.put ((jQ0 (fun k=>k=w.heap.size+1) w3).setCell (p:=⟨w.heap.size+1,3,none⟩) (fun _=>rfl) _) (by have:=Fq.out.boxV.set_ 3 (.slice sA s.length sc);rw[jJ1]at this;exact this)
     (Hp.out.1.kp ((jQ0 (fun k=>k=w.heap.size+1) w3).setCell (p:=⟨w.heap.size+1,3,none⟩) (fun _=>rfl) _) (fun hn ad e hx=>Hp.out.2.1 hn ad e (by have h2:ad.block=w.heap.size+1:=hx;omega))) Hp.out.2.1 Hp.out.2.2 Sq.out⟩
  ·have n1:((k:Int)==1)=false:=beq_eq_false_iff_ne.2 (by omega);have n2:((k:Int)==2)=false:=beq_eq_false_iff_ne.2 (by omega);have n3:((k:Int)==3)=false:=beq_eq_false_iff_ne.2 (by omega);have n4:((k:Int)==4)=false:=beq_eq_false_iff_ne.2 (by omega);have n5:((k:Int)==5)=false:=beq_eq_false_iff_ne.2 (by omega);have HK:=G (show vF l k ⟨0,0⟩=(⟨(k:Int),0,⟨#[]⟩,[]⟩,⟨0,0⟩)by
    simp only[vF];rw[jJ5 (by omega),jJ5 (by omega),jJ5 (by omega),jJ5 (by omega)];rfl)
   clear hc;go_wp2_with fail;go_meet
   case rel=>exact⟨rfl,⟨k,0,⟨#[]⟩,[]⟩,none,0,0,0,0,rfl,rfl,HK.out,fun _=>⟨rfl,by decide⟩,Fq.out⟩
 case rest=>
  obtain⟨rfl,v,A,d,n,y,q,rfl,rfl,Di,hn,HU⟩:=hcut;rw[Di]at HT;have Fq:=G HU;have Hn:=G hn;clear Di HU hn;have Hz:=G (Fq.out.told zero4 rfl);by_cases hy:y=0
  ·subst hy;obtain⟨hnq,hq⟩:=Hn.out rfl;subst hnq;have NO:=G (show TV=if jS v≠0 then(vK,⟨1+q,8⟩)else(v,⟨1+q,0⟩)by
    rw[HT.out];exact jGN _ q)
   have eq1:IntKind.i64.wrap (1+(q:Int))=1+(q:Int):=jQ3 _ (by omega);have BS:=G (yI v A d _ Fq.out.rd Fq.out.big);unfold vV at BS;clear hq;go_wp2_with (first|refine wpList_load_mid rfl 29 (.tmp 5) rfl (w.heap.size+1) 0 rfl [.int .i64 v.kind,.int .i64 v.n,.string v.t,.slice A v.s.length d] _ Fq.out.boxV.range underlying29 rfl yN ?_ |fail);refine BS.out.mono ?_;rintro e w5 ⟨rfl,GX⟩;have Fq:=G (Fq.out.still GX);clear GX BS Hz;by_cases hR:jS v=0
   ·rw[hR];have CI:=G (NO.out.trans (jJ5 (fun h=>h hR)));have Hz:=G (Fq.out.told [.int .i64 v.kind,.int .i64 v.n,.string v.t,.slice A v.s.length d] rfl);go_wp2_with (first|refine wpList_load_mid rfl 29 (.tmp 5) rfl (w.heap.size+1) 0 rfl [.int .i64 v.kind,.int .i64 v.n,.string v.t,.slice A v.s.length d] _ Fq.out.boxV.range underlying29 rfl yN ?_ |refine jQ1 rfl 29 (.tmp 2) (.tmp 81) rfl w.heap.size 0 _ rfl rfl (Fq.out.boxR.there 0 4 (by decide)) yN (jR rfl) ?_ |fail);refine zH (g:=w.heap.size) (cs:=List.toArray [.int .i64 v.kind,.int .i64 v.n,.string v.t,.slice A v.s.length d]) rfl rfl Hz.out.1 underlying29 rfl (by kernel_rfl) rfl ?_;rw[CI.out];exact⟨A,d,1+(q:Int),0,rfl,(fun _=>⟨rfl,by simp⟩),(fun h=>absurd rfl h),Hz.out.2.2,(fun hn ad e h=>Fq.out.av hn ad e (jL8 h (Nat.le_add_right _ _))),Fq.out.cap,Hz.out.2.1⟩
   ·have DB:(jS v !=0)=true:=bne_iff_ne.2 hR;have CI:=G (NO.out.trans (jJ6 hR));have Hz:=G (Fq.out.told zero4 rfl);generalize jS v=R at*;go_wp2_with (first|refine jQ1 rfl 29 (.tmp 2) (.tmp 78) rfl w.heap.size 0 _ rfl rfl (Fq.out.boxR.there 0 4 (by decide)) yN (jR rfl) ?_ |fail);refine zH (g:=w.heap.size) (cs:=zero4.toArray) rfl rfl Hz.out.1 underlying29 rfl (by kernel_rfl) rfl ?_;rw[CI.out];exact .bad _ 8 rfl (by simp) (by decide) Hz.out.2.1
  ·have AU:(y !=0)=true:=bne_iff_ne.2 hy;have NO:=G (show TV=(vK,⟨1+q,y⟩)by
    rw[HT.out];exact jGO _ q y hy)
   have Hy:=G hy;clear hy;go_wp2_with (first|refine jQ1 rfl 29 (.tmp 2) (.tmp 73) rfl w.heap.size 0 _ rfl rfl (Fq.out.boxR.there 0 4 (by decide)) yN (jR rfl) ?_ |fail);refine zH (g:=w.heap.size) (cs:=zero4.toArray) rfl rfl Hz.out.1 underlying29 rfl (by kernel_rfl) rfl ?_;rw[NO.out];exact .bad _ y rfl Hy.out Hy.out Hz.out.2.1
theorem jHa(w:World)(A:OA)(c:Nat)(b:LB)(hr:Rd w 1 A b.length (b.map bv))(hc:b.length<=c)(hlen:b.length<=100000000000):
  Calls prog 165 #[.slice A b.length c] w (RtvPost w (jc b ⟨0,0⟩)):=by
 by_cases h0:b.length=0
 ·have:b=[]:=List.eq_nil_of_length_eq_zero h0;subst this;exact jHZ w A c
 have hb:0<b.length:=(by omega);obtain⟨bb,o,rfl,_⟩:=hr.byte (k:=0) hb;exact jFl w bb o c b hr hc hlen hb
def Lr(w:World)(g:Nat)(bs:LB)(s:Ls):Prop:=
 ∃A c,Blk w g 158 #[.slice A (bs.length-s.at_) c,.bool s.short]/\Rd w 1 A (bs.length-s.at_) ((bs.drop s.at_).map bv)/\Av (fun k=>g<=k+1) (bs.length-s.at_) A/\bs.length-s.at_ <=c/\s.at_ <=bs.length/\bs.length<=10000000000
section
variable{w w1:World}{g:Nat}{bs:LB}{s:Ls}
theorem Lr.old(h:Lr w g bs s)(ho:Old w w1):Lr w1 g bs s:=by
 obtain⟨A,c,hb,hr,ha,hc,hs,hl⟩:=h;exact⟨A,c,hb.old ho,hr.old ho,ha,hc,hs,hl⟩
theorem Lr.kp{X:Nat->Prop}(h:Lr w g bs s)(hk:Kp X w w1)(hx:∀k,k<=g->¬X k):Lr w1 g bs s:=by
 obtain⟨A,c,hb,hr,ha,hc,hs,hl⟩:=h;refine⟨A,c,hb.kp hk (hx g (jL3 _)),hr.kp hk (fun hn ad e hX=> ?_),ha,hc,hs,hl⟩;have h1:=ha hn ad e;exact hx ad.block (by omega) hX
theorem Lr.lt(h:Lr w g bs s):g<w.heap.size:=by
 obtain⟨A,c,hb,_⟩:=h;exact hb.lt
theorem Lr.le(h:Lr w g bs s):s.at_ <=bs.length/\bs.length<=10000000000:=by
 obtain⟨A,c,_,_,_,_,h1,h2⟩:=h;exact⟨h1,h2⟩
end
def XM(w:World)(g:Nat)(bs:LB)(x:LB×Ls)(e:Ending)(w' :World):Prop:=
 ∃A c,e=.returned (.slice A x.1.length c)/\Rd w' 1 A x.1.length (x.1.map bv)/\x.1.length<=c/\Lr w' g bs x.2/\Kp (RX g) w w'
theorem Lr.mk'{w:World}{g:Nat}{bs:LB}{p len c:Nat}{b:Bool}{A:OA}{l:LB}(hb:Blk w g 158 #[.slice A len c,.bool b])(hr:Rd w 1 A len (l.map bv))(ha:Av (fun k=>g<=k+1) len A)(hc:len<=c)(hp:p<=bs.length)(hl:bs.length<=10000000000)
  (e1:len=bs.length-p) (e2:l=bs.drop p):Lr w g bs ⟨p,b⟩:=by
 subst e1 e2;exact⟨A,c,hb,hr,ha,hc,hp,hl⟩
theorem jHz(w:World)(g:Nat)(bs:LB)(n:Nat)(s:Ls)(h:Lr w g bs s)(hn:n<=10000000000)(hM:bs.length<s.at_ +n):
  Calls prog 124 #[.pointer (some ⟨g,0,none⟩),.int .i64 (n:Int)] w (XM w g bs (jZ bs n s)):=by
 have HT:=G (show jZ bs n s=([],⟨s.at_,true⟩)by rw[jZ,jJ6 hM]);generalize jZ bs n s=T at HT⊢;have Nz:=G h.le;have hg:=h.lt;obtain⟨A,c,hb,hr,ha,hc,hs,hl⟩:=h;have c0:=hb.at_ 0 (v:=.slice A (bs.length-s.at_) c) rfl;have c1:=hb.at_ 1 (v:=.bool s.short) rfl;have z1:=hb.frozen 1;have h1:((bs.length-s.at_:Nat):Int)<(n:Int):=(by omega);have h2:¬(n:Int)<0:=(by omega);have Hb:=G hb;have Hr:=G hr;have Ha:=G ha;have Hc:=G hc;clear hb hr ha hc hM;generalize hlen:bs.length-s.at_=len at c0 h1 Hb Hr Ha Hc;have Fi:=G hlen;clear hlen;go_enter func124,ntmps124;go_wp2;go_ret;rw[HT.out];have hk:Kp (RX g) w (w.setCell ⟨g,1,none⟩ (.bool true)):=(jQ0 (RX g) w).setCell (p:=⟨g,1,none⟩) (fun _=>rfl) _;refine⟨none,0,rfl,Rd.none_,jL3 _,?_,hk⟩;have FG:=Hb.out.set_ 1 (.bool true);exact Lr.mk' (by simpa using FG) (Hr.out.kp hk (fun hn ad e hx=>Ha.out hn ad e (by have:ad.block=g:=hx;omega))) Ha.out Hc.out Nz.out.1 Nz.out.2 Fi.out.symm rfl
theorem jHy(w:World)(g:Nat)(bs:LB)(n:Nat)(s:Ls)(h:Lr w g bs s)(hM:¬bs.length<s.at_ +n):
  Calls prog 124 #[.pointer (some ⟨g,0,none⟩),.int .i64 (n:Int)] w (XM w g bs (jZ bs n s)):=by
 have HT:=G (show jZ bs n s=((bs.drop s.at_).take n,⟨s.at_ +n,s.short⟩)by rw[jZ,jJ5 hM]);generalize jZ bs n s=T at HT⊢;have Nz:=G h.le;have hg:=h.lt;obtain⟨A,c,hb,hr,ha,hc,hs,hl⟩:=h;have c0:=hb.at_ 0 (v:=.slice A (bs.length-s.at_) c) rfl;have z0:=hb.frozen 0;have h1:¬((bs.length-s.at_:Nat):Int)<(n:Int):=(by omega);have h2:¬(n:Int)<0:=(by omega);have N6:n<=bs.length-s.at_:=(by omega);have Y8:=G (show((bs.drop s.at_).take n).length=n by rw[jK9,jK8];omega);have Ik:=G (show s.at_ +n<=bs.length by omega);have C6:=G (show bs.length-s.at_ -n=bs.length-(s.at_ +n)by omega);clear hM;generalize bs.length-s.at_=len at*;have CO:=fun W=>jCO (P:=prog) kE kA A len c n .i64 (n:Int) rfl (by omega) W;have Nw:=fun W=>uv (P:=prog) kE kA A len c n .i64 (n:Int) rfl N6 W;rw[Nat.mul_one]at Nw;have Rq:=G (hr.take_ (k:=n) N6);have Sz:=G (hr.cut (k:=n) (cap:=c) N6 hc);have FW:=G (show Av (fun k=>g<=k+1) (len-n) (if c=n then A else A.map (·.add n))from fun hn ad e=>by
  by_cases Sb:c=n
  ·omega
  ·rw[jJ5 Sb]at e;cases A with
   |none=>cases e
   |some a0=>
    injection e with e;subst e;rw[ZS];exact ha (by omega) a0 rfl)
 rw[Nat.mul_one,<-List.map_take]at Rq;rw[Nat.mul_one,<-List.map_drop]at Sz;generalize (if c=n then A else A.map (·.add n))=AA at Nw Sz FW;have Hb:=G hb;have Ha:=G ha;have RO:=G (show len-n<=c-n/\n<=c by omega);clear hb hr ha hc;go_enter func124,ntmps124;go_wp2;go_ret;rw[HT.out];have hk:Kp (RX g) w (w.setCell ⟨g,0,none⟩ (.slice AA (len-n) (c-n))):=(jQ0 (RX g) w).setCell (p:=⟨g,0,none⟩) (fun _=>rfl) _;have FG:=Hb.out.set_ 0 (.slice AA (len-n) (c-n));refine⟨A,c,?_,?_,by rw[Y8.out];exact RO.out.2,?_,hk⟩
 ·rw[Y8.out];rfl
 ·rw[Y8.out];exact Rq.out.kp hk (fun hn ad e hx=>Ha.out (by omega) ad e (by have:ad.block=g:=hx;omega))
 ·exact Lr.mk' (by simpa using FG) (Sz.out.kp hk (fun hn ad e hx=>FW.out hn ad e (by have:ad.block=g:=hx;omega))) FW.out RO.out.1 Ik.out Nz.out.2 C6.out (by rw[List.drop_drop])
theorem Zi(w:World)(g:Nat)(bs:LB)(n:Nat)(s:Ls)(h:Lr w g bs s)(hn:n<=10000000000):
  Calls prog 124 #[.pointer (some ⟨g,0,none⟩),.int .i64 (n:Int)] w (XM w g bs (jZ bs n s)):=by
 by_cases hM:bs.length<s.at_ +n
 ·exact jHz w g bs n s h hn hM
 ·exact jHy w g bs n s h hM
theorem YG(bs:LB)(n:Nat)(s:Ls):(jZ bs n s).1.length<=n:=by
 unfold jZ;split
 ·simp
 ·simp only[jK9];omega
theorem QE(x y:Nat):wrap64 (wrap64 ((x:Int)*256)+(y:Int))=i64 (x*256+y):=by
 simp only[i64,wrap64];omega
theorem kz(w:World)(g:Nat)(bs:LB)(n:Nat)(s:Ls)(h:Lr w g bs s)(hn:n<=8):
  Calls prog 73 #[.pointer (some ⟨g,0,none⟩),.int .i64 (n:Int)] w fun e w' =>e=.returned (.int .i64 (numL bs n s).1)/\Lr w' g bs (numL bs n s).2/\Kp (RX g) w w' :=by
 have HN:=G (Zi w g bs n s h (by omega));have Wx:=YG bs n s;unfold numL XM at*;generalize jZ bs n s=T at*;obtain⟨l,s2⟩:=T;simp only at HN Wx⊢;go_enter func73,ntmps73;go_wp2_with fail;refine HN.out.mono ?_;rintro e w1 ⟨A,c,rfl,hr,hc,hL,hk⟩;have HL:=G hL;have Hk:=G hk;clear hL hk;go_wp2_with fail;go_loop [5,7] (fun x i=>∃j:Nat,j<=l.length/\i=.int .i64 j/\x=.int .i64 (i64 (jq (l.take j)))) (fun _ i=>l.length-(intOf i).toNat)
 case atStart=>exact⟨0,by omega,rfl,vT (by simp[jq,i64,wrap64])⟩
 case round=>
  obtain⟨j,hj,rfl,rfl⟩:=hrel;by_cases hM:j<l.length
  ·obtain⟨bb,o,rfl,Fw⟩:=hr.byte (k:=j) hM;have hs:jq (l.take (j+1))=jq (l.take j)*256+(l.getD j 0).toNat:=by
    have:=ka l 0 j (by omega);simpa using this
   have Gi:=jm l j;have PM:(256:Nat)^j<=256^7:=Nat.pow_le_pow_right (by decide) (by omega);have GP:=(l.getD j 0).toNat_lt;have Hs:=G hs;clear hs;generalize (l.getD j 0).toNat=y at*;generalize jq (l.take j)=x at*;have AW:x<72057594037927936:=(by omega);rw[kW x (by omega)];have e3:IntKind.i64.wrap (y:Int)=(y:Int):=jQ3 _ (by omega);clear Gi PM;have b1:(j:Int)<(l.length:Int):=(by omega);have b2:(j:Int)<=8:=(by omega);go_wp2;exact⟨⟨j+1,by omega,by go_num,vT (by rw[QE,Hs.out])⟩,by simp[intOf];omega⟩
  ·obtain rfl:j=l.length:=(by omega);rw[List.take_length];go_wp2;go_ret;exact⟨rfl,HL.out,Hk.out⟩
theorem YY(w:World)(g:Nat)(bs:LB)(s:Ls)(h:Lr w g bs s):
  Calls prog 125 #[.pointer (some ⟨g,0,none⟩)] w fun e w' =>e=.returned (.string (ke bs s).1)/\Lr w' g bs (ke bs s).2/\Kp (RX g) w w' :=by
 have TH:(lowL bs 4 s).1<4294967296:=by
  have h1:=YG bs 4 s;have h2:=Yt (jZ bs 4 s).1;have h3:(256:Nat)^(jZ bs 4 s).1.length<=256^4:=Nat.pow_le_pow_right (by decide) h1;simp only[lowL];omega
 have HN:=G (kz w g bs 4 s h (by decide));have e1:numL bs 4 s=(((lowL bs 4 s).1:Int),(lowL bs 4 s).2):=by
  rw[numL,<-kW _ (by omega:(lowL bs 4 s).1<9223372036854775808)];rfl
 rw[e1]at HN;simp only at HN;unfold ke;generalize lowL bs 4 s=T at*;obtain⟨k,s2⟩:=T;simp only at HN TH⊢;have HX:=G (fun(W:World) (hL:Lr W g bs s2)=>Zi W g bs k s2 hL (by omega));unfold XM at HX;generalize jZ bs k s2=T2 at*;obtain⟨l,s3⟩:=T2;simp only at HX⊢;clear e1;go_enter func125,ntmps125;go_wp2_with fail;refine HN.out.mono ?_;rintro e w1 ⟨rfl,SY,Fc⟩;have V2:=G Fc;have HX1:=G (HX.out w1 SY);clear SY Fc;go_wp2_with fail;refine HX1.out.mono ?_;rintro e w2 ⟨A,c,rfl,Fa,_,DC,hZ⟩;have Q2:=vO (P:=prog) w2 underlying22 underlying5 underlying9 A _ c _ Fa;have HL:=G DC;have Hk:=G (V2.out.trans hZ (fun _ _ h=>h));clear DC hZ;go_wp2;go_ret;exact⟨rfl,HL.out,Hk.out⟩
def jJM(w:World)(g:Nat)(bs:LB)(x:Val×Ls)(e:Ending)(w' :World):Prop:=
 ∃A c,e=.returned (vV x.1 A c)/\Rd w' 1 A x.1.s.length (x.1.s.map sv)/\Av (fun k=>k<w.heap.size) x.1.s.length A/\x.1.s.length<=c/\x.1.s.length<=1000000000000/\Lr w' g bs x.2/\Kp (RX g) w w'
theorem Xc(b:LB):(jc b ⟨0,0⟩).1.s.length<=1000000000000:=by
 by_cases h:(jc b ⟨0,0⟩).2.why=0
 ·have:=(jz ((zV (bs:=b) ⟨0,0⟩).2 h)).2.2;omega
 ·have:(jc b ⟨0,0⟩).1=vK:=by
   unfold jc Jw at*;split
   ·rfl
   ·rename_i h1;split
    ·rfl
    ·rename_i h2;rw[jJ5 h1,jJ5 h2]at h;exact absurd (by simpa using h1) h
  rw[this];simp[vK]
theorem jCY(w:World)(g:Nat)(bs:LB)(s:Ls)(h:Lr w g bs s):
  Calls prog 126 #[.pointer (some ⟨g,0,none⟩)] w (jJM w g bs (Js bs s)):=by
 have hg:=h.lt;have Nz:=G h.le;have Hh:=G h;obtain⟨A0,c0,MT,S5,_,GA,_,_⟩:=h;have Sa:(bs.drop s.at_).length=bs.length-s.at_:=jK8;rw[<-Sa]at MT S5 GA;have HT:=G (fun W (ho:Old w W)=>jHa W A0 c0 (bs.drop s.at_) (S5.old ho) GA (by rw[Sa];have:=Nz.out;omega));have Ey:=G (Xc (bs.drop s.at_));have Me:=G (show(jc (bs.drop s.at_) ⟨0,0⟩).2.why=0->(jc (bs.drop s.at_) ⟨0,0⟩).2.at_ <=10000000000 from fun hz=>by
  have:=((zV (bs:=bs.drop s.at_) ⟨0,0⟩).1 hz).2.2 (Nat.zero_le _);have h2:=Nz.out;rw[Sa]at this;omega)
 have HV:=G (show Js bs s=if(jc (bs.drop s.at_) ⟨0,0⟩).2.why≠0 then(vK,⟨s.at_,true⟩)else((jc (bs.drop s.at_) ⟨0,0⟩).1,(jZ bs (jc (bs.drop s.at_) ⟨0,0⟩).2.at_ s).2)from rfl);generalize Js bs s=VL at HV⊢;unfold RtvPost at HT;generalize jc (bs.drop s.at_) ⟨0,0⟩=TV at*;obtain⟨v,q,y0⟩:=TV;simp only at HT Ey Me HV;have d0:=(MT.alloc (.cells zero4.toArray 29)).at_ 0 (v:=.slice A0 (bs.drop s.at_).length c0) rfl;have V3:=G (Hh.out.old ((jQ0 NoX w).alloc (.cells zero4.toArray 29)));have Cx:=jQ2 w 29 zero4.toArray;have hR:=G ((jQ0 NoX w).alloc (.cells zero4.toArray 29));have MG:=G Cx;have HW:=G (show w.heap.size<(w.alloc (.cells zero4.toArray 29)).heap.size by simp);clear Cx MT S5 GA Sa;generalize (bs.drop s.at_).length=n0 at*;unfold zero4 at d0 hR MG V3 HW;go_enter func126,ntmps126;go_wp2_with fail;refine(HT.out _ hR.out).mono ?_;generalize w.alloc _=W0 at*;rintro e w1 ⟨sA,sc,n,y,rfl,Lm,LM,Fa,FA,SV,F0⟩;have Hh3:=G (V3.out.old F0);have IN:=G (MG.out.old F0);have Eb:=G (hR.out.old F0);have Bl:w.heap.size<w1.heap.size:=jL8 HW.out F0.size;have En:=G Bl;have Hp:=G (show Rd w1 1 sA v.s.length (v.s.map sv)/\Av (fun k=>k<W0.heap.size) v.s.length sA/\v.s.length<=sc from⟨Fa,FA,SV⟩);clear d0 V3 MG Fa FA SV;obtain⟨vk,vn,vt,vs⟩:=v;unfold vV;simp only at*;have CG:=G (jQ2 w1 29 ([.int .i64 vk,.int .i64 vn,.string vt,.slice sA vs.length sc]:List Value).toArray);have Pf:=G (IN.out.alloc (.cells ([.int .i64 vk,.int .i64 vn,.string vt,.slice sA vs.length sc]:List Value).toArray 29));have Hh4:=G (Hh3.out.old ((jQ0 NoX w1).alloc (.cells ([.int .i64 vk,.int .i64 vn,.string vt,.slice sA vs.length sc]:List Value).toArray 29)));have Ta:=G (Eb.out.alloc (.cells ([.int .i64 vk,.int .i64 vn,.string vt,.slice sA vs.length sc]:List Value).toArray 29));have Ie:=G (Hp.out.1.alloc (.cells ([.int .i64 vk,.int .i64 vn,.string vt,.slice sA vs.length sc]:List Value).toArray 29));clear F0;by_cases hy:y0=0
 ·obtain⟨rfl,rfl⟩:=Lm hy;have SA:=G (HV.out.trans (jJ5 (fun h=>h hy)));have Hq:=G (Me.out hy);clear Lm LM hy;go_upto_region 5 with(fail);generalize w1.alloc _=W2 at*;go_wp2_with fail;refine(Zi W2 g bs q s Hh4.out Hq.out).mono ?_;rintro e w4 ⟨A4,c4,rfl,_,_,OW,Mw⟩;have hgw:g<w.heap.size:=hg;have Ne:=G (CG.out.kp Mw (fun e=>by have h1:w1.heap.size=g:=e;omega));have Li:=G (Pf.out.kp Mw (fun e=>by have h1:w.heap.size=g:=e;omega));have Hk4:=G ((Ta.out.mono (Y:=RX g) (fun _ _ f=>f.elim)).trans Mw (fun _ _ h=>h));have Ll:=G OW;have Sr:=G (Ie.out.kp Mw (fun hn ad e hx=>Hp.out.2.1 hn ad e (by have h1:ad.block=g:=hx;have:=HW.out;omega)));have Hz:=G (Li.out.setWhole [.int .i64 vk,.int .i64 vn,.string vt,.slice sA vs.length sc] rfl);have CA:=G (Kp.setCells w.heap.size 0 [.int .i64 vk,.int .i64 vn,.string vt,.slice sA vs.length sc] w4);generalize w1.heap.size=VB at*;clear OW Mw;go_wp2_with (first|refine wpList_load_mid rfl 29 (.tmp 3) rfl VB 0 rfl [.int .i64 vk,.int .i64 vn,.string vt,.slice sA vs.length sc] _ Ne.out.range underlying29 rfl yN ?_ |refine jQ1 rfl 29 (.tmp 2) (.tmp 24) rfl w.heap.size 0 _ rfl rfl (Li.out.there 0 4 (by decide)) yN (jR rfl) ?_ |fail);refine YB (g:=w.heap.size) (cs:=List.toArray [.int .i64 vk,.int .i64 vn,.string vt,.slice sA vs.length sc]) rfl rfl Hz.out underlying29 rfl (by kernel_rfl) rfl ?_;rw[SA.out];exact⟨sA,sc,rfl,Sr.out.kp CA.out (fun hn ad e hx=>Hp.out.2.1 hn ad e (by have h1:ad.block=w.heap.size:=hx;have:=HW.out;omega)),(fun hn ad e h=>Hp.out.2.1 hn ad e (Nat.lt_trans h HW.out)),Hp.out.2.2,Ey.out,Ll.out.kp CA.out (fun k hk e=>by omega),Hk4.out.trans CA.out (fun b hb e=>by omega)⟩
 ·have AU:(y !=0)=true:=bne_iff_ne.2 (LM hy);have SA:=G (HV.out.trans (jJ6 hy));clear Lm LM hy;go_upto_region 3 with(fail);generalize w1.alloc _=W2 at*;obtain⟨A4,c4,Q4,Mu,Y0,OG,hs4,hl4⟩:=Hh4.out;have d1:=Q4.at_ 1 (v:=.bool s.short) rfl;have z1:=Q4.frozen 1;have Gd:Kp (RX g) W2 (W2.setCell ⟨g,1,none⟩ (.bool true)):=(jQ0 (RX g) W2).setCell (p:=⟨g,1,none⟩) (fun _=>rfl) _;have Nr:=Q4.set_ 1 (.bool true);have HL5:=G (Lr.mk' (p:=s.at_) (bs:=bs) (by simpa using Nr) (Mu.kp Gd (fun hn ad e hx=>Y0 hn ad e (by have:ad.block=g:=hx;omega))) Y0 OG hs4 hl4 rfl rfl);have Hk5:=G ((Ta.out.mono (Y:=RX g) (fun _ _ f=>f.elim)).trans Gd (fun _ _ h=>h));have HR5:=G (Pf.out.kp Gd (fun e=>by have h1:w.heap.size=g:=e;omega));clear Q4 Mu Y0 OG Nr Gd;go_upto_region 4 with(fail);generalize W2.setCell _ _=W3 at*;have Hz:=G (HR5.out.setWhole zero4 rfl);have CA:=G (Kp.setCells w.heap.size 0 zero4 W3);clear d1 z1;go_wp2_with (first|refine jQ1 rfl 29 (.tmp 2) (.tmp 20) rfl w.heap.size 0 _ rfl rfl (HR5.out.there 0 4 (by decide)) yN (jR rfl) ?_ |fail);refine YB (g:=w.heap.size) (cs:=zero4.toArray) rfl rfl Hz.out underlying29 rfl (by kernel_rfl) rfl ?_;rw[SA.out];exact⟨none,0,rfl,Rd.none_,(fun h=>absurd h (by simp[vK])),jL3 _,Nat.zero_le _,HL5.out.kp CA.out (fun k hk e=>by omega),Hk5.out.trans CA.out (fun b hb e=>by omega)⟩
def Lq(w:World)(g:Nat)(bs:LB)(s:Ls):Prop:=
 ∃A c,Blk w g 264 #[.slice A (bs.length-s.at_) c,.bool s.short]/\Rd w 1 A (bs.length-s.at_) ((bs.drop s.at_).map bv)/\Av (fun k=>g<=k+1) (bs.length-s.at_) A/\bs.length-s.at_ <=c/\s.at_ <=bs.length/\bs.length<=10000000000
section
variable{w w1:World}{g:Nat}{bs:LB}{s:Ls}
theorem Lq.old(h:Lq w g bs s)(ho:Old w w1):Lq w1 g bs s:=by
 obtain⟨A,c,hb,hr,ha,hc,hs,hl⟩:=h;exact⟨A,c,hb.old ho,hr.old ho,ha,hc,hs,hl⟩
theorem Lq.kp{X:Nat->Prop}(h:Lq w g bs s)(hk:Kp X w w1)(hx:∀k,k<=g->¬X k):Lq w1 g bs s:=by
 obtain⟨A,c,hb,hr,ha,hc,hs,hl⟩:=h;refine⟨A,c,hb.kp hk (hx g (jL3 _)),hr.kp hk (fun hn ad e hX=> ?_),ha,hc,hs,hl⟩;have h1:=ha hn ad e;exact hx ad.block (by omega) hX
theorem Lq.lt(h:Lq w g bs s):g<w.heap.size:=by
 obtain⟨A,c,hb,_⟩:=h;exact hb.lt
theorem Lq.le(h:Lq w g bs s):s.at_ <=bs.length/\bs.length<=10000000000:=by
 obtain⟨A,c,_,_,_,_,h1,h2⟩:=h;exact⟨h1,h2⟩
end
def jG6(w:World)(g:Nat)(bs:LB)(x:LB×Ls)(e:Ending)(w' :World):Prop:=
 ∃A c,e=.returned (.slice A x.1.length c)/\Rd w' 1 A x.1.length (x.1.map bv)/\x.1.length<=c/\Lq w' g bs x.2/\Kp (RX g) w w'
theorem Lq.mk'{w:World}{g:Nat}{bs:LB}{p len c:Nat}{b:Bool}{A:OA}{l:LB}(hb:Blk w g 264 #[.slice A len c,.bool b])(hr:Rd w 1 A len (l.map bv))(ha:Av (fun k=>g<=k+1) len A)(hc:len<=c)(hp:p<=bs.length)(hl:bs.length<=10000000000)
  (e1:len=bs.length-p) (e2:l=bs.drop p):Lq w g bs ⟨p,b⟩:=by
 subst e1 e2;exact⟨A,c,hb,hr,ha,hc,hp,hl⟩
theorem jEF(w:World)(g:Nat)(bs:LB)(n:Nat)(s:Ls)(h:Lq w g bs s)(hn:n<=10000000000)(hM:bs.length<s.at_ +n):
  Calls prog 168 #[.pointer (some ⟨g,0,none⟩),.int .i64 (n:Int)] w (jG6 w g bs (jZ bs n s)):=by
 have HT:=G (show jZ bs n s=([],⟨s.at_,true⟩)by rw[jZ,jJ6 hM]);generalize jZ bs n s=T at HT⊢;have Nz:=G h.le;have hg:=h.lt;obtain⟨A,c,hb,hr,ha,hc,hs,hl⟩:=h;have c0:=hb.at_ 0 (v:=.slice A (bs.length-s.at_) c) rfl;have c1:=hb.at_ 1 (v:=.bool s.short) rfl;have z1:=hb.frozen 1;have h1:((bs.length-s.at_:Nat):Int)<(n:Int):=(by omega);have h2:¬(n:Int)<0:=(by omega);have Hb:=G hb;have Hr:=G hr;have Ha:=G ha;have Hc:=G hc;clear hb hr ha hc hM;generalize hlen:bs.length-s.at_=len at c0 h1 Hb Hr Ha Hc;have Fi:=G hlen;clear hlen;go_enter func168,ntmps168;go_wp2;go_ret;rw[HT.out];have hk:Kp (RX g) w (w.setCell ⟨g,1,none⟩ (.bool true)):=(jQ0 (RX g) w).setCell (p:=⟨g,1,none⟩) (fun _=>rfl) _;refine⟨none,0,rfl,Rd.none_,jL3 _,?_,hk⟩;have FG:=Hb.out.set_ 1 (.bool true);exact Lq.mk' (by simpa using FG) (Hr.out.kp hk (fun hn ad e hx=>Ha.out hn ad e (by have:ad.block=g:=hx;omega))) Ha.out Hc.out Nz.out.1 Nz.out.2 Fi.out.symm rfl
theorem jEE(w:World)(g:Nat)(bs:LB)(n:Nat)(s:Ls)(h:Lq w g bs s)(hM:¬bs.length<s.at_ +n):
  Calls prog 168 #[.pointer (some ⟨g,0,none⟩),.int .i64 (n:Int)] w (jG6 w g bs (jZ bs n s)):=by
 have HT:=G (show jZ bs n s=((bs.drop s.at_).take n,⟨s.at_ +n,s.short⟩)by rw[jZ,jJ5 hM]);generalize jZ bs n s=T at HT⊢;have Nz:=G h.le;have hg:=h.lt;obtain⟨A,c,hb,hr,ha,hc,hs,hl⟩:=h;have c0:=hb.at_ 0 (v:=.slice A (bs.length-s.at_) c) rfl;have z0:=hb.frozen 0;have h1:¬((bs.length-s.at_:Nat):Int)<(n:Int):=(by omega);have h2:¬(n:Int)<0:=(by omega);have N6:n<=bs.length-s.at_:=(by omega);have Y8:=G (show((bs.drop s.at_).take n).length=n by rw[jK9,jK8];omega);have Ik:=G (show s.at_ +n<=bs.length by omega);have C6:=G (show bs.length-s.at_ -n=bs.length-(s.at_ +n)by omega);clear hM;generalize bs.length-s.at_=len at*;have CO:=fun W=>jCO (P:=prog) kE kA A len c n .i64 (n:Int) rfl (by omega) W;have Nw:=fun W=>uv (P:=prog) kE kA A len c n .i64 (n:Int) rfl N6 W;rw[Nat.mul_one]at Nw;have Rq:=G (hr.take_ (k:=n) N6);have Sz:=G (hr.cut (k:=n) (cap:=c) N6 hc);have FW:=G (show Av (fun k=>g<=k+1) (len-n) (if c=n then A else A.map (·.add n))from fun hn ad e=>by
  by_cases Sb:c=n
  ·omega
  ·rw[jJ5 Sb]at e;cases A with
   |none=>cases e
   |some a0=>
    injection e with e;subst e;rw[ZS];exact ha (by omega) a0 rfl)
 rw[Nat.mul_one,<-List.map_take]at Rq;rw[Nat.mul_one,<-List.map_drop]at Sz;generalize (if c=n then A else A.map (·.add n))=AA at Nw Sz FW;have Hb:=G hb;have Ha:=G ha;have RO:=G (show len-n<=c-n/\n<=c by omega);clear hb hr ha hc;go_enter func168,ntmps168;go_wp2;go_ret;rw[HT.out];have hk:Kp (RX g) w (w.setCell ⟨g,0,none⟩ (.slice AA (len-n) (c-n))):=(jQ0 (RX g) w).setCell (p:=⟨g,0,none⟩) (fun _=>rfl) _;have FG:=Hb.out.set_ 0 (.slice AA (len-n) (c-n));refine⟨A,c,?_,?_,by rw[Y8.out];exact RO.out.2,?_,hk⟩
 ·rw[Y8.out];rfl
 ·rw[Y8.out];exact Rq.out.kp hk (fun hn ad e hx=>Ha.out (by omega) ad e (by have:ad.block=g:=hx;omega))
 ·exact Lq.mk' (by simpa using FG) (Sz.out.kp hk (fun hn ad e hx=>FW.out hn ad e (by have:ad.block=g:=hx;omega))) FW.out RO.out.1 Ik.out Nz.out.2 C6.out (by rw[List.drop_drop])
theorem va(w:World)(g:Nat)(bs:LB)(n:Nat)(s:Ls)(h:Lq w g bs s)(hn:n<=10000000000):
  Calls prog 168 #[.pointer (some ⟨g,0,none⟩),.int .i64 (n:Int)] w (jG6 w g bs (jZ bs n s)):=by
 by_cases hM:bs.length<s.at_ +n
 ·exact jEF w g bs n s h hn hM
 ·exact jEE w g bs n s h hM
theorem kC(w:World)(g:Nat)(bs:LB)(n:Nat)(s:Ls)(h:Lq w g bs s)(hn:n<=8):
  Calls prog 169 #[.pointer (some ⟨g,0,none⟩),.int .i64 (n:Int)] w fun e w' =>e=.returned (.int .i64 (numL bs n s).1)/\Lq w' g bs (numL bs n s).2/\Kp (RX g) w w' :=by
 have HN:=G (va w g bs n s h (by omega));have Wx:=YG bs n s;unfold numL jG6 at*;generalize jZ bs n s=T at*;obtain⟨l,s2⟩:=T;simp only at HN Wx⊢;go_enter func169,ntmps169;go_wp2_with fail;refine HN.out.mono ?_;rintro e w1 ⟨A,c,rfl,hr,hc,hL,hk⟩;have HL:=G hL;have Hk:=G hk;clear hL hk;go_wp2_with fail;go_loop [5,7] (fun x i=>∃j:Nat,j<=l.length/\i=.int .i64 j/\x=.int .i64 (i64 (jq (l.take j)))) (fun _ i=>l.length-(intOf i).toNat)
 case atStart=>exact⟨0,by omega,rfl,vT (by simp[jq,i64,wrap64])⟩
 case round=>
  obtain⟨j,hj,rfl,rfl⟩:=hrel;by_cases hM:j<l.length
  ·obtain⟨bb,o,rfl,Fw⟩:=hr.byte (k:=j) hM;have hs:jq (l.take (j+1))=jq (l.take j)*256+(l.getD j 0).toNat:=by
    have:=ka l 0 j (by omega);simpa using this
   have Gi:=jm l j;have PM:(256:Nat)^j<=256^7:=Nat.pow_le_pow_right (by decide) (by omega);have GP:=(l.getD j 0).toNat_lt;have Hs:=G hs;clear hs;generalize (l.getD j 0).toNat=y at*;generalize jq (l.take j)=x at*;have AW:x<72057594037927936:=(by omega);rw[kW x (by omega)];have e3:IntKind.i64.wrap (y:Int)=(y:Int):=jQ3 _ (by omega);clear Gi PM;have b1:(j:Int)<(l.length:Int):=(by omega);have b2:(j:Int)<=8:=(by omega);go_wp2;exact⟨⟨j+1,by omega,by go_num,vT (by rw[QE,Hs.out])⟩,by simp[intOf];omega⟩
  ·obtain rfl:j=l.length:=(by omega);rw[List.take_length];go_wp2;go_ret;exact⟨rfl,HL.out,Hk.out⟩
def digL(bs:LB)(s:Ls):LB×Ls:=(if(jZ bs 32 s).1=[]then zD else(jZ bs 32 s).1,(jZ bs 32 s).2)
theorem xy(bs:LB)(n:Nat)(s:Ls):(jZ bs n s).1=[]\/(jZ bs n s).1.length=n:=by
 unfold jZ;split
 ·exact .inl rfl
 ·right;simp only[jK9,jK8];omega
theorem vw(bs:LB)(s:Ls):(digL bs s).1.length=32:=by
 have h:=xy bs 32 s;unfold digL;by_cases e:(jZ bs 32 s).1=[]
 ·simp only[jJ6 e,jy]
 ·simp only[jJ5 e];exact h.resolve_left e
theorem yt(w:World)(g:Nat)(bs:LB)(s:Ls)(h:Lq w g bs s):
  Calls prog 172 #[.pointer (some ⟨g,0,none⟩)] w fun e w' =>e=.returned (.agg (jA (digL bs s).1).toArray)/\Lq w' g bs (digL bs s).2/\Kp (RX g) w w' :=by
 have NV:=h.lt;have HD:=G (show digL bs s=(if(jZ bs 32 s).1=[]then zD else(jZ bs 32 s).1,(jZ bs 32 s).2)from rfl);have GL:=G (vw bs s);have HL:=G (xy bs 32 s);have HR:=G (fun W (hR:Lq W g bs s)=>va W g bs 32 s hR (by omega));have MG:=G (jQ2 w 40 zero32.toArray);have Cc:=G (jQ2 (w.alloc (.cells zero32.toArray 40)) 40 zero32.toArray);have HO:=G (((jQ0 NoX w).alloc (.cells zero32.toArray 40)).alloc (.cells zero32.toArray 40));have MX:=G (show(w.alloc (.cells zero32.toArray 40)).heap.size=w.heap.size+1 by simp);have Pz:=G (show(prog.info? 5).map (·.size)=some 1 by kernel_rfl);rw[MX.out]at Cc;have Hh:=G h;clear h;generalize digL bs s=DN at*;generalize jZ bs 32 s=RN at*;obtain⟨l,s1⟩:=RN;simp only at HD HL HR;unfold zero32 at MG Cc HO MX;go_enter func172,ntmps172;have Pf:=G (MG.out.alloc (.cells #[.int .u8 0,.int .u8 0,.int .u8 0,.int .u8 0,.int .u8 0,.int .u8 0,.int .u8 0,.int .u8 0,.int .u8 0,.int .u8 0,.int .u8 0,.int .u8 0,.int .u8 0,.int .u8 0,.int .u8 0,.int .u8 0,.int .u8 0,.int .u8 0,.int .u8 0,.int .u8 0,.int .u8 0,.int .u8 0,.int .u8 0,.int .u8 0,.int .u8 0,.int .u8 0,.int .u8 0,.int .u8 0,.int .u8 0,.int .u8 0,.int .u8 0,.int .u8 0] 40));go_wp2_with fail;generalize (w.alloc _).alloc _=W at*;refine wp_region_held_drew (S:=fun _=>True) (by kernel_rfl) trivial (fun H9=> ?_);refine' jP 0 rfl rfl (by kernel_rfl) (fun _ _ _ h=>h) rfl H9 (fun w hJ=> ?_) ?_;rotate_left
 ·((try dsimp only at hJ);go_simp<;>with_reducible rfl)
 simp only[Act.put,jJ1,jJ2,jJ3];refine' jP 1 rfl rfl (by kernel_rfl) (fun _ _ _ h=>h) rfl H9 (fun w hJ=> ?_) ?_;rotate_left
 ·((try dsimp only at hJ);go_simp<;>with_reducible rfl)
 simp only[Act.put,jJ1,jJ2,jJ3];refine jU 2 rfl (by kernel_rfl) (fun K hK=> ?_);go_simp;go_at_call 168;refine(HR.out _ (Hh.out.old HO.out.drew)).mono ?_;rintro e w1 ⟨A,c,rfl,Fa,Mk,hr,hk⟩;have Hg:=G ((Cc.out.drew).kp hk (show¬RX g (w.heap.size+1)from fun e=>by have:w.heap.size+1=g:=e;omega));go_wp2_with fail;refine hK.out _ _ trivial (fun H9=> ?_);clear hK K;refine jU 3 rfl (by kernel_rfl) (fun K hK=> ?_);refine step_copy_splice rfl (.tmp 4) (.tmp 6) 22 22 rfl 5 underlying22 Pz.out (some ⟨w.heap.size+1,0,none⟩) A 32 32 l.length c rfl rfl (w.heap.size+1) 0 _ 40 Hg.out (l.map bv) ?_ ?_ ?_ ?_ (w.heap.size+1) _ (Below.refl _ _) (jL3 _) ?_
 ·rcases HL.out with e|e<;>simp[e]
 ·intro hn;obtain⟨b,o,rfl,hc⟩:=Fa.2 (by simpa using hn);exact⟨rfl,_,rfl,fun j v hv=>by rw[Addr.add_lit];exact hc j v hv⟩
 ·rcases HL.out with e|e<;>simp[e]
 ·exact jf l
 intro w2 WC WE;have Cl:=G WC.out;have Nq:=G WE;clear WC WE;go_wp2_with fail;refine hK.out _ _ trivial (fun H9=> ?_);clear hK K;refine wpAnyH_done (by kernel_rfl) ?_ _;have k0:Kp (RX g) w w1:=((HO.out.drew).mono (Y:=RX g) (fun _ _ f=>f.elim)).trans hk (fun _ _ e=>e);have k1:=Kp.of_under Nq.out;have Nw:s1=DN.2:=(by rw[HD.out]);have WJ:=G (show Lq w2 g bs DN.2 from Nw▸hr.kp k1 (fun b hb e=>by omega));have Wh:=G (show Kp (RX g) w w2 from k0.trans k1 (fun b hb e=>by omega));have Cb:=G (show Blk w2 (w.heap.size+1) 40 (jA DN.1).toArray from by
  have h:=Cl.out;have e:=xT l HL.out;unfold zero32 at e;rw[e]at h;rw[HD.out];exact h)
 have V6:=G (show Blk w2 w.heap.size 40 zero32.toArray from((Pf.out.drew).kp hk (show¬RX g w.heap.size from fun e=>by have:w.heap.size=g:=e;omega)).kp k1 (fun e=>by omega));have hU:=G (V6.out.there 0 (jA DN.1).toArray.size (by rw[jJ8,jB,GL.out];decide));have Fh:=G (show(prog.info? 40).map (·.size)=some (jA DN.1).length by rw[jB,GL.out];exact jO);have Fn:=G Cb.out.range;have HZ:=G (V6.out.setWhole (jA DN.1) (by rw[jB,GL.out];rfl));have Es:=G (show Kp (fun k=>k=w.heap.size) w2 (w2.setCells w.heap.size 0 (jA DN.1))from Kp.setCells _ _ _ _);have IW:=G (WJ.out.kp Es.out (fun b hb e=>by omega));have J0:=G (Wh.out.trans Es.out (fun b hb e=>by omega));clear k0 k1 hk hr Fa Mk Nw;go_wp2_with (first|((with_reducible refine jT 40 (.tmp 3) ?_);refine jK rfl 40 (.tmp 3) rfl (w.heap.size+1) 0 rfl (jA DN.1) _ Fn.out underlying40 rfl Fh.out ?_)|refine jQ1 rfl 40 (.tmp 2) (.tmp 8) rfl w.heap.size 0 (jA DN.1).toArray rfl rfl hU.out Fh.out (kV _) ?_ |fail);refine YB (g:=w.heap.size) (cs:=(jA DN.1).toArray) rfl rfl HZ.out underlying40 rfl (by rw[jJ8];exact Fh.out) rfl ?_;exact⟨rfl,IW.out,J0.out⟩
theorem jE3{P:Program}{ops:Array Oper}{rest:List Oper}{d:Option Tmp}{ty:TypeId}{pos:String}{after:Array Edge}{gd:Option (Nat×Bool)}{a:Act}{w:World}{Q:Exit->Act->World->Prop}(t:TypeId)(x:Operand)
  (h:wpList P ops Q (⟨d,.buildSlice t 1 #[(0,x)],ty,pos,after,gd⟩::rest) a w):wpList P ops Q (⟨d,.buildSlice t 1 #[(0,x)],ty,pos,after,gd⟩::rest) a w:=h
def wayL(bs:LB):Nat->Ls->List LB->List LB×Ls
 |0,s,acc=>(acc,s)
 |n+1,s,acc=>if s.short=true then(acc,s)else wayL bs n (digL bs s).2 (acc++[(digL bs s).1])
def jJL(w:World)(g:Nat)(bs:LB)(x:List LB×Ls)(e:Ending)(w' :World):Prop:=
 ∃A c,e=.returned (.slice A x.1.length c)/\Rd w' 32 A x.1.length (x.1.flatMap jA)/\Av (fun k=>k<w.heap.size) x.1.length A/\Dgs x.1/\Lq w' g bs x.2/\Kp (RX g) w w'
theorem Vp(w:World)(g:Nat)(bs:LB)(n:Int)(s:Ls)(h:Lq w g bs s)(hn:n<=100000):
  Calls prog 170 #[.pointer (some ⟨g,0,none⟩),.int .i64 n] w (jJL w g bs (wayL bs n.toNat s [])):=by
 have Hh:=G h;have NV:=h.lt;clear h;go_enter func170,ntmps170;go_wp2;go_loopw [5,6] (fun b i wr=>∃(k:Nat) (acc:List LB) (s1:Ls) (A:OA) (c:Nat),k<=n.toNat/\acc.length=k/\i=.int .i64 k/\b=.slice A k c/\wr.ownsRow w.heap.size 40 32 (.slice A k c) k (acc.flatMap jA)/\Dgs acc/\Lq wr g bs s1/\Kp (RX g) w wr/\wayL bs n.toNat s []=wayL bs (n.toNat-k) s1 acc) (fun _ i _=>n.toNat-(intOf i).toNat)
 case atStart=>exact⟨0,[],s,none,0,by omega,rfl,rfl,rfl,World.ownsRow_nil _ _ _ _,fun d hd=>(by cases hd),Hh.out,jQ0 _ _,rfl⟩
 case round=>
  obtain⟨k,acc,s1,A,c,hk,G1,rfl,rfl,Hi,Bt,hL,FQ,FM⟩:=hrel;have Gn:=G Hi;have Fs:=G FM;have HL:=G hL;have HK:=G FQ;have Mq:=G Bt;have FY:=G G1;have MT:(0:Int)<=(k:Int):=(by omega);have HZ:=G (show wayL bs (n.toNat-k) s1 acc=(acc,s1)->jJL w g bs (wayL bs n.toNat s []) (.returned (.slice A k c)) wr from fun e=>by
   rw[FM,e];subst G1;exact⟨A,c,rfl,Rd.of_own Hi,vd Hi,Bt,hL,FQ⟩)
  clear FM Hi Bt FQ G1;by_cases hM:k<n.toNat
  ·have Ww:(k:Int)<n:=(by omega);obtain⟨mm,hm⟩:∃mm,n.toNat-k=mm+1:=⟨n.toNat-k-1,by omega⟩;have FS:wr.cell? ⟨g,1,none⟩=some (.bool s1.short):=by
    obtain⟨A0,c0,hb,_⟩:=hL;exact hb.at_ 1 (v:=.bool s1.short) rfl
   cases hs:s1.short with
   |true=>
    rw[hs]at FS;have He:=G (HZ.out (by rw[hm,wayL,jJ6 hs]));clear hL hs;go_wp2;go_ret;exact He.out
   |false=>
    rw[hs]at FS;have N5:=G (show wayL bs (n.toNat-k) s1 acc=wayL bs (n.toNat-(k+1)) (digL bs s1).2 (acc++[(digL bs s1).1])by
     rw[hm,wayL,jJ5 (by rw[hs];decide),show n.toNat-(k+1)=mm by omega])
    have GL:=G (vw bs s1);have HD:=G (yt wr g bs s1 hL);clear hL hs HZ;generalize digL bs s1=DD at*;obtain⟨d,s2⟩:=DD;simp only at HD N5 GL;go_wp2_with fail;refine HD.out.mono ?_;rintro e w1 ⟨rfl,SY,Fc⟩;have NL:=G (kG Gn.out Fc (fun b e e' =>by
     have h1:b=g:=e';rw[jE]at e;have:=(jY Gn.out e).1;omega))
    have SF:=G SY;have MI:=G (HK.out.trans Fc (fun _ _ h=>h));have R0:=G (show w.heap.size<=w1.heap.size from MI.out.size);obtain⟨i0,hi,Fz,Ft,FC⟩:=info_parts uo;have FU:=G (show k+1<=maxLen by unfold maxLen;omega);have FV:=G (show(k+1)*32<=140737488355328 by omega);have FD:=G (jf d);clear SY Fc FS;go_wp2_with (first
     |((with_reducible refine jE3 49 (.tmp 21) ?_);refine VK rfl (.tmp 21) rfl d GL.out rfl ?_)
     |(at_builtin;refine jJ _ rfl (.tmp 19) (.tmp 22) 49 rfl w.heap.size 40 i0 _ 32 32 underlying49 hi Fz Ft FC rfl (by decide) (.slice A k c) k _ rfl (NL.out.alloc _) (some ⟨w1.heap.size,0,none⟩) 1 1 (jA d) rfl (Rd.row_new _ _ 32 1 _ (by rw[jB,GL.out])) FD.out FU.out FV.out (jL4 R0.out (by simp)) ?_;intro A2 c2 w2 Ga Mx Q5)
     |fail)
    have GJ:=G (show w2.ownsRow w.heap.size 40 32 (.slice A2 (k+1) c2) (k+1) ((acc++[d]).flatMap jA)from by rw[List.flatMap_append,List.flatMap_singleton];exact Ga);have TN:Kp (fun b=>w.heap.size<=b) w1 w2:=((jQ0 (fun b=>w.heap.size<=b) w1).alloc _).grown Mx (fun b e _=>by
     rw[jE]at e;exact(jY NL.out e).1)
    have SE:=G (SF.out.kp TN (fun b hb hx=>by have:w.heap.size<=b:=hx;omega));have Wh:=G (MI.out.trans TN (fun b hb hx=>by have:w.heap.size<=b:=hx;omega));clear Ga Mx Q5 TN;go_wp2;go_roundw
    case rel=>exact⟨k+1,acc++[d],s2,A2,c2,by omega,by rw[jJ4,FY.out];rfl,by go_num,rfl,GJ.out,fun x hx=>by
     rcases List.mem_append.1 hx with h|h
     ·exact Mq.out x h
     ·rw[List.mem_singleton.1 h];exact GL.out,SE.out,Wh.out,by rw[Fs.out,N5.out]⟩
    case measure=>simp[intOf];omega
  ·have Ww:¬(k:Int)<n:=(by omega);have He:=G (HZ.out (by rw[show n.toNat-k=0 by omega];rfl));clear hL;go_wp2;go_ret;exact He.out
end Go.Proofs.YtnaolhjbapgjgaaGreat

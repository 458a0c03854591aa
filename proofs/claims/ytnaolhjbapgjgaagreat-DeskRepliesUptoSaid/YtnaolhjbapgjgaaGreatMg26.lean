import Derived.Test.YtnaolhjbapgjgaaGreatMg25
set_option maxRecDepth 100000
set_option maxHeartbeats 6400000
namespace Go.Proofs.YtnaolhjbapgjgaaGreat
open Go.Proofs.Tryz
open Go.RowKit
structure PieS(w' :World)(B:Nat)(m:MPiece):Prop where
 c0:w'.cell? ⟨B,0,none⟩=some (.string m.case_)
 c1:w'.cell? ⟨B,1,none⟩=some (.int .i64 m.first)
 c34:w'.cell? ⟨B,34,none⟩=some (.slice m.eA m.evs.length m.eC)
 c35:w'.cell? ⟨B,35,none⟩=some (.slice m.pA m.pfs.length m.pC)
 bf:w'.rangeAt B 2 (jA m.before)
 z:w'.rangeAt (B+1) 0 zero32
theorem PieS.of{W:World}{B:Nat}{m:MPiece}(hb:m.before.length=32)(h:Blk W B 61 m.cells.toArray)(hz:Blk W (B+1) 40 zero32.toArray):PieS W B m:=by
 have hc:∀(i:Nat) (v:Value),m.cells[i]? =some v->W.cell? ⟨B,i,none⟩=some v:=fun i v e=>h.at_ i (by rw[jJ7];exact e);have he:=Sub.end_ ([.string m.case_,.int .i64 m.first]++jA m.before) [.slice m.eA m.evs.length m.eC,.slice m.pA m.pfs.length m.pC] 34 (by simp[jB,hb]);rw[jK1]at he;exact⟨hc 0 _ rfl,hc 1 _ rfl,hc 34 _ (he 0 _ rfl),hc 35 _ (he 1 _ rfl),(Sub.mid_ [.string m.case_,.int .i64 m.first] (jA m.before) _ 2 rfl).range h,hz.range⟩
theorem jFy{size:Int}{k b:Nat}{prev:Int}{evs:List Part}{pfs:List MWay}(hk:k<evs.length)(hZ:k<pfs.length):
  QB size k b prev ((evs.map Part.l).drop k) ((pfs.map MWay.data).drop k)=(decide (Jb evs[k].l.length pfs[k].a pfs[k].b pfs[k].ds.length size=true/\¬(0<k/\pfs[k].b<=prev)/\b+(12+evs[k].l.length+32*pfs[k].ds.length)<=2097152)&&
   QB size (k+1) (b+(12+evs[k].l.length+32*pfs[k].ds.length)) pfs[k].b ((evs.map Part.l).drop (k+1)) ((pfs.map MWay.data).drop (k+1))):=by
 rw[List.drop_eq_getElem_cons (l:=evs.map Part.l) (by simpa using hk),List.drop_eq_getElem_cons (l:=pfs.map MWay.data) (by simpa using hZ)];simp only[QB,List.getElem_map,MWay.data]
theorem jDS{evs:List Part}{pfs:List MWay}{k:Nat}(hk:k<evs.length)(hZ:k<pfs.length):
  ((List.zipWith JS (evs.map Part.l) (pfs.map MWay.data)).take (k+1)).flatten=((List.zipWith JS (evs.map Part.l) (pfs.map MWay.data)).take k).flatten++(be8 pfs[k].b++((be 4 evs[k].l.length++evs[k].l)++pfs[k].ds.flatten)):=by
 rw[yc _ k (by rw[List.length_zipWith,jK7,jK7];omega)];simp only[List.getElem_zipWith,List.getElem_map,JS,lp,MWay.data]
theorem uq{s:BA}(h:kT s=true):s.size<=64:=by
 unfold kT at h;simp only[Bool.and_eq_true,decide_eq_true_eq]at h;exact h.1
def ub(pfs:List MWay)(k:Nat):Int:=if k=0 then 0 else(pfs.getD (k-1) ⟨0,0,[],none,0⟩).b
theorem xm{pfs:List MWay}{k:Nat}(hk:k<pfs.length):ub pfs (k+1)=pfs[k].b:=by
 simp[ub,List.getD,hk]
theorem jBD{l:List MWay}(h:0<l.length):kw (l.map MWay.data)=l[0].a:=by
 cases l with
 |nil=>simp at h
 |cons a r=>rfl
theorem jEy(n:Nat)(hn:n<=65536):(be 4 n).map bv=[.int .u8 ((n:Int)/16777216),.int .u8 ((n:Int)/65536),.int .u8 ((n:Int)/256% 256),.int .u8 ((n:Int)% 256)]:=by
 have e1:n/256^3% 256=n/16777216:=by rw[show 256^3=16777216 from rfl];omega
 have e2:n/256^2% 256=n/65536:=by rw[show 256^2=65536 from rfl];omega
 have e0:be 4 n=[UInt8.ofNat (n/256^3),UInt8.ofNat (n/256^2),UInt8.ofNat (n/256^1),UInt8.ofNat (n/256^0)]:=rfl;rw[e0];simp only[List.map_cons,List.map_nil,zO,e1,e2,Nat.pow_one,Nat.pow_zero,Nat.div_one];rfl
theorem jEx(w:World)(n:Nat)(hn:n<=65536){a b c d:Int}(ha:a=(n:Int)/16777216)(hb:b=(n:Int)/65536)(hc:c=(n:Int)/256% 256)(hd:d=(n:Int)% 256):
  Rd (w.alloc (.cells #[.int .u8 a,.int .u8 b,.int .u8 c,.int .u8 d] 5)) 1 (some ⟨w.heap.size,0,none⟩) (be 4 n).length ((be 4 n).map bv):=by
 subst ha hb hc hd;rw[jEy n hn];exact Rd.of_blk (jQ2 w 5 (List.toArray [.int .u8 ((n:Int)/16777216),.int .u8 ((n:Int)/65536),.int .u8 ((n:Int)/256% 256),.int .u8 ((n:Int)% 256)]))
theorem jFz{size:Int}{i b:Nat}{prev:Int}{evs:List Part}{pfs:List MWay}(h:QB size i b prev (evs.map Part.l) (pfs.map MWay.data)=true)(h1:1<=evs.length)(h2:pfs.length=evs.length):1<=size/\size<=1099511627776:=by
 cases evs with
 |nil=>simp at h1
 |cons e es=>
  cases pfs with
  |nil=>simp at h2
  |cons p ps=>
   simp only[List.map_cons,QB,Bool.and_eq_true,decide_eq_true_eq]at h;exact xc h.1.1
theorem Blk.grew{w w' :World}{g base:Nat}{T:TypeId}{cs:Array Value}{l out:LB}{A A' :OA}{c c' :Nat}(hb:Blk w g T cs)(hr:BRow w base l A c)(hG:Grew w base A w' out A' c')(Ff:5≠T):Blk w' g T cs:=
 hb.kp hG.kp (fun hj=>kx hr.own hb Ff (by rw[jE];exact hj))
def jHC:Array Value:= #[.int .u8 0,.int .u8 0,.int .u8 0,.int .u8 0,.int .u8 0,.int .u8 0,.int .u8 0,.int .u8 0,.int .u8 0,.int .u8 0,.int .u8 0,.int .u8 0,.int .u8 0,.int .u8 0,.int .u8 0,.int .u8 0,.int .u8 0,.int .u8 0,.int .u8 0,.int .u8 0,.int .u8 0,.int .u8 0,.int .u8 0,.int .u8 0,.int .u8 0,.int .u8 0,.int .u8 0,.int .u8 0,.int .u8 0,.int .u8 0,.int .u8 0,.int .u8 0]
theorem jAI(w:World)(m:MPiece)(Hu:m.Ok w NoX):Calls prog 72 #[.agg m.cells.toArray] w (MaybeB w (vR m.data)):=by
 have Fe:=G Hu;obtain⟨ML,hz,Mv⟩:=ZC 40 jHC zero32 rfl (w.alloc (.cells m.cells.toArray 61)) (w.heap.size+1) (by simp);have hb:=(jQ2 w 61 m.cells.toArray).old Mv;have hU:=G ML;have HX:=G (fun W' ho=>PieS.of Hu.before (hb.old (w' :=W') ho) (hz.old ho));have HXa:=G (show(w.alloc (.cells m.cells.toArray 61)).cell? ⟨w.heap.size,34,none⟩=some (.slice m.eA m.evs.length m.eC)from by
  have he:=Sub.end_ ([.string m.case_,.int .i64 m.first]++jA m.before) [.slice m.eA m.evs.length m.eC,.slice m.pA m.pfs.length m.pC] 34 (by simp[jB,Hu.before]);rw[jK1]at he;exact(jQ2 w 61 m.cells.toArray).at_ 34 (by rw[jJ7];exact he 0 _ rfl))
 have HB:=G hb;have Ho:=G (((jQ0 NoX w).alloc (.cells m.cells.toArray 61)).old Mv);have FD:=G (show zero32.toArray.all (·.oneCell')=true from jR rfl);have Y9:=G (show(prog.info? 40).map (·.size)=some zero32.toArray.size from jO);have HN:=G (fun W=>xe W m.case_ (by have:=Hu.big.2.2;omega));have GQ:=G (show(prog.info? 40).map (·.size)=some (jA m.before).length by rw[jB,Hu.before];exact jO);have Hq:=G (fun W r (h:decide (m.before=zC)=r)=>Qt W m.before Hu.before r h);have HF:=G (show Je m.data=decide (kT m.case_=true/\0<=m.first/\1<=m.evs.length/\m.evs.length<=1000/\m.pfs.length=m.evs.length/\(m.first=0->m.before=zC))by simp only[Je,MPiece.data,jK7]);have HP:=G (show vR m.data=if Je m.data=true then(if QB (kw m.data.pfs) 0 (54+m.data.case_.size) 0 m.data.evs m.data.pfs=true/\m.data.first<=kw m.data.pfs-(m.data.evs.length:Int)then some (yS m.data++(List.zipWith JS m.data.evs m.data.pfs).flatten)else none)else none by
  by_cases h:Je m.data=true
  ·rw[jJ6 h,UC h]
  ·rw[jJ5 h,Qb (by simpa using h)])
 clear Hu hb hz ML Mv;generalize m.cells=cl at*;generalize vR m.data=R at*;generalize hH:Je m.data=H at*;unfold jHC at hU HX HB Ho;go_enter func72,ntmps72;have c34:=HXa.out;go_upto_region 3 with(first|(with_reducible refine jM 40 ?_;refine jX rfl 40 rfl _ (xJ _) ?_)|((with_reducible refine jF 40 (.tmp 4) (.tmp 13) ?_);refine jQ1 rfl 40 (.tmp 4) (.tmp 13) rfl (w.heap.size+1) 0 zero32.toArray rfl rfl hU.out Y9.out FD.out ?_)|fail);clear c34 HXa;go_simp;generalize ((w.alloc _).alloc _).setCells _ _ _=W at*;go_cut [48] (fun v wx=>v=.bool (!H)/\wx=W)
 case first=>
  have hx:=HX.out W (jQ0 _ _);have c0:=hx.c0;have c1:=hx.c1;have c34:=hx.c34;have c35:=hx.c35;have AE:=G hx.bf;have Hz:=G hx.z;clear hx HX HB Ho HP hH hU FD Y9;by_cases hn:kT m.case_=true
  ·rw[hn]at HN;by_cases h1:m.first<0
   ·have Hv:=G (show H=false by rw[HF.out,jK3 (fun h=>by omega)]);go_wp2_with fail;refine(HN.out _).mono ?_;rintro e w1 ⟨rfl,rfl⟩;go_wp2_with fail;go_meet
    case rel=>exact⟨by rw[Hv.out];rfl,rfl⟩
   ·by_cases h2:m.evs.length<1
    ·have Hv:=G (show H=false by rw[HF.out,jK3 (fun h=>by omega)]);have g2:(m.evs.length:Int)<1:=(by omega);clear h2;go_wp2_with fail;refine(HN.out _).mono ?_;rintro e w1 ⟨rfl,rfl⟩;go_wp2_with fail;go_meet
     case rel=>exact⟨by rw[Hv.out];rfl,rfl⟩
    ·by_cases h3:1000<m.evs.length
     ·have Hv:=G (show H=false by rw[HF.out,jK3 (fun h=>by omega)]);have g2:¬(m.evs.length:Int)<1:=(by omega);have g3:(1000:Int)<(m.evs.length:Int):=(by omega);clear h2 h3;go_wp2_with fail;refine(HN.out _).mono ?_;rintro e w1 ⟨rfl,rfl⟩;go_wp2_with fail;go_meet
      case rel=>exact⟨by rw[Hv.out];rfl,rfl⟩
     ·by_cases h4:m.pfs.length=m.evs.length
      ·have g2:¬(m.evs.length:Int)<1:=(by omega);have g3:¬(1000:Int)<(m.evs.length:Int):=(by omega);have g4:((m.pfs.length:Int) !=(m.evs.length:Int))=false:=(by simp[h4]);by_cases h5:m.first=0
       ·have g5:(m.first==0)=true:=(by simpa using h5);obtain⟨r,hr⟩:∃r,decide (m.before=zC)=r:=⟨_,rfl⟩;have Hv:=G (show H=r by
         rw[HF.out,<-hr];exact decide_eq_decide.2 ⟨fun h=>h.2.2.2.2.2 h5,fun h=>⟨hn,by omega,by omega,by omega,h4,fun _=>h⟩⟩)
        have D1:=G (show decide (m.first<0)=false from jK3 h1);have D2:=G (show decide ((m.evs.length:Int)<1)=false from jK3 g2);have D3:=G (show decide ((1000:Int)<(m.evs.length:Int))=false from jK3 g3);clear h2 h3 h4 h5 hn;go_wp2_with fail;refine(HN.out _).mono ?_;rintro e w1 ⟨rfl,rfl⟩;go_wp2_with (first|((with_reducible refine ji 40 (.tmp 43) ?_);refine jK rfl 40 (.tmp 43) rfl w.heap.size 2 rfl (jA m.before) _ AE.out underlying40 rfl GQ.out ?_)|((with_reducible refine ji 40 (.tmp 4) ?_);refine jK rfl 40 (.tmp 4) rfl (w.heap.size+1) 0 rfl zero32 _ Hz.out underlying40 rfl jO ?_)|((with_reducible refine zi .neq 40 40 (.tmp 44) (.tmp 45) ?_);refine Vo rfl 40 40 (.tmp 44) (.tmp 45) rfl _ zero32.toArray rfl rfl yB r (Hq.out _ r hr) ?_)|fail);go_meet
        case rel=>exact⟨by rw[Hv.out,D1.out,D2.out,D3.out];rfl,rfl⟩
       ·have Hv:=G (show H=true by rw[HF.out,jK5 ⟨hn,by omega,by omega,by omega,h4,fun e=>absurd e h5⟩]);have g5:(m.first==0)=false:=(by simpa using h5);have D1:=G (show decide (m.first<0)=false from jK3 h1);have D2:=G (show decide ((m.evs.length:Int)<1)=false from jK3 g2);have D3:=G (show decide ((1000:Int)<(m.evs.length:Int))=false from jK3 g3);clear h2 h3 h4 h5 hn;go_wp2_with fail;refine(HN.out _).mono ?_;rintro e w1 ⟨rfl,rfl⟩;go_wp2_with fail;go_meet
        case rel=>exact⟨by rw[Hv.out,D1.out,D2.out,D3.out];rfl,rfl⟩
      ·have Hv:=G (show H=false by rw[HF.out,jK3 (fun h=>by omega)]);have g2:¬(m.evs.length:Int)<1:=(by omega);have g3:¬(1000:Int)<(m.evs.length:Int):=(by omega);have g4:((m.pfs.length:Int) !=(m.evs.length:Int))=true:=bne_iff_ne.2 (by omega);clear h2 h3 h4;go_wp2_with fail;refine(HN.out _).mono ?_;rintro e w1 ⟨rfl,rfl⟩;go_wp2_with fail;go_meet
       case rel=>exact⟨by rw[Hv.out];rfl,rfl⟩
  ·have Wu:kT m.case_=false:=(by simpa using hn);rw[Wu]at HN;have Hv:=G (show H=false by rw[HF.out,jK3 (fun h=>hn h.1)]);clear hn Wu;go_wp2_with fail;refine(HN.out _).mono ?_;rintro e w1 ⟨rfl,rfl⟩;go_wp2_with fail;go_meet
   case rel=>exact⟨by rw[Hv.out];rfl,rfl⟩
 case rest=>
  obtain⟨rfl,rfl⟩:=hcut;cases H with
  |false=>
   have hY:=G (show R=none by rw[HP.out];rfl);go_wp2;go_ret;exact .inr ⟨hY.out,rfl,Ho.out⟩
  |true=>
   obtain⟨wd,Cq⟩:∃wd,wd=wc:=⟨_,rfl⟩;subst Cq;obtain⟨_,h1,h2,h3,h4,_⟩:=of_decide_eq_true HF.out.symm;have FO:=uq (s:=m.case_) (of_decide_eq_true HF.out.symm).1;have Hn:=G (show 1<=m.evs.length/\m.evs.length<=1000 from⟨h2,h3⟩);have As:=G h4;have HR:=G HP.out;rw[jJ6 rfl]at HR;have HX:=G (fun W' (hk:Kp (From wd.heap.size) wd W')=>HX.out W' (From.old (jQ0 NoX wd) hk (jL3 _)));obtain⟨pb,po,RF,S5⟩:=(Fe.out.rdP.old Ho.out).elem (f:=MWay.cells) (fun _ _=>rfl) rfl (k:=0) (by omega);have MX:=G (jBD (l:=m.pfs) (by omega));have q0:=S5 0 _ rfl;simp only[Nat.zero_mul,Nat.add_zero]at q0;generalize FJ:m.pfs[0].a=size at*;have s0:=(HX.out wd (jQ0 _ _)).c0;have s35:=(HX.out wd (jQ0 _ _)).c35;rw[RF]at s35;have hpl' :(0:Int)<(m.pfs.length:Int):=(by omega);have e8:IntKind.u8.wrap (m.case_.size:Int)=(m.case_.size:Int):=IntWalk.u8_in _ (by omega);have SB:=G (show BRow (wd.alloc (.cells #[.int .u8 51,.int .u8 (m.case_.size:Int)] 5)) wd.heap.size [51,UInt8.ofNat m.case_.size] (some ⟨wd.heap.size,0,none⟩) 2 by
    have h:=BRow.new wd [51,UInt8.ofNat m.case_.size] (by simp[maxLen]);have e:([51,UInt8.ofNat m.case_.size]:LB).map bv=[.int .u8 51,.int .u8 (m.case_.size:Int)]:=by
     simp only[List.map_cons,List.map_nil,zO,Nat.mod_eq_of_lt (show m.case_.size<256 by omega)];rfl
    rw[e]at h;exact h)
   have s0' :=(HX.out (wd.alloc (.cells #[.int .u8 51,.int .u8 (m.case_.size:Int)] 5)) ((jQ0 _ wd).alloc _)).c0;have Ng:=G FO;clear S5 FJ FO;go_upto_region 7 with(first|(at_builtin;refine uy (.tmp 58) (.tmp 60) SB.out (by have:=Ng.out;simp;omega) rfl rfl rfl rfl ?_;intro l5 A5 c5 w5 e5 h5)|fail);have K5:=G (show Kp (From wd.heap.size) wd w5 from((jQ0 _ wd).alloc _).trans (h5.from_ SB.out) (fun _ _ h=>h));have R5:=G h5.row;have E5:=G (show l5=[51,UInt8.ofNat m.case_.size]++sb m.case_ from e5.out);have L5:=G (show l5.length=2+m.case_.size by rw[E5.out,jJ4,jH];simp);have s1:=(HX.out w5 K5.out).c1;clear h5 e5 s0 s0' s35 q0 SB e8;go_wp2_with fail;refine(yr _ m.first).mono ?_;rintro e w6 ⟨B6,d6,rfl,r6,_,o6⟩;have K6:=G (K5.out.old o6);have R6:=G (R5.out.old o6);have Aq:=G r6;have AE:=G (fun W' (hk:Kp (From wd.heap.size) wd W')=>show Rd W' 1 (some ⟨w.heap.size,2,none⟩) m.before.length (m.before.map bv)from⟨by simp,fun _=>⟨_,_,rfl,(HX.out _ hk).bf⟩⟩);have GL:=G Fe.out.before;clear o6 r6 s1;go_wp2_with (first
    |(at_builtin;refine ja (.tmp 62) (.tmp 65) R6.out Aq.out (by rw[jG];have:=L5.out;have:=Ng.out;omega) rfl rfl rfl rfl ?_;intro l7 A7 c7 w7 e7 h7;have K7:=G (K6.out.trans (h7.from_ R6.out) (fun _ _ h=>h));have R7:=G h7.row;have E7:=G e7.out;have L7:=G (show l7.length=10+m.case_.size by rw[e7.out,jJ4,jG,L5.out];omega);clear h7 e7)
    |(at_builtin;refine ja (.tmp 67) (.tmp 69) R7.out (d:=32) (AE.out _ K7.out) (by rw[GL.out];have:=L7.out;have:=Ng.out;omega) rfl rfl rfl (by rw[GL.out];rfl) ?_;intro l8 A8 c8 w8 e8 h8;have K8:=G (K7.out.trans (h8.from_ R7.out) (fun _ _ h=>h));have R8:=G h8.row;have E8:=G e8.out;have L8:=G (show l8.length=42+m.case_.size by rw[e8.out,jJ4,GL.out,L7.out];omega);clear h8 e8)
    |fail)
   refine(yr _ size).mono ?_;rintro e w9 ⟨B9,d9,rfl,r9,_,o9⟩;have K9:=G (K8.out.old o9);have R9:=G (R8.out.old o9);have Hr9:=G r9;clear o9 r9;have LP:(0:Int)<=(m.evs.length:Int):=(by omega);have SM:(m.evs.length:Int)<=1000:=(by omega);go_wp2_with (first
    |(at_builtin;refine ja (.tmp 71) (.tmp 73) R9.out Hr9.out (by rw[jG];have:=L8.out;have:=Ng.out;omega) rfl rfl rfl rfl ?_;intro l10 A10 c10 w10 e10 NY;have K10:=G (K9.out.trans (NY.from_ R9.out) (fun _ _ h=>h));have R10:=G NY.row;have E10:=G e10.out;have L10:=G (show l10.length=50+m.case_.size by rw[e10.out,jJ4,jG,L8.out];omega);have Pv:=G (jEx w10 m.evs.length (by have:=Hn.out;omega) (a:=(m.evs.length:Int)/16777216) (b:=(m.evs.length:Int)/65536) (c:=(m.evs.length:Int)/256) (d:=(m.evs.length:Int)% 256) rfl rfl (by omega) rfl);clear NY e10)
    |(at_builtin;refine ja (.tmp 75) (.tmp 87) (R10.out.alloc _) (d:=4) Pv.out (by rw[jC];have:=L10.out;have:=Ng.out;omega) rfl rfl rfl rfl ?_;intro l11 A11 c11 w11 e11 NX;have K11:=G ((K10.out.alloc _).trans (NX.from_ (R10.out.alloc _)) (fun _ _ h=>h));have R11:=G NX.row;have E11:=G e11.out;have L11:=G (show l11.length=54+m.case_.size by rw[e11.out,jJ4,jC,L10.out];omega);clear NX e11)
    |fail)
   have EH:=G (show l11=yS m.data by
    rw[E11.out,E10.out,E8.out,E7.out,E5.out];show _=be 1 51++(lp 1 (sb m.case_)++((be8 m.first++m.before)++(be8 (kw (m.pfs.map MWay.data))++be 4 (m.evs.map Part.l).length)));rw[MX.out,lp,jH,jK7];simp[be])
   clear E5 E7 E8 E10 E11 K5 K6 K7 K8 K9 K10 R5 R6 R7 R8 R9 R10 L5 L7 L8 L10 Aq Hr9 Pv;have AK:=G (show R=if QB size 0 l11.length 0 (m.evs.map Part.l) (m.pfs.map MWay.data)=true/\m.first<=size-(m.evs.length:Int)then some (l11++(List.zipWith JS (m.evs.map Part.l) (m.pfs.map MWay.data)).flatten)else none by
    rw[HR.out,L11.out,EH.out];show(if QB (kw (m.pfs.map MWay.data)) 0 (54+m.case_.size) 0 (m.evs.map Part.l) (m.pfs.map MWay.data)=true/\m.first<=kw (m.pfs.map MWay.data)-((m.evs.map Part.l).length:Int)then _ else _)=_;rw[MX.out,jK7];rfl)
   have L11' :=G (show l11.length<=118/\l11≠ []by
    have:=L11.out;have:=Ng.out;exact⟨by omega,fun e=>by have h:=L11.out;rw[e]at h;simp at h;omega⟩)
   clear HR L11 EH Ng AE GL HF HP HN Hq GQ FD Y9 hU hH;have IQ:=G (Fe.out.rdE.from_ (base:=wd.heap.size) (by decide) Ho.out.size);have EG:=G (Fe.out.rdP.from_ (base:=wd.heap.size) (by decide) Ho.out.size);go_loopw [6,7] (fun b i wr=>∃(k:Nat) (out:LB) (A' :OA) (c' :Nat),k<=m.evs.length/\i=.int .i64 k/\b=.slice A' out.length c' /\out.length<=2097152/\out=l11++((List.zipWith JS (m.evs.map Part.l) (m.pfs.map MWay.data)).take k).flatten/\BRow wr wd.heap.size out A' c' /\Kp (From wd.heap.size) wd wr/\
    QB size 0 l11.length 0 (m.evs.map Part.l) (m.pfs.map MWay.data)=QB size k out.length (ub m.pfs k) ((m.evs.map Part.l).drop k) ((m.pfs.map MWay.data).drop k)) (fun _ i _=>m.evs.length-(intOf i).toNat)
   case atStart=>exact⟨0,l11,A11,c11,by omega,rfl,rfl,by have:=L11'.out.1;omega,by simp,R11.out,K11.out,by simp[ub]⟩
   case round=>
    obtain⟨k,out,A',c',hk,rfl,rfl,CX,G0,Fg,FQ,FM⟩:=hrel;have P9:=G CX;have GF:=G G0;have M4:=G Fg;have MF:=G FQ;have Fs:=G FM;clear CX G0 Fg FQ FM;have s1:=(HX.out wr MF.out).c1;have s34:=(HX.out wr MF.out).c34;have s35:=(HX.out wr MF.out).c35;by_cases hM:k<m.evs.length
    ·have hZ:k<m.pfs.length:=by have:=As.out;omega
     obtain⟨eb,eo,OE,Br⟩:=((Fe.out.rdE.old Ho.out).kp MF.out IQ.out).part (k:=k) hM hM;obtain⟨pb',po',CW,FK⟩:=((Fe.out.rdP.old Ho.out).kp MF.out EG.out).elem (f:=MWay.cells) (fun _ _=>rfl) rfl hZ;obtain⟨rfl,rfl⟩:pb=pb' /\po=po' :=by
      have h:=RF.symm.trans CW;injection h with h;injection h with a b;exact⟨a,b⟩
     have Ar:=G (fun(h0:0<k)=>show∀W',Kp (From wd.heap.size) wd W' ->W'.cell? ⟨pb,po+(k-1)*3+1,none⟩=some (.int .i64 (ub m.pfs k))from fun W' Na=>by
      obtain⟨b2,o2,e2,Nx⟩:=((Fe.out.rdP.old Ho.out).kp Na EG.out).elem (f:=MWay.cells) (fun _ _=>rfl) rfl (k:=k-1) (by omega);have h:=RF.symm.trans e2;injection h with h;injection h with a b;subst a b;have e:ub m.pfs k=m.pfs[k-1].b:=by
       have:=xm (pfs:=m.pfs) (k:=k-1) (by omega)
       rwa [show k-1+1=k by omega]at this
      rw[e];exact Nx 1 _ rfl)
     rw[OE]at s34;rw[RF]at s35;have Fq:=G (Fs.out.trans (jFy (size:=size) (b:=out.length) (prev:=ub m.pfs k) hM hZ));have LS:=G (jDS (evs:=m.evs) (pfs:=m.pfs) hM hZ);have Rf:=G (xm (pfs:=m.pfs) hZ);have Eg:=G (Fe.out.evs m.evs[k] (jL6 hM));have Ri:=G (Fe.out.pfs m.pfs[k] (jL6 hZ));generalize m.evs[k]=ev at*;generalize m.pfs[k]=q at*;obtain⟨vA,vl,vc⟩:=ev;obtain⟨qa,qb,qds,qA,qc⟩:=q;simp only[Part.sl]at Br;simp only[MWay.cells]at FK;generalize ub m.pfs k=pv at*;obtain⟨ML,NH,Mv⟩:=ZC 51 #[.int .i64 0,.int .i64 0,.slice none 0 0] [.int .i64 qa,.int .i64 qb,.slice qA qds.length qc] rfl wr wr.heap.size rfl;have hU:=G ML;have CF:=G NH;have Sw:=G Mv;have Fn:=G FK;have Bq:=jW Br Mv;have s34' :=jW s34 Mv;have s35' :=jW s35 Mv;have MT:=NH.at_ 0 (v:=.int .i64 qa) rfl;have GC:=NH.at_ 1 (v:=.int .i64 qb) rfl;have FG:=NH.at_ 2 (v:=.slice qA qds.length qc) rfl;have K1:=G (MF.out.old Mv);have R1:=G (M4.out.old Mv);have b1:(0:Int)<=(k:Int):=(by omega);have b2:(k:Int)<(m.evs.length:Int):=(by omega);have b3:(k:Int).toNat=k:=(by omega);have b4:(k:Int)<(m.pfs.length:Int):=(by omega);have b5:(k:Int)<=1000:=(by omega);clear ML NH Mv FK Br s1 s34 Fs OE CW;go_upto_region 16 with(first|((with_reducible refine ji 51 (.tmp 97) ?_);refine jK rfl 51 (.tmp 97) rfl pb (po+k*3) rfl [.int .i64 qa,.int .i64 qb,.slice qA qds.length qc] _ Fn.out underlying51 rfl jDC ?_)|((with_reducible refine jF 51 (.tmp 8) (.tmp 98) ?_);refine jQ1 rfl 51 (.tmp 8) (.tmp 98) rfl wr.heap.size 0 (List.toArray [.int .i64 qa,.int .i64 qb,.slice qA qds.length qc]) rfl rfl hU.out jDC (jR rfl) ?_)|fail);generalize (wr.alloc _).setCells _ _ _=W1 at*;clear hU Fn Bq s34' s35 Sw;have HF:=G (fun W=>Jd W size qb);have Hz:=G (show∀n:Nat,jp (yA size qb)=(n:Int)↔yA size qb=some n from fun n=>by
      cases hb:yA size qb with
      |none=>simp only[jp];constructor;(intro h;omega);(intro h;cases h)
      |some j=>simp only[jp,Option.some.injEq];omega)
     generalize jp (yA size qb)=z at*;obtain⟨okr,Gm⟩:∃b,decide (Jb vl.length qa qb qds.length size=true/\¬(0<k/\qb<=pv))=b:=⟨_,rfl⟩;have Mo:=G (show okr=decide ((yA qa qb=some qds.length/\qa=size/\1<=vl.length/\vl.length<=65536)/\¬(0<k/\qb<=pv))by rw[<-Gm];exact decide_eq_decide.2 (and_congr_left' (by rw[Jb,decide_eq_true_eq])));have Pa:=G Gm;clear Gm;go_cut [143] (fun v wx=>v=.bool (!okr)/\∃j,wx=W1.drewN j)
     case first=>
      by_cases hA:qa=size
      ·have gA:(qa !=size)=false:=(by simp[hA]);by_cases hB:z=(qds.length:Int)
       ·have gB:(z !=(qds.length:Int))=false:=(by simp[hB]);have Aj:=(Hz.out qds.length).1 hB;rw[<-hA]at Aj;have HA:=G hA;have HB' :=G Aj;clear hA hB Aj;by_cases h0:0<k
        ·have p1:=Ar.out h0 W1 K1.out;have g0:(0:Int)<(k:Int):=(by omega);have i1:(0:Int)<=(k:Int)-1:=(by omega);have i2:(k:Int)-1<(m.pfs.length:Int):=(by omega);have i3:((k:Int)-1).toNat=k-1:=(by omega);have i4:IntKind.i64.wrap ((k:Int)-1)=(k:Int)-1:=jQ3 _ (by omega);by_cases hC:qb<=pv
         ·have Hv:=G (show okr=false by rw[Mo.out];exact jK3 (fun h=>h.2 ⟨h0,hC⟩));go_quiet (first|(go_at_call 119;refine Calls.quiet_of_same ((HF.out _).mono (fun _ _ h=>⟨h.1,h.2.symm⟩)))|fail);go_wp2_with fail;go_meet
          case rel=>exact⟨by rw[Hv.out];rfl,_,rfl⟩
         ·have hC0:=hC;have HC:=G (show¬(0<k/\qb<=pv)from fun h=>hC h.2);by_cases Ns:vl.length<1
          ·have Hv:=G (show okr=false by rw[Mo.out];exact jK3 (fun h=>by omega));have gD:(vl.length:Int)<1:=(by omega);clear Ns;go_quiet (first|(go_at_call 119;refine Calls.quiet_of_same ((HF.out _).mono (fun _ _ h=>⟨h.1,h.2.symm⟩)))|fail);go_wp2_with fail;go_meet
           case rel=>exact⟨by rw[Hv.out];rfl,_,rfl⟩
          ·by_cases Nx:65536<vl.length
           ·have Hv:=G (show okr=false by rw[Mo.out];exact jK3 (fun h=>by omega));have gD:¬(vl.length:Int)<1:=(by omega);have gE:(65536:Int)<(vl.length:Int):=(by omega);clear Ns Nx;go_quiet (first|(go_at_call 119;refine Calls.quiet_of_same ((HF.out _).mono (fun _ _ h=>⟨h.1,h.2.symm⟩)))|fail);go_wp2_with fail;go_meet
            case rel=>exact⟨by rw[Hv.out];rfl,_,rfl⟩
           ·have Hv:=G (show okr=true by rw[Mo.out];exact jK5 ⟨⟨HB'.out,HA.out,by omega,by omega⟩,HC.out⟩);have gD:¬(vl.length:Int)<1:=(by omega);have gE:¬(65536:Int)<(vl.length:Int):=(by omega);clear Ns Nx;go_quiet (first|(go_at_call 119;refine Calls.quiet_of_same ((HF.out _).mono (fun _ _ h=>⟨h.1,h.2.symm⟩)))|fail);go_wp2_with fail;go_meet
            case rel=>exact⟨by rw[Hv.out];rfl,_,rfl⟩
        ·have g0:¬(0:Int)<(k:Int):=(by omega);have HC:=G (show¬(0<k/\qb<=pv)from fun h=>h0 h.1);by_cases Ns:vl.length<1
         ·have Hv:=G (show okr=false by rw[Mo.out];exact jK3 (fun h=>by omega));have gD:(vl.length:Int)<1:=(by omega);clear Ns;go_quiet (first|(go_at_call 119;refine Calls.quiet_of_same ((HF.out _).mono (fun _ _ h=>⟨h.1,h.2.symm⟩)))|fail);go_wp2_with fail;go_meet
          case rel=>exact⟨by rw[Hv.out];rfl,_,rfl⟩
         ·by_cases Nx:65536<vl.length
          ·have Hv:=G (show okr=false by rw[Mo.out];exact jK3 (fun h=>by omega));have gD:¬(vl.length:Int)<1:=(by omega);have gE:(65536:Int)<(vl.length:Int):=(by omega);clear Ns Nx;go_quiet (first|(go_at_call 119;refine Calls.quiet_of_same ((HF.out _).mono (fun _ _ h=>⟨h.1,h.2.symm⟩)))|fail);go_wp2_with fail;go_meet
           case rel=>exact⟨by rw[Hv.out];rfl,_,rfl⟩
          ·have Hv:=G (show okr=true by rw[Mo.out];exact jK5 ⟨⟨HB'.out,HA.out,by omega,by omega⟩,HC.out⟩);have gD:¬(vl.length:Int)<1:=(by omega);have gE:¬(65536:Int)<(vl.length:Int):=(by omega);clear Ns Nx;go_quiet (first|(go_at_call 119;refine Calls.quiet_of_same ((HF.out _).mono (fun _ _ h=>⟨h.1,h.2.symm⟩)))|fail);go_wp2_with fail;go_meet
           case rel=>exact⟨by rw[Hv.out];rfl,_,rfl⟩
       ·have gB:(z !=(qds.length:Int))=true:=(by simpa using hB);have Hv:=G (show okr=false by rw[Mo.out];exact jK3 (fun h=>hB ((Hz.out _).2 (by rw[<-hA];exact h.1.1))));clear hA hB;go_quiet (first|(go_at_call 119;refine Calls.quiet_of_same ((HF.out _).mono (fun _ _ h=>⟨h.1,h.2.symm⟩)))|fail);go_wp2_with fail;go_meet
        case rel=>exact⟨by rw[Hv.out];rfl,_,rfl⟩
      ·have gA:(qa !=size)=true:=(by simpa using hA);have Hv:=G (show okr=false by rw[Mo.out];exact jK3 (fun h=>hA h.1.2.1));clear hA;go_quiet (first|(go_at_call 119;refine Calls.quiet_of_same ((HF.out _).mono (fun _ _ h=>⟨h.1,h.2.symm⟩)))|fail);go_wp2_with fail;go_meet
       case rel=>exact⟨by rw[Hv.out];rfl,_,rfl⟩
     case rest=>
      obtain⟨rfl,j,rfl⟩:=hcut;have CF:=G (CF.out.drewN j);have K2:=G (K1.out.drewN j);have R2:=G (R1.out.drewN j);clear MT GC FG s35' K1 R1 HF Hz Ar;generalize W1.drewN j=W2 at*;cases okr with
      |false=>
       have hY:=G (show R=none by
        rw[AK.out,jJ5];intro h;rw[Fq.out,Bool.and_eq_true,decide_eq_true_eq]at h;exact absurd (And.intro h.1.1.1 h.1.1.2.1) (of_decide_eq_false Pa.out))
       go_wp2;go_ret;exact .inr ⟨hY.out,rfl,From.old Ho.out K2.out Ho.out.size⟩
      |true=>
       have Ib:=G (of_decide_eq_true Pa.out);have Iy:=G (qP Ib.out.1);have GC:=CF.out.at_ 1 (v:=.int .i64 qb) rfl;go_wp2_with fail;refine(yr _ qb).mono ?_;rintro e w3 ⟨B3,d3,rfl,r3,_,o3⟩;have K3:=G (K2.out.old o3);have R3:=G (R2.out.old o3);have X3:=G (CF.out.old o3);have Ny:=G r3;have hv0:(0:Int)<=(vl.length:Int):=(by omega);have RE:(vl.length:Int)<=65536:=by have:=Iy.out;omega
       clear o3 r3 GC;go_upto_region 20 with(first
        |(at_builtin;refine ja (.tmp 144) (.tmp 147) R3.out Ny.out (by rw[jG];have:=P9.out;omega) rfl rfl rfl rfl ?_;intro l4 A4 c4 w4 e4 h4;have K4:=G (K3.out.trans (h4.from_ R3.out) (fun _ _ h=>h));have X4:=G (X3.out.grew R3.out h4 (by decide));have R4:=G h4.row;have E4:=G e4.out;have L4:=G (show l4.length=out.length+8 by rw[e4.out,jJ4,jG]);have Pv:=G (jEx w4 vl.length (by have:=Iy.out;omega) (a:=(vl.length:Int)/16777216) (b:=(vl.length:Int)/65536) (c:=(vl.length:Int)/256% 256) (d:=(vl.length:Int)% 256) rfl rfl rfl rfl);clear h4 e4)
        |(at_builtin;refine ja (.tmp 149) (.tmp 165) (R4.out.alloc _) (d:=4) Pv.out (by rw[jC];have:=L4.out;have:=P9.out;omega) rfl rfl rfl rfl ?_;intro l5 A5 c5 w5 e5 h5;have K5:=G ((K4.out.alloc _).trans (h5.from_ (R4.out.alloc _)) (fun _ _ h=>h));have X5:=G ((X4.out.alloc _).grew (R4.out.alloc _) h5 (by decide));have R5:=G h5.row;have E5:=G e5.out;have L5:=G (show l5.length=out.length+12 by rw[e5.out,jJ4,jC,L4.out]);clear h5 e5)
        |fail)
       have HE:=G (Eg.out.rd.old Ho.out);have IP:=G (Eg.out.rd.from_ (base:=wd.heap.size) (by decide) Ho.out.size);have HQ:=G (Ri.out.rd.old Ho.out);have EF:=G (Ri.out.rd.from_ (base:=wd.heap.size) (by decide) Ho.out.size);have Fg:=R5.out.drew;have kk:=K5.out.drew;have bb:=X5.out.drew;have d2:=bb.at_ 2 (v:=.slice qA qds.length qc) rfl;have Pw:=G (show l5.length+vl.length<=2300000 by have:=L5.out;have:=P9.out;have:=Iy.out;omega)
       go_region_held3 (fun w' =>w'.cell? ⟨wr.heap.size,2,none⟩=some (.slice qA qds.length qc)) (first|exact d2|fail)
        (first
         |(refine kv (.tmp 167) (.tmp 168) Fg (d:=vc) (HE.out.kp kk IP.out) ?_ rfl rfl rfl rfl ?_;(have:=Pw.out;simp only;omega);intro l6 A6 c6 w6 e6 h6;have kk:=kk.trans (h6.from_ Fg) (fun _ _ h=>h);have bb:=bb.grew Fg h6 (by decide);have Fg:=h6.row;have d2:=bb.at_ 2 (v:=.slice qA qds.length qc) rfl)
         |(go_at_call 120;refine(zp _ wd.heap.size l6 A6 c6 Fg ?_ qA qds.length qc qds rfl Ri.out.dgs (HQ.out.kp kk EF.out) EF.out Ri.out.big).mono ?_;(rw[e6.out,jJ4];have:=Pw.out;simp only at*;omega);rintro e w7 ⟨l7,A7,c7,e7,rfl,h7⟩;have kk:=kk.trans (h7.from_ Fg) (fun _ _ h=>h);have bb:=bb.grew Fg h7 (by decide);have Fg:=h7.row;have d2:=bb.at_ 2 (v:=.slice qA qds.length qc) rfl)
         |fail)
       all_goals
        have L7:=G (show l7.length=out.length+(12+vl.length+32*qds.length)by rw[e7.out,e6.out,jJ4,jJ4,Dgs.flat_len (ds:=qds) Ri.out.dgs,L5.out];omega);have E7:=G (show l7=out++(be8 qb++((be 4 vl.length++vl)++qds.flatten))by rw[e7.out,e6.out,E5.out,E4.out];simp only[jK1]);have K7:=G kk;have R7:=G Fg;clear kk Fg bb d2 e7 e6 h6 h7;by_cases hb:l7.length<=2097152
        ·have Nj:¬(2097152:Int)<(l7.length:Int):=(by omega);have Hb:=G hb;have HN:=G (show QB size 0 l11.length 0 (m.evs.map Part.l) (m.pfs.map MWay.data)=QB size (k+1) l7.length (ub m.pfs (k+1)) ((m.evs.map Part.l).drop (k+1)) ((m.pfs.map MWay.data).drop (k+1))by
          rw[Fq.out,Rf.out,L7.out,jK5 ⟨Ib.out.1,Ib.out.2,by show out.length+(12+vl.length+32*qds.length)<=2097152;have:=L7.out;have:=Hb.out;omega⟩,Bool.true_and])
         have HO:=G (show l7=l11++((List.zipWith JS (m.evs.map Part.l) (m.pfs.map MWay.data)).take (k+1)).flatten by
          rw[LS.out,E7.out,GF.out,jK1])
         clear hb;go_wp2;go_roundw
         case rel=>exact⟨k+1,l7,A7,c7,by omega,by go_num,rfl,Hb.out,HO.out,R7.out,K7.out,HN.out⟩
         case measure=>simp[intOf];omega
        ·have Nj:(2097152:Int)<(l7.length:Int):=(by omega);have hY:=G (show R=none by
          rw[AK.out,jJ5];intro h;rw[Fq.out,Bool.and_eq_true,decide_eq_true_eq]at h;have h3:=h.1.1.2.2;have:=L7.out;omega)
         clear hb;go_wp2;go_ret;exact .inr ⟨hY.out,rfl,From.old Ho.out K7.out Ho.out.size⟩
    ·obtain rfl:k=m.evs.length:=(by omega);have HG:=G (show QB size 0 l11.length 0 (m.evs.map Part.l) (m.pfs.map MWay.data)=true by
      rw[Fs.out,List.drop_of_length_le (by simp)];rfl)
     have HO:=G (show out=l11++(List.zipWith JS (m.evs.map Part.l) (m.pfs.map MWay.data)).flatten by
      rw[GF.out,jK4 (by rw[List.length_zipWith,jK7];omega)])
     have RY: -9223372036854775808<=size-(m.evs.length:Int)/\size-(m.evs.length:Int)<=9223372036854775807:=by
      have:=jFz HG.out Hn.out.1 As.out;have:=Hn.out;omega
     by_cases hf:size-(m.evs.length:Int)<m.first
     ·have hY:=G (show R=none by rw[AK.out,jJ5 (fun h=>by omega)]);have e1:IntKind.i64.wrap (size-(m.evs.length:Int))=size-(m.evs.length:Int):=jQ3 _ RY;clear RY;go_wp2;go_ret;exact .inr ⟨hY.out,rfl,From.old Ho.out MF.out Ho.out.size⟩
     ·have FT:=G (show R=some out by rw[AK.out,jJ6 ⟨HG.out,by omega⟩,HO.out]);have e1:IntKind.i64.wrap (size-(m.evs.length:Int))=size-(m.evs.length:Int):=jQ3 _ RY;clear RY;go_wp2;go_ret;exact MaybeB.some_ FT.out rfl (by rw[GF.out];intro h;exact L11'.out.2 (List.append_eq_nil_iff.1 h).1) M4.out Ho.out.size (From.old Ho.out MF.out Ho.out.size)
def rX(I:Nat)(eA pA:OA):Nat->Prop:=fun b=>b<=I\/eA.map (·.block)=some b\/pA.map (·.block)=some b
structure PieRd(w:World)(g I B:Nat)(bs:LB)(nm:BA)(first:Int)(before:LB)(evs:List Part)(pfs:List MWay)(eA:OA)(eC:Nat)(pA:OA)(pC:Nat)(s:Ls)(wr:World):Prop where
 st:RdR 61 zeroPieL w g bs s wr
 blk:Blk wr I 61 (ZO nm first before eA evs.length eC pA pfs.length pC).toArray
 oe:wr.ownsRow (I+1) 22 1 (.slice eA evs.length eC) evs.length (evs.map Part.sl)
 op:wr.ownsRow (I+1) 51 3 (.slice pA pfs.length pC) pfs.length (pfs.flatMap MWay.cells)
 be_:∀b,eA.map (·.block)=some b->b<B
 bp:∀b,pA.map (·.block)=some b->b<B
 ev:∀p∈evs,p.Ok wr (fun b=>rX I eA pA b\/B<=b)
 pf:∀p∈pfs,p.Ok wr (fun b=>rX I eA pA b\/B<=b)
 lt:g<I
 lb:I<B
 hb:B<=wr.heap.size
 bef:before.length=32
section
variable{w:World}{g I B:Nat}{bs:LB}{nm:BA}{first:Int}{before:LB}{evs:List Part}{pfs:List MWay}{eA:OA}{eC:Nat}{pA:OA}{pC:Nat}{s s' :Ls}{wr w' :World}
theorem PieRd.far{X:Nat->Prop}(h:PieRd w g I B bs nm first before evs pfs eA eC pA pC s wr)(hk:Kp X wr w')(hX:∀b,X b->b=g\/B<=b)(hr:Lq w' g bs s'):PieRd w g I B bs nm first before evs pfs eA eC pA pC s' w' :=by
 have hl:=h.lt;have S9:=h.lb;have Ov:=h.st.lt;have OO:∀b,X b->rX I eA pA b\/B<=b:=fun b hx=>by
  rcases hX b hx with e|e
  ·exact .inl (.inl (by omega))
  ·exact .inr e
 refine⟨⟨h.st.box.kp hk (fun e=>by have:=hX _ e;omega),hr,h.st.old.trans hk (fun b hb e=>by have:=hX _ e;omega),h.st.lt⟩,h.blk.kp hk (fun e=>by have:=hX _ e;omega),?_,?_,h.be_,h.bp,?_,?_,h.lt,h.lb,jL4 h.hb hk.size,h.bef⟩
 ·exact kG h.oe hk (fun b e hx=>by
   rw[jE]at e;have h1:=h.be_ b e;have h2:=(jY h.oe e).1;have:=hX _ hx;omega)
 ·exact kG h.op hk (fun b e hx=>by
   rw[jE]at e;have h1:=h.bp b e;have h2:=(jY h.op e).1;have:=hX _ hx;omega)
 ·exact fun p hp=>(h.ev p hp).turn hk (fun b _ e=>OO b e) (fun _ _ e=>e)
 ·exact fun p hp=>(h.pf p hp).turn hk (fun b _ e=>OO b e) (fun _ _ e=>e)
theorem PieRd.far'{X:Nat->Prop}(h:PieRd w g I B bs nm first before evs pfs eA eC pA pC s wr)(hk:Kp X wr w')(hX:∀b,X b->B<=b):PieRd w g I B bs nm first before evs pfs eA eC pA pC s w' :=
 h.far hk (fun b e=>.inr (hX b e)) (h.st.rr.kp hk (fun b hb e=>by have:=hX b e;have:=h.lt;have:=h.lb;omega))
theorem PieRd.still(h:PieRd w g I B bs nm first before evs pfs eA eC pA pC s wr)(hk:Old wr w'):PieRd w g I B bs nm first before evs pfs eA eC pA pC s w' :=h.far' hk (fun _ f=>f.elim)
theorem PieRd.step(h:PieRd w g I B bs nm first before evs pfs eA eC pA pC s wr)(hr:Lq w' g bs s')(hk:Kp (RX g) wr w'):PieRd w g I B bs nm first before evs pfs eA eC pA pC s' w' :=h.far hk (fun _ e=>.inl e) hr
theorem PieRd.up(h:PieRd w g I B bs nm first before evs pfs eA eC pA pC s wr):PieRd w g I wr.heap.size bs nm first before evs pfs eA eC pA pC s wr:=
 ⟨h.st,h.blk,h.oe,h.op,fun b e=>jL8 (h.be_ b e) h.hb,fun b e=>jL8 (h.bp b e) h.hb,
  fun p hp=>(h.ev p hp).turn (jQ0 NoX _) (fun _ _ f=>f.elim) (fun b hb e=>by
   rcases e with e|e
   ·exact .inl e
   ·omega),
  fun p hp=>(h.pf p hp).turn (jQ0 NoX _) (fun _ _ f=>f.elim) (fun b hb e=>by
   rcases e with e|e
   ·exact .inl e
   ·omega),h.lt,jL8 h.lb h.hb,jL3 _,h.bef⟩
theorem jAG(h:PieRd w g I B bs nm first before evs pfs eA eC pA pC s wr){b:Nat}(hb:B<=b):¬rX I eA pA b:=by
 rintro (e|e|e)
 ·have:=h.lb;omega
 ·have:=h.be_ b e;omega
 ·have:=h.bp b e;omega
theorem PieRd.name(h:PieRd w g I B bs nm first before evs pfs eA eC pA pC s wr)(n:BA):PieRd w g I B bs n first before evs pfs eA eC pA pC s (wr.setCell ⟨I,0,none⟩ (.string n)):=by
 have hk:=(jQ0 (fun k=>k=I) wr).setCell (p:=⟨I,0,none⟩) (fun _=>rfl) (.string n);exact⟨h.st.set h.lt _,h.blk.set_ 0 _,kG h.oe hk (fun b e hx=>by rw[jE]at e;have:=(jY h.oe e).1;omega),kG h.op hk (fun b e hx=>by rw[jE]at e;have:=(jY h.op e).1;omega),h.be_,h.bp,
  fun p hp=>(h.ev p hp).turn hk (fun b _ e=>.inl (.inl (by omega))) (fun _ _ e=>e),fun p hp=>(h.pf p hp).turn hk (fun b _ e=>.inl (.inl (by omega))) (fun _ _ e=>e),h.lt,h.lb,jL4 h.hb hk.size,h.bef⟩
theorem PieRd.num(h:PieRd w g I B bs nm first before evs pfs eA eC pA pC s wr)(n:Int):PieRd w g I B bs nm n before evs pfs eA eC pA pC s (wr.setCell ⟨I,1,none⟩ (.int .i64 n)):=by
 have hk:=(jQ0 (fun k=>k=I) wr).setCell (p:=⟨I,1,none⟩) (fun _=>rfl) (.int .i64 n);exact⟨h.st.set h.lt _,h.blk.set_ 1 _,kG h.oe hk (fun b e hx=>by rw[jE]at e;have:=(jY h.oe e).1;omega),kG h.op hk (fun b e hx=>by rw[jE]at e;have:=(jY h.op e).1;omega),h.be_,h.bp,
  fun p hp=>(h.ev p hp).turn hk (fun b _ e=>.inl (.inl (by omega))) (fun _ _ e=>e),fun p hp=>(h.pf p hp).turn hk (fun b _ e=>.inl (.inl (by omega))) (fun _ _ e=>e),h.lt,h.lb,jL4 h.hb hk.size,h.bef⟩
theorem PieRd.dig(h:PieRd w g I B bs nm first before evs pfs eA eC pA pC s wr)(d:LB)(hd:d.length=32):PieRd w g I B bs nm first d evs pfs eA eC pA pC s (wr.setCells I 2 (jA d)):=by
 have hk:=Kp.setCells I 2 (jA d) wr;exact⟨h.st.put hk (fun b e=>by have:=h.lt;omega),by
  have:=Blk.setCells (pre:=[.string nm,.int .i64 first]) (mid:=jA before) (post:=[.slice eA evs.length eC,.slice pA pfs.length pC]) (by simpa [ZO]using h.blk) (jA d) (by rw[jB,jB,hd,h.bef]);simpa [ZO]using this,kG h.oe hk (fun b e hx=>by rw[jE]at e;have:=(jY h.oe e).1;omega),kG h.op hk (fun b e hx=>by rw[jE]at e;have:=(jY h.op e).1;omega),h.be_,h.bp,
  fun p hp=>(h.ev p hp).turn hk (fun b _ e=>.inl (.inl (by omega))) (fun _ _ e=>e),fun p hp=>(h.pf p hp).turn hk (fun b _ e=>.inl (.inl (by omega))) (fun _ _ e=>e),h.lt,h.lb,jL4 h.hb hk.size,hd⟩
theorem MWay.Ok.growE{eA' :OA}{m:MWay}(hm:m.Ok wr (rX I eA pA))(hg:wr.grownBy w' (eA.map (·.block)))(ha:eA'.map (·.block)=eA.map (·.block)\/eA'.map (·.block)=some wr.heap.size)(v:Value):m.Ok (w'.setCell ⟨I,34,none⟩ v) (rX I eA' pA):=by
 have k1:Kp (fun b=>b<=I\/eA.map (·.block)=some b) wr (w'.setCell ⟨I,34,none⟩ v):=((kM hg).mono (fun b _ e=>.inr e)).setCell (p:=⟨I,34,none⟩) (fun _=>.inl (jL3 _)) _;exact hm.turn k1 (fun b _ e=>by
  rcases e with e|e
  ·exact .inl e
  ·exact .inr (.inl e)) (fun b hb e=>by
  rcases e with e|e|e
  ·exact .inl e
  ·exact .inr (.inl (Jt ha hb e))
  ·exact .inr (.inr e))
theorem Part.Ok.growE{eA' :OA}{m:Part}(hm:m.Ok wr (rX I eA pA))(hg:wr.grownBy w' (eA.map (·.block)))(ha:eA'.map (·.block)=eA.map (·.block)\/eA'.map (·.block)=some wr.heap.size)(v:Value):m.Ok (w'.setCell ⟨I,34,none⟩ v) (rX I eA' pA):=by
 have k1:Kp (fun b=>b<=I\/eA.map (·.block)=some b) wr (w'.setCell ⟨I,34,none⟩ v):=((kM hg).mono (fun b _ e=>.inr e)).setCell (p:=⟨I,34,none⟩) (fun _=>.inl (jL3 _)) _;exact hm.turn k1 (fun b _ e=>by
  rcases e with e|e
  ·exact .inl e
  ·exact .inr (.inl e)) (fun b hb e=>by
  rcases e with e|e|e
  ·exact .inl e
  ·exact .inr (.inl (Jt ha hb e))
  ·exact .inr (.inr e))
theorem MWay.Ok.growP{pA' :OA}{m:MWay}(hm:m.Ok wr (rX I eA pA))(hg:wr.grownBy w' (pA.map (·.block)))(ha:pA'.map (·.block)=pA.map (·.block)\/pA'.map (·.block)=some wr.heap.size)(v:Value):m.Ok (w'.setCell ⟨I,35,none⟩ v) (rX I eA pA'):=by
 have k1:Kp (fun b=>b<=I\/pA.map (·.block)=some b) wr (w'.setCell ⟨I,35,none⟩ v):=((kM hg).mono (fun b _ e=>.inr e)).setCell (p:=⟨I,35,none⟩) (fun _=>.inl (jL3 _)) _;exact hm.turn k1 (fun b _ e=>by
  rcases e with e|e
  ·exact .inl e
  ·exact .inr (.inr e)) (fun b hb e=>by
  rcases e with e|e|e
  ·exact .inl e
  ·exact .inr (.inl e)
  ·exact .inr (.inr (Jt ha hb e)))
theorem Part.Ok.growP{pA' :OA}{m:Part}(hm:m.Ok wr (rX I eA pA))(hg:wr.grownBy w' (pA.map (·.block)))(ha:pA'.map (·.block)=pA.map (·.block)\/pA'.map (·.block)=some wr.heap.size)(v:Value):m.Ok (w'.setCell ⟨I,35,none⟩ v) (rX I eA pA'):=by
 have k1:Kp (fun b=>b<=I\/pA.map (·.block)=some b) wr (w'.setCell ⟨I,35,none⟩ v):=((kM hg).mono (fun b _ e=>.inr e)).setCell (p:=⟨I,35,none⟩) (fun _=>.inl (jL3 _)) _;exact hm.turn k1 (fun b _ e=>by
  rcases e with e|e
  ·exact .inl e
  ·exact .inr (.inr e)) (fun b hb e=>by
  rcases e with e|e|e
  ·exact .inl e
  ·exact .inr (.inl e)
  ·exact .inr (.inr (Jt ha hb e)))
theorem MWay.Ok.now{X:Nat->Prop}{m:MWay}(hm:m.Ok wr X){Y:Nat->Prop}(h:∀b,Y b->X b\/wr.heap.size<=b):m.Ok wr Y:=hm.turn (jQ0 NoX _) (fun _ _ f=>f.elim) (fun b hb e=>by
 rcases h b e with h|h
 ·exact h
 ·omega)
theorem Part.Ok.now{X:Nat->Prop}{m:Part}(hm:m.Ok wr X){Y:Nat->Prop}(h:∀b,Y b->X b\/wr.heap.size<=b):m.Ok wr Y:=hm.turn (jQ0 NoX _) (fun _ _ f=>f.elim) (fun b hb e=>by
 rcases h b e with h|h
 ·exact h
 ·omega)
theorem PieRd.growE{eA' :OA}{eC' :Nat}{p:Part}(h:PieRd w g I B bs nm first before evs pfs eA eC pA pC s wr)(hg:wr.grownBy w' (eA.map (·.block)))(ha:eA'.map (·.block)=eA.map (·.block)\/eA'.map (·.block)=some wr.heap.size)
  (ho:w'.ownsRow (I+1) 22 1 (.slice eA' (evs.length+1) eC') (evs.length+1) ((evs++[p]).map Part.sl)) (hp:p.Ok wr (rX I eA pA)):
  PieRd w g I w'.heap.size bs nm first before (evs++[p]) pfs eA' eC' pA pC s (w'.setCell ⟨I,34,none⟩ (.slice eA' (evs.length+1) eC')):=by
 have hl:(evs++[p]).length=evs.length+1:=(by simp);have hM:=h.lt;have Gw:=h.lb;have hhb:=h.hb;have k2:=(jQ0 (fun k=>k=I) w').setCell (p:=⟨I,34,none⟩) (fun _=>rfl) (.slice eA' (evs.length+1) eC');have FJ:(w'.setCell ⟨I,34,none⟩ (.slice eA' (evs.length+1) eC')).heap.size=w'.heap.size:=(by simp);refine⟨?_,?_,?_,?_,?_,?_,?_,?_,h.lt,jL8 h.lb (jL4 h.hb hg.size),by rw[FJ];exact jL3 _,h.bef⟩
 ·exact(h.st.put (kM hg) (fun b e=>by have:=(jY h.oe e).1;omega)).put k2 (fun b e=>by omega)
 ·rw[hl];exact(h.blk.kp (kM hg) (fun e=>by have:=(jY h.oe e).1;omega)).pieE h.bef eA' (evs.length+1) eC'
 ·rw[hl];exact kG ho k2 (fun b e hx=>by rw[jE]at e;have:=(jY ho e).1;omega)
 ·exact kG (km h.op hg (fun k e e' =>kR h.op h.oe (by decide) e e')) k2 (fun b e hx=>by rw[jE]at e;have:=(jY h.op e).1;omega)
 ·exact fun b e=>(jY ho e).2
 ·exact fun b e=>jL8 (jY h.op e).2 hg.size
 ·intro q hq;have hh:q.Ok wr (rX I eA pA):=by
   rcases List.mem_append.1 hq with hq|hq
   ·exact(h.ev q hq).now (fun b e=>.inl (.inl e))
   ·rw[List.mem_singleton.1 hq];exact hp
  exact(hh.growE hg ha _).now (fun b e=>by
   rcases e with e|e
   ·exact .inl e
   ·exact .inr (by rw[FJ];exact e))
 ·intro q hq;exact(((h.pf q hq).now (fun b e=>.inl (.inl e))).growE hg ha _).now (fun b e=>by
   rcases e with e|e
   ·exact .inl e
   ·exact .inr (by rw[FJ];exact e))
theorem PieRd.growP{pA' :OA}{pC' :Nat}{p:MWay}(h:PieRd w g I B bs nm first before evs pfs eA eC pA pC s wr)(hg:wr.grownBy w' (pA.map (·.block)))(ha:pA'.map (·.block)=pA.map (·.block)\/pA'.map (·.block)=some wr.heap.size)
  (ho:w'.ownsRow (I+1) 51 3 (.slice pA' (pfs.length+1) pC') (pfs.length+1) ((pfs++[p]).flatMap MWay.cells)) (hp:p.Ok wr (rX I eA pA)):
  PieRd w g I w'.heap.size bs nm first before evs (pfs++[p]) eA eC pA' pC' s (w'.setCell ⟨I,35,none⟩ (.slice pA' (pfs.length+1) pC')):=by
 have hl:(pfs++[p]).length=pfs.length+1:=(by simp);have hM:=h.lt;have Gw:=h.lb;have hhb:=h.hb;have k2:=(jQ0 (fun k=>k=I) w').setCell (p:=⟨I,35,none⟩) (fun _=>rfl) (.slice pA' (pfs.length+1) pC');have FJ:(w'.setCell ⟨I,35,none⟩ (.slice pA' (pfs.length+1) pC')).heap.size=w'.heap.size:=(by simp);refine⟨?_,?_,?_,?_,?_,?_,?_,?_,h.lt,jL8 h.lb (jL4 h.hb hg.size),by rw[FJ];exact jL3 _,h.bef⟩
 ·exact(h.st.put (kM hg) (fun b e=>by have:=(jY h.op e).1;omega)).put k2 (fun b e=>by omega)
 ·rw[hl];exact(h.blk.kp (kM hg) (fun e=>by have:=(jY h.op e).1;omega)).pieP h.bef pA' (pfs.length+1) pC'
 ·exact kG (km h.oe hg (fun k e e' =>kR h.oe h.op (by decide) e e')) k2 (fun b e hx=>by rw[jE]at e;have:=(jY h.oe e).1;omega)
 ·rw[hl];exact kG ho k2 (fun b e hx=>by rw[jE]at e;have:=(jY ho e).1;omega)
 ·exact fun b e=>jL8 (jY h.oe e).2 hg.size
 ·exact fun b e=>(jY ho e).2
 ·intro q hq;exact(((h.ev q hq).now (fun b e=>.inl (.inl e))).growP hg ha _).now (fun b e=>by
   rcases e with e|e
   ·exact .inl e
   ·exact .inr (by rw[FJ];exact e))
 ·intro q hq;have hh:q.Ok wr (rX I eA pA):=by
   rcases List.mem_append.1 hq with hq|hq
   ·exact(h.pf q hq).now (fun b e=>.inl (.inl e))
   ·rw[List.mem_singleton.1 hq];exact hp
  exact(hh.growP hg ha _).now (fun b e=>by
   rcases e with e|e
   ·exact .inl e
   ·exact .inr (by rw[FJ];exact e))
end
theorem JK(bs:LB)(n:Nat)(s:Ls):s.at_ <=(jZ bs n s).2.at_ /\((jZ bs n s).2.short=false->s.short=false/\(jZ bs n s).2.at_=s.at_ +n):=by
 unfold jZ;split
 ·exact⟨jL3 _,fun h=>by simp at h⟩
 ·exact⟨by simp,fun h=>⟨h,rfl⟩⟩
theorem Uv(bs:LB):∀(n:Nat) (s:Ls) (acc:List LB),s.at_ <=(wayL bs n s acc).2.at_ /\((wayL bs n s acc).2.short=false->s.short=false)
 |0,s,acc=>⟨jL3 _,id⟩
 |n+1,s,acc=>by
  rw[wayL];split
  ·exact⟨jL3 _,id⟩
  ·rename_i h;have h1:=Uv bs n (digL bs s).2 (acc++[(digL bs s).1]);have h2:=JK bs 32 s;exact⟨jL4 h2.1 h1.1,fun _=>by simpa using h⟩
theorem jFt(bs:LB)(size:Int)(s:Ls):s.at_ <=(jBN bs size s).2.at_ /\((jBN bs size s).2.short=false->s.at_ +12<=(jBN bs size s).2.at_):=by
 unfold jBN jFv jFu;simp only;have h1:=JK bs 8 s;change s.at_ <=(numL bs 8 s).2.at_ /\((numL bs 8 s).2.short=false->s.short=false/\(numL bs 8 s).2.at_=s.at_ +8)at h1;generalize (numL bs 8 s)=q1 at*;have h2:=JK bs 4 q1.2;change q1.2.at_ <=(lowL bs 4 q1.2).2.at_ /\((lowL bs 4 q1.2).2.short=false->q1.2.short=false/\(lowL bs 4 q1.2).2.at_=q1.2.at_ +4)at h2;generalize lowL bs 4 q1.2=q2 at*;have h3:=JK bs q2.1 q2.2;generalize jZ bs q2.1 q2.2=q3 at*;have h4:=Uv bs (jp (yA size q1.1)).toNat q3.2 [];generalize (wayL bs (jp (yA size q1.1)).toNat q3.2 []).2=q4 at*;refine⟨by omega,fun h=> ?_⟩;have e4:=h4.2 h;have e3:=h3.2 e4;have e2:=h2.2 e3.1;have e1:=h1.2 e2.1;omega
end Go.Proofs.YtnaolhjbapgjgaaGreat

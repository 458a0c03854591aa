import Derived.Test.YtmmjcbbogokmfaaGreatDoorMp42
import Derived.Deep.Slices
import Derived.OpenShut
import Derived.SliceStrings
set_option maxRecDepth 100000
set_option maxHeartbeats 25600000
namespace Go.Proofs.YtmmjcbbogokmfaaGreatDoor
open Go.Proofs.Tryz
open Go.RowKit Go.ChangeShapes
section
variable{H:Type}
theorem jD0(d:DataW H):1<=Rows.uptoBulk d:=by
 cases d with
 |lit l=>cases l<;>simp[Rows.uptoBulk]
 |nil=>simp[Rows.uptoBulk]
 |ptr d=>simp[Rows.uptoBulk]
 |slice elems spare=>simp[Rows.uptoBulk]
 |agg parts=>simp[Rows.uptoBulk]
 |iface t d=>simp[Rows.uptoBulk]
 |map entries=>simp[Rows.uptoBulk]
 |held h=>simp[Rows.uptoBulk]
theorem Yb{d:DataW H}{l:List (DataW H)}(h:d∈l):Rows.uptoBulk d<=Rows.uptoBulkAll l:=by
 induction l with
 |nil=>cases h
 |cons x r ih=>
  simp only[Rows.uptoBulkAll];cases jN4 h with
  |inl e=>subst e;omega
  |inr e=>have:=ih e;omega
theorem qA(l:List (DataW H)):l.length<=Rows.uptoBulkAll l:=by
 induction l with
 |nil=>simp[Rows.uptoBulkAll]
 |cons x r ih=>have:=jD0 x;simp only[Rows.uptoBulkAll,jK6];omega
variable{enc:TypeId×Value->H}{w:World}{fuel:Nat}{cs:List Value}{x:DataW H×List MemPlace}
abbrev Tr(enc:TypeId×Value->H)(w:World)(fuel:Nat)(t:TypeId)(cs:List Value)(x:DataW H×List MemPlace):Prop:=DataW.trod enc prog w 0 (fun _=>true) true fuel t cs=some x
theorem kg{t:TypeId}{fs:Array Field}(ht:prog.underlying t=some (.struct fs))(h:Tr enc w fuel t cs x):
  cs.length=prog.cellsOf t/\∀(i:Nat) (ft:TypeId) (o:Nat),(fs[i]?).map (fun f=>(f.type,f.offset))=some (ft,o)->∃n y,Tr enc w n ft ((cs.drop o).take (prog.cellsOf ft)) y/\Rows.uptoBulk y.1+1<=Rows.uptoBulk x.1:=by
 obtain⟨xs,n,_,rfl,hl,hlen,hf⟩:=DataW.trod_struct ht h;refine⟨hl,fun i ft o hi=> ?_⟩;obtain⟨f,DW,e⟩:=jM4 hi;injection e with e1 e2;subst e1 e2;have hlt:i<xs.length:=by rw[hlen];exact(Array.getElem?_eq_some_iff.1 DW).1
 have h1:=hf i f DW;rw[jJ9 hlt]at h1;refine⟨n,xs[i],h1,?_⟩;have:=Yb (List.mem_map_of_mem (f:=fun y:DataW H×List MemPlace=>y.1) (jL6 hlt));simp only[Rows.uptoBulk];omega
theorem jl{t:TypeId}(ht:prog.underlying t=some (.int .i64))(h:Tr enc w fuel t cs x):∃n:Int,cs=[.int .i64 n]/\ -9223372036854775808<=n/\n<=9223372036854775807:=by
 obtain⟨n,rfl,_,hw⟩:=DataW.trod_int ht h;refine⟨n,rfl,?_⟩;simpa [Lit.wf,IntKind.min,IntKind.max,IntKind.signed,IntKind.bits]using hw
theorem km(h:Tr enc w fuel 9 cs x):∃s:ByteArray,cs=[.string s]/\s.size+1<=Rows.uptoBulk x.1:=by
 obtain⟨s,rfl,rfl,hw⟩:=DataW.trod_string underlying9 h;refine⟨s,rfl,?_⟩;have e:s.data.toList.length=s.size:=by rw[Array.length_toList];rfl
 simp only[Rows.uptoBulk];omega
theorem Xc(h:Tr enc w fuel 42 cs x):∃A c,∃l:List ByteArray,cs=[.slice A l.length c]/\Rd w 1 A l.length (l.map sv)/\l.length<=c/\l.length+1<=Rows.uptoBulk x.1/\∀s∈l,s.size+1<=Rows.uptoBulk x.1:=by
 rcases open_strings underlying42 underlying9 (by kernel_rfl) h with⟨rfl,rfl⟩|⟨a,len,cap,ss,rfl,_,Nb,_,PF,rfl,FD,_⟩
 ·exact⟨none,0,[],rfl,Rd.none_,jL3 _,by simp[Rows.uptoBulk],fun s hs=>by cases hs⟩
 ·simp only[if_true]at PF;have hl:(ss.take len).length=len:=by simp;omega
  refine⟨some a,cap,ss.take len,by rw[hl],?_,by omega,?_,fun s hs=> ?_⟩
  ·rw[hl];refine Rd.of_add (by rw[jK7,hl,Nat.mul_one]) (by decide) (fun j u hu=> ?_);have hj:j<len:=by
    have:=(jM5 hu).1;rw[jK7,hl]at this;exact this
   have MQ:j<ss.length:=(by omega);rw[FD j MQ];rw[jM1,List.getElem?_take,jJ6 hj,jJ9 MQ]at hu;simp only[Option.map_some,Option.some.injEq]at hu;rw[<-hu];simp only[sv,List.getD,jJ9 MQ,Option.getD_some]
  ·have:=qA (strs (H:=H) (ss.take len));rw[hl];simp only[Rows.uptoBulk];simp only[strs,jK7,jK9]at this;simp only[strs];omega
  ·have h1:=Yb (List.mem_map_of_mem (f:=fun s=>DataW.lit (H:=H) (.string s.data.toList)) hs);have e:s.data.toList.length=s.size:=by rw[Array.length_toList];rfl
   simp only[Rows.uptoBulk]at h1;simp only[Rows.uptoBulk,strs];omega
theorem qu(h:Tr enc w fuel 27 cs x):∃A c,∃l:List Int,cs=[.slice A l.length c]/\Rd w 1 A l.length (l.map iv)/\l.length<=c/\l.length+1<=Rows.uptoBulk x.1:=by
 rcases open_ints underlying27 underlying3 (by kernel_rfl) h with⟨rfl,rfl⟩|⟨a,len,cap,zs,rfl,_,Nb,_,PF,rfl,FD,In⟩
 ·exact⟨none,0,[],rfl,Rd.none_,jL3 _,by simp[Rows.uptoBulk]⟩
 ·simp only[if_true]at PF;have hl:(zs.take len).length=len:=by simp;omega
  refine⟨some a,cap,zs.take len,by rw[hl],?_,by omega,?_⟩
  ·rw[hl];refine Rd.of_add (by rw[jK7,hl,Nat.mul_one]) (by decide) (fun j u hu=> ?_);have hj:j<len:=by
    have:=(jM5 hu).1;rw[jK7,hl]at this;exact this
   have MQ:j<zs.length:=(by omega);rw[FD j MQ];rw[jM1,List.getElem?_take,jJ6 hj,jJ9 MQ]at hu;simp only[Option.map_some,Option.some.injEq]at hu;rw[<-hu];simp only[iv,List.getD,jJ9 MQ,Option.getD_some]
  ·have:=qA (lits (H:=H) .i64 (zs.take len));rw[hl];simp only[Rows.uptoBulk];simp only[lits,jK7,jK9]at this;simp only[lits];omega
end
theorem jFo:prog.cellsOf 44=4:=by kernel_rfl
theorem zM:prog.cellsOf 3=1/\prog.cellsOf 9=1/\prog.cellsOf 41=1/\prog.cellsOf 42=1/\prog.cellsOf 27=1:=⟨by kernel_rfl,by kernel_rfl,by kernel_rfl,by kernel_rfl,by kernel_rfl⟩
theorem jJ{α:Type}{l:List α}{n:Nat}(h:l.length=n+1):∃a t,l=a::t/\t.length=n:=by
 cases l with
 |nil=>simp at h
 |cons a t=>exact⟨a,t,rfl,by simpa using h⟩
variable{H:Type}{enc:TypeId×Value->H}{w:World}{fuel:Nat}{cs:List Value}{x:DataW H×List MemPlace}
theorem uk:prog.cellsOf 22=1/\prog.cellsOf 23=1/\prog.cellsOf 24=1/\prog.cellsOf 25=1/\prog.cellsOf 26=1/\prog.cellsOf 108=1/\prog.cellsOf 109=1/\prog.cellsOf 4=1:=⟨by kernel_rfl,by kernel_rfl,by kernel_rfl,by kernel_rfl,by kernel_rfl,by kernel_rfl,by kernel_rfl,by kernel_rfl⟩
theorem Qo{z:Nat}(f:Nat->List Value):∀(n:Nat),(∀i,i<n->(f i).length=z)->((List.range n).flatMap f).length=n*z/\∀j u,((List.range n).flatMap f)[j]? =some u->∃i r,i<n/\r<z/\j=i*z+r/\(f i)[r]? =some u
 |0,_=>⟨by simp,fun j u h=>by simp at h⟩
 |n+1,hf=>by
  obtain⟨h1,h2⟩:=Qo f n (fun i hi=>hf i (by omega));have hn:=hf n (by omega);rw[List.range_succ,jN5];have e:List.flatMap f [n]=f n:=(by simp);rw[e];refine⟨by rw[jJ4,h1,hn,Nat.succ_mul],fun j u hu=> ?_⟩;by_cases hj:j<n*z
  ·rw[List.getElem?_append_left (by rw[h1];exact hj)]at hu;obtain⟨i,r,hi,hr,AE,hv⟩:=h2 j u hu;exact⟨i,r,by omega,hr,AE,hv⟩
  ·rw[List.getElem?_append_right (by rw[h1];omega),h1]at hu;have:=(jM5 hu).1;exact⟨n,j-n*z,by omega,by omega,by omega,hu⟩
section
variable{H:Type}{enc:TypeId×Value->H}{w:World}{fuel:Nat}{cs:List Value}{x:DataW H×List MemPlace}
theorem ZW{α:Type}(K:Nat)(W:α->Nat)(f:Nat->α)(D:Nat->DataW H):∀l:List Nat,(∀i∈l,W (f i)<=K*Rows.uptoBulk (D i))->((l.map f).map W).sum<=K*Rows.uptoBulkAll (l.map D)
 |[],_=>by simp[Rows.uptoBulkAll]
 |i::l,h=>by
  have h1:=ZW K W f D l (fun j hj=>h j (jN1 _ hj));have h2:=h i (List.mem_cons_self ..);simp only[List.map_cons,List.sum_cons,Rows.uptoBulkAll,Nat.mul_add];omega
theorem UQ{α:Type}:∀l:List α,(l.map fun _=>2).sum=2*l.length
 |[]=>rfl
 |a::l=>by rw[List.map_cons,List.sum_cons,UQ l,jK6];omega
theorem jAk(h:Tr enc w fuel 4 cs x):∃b,cs=[.bool b]:=by
 obtain⟨b,rfl,_⟩:=DataW.trod_bool underlying4 h;exact⟨b,rfl⟩
theorem ym{α:Type}[Inhabited α]{ts te:TypeId}{z K:Nat}{C:α->List Value}{Q:α->Prop}{W:α->Nat}(ht:prog.underlying ts=some (.slice te))(hz:prog.cellsOf te=z)(Fm:0<z)(hC:∀a,(C a).length=z)
  (hO:∀fuel cs x,Tr enc w fuel te cs x->Rows.uptoBulk x.1<=1048576->∃m:α,cs=C m/\Q m/\W m<=K*Rows.uptoBulk x.1/\2<=Rows.uptoBulk x.1) (h:Tr enc w fuel ts cs x) (hB:Rows.uptoBulk x.1<=1048576):
  ∃A c,∃l:List α,cs=[.slice A l.length c]/\Rd w z A l.length (l.flatMap C)/\l.length<=c/\l.length<=524288/\(l.map W).sum<=K*Rows.uptoBulk x.1/\l.length<=Rows.uptoBulk x.1/\∀m∈l,Q m:=by
 subst hz;rcases Deep.open_slice ht h with⟨rfl,rfl⟩|⟨a,len,cap,m,n,D,Pl,rfl,_,Nb,_,hm,rfl,hx⟩
 ·exact⟨none,0,[],rfl,Rd.none_,jL3 _,Nat.zero_le _,Nat.zero_le _,Nat.zero_le _,fun v hv=>by cases hv⟩
 ·simp only[if_true]at hm;subst hm;have hlen:=qA ((List.range len).map D);rw[jK7,List.length_range]at hlen;have Rv:Rows.uptoBulkAll ((List.range len).map D)<=Rows.uptoBulk (H:=H) (.slice ((List.range len).map D) ((List.range (m-len)).map fun j=>D (len+j))):=by simp only[Rows.uptoBulk];omega
  have Ix:=jL4 Rv hB;obtain⟨f,hf⟩:=Deep.choose_lt (n:=len) (p:=fun i (v:α)=>w.cells? 0 (a.add (i*prog.cellsOf te)) (prog.cellsOf te)=some (C v)/\Q v/\W v<=K*Rows.uptoBulk (D i)/\2<=Rows.uptoBulk (D i)) (fun i hi=>by
   obtain⟨cs',h1,h2⟩:=hx i (by omega);have hb:=Yb (List.mem_map_of_mem (f:=D) (List.mem_range.2 hi));obtain⟨v,rfl,h3,h4⟩:=hO _ _ _ h2 (by simp only;omega);exact⟨v,h1,h3,h4⟩)
  have hl:((List.range len).map f).length=len:=(by simp);have CO:=ZW 1 (fun _=>2) f D (List.range len) (fun i hi=>by have:=(hf i (List.mem_range.1 hi)).2.2.2;show 2<=1*_;omega);rw[UQ,hl]at CO;have Bd:len<=524288:=(by omega);refine⟨some a,m,(List.range len).map f,by rw[hl],?_,by omega,by omega,?_,by rw[hl];exact jL4 hlen Rv,fun v hv=> ?_⟩
  ·rw[hl,List.flatMap_map];obtain⟨h1,h2⟩:=Qo (fun i=>C (f i)) len (fun i _=>hC _);refine Rd.of_add h1 Fm (fun j u hu=> ?_);obtain⟨i,r,hi,hr,rfl,hv⟩:=h2 j u hu;have h3:=(World.cells?_some (hf i hi).1).2.2 r hr;rw[UB]at h3;rw[h3];exact hv
  ·exact jL4 (ZW K W f D _ (fun i hi=>(hf i (List.mem_range.1 hi)).2.2.1)) (Nat.mul_le_mul_left _ Rv)
  ·obtain⟨i,hi,rfl⟩:=List.mem_map.1 hv;exact(hf i (List.mem_range.1 hi)).2.1
def jHU(m:MNd):Nat:=wtN m.n
def jHT(m:MSt):Nat:=wtS m.s
theorem uK(h:Tr enc w fuel 122 cs x)(hB:Rows.uptoBulk x.1<=1048576):∃m:Prm,cs=prC m/\(True)/\wtP m<=21*Rows.uptoBulk x.1/\2<=Rows.uptoBulk x.1:=by
 obtain⟨hl,hf⟩:=kg underlying122 h;have Nk:prog.cellsOf 122=3:=(by kernel_rfl);rw[Nk]at hl;obtain⟨n0,y0,h0,b0⟩:=hf 0 9 0 rfl;obtain⟨n1,y1,h1,b1⟩:=hf 1 3 1 rfl;obtain⟨n2,y2,h2,b2⟩:=hf 2 41 2 rfl;obtain⟨c0,l0,rfl,WS⟩:=jJ hl;obtain⟨c1,l1,rfl,ND⟩:=jJ WS;obtain⟨c2,l2,rfl,FM⟩:=jJ ND;obtain rfl:=List.eq_nil_of_length_eq_zero FM;obtain⟨q1,q2,q3,-,-⟩:=zM;simp only[q1,q2,q3,List.drop_zero,List.drop_succ_cons,List.take_succ_cons,List.take_zero]at h0 h1 h2;obtain⟨v0,e0,s0⟩:=km h0;obtain⟨v1,e1,g1⟩:=jl underlying3 h1;obtain⟨v2,e2,g2⟩:=jl underlying41 h2;simp only[List.cons.injEq,and_true]at e0 e1 e2;subst e0 e1 e2;exact⟨⟨v0,v1,v2⟩,rfl,trivial,by unfold wtP;simp only;omega,by omega⟩
theorem qw(h:Tr enc w fuel 108 cs x)(hB:Rows.uptoBulk x.1<=1048576):∃A c,∃l:List Prm,cs=[.slice A l.length c]/\Rd w 3 A l.length (l.flatMap prC)/\l.length<=c/\l.length<=524288/\(l.map wtP).sum<=21*Rows.uptoBulk x.1/\l.length<=Rows.uptoBulk x.1/\∀m∈l,True:=
 haveI:Inhabited Prm:=⟨⟨⟨#[]⟩,0,0⟩⟩
 ym underlying108 (by kernel_rfl:prog.cellsOf 122=3) (by decide) (fun _=>rfl) (fun _ _ _ h2 Fj=>uK h2 Fj) h hB
theorem qx(h:Tr enc w fuel 125 cs x)(hB:Rows.uptoBulk x.1<=1048576):∃m:Eff,cs=efC m/\(True)/\wtE m<=21*Rows.uptoBulk x.1/\2<=Rows.uptoBulk x.1:=by
 obtain⟨hl,hf⟩:=kg underlying125 h;have Nk:prog.cellsOf 125=3:=(by kernel_rfl);rw[Nk]at hl;obtain⟨n0,y0,h0,b0⟩:=hf 0 9 0 rfl;obtain⟨n1,y1,h1,b1⟩:=hf 1 3 1 rfl;obtain⟨n2,y2,h2,b2⟩:=hf 2 3 2 rfl;obtain⟨c0,l0,rfl,WS⟩:=jJ hl;obtain⟨c1,l1,rfl,ND⟩:=jJ WS;obtain⟨c2,l2,rfl,FM⟩:=jJ ND;obtain rfl:=List.eq_nil_of_length_eq_zero FM;obtain⟨q1,q2,-,-,-⟩:=zM;simp only[q1,q2,List.drop_zero,List.drop_succ_cons,List.take_succ_cons,List.take_zero]at h0 h1 h2;obtain⟨v0,e0,s0⟩:=km h0;obtain⟨v1,e1,g1⟩:=jl underlying3 h1;obtain⟨v2,e2,g2⟩:=jl underlying3 h2;simp only[List.cons.injEq,and_true]at e0 e1 e2;subst e0 e1 e2;exact⟨⟨v0,v1,v2⟩,rfl,trivial,by unfold wtE;simp only;omega,by omega⟩
theorem Zj(h:Tr enc w fuel 109 cs x)(hB:Rows.uptoBulk x.1<=1048576):∃A c,∃l:List Eff,cs=[.slice A l.length c]/\Rd w 3 A l.length (l.flatMap efC)/\l.length<=c/\l.length<=524288/\(l.map wtE).sum<=21*Rows.uptoBulk x.1/\l.length<=Rows.uptoBulk x.1/\∀m∈l,True:=
 haveI:Inhabited Eff:=⟨⟨⟨#[]⟩,0,0⟩⟩
 ym underlying109 (by kernel_rfl:prog.cellsOf 125=3) (by decide) (fun _=>rfl) (fun _ _ _ h2 Fj=>qx h2 Fj) h hB
theorem YO(h:Tr enc w fuel 114 cs x)(hB:Rows.uptoBulk x.1<=1048576):∃m:Atr,cs=atC m/\(True)/\wtA m<=81*Rows.uptoBulk x.1/\2<=Rows.uptoBulk x.1:=by
 obtain⟨hl,hf⟩:=kg underlying114 h;have Nk:prog.cellsOf 114=7:=(by kernel_rfl);rw[Nk]at hl;obtain⟨n0,y0,h0,b0⟩:=hf 0 9 0 rfl;obtain⟨n1,y1,h1,b1⟩:=hf 1 3 1 rfl;obtain⟨n2,y2,h2,b2⟩:=hf 2 3 2 rfl;obtain⟨n3,y3,h3,b3⟩:=hf 3 41 3 rfl;obtain⟨n4,y4,h4,b4⟩:=hf 4 4 4 rfl;obtain⟨n5,y5,h5,b5⟩:=hf 5 3 5 rfl;obtain⟨n6,y6,h6,b6⟩:=hf 6 3 6 rfl;obtain⟨c0,l0,rfl,WS⟩:=jJ hl;obtain⟨c1,l1,rfl,ND⟩:=jJ WS;obtain⟨c2,l2,rfl,FM⟩:=jJ ND;obtain⟨c3,l3,rfl,Lf⟩:=jJ FM;obtain⟨c4,l4,rfl,Mh⟩:=jJ Lf;obtain⟨c5,l5,rfl,Le⟩:=jJ Mh;obtain⟨c6,l6,rfl,LX⟩:=jJ Le;obtain rfl:=List.eq_nil_of_length_eq_zero LX;obtain⟨q1,q2,q3,-,-⟩:=zM;obtain⟨-,-,-,-,-,-,-,w8⟩:=uk;simp only[q1,q2,q3,w8,List.drop_zero,List.drop_succ_cons,List.take_succ_cons,List.take_zero]at h0 h1 h2 h3 h4 h5 h6;obtain⟨v0,e0,s0⟩:=km h0;obtain⟨v1,e1,g1⟩:=jl underlying3 h1;obtain⟨v2,e2,g2⟩:=jl underlying3 h2;obtain⟨v3,e3,g3⟩:=jl underlying41 h3;obtain⟨v4,e4⟩:=jAk h4;obtain⟨v5,e5,g5⟩:=jl underlying3 h5;obtain⟨v6,e6,g6⟩:=jl underlying3 h6;simp only[List.cons.injEq,and_true]at e0 e1 e2 e3 e4 e5 e6;subst e0 e1 e2 e3 e4 e5 e6;exact⟨⟨v0,v1,v2,v4,v3,v5,v6⟩,rfl,trivial,by unfold wtA;simp only;omega,by omega⟩
theorem VW(h:Tr enc w fuel 22 cs x)(hB:Rows.uptoBulk x.1<=1048576):∃A c,∃l:List Atr,cs=[.slice A l.length c]/\Rd w 7 A l.length (l.flatMap atC)/\l.length<=c/\l.length<=524288/\(l.map wtA).sum<=81*Rows.uptoBulk x.1/\l.length<=Rows.uptoBulk x.1/\∀m∈l,True:=
 haveI:Inhabited Atr:=⟨⟨⟨#[]⟩,0,0,false,0,0,0⟩⟩
 ym underlying22 (by kernel_rfl:prog.cellsOf 114=7) (by decide) (fun _=>rfl) (fun _ _ _ h2 Fj=>YO h2 Fj) h hB
theorem uJ(h:Tr enc w fuel 117 cs x)(hB:Rows.uptoBulk x.1<=1048576):∃m:Stg,cs=sgC m/\(True)/\wtG m<=82*Rows.uptoBulk x.1/\2<=Rows.uptoBulk x.1:=by
 obtain⟨hl,hf⟩:=kg underlying117 h;have Nk:prog.cellsOf 117=7:=(by kernel_rfl);rw[Nk]at hl;obtain⟨n0,y0,h0,b0⟩:=hf 0 9 0 rfl;obtain⟨n1,y1,h1,b1⟩:=hf 1 3 1 rfl;obtain⟨n2,y2,h2,b2⟩:=hf 2 3 2 rfl;obtain⟨n3,y3,h3,b3⟩:=hf 3 9 3 rfl;obtain⟨n4,y4,h4,b4⟩:=hf 4 3 4 rfl;obtain⟨n5,y5,h5,b5⟩:=hf 5 3 5 rfl;obtain⟨n6,y6,h6,b6⟩:=hf 6 3 6 rfl;obtain⟨c0,l0,rfl,WS⟩:=jJ hl;obtain⟨c1,l1,rfl,ND⟩:=jJ WS;obtain⟨c2,l2,rfl,FM⟩:=jJ ND;obtain⟨c3,l3,rfl,Lf⟩:=jJ FM;obtain⟨c4,l4,rfl,Mh⟩:=jJ Lf;obtain⟨c5,l5,rfl,Le⟩:=jJ Mh;obtain⟨c6,l6,rfl,LX⟩:=jJ Le;obtain rfl:=List.eq_nil_of_length_eq_zero LX;obtain⟨q1,q2,-,-,-⟩:=zM;simp only[q1,q2,List.drop_zero,List.drop_succ_cons,List.take_succ_cons,List.take_zero]at h0 h1 h2 h3 h4 h5 h6;obtain⟨v0,e0,s0⟩:=km h0;obtain⟨v1,e1,g1⟩:=jl underlying3 h1;obtain⟨v2,e2,g2⟩:=jl underlying3 h2;obtain⟨v3,e3,s3⟩:=km h3;obtain⟨v4,e4,g4⟩:=jl underlying3 h4;obtain⟨v5,e5,g5⟩:=jl underlying3 h5;obtain⟨v6,e6,g6⟩:=jl underlying3 h6;simp only[List.cons.injEq,and_true]at e0 e1 e2 e3 e4 e5 e6;subst e0 e1 e2 e3 e4 e5 e6;exact⟨⟨v0,v1,v2,v3,v4,v5,v6⟩,rfl,trivial,by unfold wtG;simp only;omega,by omega⟩
theorem qv(h:Tr enc w fuel 23 cs x)(hB:Rows.uptoBulk x.1<=1048576):∃A c,∃l:List Stg,cs=[.slice A l.length c]/\Rd w 7 A l.length (l.flatMap sgC)/\l.length<=c/\l.length<=524288/\(l.map wtG).sum<=82*Rows.uptoBulk x.1/\l.length<=Rows.uptoBulk x.1/\∀m∈l,True:=
 haveI:Inhabited Stg:=⟨⟨⟨#[]⟩,0,0,⟨#[]⟩,0,0,0⟩⟩
 ym underlying23 (by kernel_rfl:prog.cellsOf 117=7) (by decide) (fun _=>rfl) (fun _ _ _ h2 Fj=>uJ h2 Fj) h hB
theorem Xg(h:Tr enc w fuel 64 cs x)(hB:Rows.uptoBulk x.1<=1048576):∃m:Mil,cs=miC m/\(True)/\wtM m<=82*Rows.uptoBulk x.1/\2<=Rows.uptoBulk x.1:=by
 obtain⟨hl,hf⟩:=kg underlying64 h;have Nk:prog.cellsOf 64=6:=(by kernel_rfl);rw[Nk]at hl;obtain⟨n0,y0,h0,b0⟩:=hf 0 9 0 rfl;obtain⟨n1,y1,h1,b1⟩:=hf 1 3 1 rfl;obtain⟨n2,y2,h2,b2⟩:=hf 2 3 2 rfl;obtain⟨n3,y3,h3,b3⟩:=hf 3 9 3 rfl;obtain⟨n4,y4,h4,b4⟩:=hf 4 3 4 rfl;obtain⟨n5,y5,h5,b5⟩:=hf 5 3 5 rfl;obtain⟨c0,l0,rfl,WS⟩:=jJ hl;obtain⟨c1,l1,rfl,ND⟩:=jJ WS;obtain⟨c2,l2,rfl,FM⟩:=jJ ND;obtain⟨c3,l3,rfl,Lf⟩:=jJ FM;obtain⟨c4,l4,rfl,Mh⟩:=jJ Lf;obtain⟨c5,l5,rfl,Le⟩:=jJ Mh;obtain rfl:=List.eq_nil_of_length_eq_zero Le;obtain⟨q1,q2,-,-,-⟩:=zM;simp only[q1,q2,List.drop_zero,List.drop_succ_cons,List.take_succ_cons,List.take_zero]at h0 h1 h2 h3 h4 h5;obtain⟨v0,e0,s0⟩:=km h0;obtain⟨v1,e1,g1⟩:=jl underlying3 h1;obtain⟨v2,e2,g2⟩:=jl underlying3 h2;obtain⟨v3,e3,s3⟩:=km h3;obtain⟨v4,e4,g4⟩:=jl underlying3 h4;obtain⟨v5,e5,g5⟩:=jl underlying3 h5;simp only[List.cons.injEq,and_true]at e0 e1 e2 e3 e4 e5;subst e0 e1 e2 e3 e4 e5;exact⟨⟨v0,v1,v2,v3,v4,v5⟩,rfl,trivial,by unfold wtM;simp only;omega,by omega⟩
theorem uM(h:Tr enc w fuel 24 cs x)(hB:Rows.uptoBulk x.1<=1048576):∃A c,∃l:List Mil,cs=[.slice A l.length c]/\Rd w 6 A l.length (l.flatMap miC)/\l.length<=c/\l.length<=524288/\(l.map wtM).sum<=82*Rows.uptoBulk x.1/\l.length<=Rows.uptoBulk x.1/\∀m∈l,True:=
 haveI:Inhabited Mil:=⟨⟨⟨#[]⟩,0,0,⟨#[]⟩,0,0⟩⟩
 ym underlying24 (by kernel_rfl:prog.cellsOf 64=6) (by decide) (fun _=>rfl) (fun _ _ _ h2 Fj=>Xg h2 Fj) h hB
theorem Xe(h:Tr enc w fuel 111 cs x)(hB:Rows.uptoBulk x.1<=1048576):∃m:MSt,cs=stC m/\((Rd w 3 m.pA m.s.params.length (m.s.params.flatMap prC)/\Rd w 3 m.eA m.s.effects.length (m.s.effects.flatMap efC))/\m.s.params.length<=1000000/\m.s.effects.length<=1000000)/\jHT m<=130*Rows.uptoBulk x.1/\2<=Rows.uptoBulk x.1:=by
 obtain⟨hl,hf⟩:=kg underlying111 h;have Nk:prog.cellsOf 111=8:=(by kernel_rfl);rw[Nk]at hl;obtain⟨n0,y0,h0,b0⟩:=hf 0 9 0 rfl;obtain⟨n1,y1,h1,b1⟩:=hf 1 3 1 rfl;obtain⟨n2,y2,h2,b2⟩:=hf 2 3 2 rfl;obtain⟨n3,y3,h3,b3⟩:=hf 3 108 3 rfl;obtain⟨n4,y4,h4,b4⟩:=hf 4 9 4 rfl;obtain⟨n5,y5,h5,b5⟩:=hf 5 3 5 rfl;obtain⟨n6,y6,h6,b6⟩:=hf 6 3 6 rfl;obtain⟨n7,y7,h7,b7⟩:=hf 7 109 7 rfl;obtain⟨c0,l0,rfl,WS⟩:=jJ hl;obtain⟨c1,l1,rfl,ND⟩:=jJ WS;obtain⟨c2,l2,rfl,FM⟩:=jJ ND;obtain⟨c3,l3,rfl,Lf⟩:=jJ FM;obtain⟨c4,l4,rfl,Mh⟩:=jJ Lf;obtain⟨c5,l5,rfl,Le⟩:=jJ Mh;obtain⟨c6,l6,rfl,LX⟩:=jJ Le;obtain⟨c7,l7,rfl,Ct⟩:=jJ LX;obtain rfl:=List.eq_nil_of_length_eq_zero Ct;obtain⟨q1,q2,-,-,-⟩:=zM;obtain⟨-,-,-,-,-,w6,w7,-⟩:=uk;simp only[q1,q2,w6,w7,List.drop_zero,List.drop_succ_cons,List.take_succ_cons,List.take_zero]at h0 h1 h2 h3 h4 h5 h6 h7;obtain⟨v0,e0,s0⟩:=km h0;obtain⟨v1,e1,g1⟩:=jl underlying3 h1;obtain⟨v2,e2,g2⟩:=jl underlying3 h2;obtain⟨A3,cp3,v3,e3,r3,_,s3,t3,u3,x3⟩:=qw h3 (by omega);obtain⟨v4,e4,s4⟩:=km h4;obtain⟨v5,e5,g5⟩:=jl underlying3 h5;obtain⟨v6,e6,g6⟩:=jl underlying3 h6;obtain⟨A7,cp7,v7,e7,r7,_,s7,t7,u7,x7⟩:=Zj h7 (by omega);simp only[List.cons.injEq,and_true]at e0 e1 e2 e3 e4 e5 e6 e7;subst e0 e1 e2 e3 e4 e5 e6 e7;exact⟨⟨⟨v0,v1,v2,v3,v4,v5,v6,v7⟩,A3,cp3,A7,cp7⟩,rfl,⟨⟨r3,r7⟩,by simp only;omega,by simp only;omega⟩,by unfold jHT wtS;simp only;omega,by omega⟩
theorem uI(h:Tr enc w fuel 25 cs x)(hB:Rows.uptoBulk x.1<=1048576):∃A c,∃l:List MSt,cs=[.slice A l.length c]/\Rd w 8 A l.length (l.flatMap stC)/\l.length<=c/\l.length<=524288/\(l.map jHT).sum<=130*Rows.uptoBulk x.1/\l.length<=Rows.uptoBulk x.1/\∀m∈l,(Rd w 3 m.pA m.s.params.length (m.s.params.flatMap prC)/\Rd w 3 m.eA m.s.effects.length (m.s.effects.flatMap efC))/\m.s.params.length<=1000000/\m.s.effects.length<=1000000:=
 haveI:Inhabited MSt:=⟨⟨⟨⟨#[]⟩,0,0,[],⟨#[]⟩,0,0,[]⟩,none,0,none,0⟩⟩
 ym underlying25 (by kernel_rfl:prog.cellsOf 111=8) (by decide) (fun _=>rfl) (fun _ _ _ h2 Fj=>Xe h2 Fj) h hB
theorem Xf(h:Tr enc w fuel 46 cs x)(hB:Rows.uptoBulk x.1<=1048576):∃m:MNd,cs=ndC m/\((Rd w 1 m.A m.n.kids.length (m.n.kids.map iv)/\Rd w 1 m.vA m.n.vs.length (m.n.vs.map sv))/\(m.n.kids.length<=2000000/\m.n.vs.length<=2000000)/\m.n.vn<=9223372036854775807/\m.n.vt.size<=100000000)/\jHU m<=90*Rows.uptoBulk x.1/\2<=Rows.uptoBulk x.1:=by
 obtain⟨hl,hf⟩:=kg underlying46 h;have Nk:prog.cellsOf 46=7:=(by kernel_rfl);rw[Nk]at hl;obtain⟨n0,y0,h0,b0⟩:=hf 0 3 0 rfl;obtain⟨n1,y1,h1,b1⟩:=hf 1 9 1 rfl;obtain⟨n2,y2,h2,b2⟩:=hf 2 44 2 rfl;obtain⟨n3,y3,h3,b3⟩:=hf 3 27 6 rfl;obtain⟨c0,l0,rfl,WS⟩:=jJ hl;obtain⟨c1,l1,rfl,ND⟩:=jJ WS;obtain⟨c2,l2,rfl,FM⟩:=jJ ND;obtain⟨c3,l3,rfl,Lf⟩:=jJ FM;obtain⟨c4,l4,rfl,Mh⟩:=jJ Lf;obtain⟨c5,l5,rfl,Le⟩:=jJ Mh;obtain⟨c6,l6,rfl,LX⟩:=jJ Le;obtain rfl:=List.eq_nil_of_length_eq_zero LX;obtain⟨q1,q2,q3,q4,q5⟩:=zM;simp only[jFo,q1,q2,q5,List.drop_zero,List.drop_succ_cons,List.take_succ_cons,List.take_zero]at h0 h1 h2 h3;obtain⟨v0,e0,g0⟩:=jl underlying3 h0;obtain⟨v1,e1,s1⟩:=km h1;obtain⟨A3,cp3,v3,e3,r3,_,s3⟩:=qu h3;obtain⟨FM,WI⟩:=kg underlying44 h2;obtain⟨m0,z0,j0,d0⟩:=WI 0 41 0 rfl;obtain⟨m1,z1,j1,d1⟩:=WI 1 3 1 rfl;obtain⟨m2,z2,j2,d2⟩:=WI 2 9 2 rfl;obtain⟨m3,z3,j3,d3⟩:=WI 3 42 3 rfl;simp only[q1,q2,q3,q4,List.drop_zero,List.drop_succ_cons,List.take_succ_cons,List.take_zero]at j0 j1 j2 j3;obtain⟨vk,f0,_⟩:=jl underlying41 j0;obtain⟨vn,f1,k1⟩:=jl underlying3 j1;obtain⟨vt,f2,s4⟩:=km j2;obtain⟨vA,vc,vs,f3,hv,_,s5,_⟩:=Xc j3;simp only[List.cons.injEq,and_true]at e0 e1 e3 f0 f1 f2 f3;subst e0 e1 e3 f0 f1 f2 f3;exact⟨⟨⟨v0,v1,vk,vn,vt,vs,v3⟩,A3,cp3,vA,vc⟩,rfl,⟨⟨r3,hv⟩,⟨by simp only;omega,by simp only;omega⟩,k1.2,by simp only;omega⟩,by unfold jHU wtN;simp only;omega,by omega⟩
theorem uL(h:Tr enc w fuel 26 cs x)(hB:Rows.uptoBulk x.1<=1048576):∃A c,∃l:List MNd,cs=[.slice A l.length c]/\Rd w 7 A l.length (l.flatMap ndC)/\l.length<=c/\l.length<=524288/\(l.map jHU).sum<=90*Rows.uptoBulk x.1/\l.length<=Rows.uptoBulk x.1/\∀m∈l,(Rd w 1 m.A m.n.kids.length (m.n.kids.map iv)/\Rd w 1 m.vA m.n.vs.length (m.n.vs.map sv))/\(m.n.kids.length<=2000000/\m.n.vs.length<=2000000)/\m.n.vn<=9223372036854775807/\m.n.vt.size<=100000000:=
 haveI:Inhabited MNd:=⟨⟨⟨0,⟨#[]⟩,0,0,⟨#[]⟩,[],[]⟩,none,0,none,0⟩⟩
 ym underlying26 (by kernel_rfl:prog.cellsOf 46=7) (by decide) (fun _=>rfl) (fun _ _ _ h2 Fj=>Xf h2 Fj) h hB
theorem Qa{α β:Type}(f:α->β)(W:β->Nat)(V:α->Nat)(l:List α)(h:∀x,V x=W (f x)):((l.map f).map W).sum=(l.map V).sum:=by
 rw[List.map_map];exact congrArg List.sum (List.map_congr_left fun x _=>(h x).symm)
theorem Xd(h:Tr enc w fuel 29 cs x)(hB:Rows.uptoBulk x.1<=1048576):∃t s ns ps,cs=jF t s/\TrF w t s ns ps/\Pr9 t:=by
 obtain⟨hl,hf⟩:=kg underlying29 h;have Nk:prog.cellsOf 29=8:=(by kernel_rfl);rw[Nk]at hl;obtain⟨n0,y0,h0,b0⟩:=hf 0 9 0 rfl;obtain⟨n1,y1,h1,b1⟩:=hf 1 3 1 rfl;obtain⟨n2,y2,h2,b2⟩:=hf 2 22 2 rfl;obtain⟨n3,y3,h3,b3⟩:=hf 3 23 3 rfl;obtain⟨n4,y4,h4,b4⟩:=hf 4 24 4 rfl;obtain⟨n5,y5,h5,b5⟩:=hf 5 25 5 rfl;obtain⟨n6,y6,h6,b6⟩:=hf 6 26 6 rfl;obtain⟨n7,y7,h7,b7⟩:=hf 7 27 7 rfl;obtain⟨c0,l0,rfl,WS⟩:=jJ hl;obtain⟨c1,l1,rfl,ND⟩:=jJ WS;obtain⟨c2,l2,rfl,FM⟩:=jJ ND;obtain⟨c3,l3,rfl,Lf⟩:=jJ FM;obtain⟨c4,l4,rfl,Mh⟩:=jJ Lf;obtain⟨c5,l5,rfl,Le⟩:=jJ Mh;obtain⟨c6,l6,rfl,LX⟩:=jJ Le;obtain⟨c7,l7,rfl,Ct⟩:=jJ LX;obtain rfl:=List.eq_nil_of_length_eq_zero Ct;obtain⟨q1,q2,-,-,q5⟩:=zM;obtain⟨w1,w2,w3,w4,w5,-,-,-⟩:=uk;simp only[q1,q2,q5,w1,w2,w3,w4,w5,List.drop_zero,List.drop_succ_cons,List.take_succ_cons,List.take_zero]at h0 h1 h2 h3 h4 h5 h6 h7;obtain⟨v0,e0,s0⟩:=km h0;obtain⟨v1,e1,_⟩:=jl underlying3 h1;obtain⟨A2,cp2,v2,e2,r2,_,s2,t2,u2,x2⟩:=VW h2 (by omega);obtain⟨A3,cp3,v3,e3,r3,_,s3,t3,u3,x3⟩:=qv h3 (by omega);obtain⟨A4,cp4,v4,e4,r4,_,s4,t4,u4,x4⟩:=uM h4 (by omega);obtain⟨A5,cp5,v5,e5,r5,_,s5,t5,u5,x5⟩:=uI h5 (by omega);obtain⟨A6,cp6,v6,e6,r6,_,s6,t6,u6,x6⟩:=uL h6 (by omega);obtain⟨A7,cp7,v7,e7,r7,_,s7⟩:=qu h7;simp only[List.cons.injEq,and_true]at e0 e1 e2 e3 e4 e5 e6 e7;subst e0 e1 e2 e3 e4 e5 e6 e7;have g5:(v5.map (·.s)).length=v5.length:=jK7 ..;have g6:(v6.map (·.n)).length=v6.length:=jK7 ..;refine⟨⟨v0,v1,v7,v6.map (·.n),v5.map (·.s),v2,v3,v4⟩,⟨A2,cp2,A3,cp3,A4,cp4,A5,cp5,A6,cp6,A7,cp7,fun _=>False⟩,v6,v5,?_,⟨r2,r3,r4,?_,?_,r7,rfl,rfl,fun m hm=>(x5 m hm).1,fun m hm=>(x6 m hm).1⟩,⟨⟨?_,?_,?_,?_,?_,?_,fun y hy=> ?_,fun y hy=> ?_⟩,fun y hy=> ?_,?_⟩⟩
 ·show _=[_,_,_,_,_,_,_,_];simp only[iv,g5,g6]
 ·simp only[g5];exact r5
 ·simp only[g6];exact r6
 ·simp only;omega
 ·simp only;omega
 ·simp only;omega
 ·simp only[g5];omega
 ·simp only[g6];omega
 ·simp only;omega
 ·obtain⟨m,hm,rfl⟩:=List.mem_map.1 hy;exact(x5 m hm).2
 ·obtain⟨m,hm,rfl⟩:=List.mem_map.1 hy;exact(x6 m hm).2.1
 ·obtain⟨m,hm,rfl⟩:=List.mem_map.1 hy;exact(x6 m hm).2.2
 ·have j5:=Qa (·.s) wtS jHT v5 (fun _=>rfl);have j6:=Qa (·.n) wtN jHU v6 (fun _=>rfl);unfold Zv jED zv Tre.count jN;simp only[List.drop_zero,g5,j5,j6];omega
end
end Go.Proofs.YtmmjcbbogokmfaaGreatDoor

import Derived.Test.YtifbhcfdealfaaaGreatDoorMl11
set_option maxRecDepth 100000
set_option maxHeartbeats 25600000
namespace Go.Proofs.YtifbhcfdealfaaaGreatDoor
open Go.Proofs.Tryz
open Go.RowKit
theorem Yv(w:World)(hg:Sg w)(x:MNd):Calls prog 136 #[.agg (ndC x).toArray] w fun e w' =>e=.returned (.bool (js x.n))/\Old w w' :=by
 obtain⟨⟨op,name,vk,vn,vt,vs,kids⟩,A,c,vA,vc⟩:=x;have SR:=zM name;have HL:=G (fun W (hO:Old w W)=>vg W (hg.old hO) name);clear hg;obtain⟨K,k,kN,Q,vt',hC⟩:=jHB op vn vt kids.length;by_cases Fz:1<=op/\op<34
 ·rcases stages (vk=K) Q vt' vs kids k with a|⟨a,b⟩|⟨a,b,d⟩|⟨a,b,d,e⟩|⟨a,b,d,e,f⟩|⟨a,b,d,e,f⟩
  all_goals
   rcases hC with⟨rfl,rfl,rfl,⟨h0|h0|h0|h0|h0|h0|h0,rfl,rfl⟩|⟨h0|h0|h0,rfl,rfl⟩|⟨h0,rfl,rfl⟩|⟨h0,rfl,rfl⟩|⟨⟨q1,q2,q3,q4,q29,q30,q5,q24,q25,q26,q6,q7,q8,q27,q23⟩,rfl,rfl⟩⟩|⟨h0,rfl,rfl,rfl,rfl,rfl⟩|⟨h0,rfl,rfl,rfl,rfl,rfl⟩|⟨h0,rfl,rfl,rfl,rfl,rfl⟩
  all_goals
   try first|exact absurd (tl_size.2 rfl) d|(simp at f;done)
   all_goals
    first|have a2:=bnt a|have a2:=bnf a
    try first|have b2:=bnt b|have b2:=bnf b|have b2:vn<0:=by omega|have b2:¬vn<0:=by omega
    try have b6:=bnf b.symm
    try have b6:=bnt (Ne.symm b)
    try have b3:¬vn=0:=by omega
    try have b4:¬vn=1:=by omega
    try have b5:vn=0\/vn=1:=by omega
    try first|have f2:=bne_iff_ne.1 f|have f2:=bne_eq_false_iff_eq.1 f
    try have f3:¬kids.length=_:=fun e=>f2 (by rw[e];rfl)
    try have f3:kids.length=_:=Int.ofNat.inj f2
    first
     |have hy:js ⟨op,name,vk,vn,vt,vs,kids⟩=false:=by first|(have _g:¬_:=a;simp_all [js];done)|(have _g:¬_:=b;simp_all [js];done)|(have _g:¬_:=b;simp_all [js];omega)|(have _g:0<_:=e;first|(simp_all [js,tl_size];done)|(simp_all [js,tl_size,List.length_pos_iff];done)|simp_all [js,List.length_pos_iff])|(have _g:¬_:=d;simp_all [js,tl_size];done)|(have _g:(_ !=_)=true:=f;first|(simp_all [js,tl_size];done)|simp_all [js])
      simp only[hy]
     |have hy:js ⟨op,name,vk,vn,vt,vs,kids⟩=name.toList.isEmpty:=by first|(simp_all [js];done)|simp_all [js,tl_size]
      simp only[hy]
     |have hy:js ⟨op,name,vk,vn,vt,vs,kids⟩=kY (sb name):=by simp_all [js,tl_size,zh,tb,sb]
      simp only[hy];cases hlg:kY (sb name)
    all_goals
     clear hy SR
     try rw[hlg]at HL
     try subst e
     try subst h0
     have AS:=qt vn;have g1:¬34<=(_:Int):=Int.not_le.2 Fz.2;have g2:¬(_:Int)<1:=Int.not_lt.2 Fz.1;unfold ndC iv;simp only;go_enter func136,ntmps136;go_wp2_with (first|(go_at_call 54;refine(HL.out _ (by first|exact jQ0 _ _ |(first|exact((jQ0 _ _).alloc _)|exact((jQ0 _ _).alloc _).alloc _ |exact(((jQ0 _ _).alloc _).alloc _).alloc _))).mono ?_;rintro e w1 ⟨rfl,rfl⟩)|fail)
     all_goals
      go_ret;exact⟨rfl,by first|exact((jQ0 _ _).alloc _)|exact((jQ0 _ _).alloc _).alloc _ |exact(((jQ0 _ _).alloc _).alloc _).alloc _⟩
 ·have hy:js ⟨op,name,vk,vn,vt,vs,kids⟩=false:=by
   have q:∀c:Int,1<=c/\c<34->¬op=c:=fun c hc e=>Fz (e▸hc);simp[js,q 1 (by decide),q 2 (by decide),q 3 (by decide),q 4 (by decide),q 29 (by decide),q 30 (by decide),q 5 (by decide),q 24 (by decide),q 25 (by decide),q 26 (by decide),q 6 (by decide),q 7 (by decide),q 8 (by decide),q 27 (by decide),q 23 (by decide),decide_eq_false Fz]
  simp only[hy];have q:∀c:Int,1<=c/\c<34->(op==c)=false:=fun c hc=>jM3 (fun e=>Fz (e▸hc));have q1:=q 1 (by decide);have q2:=q 2 (by decide);have q3:=q 3 (by decide);have q4:=q 4 (by decide);have q29:=q 29 (by decide);have q30:=q 30 (by decide);have q5:=q 5 (by decide);have q24:=q 24 (by decide);have q25:=q 25 (by decide);have q26:=q 26 (by decide);have q6:=q 6 (by decide);have q7:=q 7 (by decide);have q8:=q 8 (by decide);have q27:=q 27 (by decide);have q23:=q 23 (by decide);have g:op<1\/34<=op/\¬op<1:=(by omega);clear hy SR hC Fz q;unfold ndC iv;simp only;rcases g with g1|⟨g1,g2⟩
  all_goals
   go_enter func136,ntmps136;go_wp2;go_ret;exact⟨rfl,by first|exact((jQ0 _ _).alloc _)|exact((jQ0 _ _).alloc _).alloc _ |exact(((jQ0 _ _).alloc _).alloc _).alloc _⟩
end Go.Proofs.YtifbhcfdealfaaaGreatDoor

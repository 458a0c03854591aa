import Derived.Test.YtmmjcbbogokmfaaGreatDoorMp12
import Derived.Test.YtmmjcbbogokmfaaGreatDoorMp13
set_option maxRecDepth 100000
set_option maxHeartbeats 25600000
namespace Go.Proofs.YtmmjcbbogokmfaaGreatDoor
open Go.Proofs.Tryz
open Go.RowKit
def KO(op:Int):Bool:=decide (op=5\/op=24\/op=25\/op=26)
def Xo(n:Nd):Bool:=
 if n.op=1 then decide (n.vk=1/\0<=n.vn/\n.vt.size=0)
 else if n.op=2 then decide (n.vk=2/\(n.vn=0\/n.vn=1)/\n.vt.size=0)
 else if n.op=3 then decide (n.vk=3/\n.vn=0)
 else decide (n.vk=0/\n.vn=0/\n.vt.size=0)
def yP(n:Nd):Bool:=
 if VA n.op= -2\/(0<=VA n.op/\(n.kids.length:Int)≠VA n.op)then false
 else if(if KO n.op=true then jb n.name=false else n.name.size≠0)then false
 else if n.vs≠ []then false
 else Xo n
theorem bqt{a b:Int}(h:a=b):(a==b)=true:=beq_iff_eq.2 h
theorem bqf{a b:Int}(h:¬a=b):(a==b)=false:=jM3 h
theorem jHl(A B C D E F:Prop):¬A\/(A/\¬B)\/(A/\B/\¬C)\/(A/\B/\C/\¬D)\/(A/\B/\C/\D/\¬E)\/(A/\B/\C/\D/\E/\¬F)\/(A/\B/\C/\D/\E/\F):=by
 by_cases a:A
 ·by_cases b:B
  ·by_cases c:C
   ·by_cases d:D
    ·by_cases e:E
     ·by_cases f:F
      ·exact .inr (.inr (.inr (.inr (.inr (.inr ⟨a,b,c,d,e,f⟩)))))
      ·exact .inr (.inr (.inr (.inr (.inr (.inl ⟨a,b,c,d,e,f⟩)))))
     ·exact .inr (.inr (.inr (.inr (.inl ⟨a,b,c,d,e⟩))))
    ·exact .inr (.inr (.inr (.inl ⟨a,b,c,d⟩)))
   ·exact .inr (.inr (.inl ⟨a,b,c⟩))
  ·exact .inr (.inl ⟨a,b⟩)
 ·exact .inl a
def jIF(op vn:Int)(name vt:BA)(n:Nat)(K kc:Int)(A B E F:Prop):Prop:=
 (op=5\/op=24\/op=25\/op=26)/\0=K/\0=kc/\((n:Int)=0)=A/\(jb name=true)=B/\(vn=0)=E/\(vt.size=0)=F\/
 op=1/\0=K/\1=kc/\((n:Int)=0)=A/\(name.size=0)=B/\(0<=vn)=E/\(vt.size=0)=F\/
 op=2/\0=K/\2=kc/\((n:Int)=0)=A/\(name.size=0)=B/\(vn=0\/vn=1)=E/\(vt.size=0)=F\/
 op=3/\0=K/\3=kc/\((n:Int)=0)=A/\(name.size=0)=B/\(vn=0)=E/\True=F\/
 op=6/\ -1=K/\0=kc/\True=A/\(name.size=0)=B/\(vn=0)=E/\(vt.size=0)=F\/
 ((¬op=1/\¬op=2/\¬op=3/\¬op=5/\¬op=6/\¬op=24/\¬op=25/\¬op=26)/\0<=K)/\K=K/\0=kc/\((n:Int)=K)=A/\(name.size=0)=B/\(vn=0)=E/\(vt.size=0)=F\/
 ((¬op=1/\¬op=2/\¬op=3/\¬op=5/\¬op=6/\¬op=24/\¬op=25/\¬op=26)/\K= -2)/\K=K/\0=kc/\False=A/\(name.size=0)=B/\(vn=0)=E/\(vt.size=0)=F
theorem jIC{op:Int}{K:Int}(h:VA op=K)(vn:Int)(name vt:BA)(n:Nat):∃kc A B E F,jIF op vn name vt n K kc A B E F:=by
 by_cases h1:op=5\/op=24\/op=25\/op=26
 ·exact⟨_,_,_,_,_,.inl ⟨h1,by rw[<-h];rcases h1 with rfl|rfl|rfl|rfl<;>rfl,rfl,rfl,rfl,rfl,rfl⟩⟩
 by_cases h2:op=1
 ·exact⟨_,_,_,_,_,.inr (.inl ⟨h2,by rw[<-h,h2];rfl,rfl,rfl,rfl,rfl,rfl⟩)⟩
 by_cases h3:op=2
 ·exact⟨_,_,_,_,_,.inr (.inr (.inl ⟨h3,by rw[<-h,h3];rfl,rfl,rfl,rfl,rfl,rfl⟩))⟩
 by_cases h4:op=3
 ·exact⟨_,_,_,_,_,.inr (.inr (.inr (.inl ⟨h4,by rw[<-h,h4];rfl,rfl,rfl,rfl,rfl,rfl⟩)))⟩
 by_cases h5:op=6
 ·exact⟨_,_,_,_,_,.inr (.inr (.inr (.inr (.inl ⟨h5,by rw[<-h,h5];rfl,rfl,rfl,rfl,rfl,rfl⟩))))⟩
 have hk:K= -2\/0<=K:=by
  rw[<-h];unfold VA
  repeat' split
  all_goals omega
 rcases hk with hk|hk
 ·exact⟨_,_,_,_,_,.inr (.inr (.inr (.inr (.inr (.inr ⟨⟨by omega,hk⟩,rfl,rfl,rfl,rfl,rfl,rfl⟩)))))⟩
 ·exact⟨_,_,_,_,_,.inr (.inr (.inr (.inr (.inr (.inl ⟨⟨by omega,hk⟩,rfl,rfl,rfl,rfl,rfl,rfl⟩)))))⟩
theorem XI(w:World)(hg:SgR w)(x:MNd):Calls prog 23 #[.agg (ndC x).toArray] w fun e w' =>e=.returned (.bool (yP x.n))/\Old w w' :=by
 obtain⟨⟨op,name,vk,vn,vt,vs,kids⟩,A0,c,vA,vc⟩:=x;have HK:=G (fun W=>jAK W op);have HL:=G (fun W (hO:Old w W)=>ZC W (hg.old hO) name);clear hg;obtain⟨K,CK⟩:∃K,VA op=K:=⟨_,rfl⟩;rw[CK]at HK;obtain⟨kc,A,B,E,F,hC⟩:=jIC CK vn name vt kids.length;rcases jHl A B (vs=[]) (vk=kc) E F with a|⟨a,b⟩|⟨a,b,d⟩|⟨a,b,d,e⟩|⟨a,b,d,e,f⟩|⟨a,b,d,e,f,g⟩|⟨a,b,d,e,f,g⟩
 all_goals
  rcases hC with⟨h0|h0|h0|h0,rfl,rfl,rfl,rfl,rfl,rfl⟩|⟨h0,rfl,rfl,rfl,rfl,rfl,rfl⟩|⟨h0,rfl,rfl,rfl,rfl,rfl,rfl⟩|⟨h0,rfl,rfl,rfl,rfl,rfl,rfl⟩|⟨h0,rfl,rfl,rfl,rfl,rfl,rfl⟩|⟨⟨⟨h1,h2,h3,h5,h6,PP,PM,Pi⟩,hk⟩,-,rfl,rfl,rfl,rfl,rfl⟩|⟨⟨⟨h1,h2,h3,h5,h6,PP,PM,Pi⟩,hk⟩,-,rfl,rfl,rfl,rfl,rfl⟩
 all_goals
  try first|exact a.elim|exact absurd trivial a|exact absurd trivial g
  all_goals
   first
    |have hy:yP ⟨op,name,vk,vn,vt,vs,kids⟩=false:=by first|(have _g:¬_:=a;first|(simp_all [yP];done)|(simp_all [yP];omega))|(have _g:¬_:=b;first|(simp_all [yP,KO];done)|(simp_all [yP,KO];omega))|(have _g:¬_:=d;first|(simp_all [yP];done)|(simp_all [yP,KO];done))|(simp_all [yP,KO,Xo];done)|(simp_all [yP,KO,Xo];omega)
     simp only[hy]
    |have hy:yP ⟨op,name,vk,vn,vt,vs,kids⟩=true:=by first|(simp_all [yP,KO,Xo];done)|(simp_all [yP,KO,Xo];omega)
     simp only[hy]
   clear hy
   try rw[show js (sb name)=false from(Bool.not_eq_true _).mp b]at HL
   try rw[show js (sb name)=true from b]at HL
   try have b2:name.toList.isEmpty=false:=by rw[ke];exact jK3 b
   try have b2:name.toList.isEmpty=true:=by rw[ke];exact jK5 b
   try first|have a2:=bnt a|have a2:=bnf a
   try first|have p2:=bqt hk|have p2:=bqf (show¬K= -2 by omega)
   try have q1:=bqf h1
   try have q2:=bqf h2
   try have q3:=bqf h3
   try have q5:=bqf h5
   try have q24:=bqf PP
   try have q25:=bqf PM
   try have q26:=bqf Pi
   try have d2:(0:Int)<(vs.length:Int):=by have:=List.length_pos_iff.2 d;omega
   try subst d
   try first|have e2:=bqf e|have e2:=bqt e
   try first|have f2:=bqf f|have f2:=bqt f
   try have f2:=bqf (fun e=>f (.inl e))
   try have f3:=bqf (fun e=>f (.inr e))
   try have g2:vt.toList.isEmpty=false:=by rw[ke];exact jK3 g
   try have g2:vt.toList.isEmpty=true:=by rw[ke];exact jK5 g
   try subst h0
   try rcases f with f|f
   all_goals
    try (have f2:=bqt f;subst f)
    try clear CK
    unfold ndC iv;go_enter func23,ntmps23;go_wp2_with (first|(go_at_call 21;refine(HL.out _ (by first|exact(jQ0 _ _)|exact((jQ0 _ _).alloc _)|exact((jQ0 _ _).alloc _).alloc _ |exact(((jQ0 _ _).alloc _).alloc _).alloc _)).mono ?_;rintro e w1 ⟨rfl,rfl⟩)|(go_at_call 73;refine(HK.out _).mono ?_;rintro e w1 ⟨rfl,rfl⟩)|fail);go_ret;exact⟨rfl,by first|exact(jQ0 _ _)|exact((jQ0 _ _).alloc _)|exact((jQ0 _ _).alloc _).alloc _ |exact(((jQ0 _ _).alloc _).alloc _).alloc _⟩
end Go.Proofs.YtmmjcbbogokmfaaGreatDoor

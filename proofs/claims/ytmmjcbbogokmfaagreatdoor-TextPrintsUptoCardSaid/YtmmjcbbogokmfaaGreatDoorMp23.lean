import Derived.Test.YtmmjcbbogokmfaaGreatDoorMp21
import Derived.Test.YtmmjcbbogokmfaaGreatDoorMp22
set_option maxRecDepth 100000
set_option maxHeartbeats 25600000
namespace Go.Proofs.YtmmjcbbogokmfaaGreatDoor
open Go.Proofs.Tryz
open Go.RowKit
theorem jDf{s:Wr9}(h:s.ok=false)(r:Int):s.done r=⟨s.ok,s.used+1,s.b⟩:=by
 unfold Wr9.done;rw[h];rfl
theorem jBi{s:Wr9}(h:s.ok=true){r:Int}(hr:r=(s.used:Int)):s.done r=⟨s.ok,s.used+1,s.b⟩:=by
 unfold Wr9.done;rw[h,jK5 hr];rfl
theorem jBj{s:Wr9}{r:Int}(hr:¬r=(s.used:Int)):s.done r=⟨false,s.used+1,s.b⟩:=by
 unfold Wr9.done;rw[jK3 hr,Bool.and_false]
theorem jB8{g:Int->Nat->Wr9->Wr9}(hg:∀(k:Int) (l:Nat) (s:Wr9),s.le (g k l s))(n:Nd)(s:Wr9):s.le (kK g n s):=by
 unfold kK;split
 ·exact s.le_put _
 split
 ·exact s.le_put _
 split
 ·exact s.le_put _
 split
 ·exact s.le_put _
 split
 ·exact s.le_put _
 split
 ·exact(((s.le_put [123]).trans (KQ (.refl _) (Wr9.le_put _ _))).trans (vo hg _ _ _)).trans (Wr9.le_put _ _)
 ·exact((((s.le_put (jA n.op)).trans (Wr9.le_put _ [40])).trans (KQ (.refl _) (Wr9.le_put _ _))).trans (vo hg _ _ _)).trans (Wr9.le_put _ _)
theorem jD4{g:Int->Nat->Wr9->Wr9}(hg:∀(k:Int) (l:Nat) (s:Wr9),Lu 0 s (g k l s)){n:Nd}(_:jK n=true)(s:Wr9):Lu 0 s (kK g n s):=by
 have P:∀x,Lu 0 s (s.put x):=fun x=>(kW s x).mono (Nat.zero_le _);unfold kK;split
 ·exact P _
 split
 ·exact P _
 split
 ·exact P _
 split
 ·exact P _
 split
 ·exact P _
 split
 ·exact(((P [123]).trans (uQ (.refl _) ((kW _ _).mono (Nat.zero_le _)))).trans (YU hg _ _ _)).trans ((kW _ [125]).mono (Nat.zero_le _))
 ·exact((((P (jA n.op)).trans ((kW _ [40]).mono (Nat.zero_le _))).trans (uQ (.refl _) ((kW _ _).mono (Nat.zero_le _)))).trans (YU hg _ _ _)).trans ((kW _ [41]).mono (Nat.zero_le _))
theorem jAV(w W:World)(t:Tre)(s:Sl)(f:Nat)(PC:ur w t s f)(st:Wr9)(B:OA)(bc:Nat)(h:Rw9 w t s st B bc W)(x:MNd)(root:Int)(Gx:root<=(t.nodes.length:Int))(W8:root.toNat<=f)(Ff:Rd w 1 x.A x.n.kids.length (x.n.kids.map iv))(Gj:x.n.kids.length<=1000000000)(hr:jK x.n=true)(hu:st.Ub)
  (Hm:x.n.op=1\/x.n.op=2\/x.n.op=3\/x.n.op=4\/x.n.op=5\/x.n.op=6\/24<=x.n.op/\x.n.op<=33) (hv:x.n.vn<=9223372036854775807/\x.n.vt.size<=100000000) (hl:(kK (fun k l s=>jU t.nodes f k root l s) x.n st).b.length<=jN):
  Calls prog 196 #[.pointer (some ⟨w.heap.size,0,none⟩),.agg (ndC x).toArray,.int .i64 root] W (WrR w t s (kK (fun k l s=>jU t.nodes f k root l s) x.n st) W):=by
 rcases Hm with e|e|e|e|e|e|e
 ·exact jAU w W t s f st B bc h x root hr e hv.1 hl
 ·rcases jEP hr e with e2|e2
  ·exact XS w W t s f st B bc h x root e e2 hl
  ·exact XR w W t s f st B bc h x root e e2 hl
 ·exact XT w W t s f st B bc h x root e hv.2 hl
 ·exact XU w W t s f st B bc h x root e hl
 ·exact XV w W t s f st B bc h x root e hl
 ·exact jAT w W t s f PC st B bc h x root Gx W8 Ff Gj hr hu e hl
 ·by_cases Wp:x.n.name.size=0
  ·exact uD w W t s f PC st B bc h x root Gx W8 Ff Gj hr hu e Wp hl
  ·exact uC w W t s f PC st B bc h x root Gx W8 Ff Gj hr hu e Wp hl
theorem jBr{g:Int->Nat->Wr9->Wr9}(hg:∀(k:Int) (l:Nat) (s:Wr9),s.le (g k l s))(n:Nd)(s:Wr9):s.le (zf g n s):=by
 unfold zf;split
 ·exact(((((s.le_put _).trans (hg _ _ _)).trans (Wr9.le_put _ _)).trans (hg _ _ _)).trans (Wr9.le_put _ _)).trans (hg _ _ _)
 split
 ·exact(s.le_put _).trans (hg _ _ _)
 split
 ·exact((hg _ _ s).trans (Wr9.le_put _ _)).trans (hg _ _ _)
 ·exact jB8 hg n s
theorem Yg{st st' :Wr9}{x:LB}(e:st' =st.put x)(q:st'.b.length<=jN):st.b.length<=jN:=jL4 (by rw[e];exact st.le_put _) q
theorem jAX{ns:List Nd}{f l:Nat}{k r:Int}{st st' :Wr9}(e:st' =jU ns f k r l st)(q:st'.b.length<=jN):st.b.length<=jN:=jL4 (by rw[e];exact yI _ _ _ _ _ _) q
theorem ZU{st st' :Wr9}{x:LB}(e:st' =st.put x)(u:st.Ub):st'.Ub:=by rw[e];exact u.put _
theorem Qz{ns:List Nd}{f l:Nat}{k r:Int}{st st' :Wr9}(e:st' =jU ns f k r l st)(u:st.Ub):st'.Ub:=by rw[e];exact(zP _ _ _ _ _ _).ub u
theorem Jk(w:World)(t:Tre)(s:Sl){st st' :Wr9}{x:BA}(e:st' =st.put (sb x))(q:st'.b.length<=jN):RowKit.Hid (∀W1 B1 c1,Rw9 w t s st B1 c1 W1->Calls prog 55 #[.pointer (some ⟨w.heap.size,0,none⟩),.string x] W1 (WrR w t s st' W1)):=G fun W1 B1 c1 hp=>by
 subst e;exact jc w W1 t s st B1 c1 hp x q
theorem Xa{w:World}{t:Tre}{s:Sl}{f l root:Nat}(PC:ur w t s f){k:Int}{st st' :Wr9}(e:st' =jU t.nodes f k (root:Int) l st)(u:st.Ub)(h1:root<=f)(h2:root<t.nodes.length)(h3:l<=8)(q:st'.b.length<=jN):RowKit.Hid (∀W1 B1 c1,Rw9 w t s st B1 c1 W1->Calls prog 157 #[.pointer (some ⟨w.heap.size,0,none⟩),.int .i64 k,.int .i64 (root:Int),.int .i64 (l:Int)] W1 (WrR w t s st' W1)):=G fun W1 B1 c1 hp=>by
 subst e;exact PC W1 st B1 c1 k (root:Int) l hp u (fun _ _=>by omega) (by omega) h3 q
theorem XL(w W:World)(hg:SgR w)(h8:8<=w.heap.size)(t:Tre)(s:Sl)(ns:List MNd)(TN:TrN w t s ns)(f:Nat)(PC:ur w t s f)(st:Wr9)(FY:st.ok=true)(hu:st.Ub)(B:OA)(bc:Nat)(h:Rw9 w t s st B bc W)(root:Nat)(below:Int)(least:Nat)(hb:(root:Int)<below)(W8:root<=f)(n:Nd)(hn:t.nodes[root]? =some n)(hr:jK n=true)
  (Rm:n.op=23/\(∃k q z tl,n.kids=k::q::z::tl)\/(jD n.op=3\/jD n.op=7)/\(∃k tl,n.kids=k::tl)\/(jD n.op=1\/jD n.op=2\/jD n.op=5\/jD n.op=6\/jD n.op=4)/\(∃k q tl,n.kids=k::q::tl)\/jD n.op=8) (Ce:n.vn<=9223372036854775807/\n.vt.size<=100000000) (hl:(Zk (fun k l s=>jU t.nodes f k (root:Int) l s) n (root:Int) least st).b.length<=jN):
  Calls prog 157 #[.pointer (some ⟨w.heap.size,0,none⟩),.int .i64 (root:Int),.int .i64 below,.int .i64 (least:Int)] W (WrR w t s (Zk (fun k l s=>jU t.nodes f k (root:Int) l s) n (root:Int) least st) W):=by
 obtain⟨x,b,o,hx,e,hA,hc,Ff,Gj⟩:=TN.at_ hn;have hlt:=(jM5 hn).1;have FK:=TN.cnt;have DB:=G (fun W1 st1 B1 c1 (hp:Rw9 w t s st1 B1 c1 W1)=>hp.c6);rw[hA]at DB;have R:=Vd hr;unfold Zk at hl⊢;obtain⟨s0,e_s0⟩:∃x,x=if jD n.op<least then st.put [40]else st:=⟨_,rfl⟩;rw[<-e_s0]at hl⊢;obtain⟨fn,e_fn⟩:∃x,x=zf (fun k l s=>jU t.nodes f k (root:Int) l s) n s0:=⟨_,rfl⟩;rw[<-e_fn]at hl⊢;obtain⟨sz,e_sz⟩:∃x,x=if jD n.op<least then fn.put [41]else fn:=⟨_,rfl⟩;simp only[<-e_sz]at hl⊢;have q_sz:sz.b.length<=jN:=hl;have q_fn:fn.b.length<=jN:=by
  rw[e_sz]at q_sz;split at q_sz
  ·exact Yg rfl q_sz
  ·exact q_sz
 have u0:s0.Ub:=by rw[e_s0];split<;>first|exact hu.put _ |exact hu
 obtain⟨⟨op,name,vk,vn,vt,vs,kids⟩,A,c,vA,vc⟩:=x;subst e;simp only at hr R Ff Gj Rm Ce e_s0 e_fn e_sz⊢;obtain⟨own,ho⟩:∃x,jD op=x:=⟨_,rfl⟩;rw[ho]at e_s0 e_sz Rm;have Ms:=G (fun W1 st1 B1 c1 (hp:Rw9 w t s st1 B1 c1 W1) i u (hu:(ndC ⟨⟨op,name,vk,vn,vt,vs,kids⟩,A,c,vA,vc⟩)[i]? =some u)=>hp.cellw (hc i u hu));have H:=G h;have MV:=G (Yy W (h.sgr hg h8) ⟨⟨op,name,vk,vn,vt,vs,kids⟩,A,c,vA,vc⟩);rw[show jK (⟨⟨op,name,vk,vn,vt,vs,kids⟩,A,c,vA,vc⟩:MNd).n=true from hr]at MV;have Ab:=G (fun W1=>jBy W1 op);rw[ho]at Ab;have c0:W.cell? ⟨b,o+root*7,none⟩=some (.int .i64 op):=Ms.out _ _ _ _ h 0 _ rfl;have c1:W.cell? ⟨b,o+root*7+1,none⟩=some (.string name):=Ms.out _ _ _ _ h 1 _ rfl;have c2:W.cell? ⟨b,o+root*7+2,none⟩=some (.int .i64 vk):=Ms.out _ _ _ _ h 2 _ rfl;have c3:W.cell? ⟨b,o+root*7+3,none⟩=some (.int .i64 vn):=Ms.out _ _ _ _ h 3 _ rfl;have c4:W.cell? ⟨b,o+root*7+4,none⟩=some (.string vt):=Ms.out _ _ _ _ h 4 _ rfl;have c5:W.cell? ⟨b,o+root*7+5,none⟩=some (.slice vA vs.length vc):=Ms.out _ _ _ _ h 5 _ rfl;have c6:W.cell? ⟨b,o+root*7+6,none⟩=some (.slice A kids.length c):=Ms.out _ _ _ _ h 6 _ rfl;obtain⟨cl,Nk⟩:∃cl:Array Value,cl= #[.int .i64 op,.string name,.int .i64 vk,.int .i64 vn,.string vt,.slice vA vs.length vc,.slice A kids.length c]:=⟨_,rfl⟩;have Ie:=G Nk;clear Nk;have Nt:=DB.out _ _ _ _ h;have k9:=h.c9;rw[FY]at k9;have f1:¬(root:Int)<0:=(by omega);have f1' :(0:Int)<=(root:Int):=(by omega);have f2:(root:Int).toNat=root:=(by omega);have f3:(root:Int)<(t.nodes.length:Int):=(by omega);have f5:¬below<=(root:Int):=(by omega);have f6:(root:Int)<below:=hb;have d1:decide ((root:Int)<0)=false:=jK3 f1;have d2:decide (below<=(root:Int))=false:=jK3 f5;have q_s0:s0.b.length<=jN:=jL4 (by rw[e_fn];exact jBr (fun k l s=>yI _ _ _ _ _ _) _ _) q_fn;have P0:=G (fun Fa:own<least=>Jk w t s (x:=⟨#[40]⟩) (st:=st) (by rw[e_s0,jJ6 Fa];rfl) q_s0);have PZ:=G (fun Fa:own<least=>Jk w t s (x:=⟨#[41]⟩) (st:=fn) (st' :=sz) (by rw[e_sz,jJ6 Fa];rfl) q_sz);have Fa:own<least/\(own:Int)<(least:Int)\/(¬own<least/\¬(own:Int)<(least:Int))/\s0=st/\sz=fn:=by
  by_cases Fa:own<least
  ·exact .inl ⟨Fa,by omega⟩
  ·exact .inr ⟨⟨Fa,by omega⟩,by rw[e_s0,jJ5 Fa],by rw[e_sz,jJ5 Fa]⟩
 rcases Rm with⟨Hm,k,q,z,tl,hk⟩|⟨Hm,k,tl,hk⟩|⟨Hm,k,q,tl,hk⟩|Hm;have q23:(op==23)=true:=by rw[Hm];rfl
 obtain⟨a0,e1⟩:∃x,x=s0.put [105,102]:=⟨_,rfl⟩;obtain⟨g0,e2⟩:∃x,x=jU t.nodes f k (root:Int) 0 a0:=⟨_,rfl⟩;obtain⟨a1,e3⟩:∃x,x=g0.put [116,104,101,110]:=⟨_,rfl⟩;obtain⟨g1,e4⟩:∃x,x=jU t.nodes f q (root:Int) 0 a1:=⟨_,rfl⟩;obtain⟨a2,e5⟩:∃x,x=g1.put [101,108,115,101]:=⟨_,rfl⟩;have e6:fn=jU t.nodes f z (root:Int) 0 a2:=by rw[e_fn,e5,e4,e3,e2,e1];unfold zf;rw[jJ6 Hm,hk];rfl
 have q5:=jAX e6 q_fn;have q4:=Yg e5 q5;have q3:=jAX e4 q4;have q2:=Yg e3 q3;have q1:=jAX e2 q2;have u1:=ZU e1 u0;have u3:=ZU e3 (Qz e2 u1);have u5:=ZU e5 (Qz e4 u3);have uf:=Qz e6 u5;have PA:=Jk w t s (x:=⟨#[105,102]⟩) e1 q1;have PG:=Xa PC e2 u1 W8 hlt (by decide) q2;have PA1:=Jk w t s (x:=⟨#[116,104,101,110]⟩) e3 q3;have PG1:=Xa PC e4 u3 W8 hlt (by decide) q4;have PA2:=Jk w t s (x:=⟨#[101,108,115,101]⟩) e5 q5;have PG2:=Xa PC e6 u5 W8 hlt (by decide) q_fn;obtain rfl:own=0:=by rw[<-ho,Hm];rfl
 obtain⟨kb,ko,rfl,MO⟩:=Ff.2 (by show 0<kids.length;rw[hk];exact Nat.succ_pos _);have KC:=G (fun W1 st1 B1 c1 (hp:Rw9 w t s st1 B1 c1 W1) i u hu=>hp.cellw (MO i u hu));have j0:(0:Int)<(kids.length:Int):=by rw[hk,jK6];omega
 have K0:=G (show(kids.map iv)[0]? =some (iv k)by rw[hk];rfl);have j1:(1:Int)<(kids.length:Int):=by rw[hk,jK6,jK6];omega
 have K1:=G (show(kids.map iv)[1]? =some (iv q)by rw[hk];rfl);have j2:(2:Int)<(kids.length:Int):=by rw[hk,jK6,jK6,jK6];omega
 have K2:=G (show(kids.map iv)[2]? =some (iv z)by rw[hk];rfl);clear MO hk Hm e1 e2 e3 e4 e5 e6 q5 q4 q3 q2 q1 u1 u3 u5;rotate_left 1;have R2:op=7\/op=8:=by rw[<-ho]at Hm;unfold jD at Hm;((repeat' split at Hm)<;>omega)
 have q23:(op==23)=false:=bqf (by omega);obtain⟨a0,e1⟩:∃x,x=s0.put (jA op):=⟨_,rfl⟩;have e2:fn=jU t.nodes f k (root:Int) own a0:=by rw[e_fn,e1];unfold zf;rw[jJ5 (show¬op=23 by omega),jJ6 (by rw[ho];exact Hm),ho,hk];rfl
 have q1:=jAX e2 q_fn;have u1:=ZU e1 u0;have uf:=Qz e2 u1;have PA:=Jk w t s (x:=⟨(jA op).toArray⟩) e1 q1;have PG:=Xa PC e2 u1 W8 hlt (by omega) q_fn;have SP:=G (fun W1=>zB W1 op (by omega));obtain⟨kb,ko,rfl,MO⟩:=Ff.2 (by show 0<kids.length;rw[hk];exact Nat.succ_pos _);have KC:=G (fun W1 st1 B1 c1 (hp:Rw9 w t s st1 B1 c1 W1) i u hu=>hp.cellw (MO i u hu));have j0:(0:Int)<(kids.length:Int):=by rw[hk,jK6];omega
 have K0:=G (show(kids.map iv)[0]? =some (iv k)by rw[hk];rfl);clear MO hk R2 e1 e2 q1 u1;rcases Hm with rfl|rfl;rotate_left 2;have R2:7<=op/\op<=33/\op≠23:=by rw[<-ho]at Hm;unfold jD at Hm;((repeat' split at Hm)<;>omega)
 have q23:(op==23)=false:=bqf (by omega);obtain⟨l1,ND⟩:∃x,x=if own=4 then 5 else own:=⟨_,rfl⟩;obtain⟨g0,e1⟩:∃x,x=jU t.nodes f k (root:Int) l1 s0:=⟨_,rfl⟩;obtain⟨a0,e2⟩:∃x,x=g0.put (jA op):=⟨_,rfl⟩;have e3:fn=jU t.nodes f q (root:Int) (own+1) a0:=by rw[e_fn,e2,e1,ND];unfold zf;rw[jJ5 (show¬op=23 by omega),jJ5 (show¬(jD op=3\/jD op=7)by omega),jJ6 (show jD op<8 by omega),ho,hk];rfl
 have q2:=jAX e3 q_fn;have q1:=Yg e2 q2;have u2:=ZU e2 (Qz e1 u0);have uf:=Qz e3 u2;have PG:=Xa PC e1 u0 W8 hlt (by split at ND<;>omega) q1;have PA:=Jk w t s (x:=⟨(jA op).toArray⟩) e2 q2;have PG1:=Xa PC e3 u2 W8 hlt (by omega) q_fn;have SP:=G (fun W1=>zB W1 op R2);obtain⟨kb,ko,rfl,MO⟩:=Ff.2 (by show 0<kids.length;rw[hk];exact Nat.succ_pos _);have KC:=G (fun W1 st1 B1 c1 (hp:Rw9 w t s st1 B1 c1 W1) i u hu=>hp.cellw (MO i u hu));have j0:(0:Int)<(kids.length:Int):=by rw[hk,jK6];omega
 have K0:=G (show(kids.map iv)[0]? =some (iv k)by rw[hk];rfl);have j1:(1:Int)<(kids.length:Int):=by rw[hk,jK6,jK6];omega
 have K1:=G (show(kids.map iv)[1]? =some (iv q)by rw[hk];rfl);clear MO hk R2 e1 e2 e3 q1 q2 u2;rcases Hm with rfl|rfl|rfl|rfl|rfl<;>subst ND;rotate_left 5;have R2:op≠23/\(op=1\/op=2\/op=3\/op=4\/op=5\/op=6\/24<=op/\op<=33):=by rw[<-ho]at Hm;unfold jD at Hm;((repeat' split at Hm)<;>omega)
 have q23:(op==23)=false:=bqf R2.1;have e1:fn=kK (fun k l s=>jU t.nodes f k (root:Int) l s) ⟨op,name,vk,vn,vt,vs,kids⟩ s0:=by rw[e_fn];unfold zf;rw[jJ5 R2.1,jJ5 (show¬(jD op=3\/jD op=7)by omega),jJ5 (show¬jD op<8 by omega)]
 have uf:fn.Ub:=by rw[e1];exact(jD4 (fun k l s=>zP _ _ _ _ _ _) hr _).ub u0
 have PT:=G (fun W1 B1 c1 (hp:Rw9 w t s s0 B1 c1 W1)=>(show Calls prog 196 #[.pointer (some ⟨w.heap.size,0,none⟩),.agg (ndC ⟨⟨op,name,vk,vn,vt,vs,kids⟩,A,c,vA,vc⟩).toArray,.int .i64 (root:Int)] W1 (WrR w t s fn W1)from by rw[e1];exact jAV w W1 t s f PC s0 B1 c1 hp ⟨⟨op,name,vk,vn,vt,vs,kids⟩,A,c,vA,vc⟩ (root:Int) (by omega) (by omega) Ff Gj hr u0 R2.2 Ce (by rw[e1]at q_fn;exact q_fn)));clear R2 e1;subst Hm
 all_goals
  have UF:sz.Ub:=by rw[e_sz];split<;>first|exact uf.put _ |exact uf
  have UF:=G UF;have QF:=G q_sz;clear h hx hc Ff Gj TN PC hn FK hlt hr R hg h8 hu W8 hb hl FY hA Ce ho q_sz q_fn q_s0 u0 uf e_fn;unfold ndC iv at*;rcases Fa with⟨Fa,f4⟩|⟨⟨Fa,f4⟩,es,ez⟩
  all_goals
   try subst es
   try subst ez
   try have P0:=P0.out Fa
   try have PZ:=PZ.out Fa
   clear e_s0 e_sz;go_enter func157,ntmps157;go_upto_region 3 with(first|(go_at_call 23;refine MV.out.mono ?_;rintro e w1 ⟨rfl,hX⟩;have H:=G (H.out.old hX);have F:=G (FrW.of_old hX);have Nt:=DB.out _ _ _ _ H.out;have c0:w1.cell? ⟨b,o+root*7,none⟩=some (.int .i64 op):=Ms.out _ _ _ _ H.out 0 _ rfl;have c1:w1.cell? ⟨b,o+root*7+1,none⟩=some (.string name):=Ms.out _ _ _ _ H.out 1 _ rfl;have c2:w1.cell? ⟨b,o+root*7+2,none⟩=some (.int .i64 vk):=Ms.out _ _ _ _ H.out 2 _ rfl;have c3:w1.cell? ⟨b,o+root*7+3,none⟩=some (.int .i64 vn):=Ms.out _ _ _ _ H.out 3 _ rfl;have c4:w1.cell? ⟨b,o+root*7+4,none⟩=some (.string vt):=Ms.out _ _ _ _ H.out 4 _ rfl;have c5:w1.cell? ⟨b,o+root*7+5,none⟩=some (.slice vA vs.length vc):=Ms.out _ _ _ _ H.out 5 _ rfl;have c6:w1.cell? ⟨b,o+root*7+6,none⟩=some (.slice _ kids.length c):=Ms.out _ _ _ _ H.out 6 _ rfl;clear hX)|fail);have ho:=(jQ0 NoX w1).alloc (.cells cl 46);have BN:=G (jQ2 w1 46 cl);rw[Ie.out]at ho BN;have H:=G (H.out.old ho);have F:=G (F.out.trans (FrW.of_old ho))
   (try have kc0:World.cell? _ ⟨kb,ko,none⟩=_:=KC.out _ _ _ _ H.out 0 _ K0.out)
   (try have kc1:=KC.out _ _ _ _ H.out 1 _ K1.out)
   (try have kc2:=KC.out _ _ _ _ H.out 2 _ K2.out)
   clear ho c0 c1 c2 c3 c4 c5 c6 Nt k9;go_upto_region 26 with(first|((first|(go_at_call 55;first|refine(PZ.out _ _ _ H.out).mono ?_ |refine(PA2.out _ _ _ H.out).mono ?_ |refine(PA1.out _ _ _ H.out).mono ?_ |refine(PA.out _ _ _ H.out).mono ?_ |refine(P0.out _ _ _ H.out).mono ?_)|(go_at_call 157;first|refine(PG2.out _ _ _ H.out).mono ?_ |refine(PG1.out _ _ _ H.out).mono ?_ |refine(PG.out _ _ _ H.out).mono ?_)|(go_at_call 196;refine(PT.out _ _ _ H.out).mono ?_));rintro e w1 ⟨rfl,B1,c1',hX,hf⟩;have H:=G hX;have F:=G (F.out.trans hf);have BN:=G (hf.blk _ _ _ (by decide) (by decide) BN.out);have n0:=BN.out.at_ 0 (v:=.int .i64 op) rfl;have m1:=BN.out.at_ 1 (v:=.string name) rfl;have m2:=BN.out.at_ 2 (v:=.int .i64 vk) rfl;have m3:=BN.out.at_ 3 (v:=.int .i64 vn) rfl;have m4:=BN.out.at_ 4 (v:=.string vt) rfl;have m5:=BN.out.at_ 5 (v:=.slice vA vs.length vc) rfl;have m6:=BN.out.at_ 6 (v:=.slice _ kids.length c) rfl;(try have kc0:World.cell? _ ⟨kb,ko,none⟩=_:=KC.out _ _ _ _ H.out 0 _ K0.out);(try have kc1:=KC.out _ _ _ _ H.out 1 _ K1.out);(try have kc2:=KC.out _ _ _ _ H.out 2 _ K2.out);clear hX hf)|(go_at_call 195;refine(SP.out _).mono ?_;rintro e w1 ⟨rfl,hX⟩;have H:=G (H.out.old hX);have F:=G (F.out.trans (FrW.of_old hX));have BN:=G (BN.out.old hX);have n0:=BN.out.at_ 0 (v:=.int .i64 op) rfl;have m1:=BN.out.at_ 1 (v:=.string name) rfl;have m2:=BN.out.at_ 2 (v:=.int .i64 vk) rfl;have m3:=BN.out.at_ 3 (v:=.int .i64 vn) rfl;have m4:=BN.out.at_ 4 (v:=.string vt) rfl;have m5:=BN.out.at_ 5 (v:=.slice vA vs.length vc) rfl;have m6:=BN.out.at_ 6 (v:=.slice _ kids.length c) rfl;(try have kc0:World.cell? _ ⟨kb,ko,none⟩=_:=KC.out _ _ _ _ H.out 0 _ K0.out);(try have kc1:=KC.out _ _ _ _ H.out 1 _ K1.out);(try have kc2:=KC.out _ _ _ _ H.out 2 _ K2.out);clear hX)|(go_at_call 194;refine(Ab.out _).mono ?_;rintro e wb ⟨rfl,rfl⟩)|fail);have k9:=H.out.c9;have k8:=H.out.c8;have z8:=H.out.z 8;have z9:=H.out.z 9;have b1:IntKind.i64.wrap ((sz.used:Int)+1)=(sz.used:Int)+1:=jQ3 _ (by have h1:=UF.out;have h2:=QF.out;unfold Wr9.Ub at h1;unfold jN at h2;omega);have HU:=G (H.out.setUsed (sz.used+1));rw[show((sz.used+1:Nat):Int)=(sz.used:Int)+1 by omega]at HU;cases eok:sz.ok with
   |false=>
    rw[eok]at k9;have HD:=G (jDf eok (root:Int));go_wp2_with fail;go_end0;exact⟨rfl,B1,c1',by rw[HD.out];exact HU.out.1,F.out.trans HU.out.2⟩
   |true=>
    rw[eok]at k9;by_cases hsame:(root:Int)=(sz.used:Int)
    ·have m1:((root:Int) !=(sz.used:Int))=false:=by rw[bne,beq_iff_eq.2 hsame];rfl
     have HD:=G (jBi eok hsame);clear hsame;go_wp2_with fail;go_end0;exact⟨rfl,B1,c1',by rw[HD.out];exact HU.out.1,F.out.trans HU.out.2⟩
    ·have m1:((root:Int) !=(sz.used:Int))=true:=by rw[bne,jM3 hsame];rfl
     have HV:=G (H.out.setBad);have HU:=G (HV.out.1.setUsed (sz.used+1));have v8:(w1.setCell ⟨w.heap.size,9,none⟩ (.bool false)).cell? ⟨w.heap.size,8,none⟩=some (.int .i64 (sz.used:Int)):=HV.out.1.c8;have y8:=HV.out.1.z 8;rw[show((sz.used+1:Nat):Int)=(sz.used:Int)+1 by omega]at HU;have HD:=G (jBj hsame);clear hsame;go_wp2_with fail;go_end0;exact⟨rfl,B1,c1',by rw[HD.out];exact HU.out.1,(F.out.trans HV.out.2).trans HU.out.2⟩
end Go.Proofs.YtmmjcbbogokmfaaGreatDoor

import Derived.Test.YtmmjcbbogokmfaaGreatDoorMp20
import Derived.Test.YtmmjcbbogokmfaaGreatDoorMp34
import Derived.Test.YtmmjcbbogokmfaaGreatDoorMp36
set_option maxRecDepth 100000
set_option maxHeartbeats 25600000
namespace Go.Proofs.YtmmjcbbogokmfaaGreatDoor
open Go.Proofs.Tryz
open Go.RowKit
theorem jGP{w:World}{g:Nat}{src:BA}{r:Rdr}{s:Sl}(h:St w g src r s)(hn:r.tree.nodes.length<=1000000)(hk:∀n∈r.tree.nodes,n.kids.length<=1000000000)
  (hA:r.tree.attrs.length<=1000000) (hG:r.tree.stages.length<=1000000) (hM:r.tree.miles.length<=1000000) (hP:r.tree.steps.length<=1000000) (hs:∀x∈r.tree.steps,x.params.length<=1000000/\x.effects.length<=1000000):∃ns ps,TrD w r.tree s ns ps:=by
 obtain⟨ns,ps,R⟩:=h.rows;exact⟨ns,ps,⟨⟨Rd.of_own R.rN,R.ne,hn,fun x hx=>⟨(R.no x hx).kids,hk _ (by rw[<-R.ne];exact List.mem_map_of_mem hx)⟩⟩,Rd.of_own R.rA,Rd.of_own R.rG,Rd.of_own R.rM,Rd.of_own R.rP,R.pe,
  fun x hx=>⟨⟨(R.po x hx).ps,(hs _ (by rw[<-R.pe];exact List.mem_map_of_mem hx)).1⟩,(R.po x hx).es,(hs _ (by rw[<-R.pe];exact List.mem_map_of_mem hx)).2⟩,hA,hG,hM,hP⟩⟩
theorem jF8(w:World)(t:Tre)(s:Sl)(h:∀n∈t.nodes,(n.op=1->n.vn=12)/\n.op≠3):qD w t s:=fun W next l B bc x hm ho hp f l' hk hl=>by
 rcases ho with e|e
 ·exact jHN w W t s f next l l' B bc hp x e ((h _ hm).1 e) hk hl
 ·exact absurd e (h _ hm).2
theorem Small.mile{r:Rdr}(h:Small r):∃m,r.tree.miles=[m]/\m.when_=3:=by
 have h1:=h.miles;rcases hm:r.tree.miles with _ |⟨m,_ |⟨m2,l⟩⟩
 ·rw[hm]at h1;cases h1
 ·rw[hm]at h1;simp only[List.map_cons,List.map_nil,List.cons.injEq,Prod.mk.injEq,and_true]at h1;exact⟨m,rfl,h1.2.2.1⟩
 ·rw[hm]at h1;simp only[List.map_cons,List.cons.injEq]at h1;cases h1.2
theorem Small.node{r:Rdr}(h:Small r){n:Nd}(hn:n∈r.tree.nodes):(n.op=1->n.vn=12)/\n.op≠3/\n.kids.length<=2:=by
 have h1:(n.op,n.vn,n.kids)∈r.tree.nodes.map (fun n=>(n.op,n.vn,n.kids)):=List.mem_map_of_mem hn;rw[h.ops]at h1;simp only[List.mem_cons,Prod.mk.injEq,List.not_mem_nil,or_false]at h1;rcases h1 with⟨e1,e2,e3⟩|⟨e1,e2,e3⟩|⟨e1,e2,e3⟩|⟨e1,e2,e3⟩
 all_goals (rw[e1,e2,e3];exact⟨by decide,by decide,by decide⟩)
theorem Small.op3{r:Rdr}(h:Small r):∃n,r.tree.nodes[3]? =some n/\n.op=8:=by
 have h1:=congrArg (fun l=>l[3]?) h.ops;simp only[jM1]at h1;obtain⟨n,hn,e⟩:=jM4 (h1.trans rfl);exact⟨n,hn,(Prod.mk.inj e).1⟩
theorem Small.vn1{r:Rdr}(h:Small r):∃n,r.tree.nodes[1]? =some n/\n.vn=12:=by
 have h1:=congrArg (fun l=>l[1]?) h.ops;simp only[jM1]at h1;obtain⟨n,hn,e⟩:=jM4 (h1.trans rfl);exact⟨n,hn,(Prod.mk.inj (Prod.mk.inj e).2).1⟩
theorem qR{w:World}{g:Nat}{src:BA}{r:Rdr}{s:Sl}(hs:Small r)(h:St w g src r s):∃ns ps,TrD w r.tree s ns ps:=by
 obtain⟨m,hm,_⟩:=hs.mile;refine jGP h (by rw[hs.len];decide) (fun n hn=>jL4 (hs.node hn).2.2 (by decide)) (by rw[hs.attrs];decide) (by rw[hs.stages];decide) (by rw[hm];exact(by decide:1<=1000000)) (by rw[hs.steps];decide) (fun x hx=> ?_);rw[hs.steps]at hx;cases hx
theorem jAb{w:World}(hg:Sg w)(h8:8<=w.heap.size){r:Rdr}(hs:Small r){s:Sl}{ns:List MNd}{ps:List MSt}(TD:TrD w r.tree s ns ps):∀w1,Old w w1->PrtOk w1 r.tree s:=by
 intro w1 ho;have TD1:=TD.old ho;have Nw:=hg.old ho;have Rx:=jL4 h8 ho.size;obtain⟨m,hm,hw⟩:=hs.mile;have TY:r.tree.miles[0]? =some m:=by rw[hm];rfl
 refine⟨fun d hd W next l B bc hn hp=> ?_,fun d hd W next l l' B bc hp hk hl=> ?_⟩
 ·rw[hs.lay,jL7]at hd;subst hd;have h1:=jAM w1 W Nw Rx r.tree s ns ps TD1 0 m TY next l B bc hp hn;rw[show kZ r.tree (3,0) next=Jd r.tree.nodes m next by
   unfold kZ;rw[jJ5 (by decide),jJ5 (by decide),jJ6 rfl];show(r.tree.miles[0]?).bind _=_;rw[TY];rfl]
  exact h1
 ·rw[hs.lay,jL7]at hd;subst hd;unfold Kg at hk;rw[jJ5 (by decide),jJ5 (by decide),jJ6 rfl]at hk;obtain⟨l4,h4,e4⟩:=jM4 hk;have h5:Yt r.tree.nodes m l=some l4:=by
   have h6:(r.tree.miles[0]?).bind (fun a=>Yt r.tree.nodes a l)=some l4:=h4;rw[TY]at h6;exact h6
  subst e4;have PX:=jEE w1 Nw Rx r.tree s ns TD1.nd (fun n hn=>List.all_eq_true.1 hs.rights n hn) (jF8 w1 r.tree s (fun n hn=>⟨(hs.node hn).1,(hs.node hn).2.1⟩)) (r.tree.nodes.length+1);exact jEI w1 W r.tree s ns ps TD1 PX 0 m TY (by omega) next l l4 B bc hp h5 hl
def jID(w:World)(o:Option LB)(e:Ending)(w' :World):Prop:=
 match o with
 |none=>e=.returned (.tuple #[.slice none 0 0,.bool false])/\Old w w'
 |some l=>∃A c,e=.returned (.tuple #[.slice A l.length c,.bool true])/\w'.ownsRow w.heap.size 5 1 (.slice A l.length c) l.length (l.map bv)/\Old w w'
theorem Xs(w:World)(hg:Sg w)(h8:8<=w.heap.size)(A:OA)(n c:Nat)(l:LB)(hr:Rd w 1 A n (l.map bv)):
  Calls prog 27 #[.slice A n c] w (jID w (ud l)):=by
 have hn:l.length=n:=(by simpa using hr.1);unfold ud;by_cases hs:l.length<=60000
 ·rw[jJ6 hs];have WU:=jj (P:=prog) (w:=w) underlying33 underlying5 underlying9 A n c l hr;have hB:=Yc w hg ⟨l.toArray⟩ (by rw[<-jB,zV];exact hs) h8;rw[zV]at hB;have HF:=G (fun m (hm:vv l=.ok m)=>And.intro (jB1 hm) (jB0 hm));have b1:¬(60000:Int)<(n:Int):=(by omega);have Hg:=G hg;have CR:=G (show sb (⟨l.toArray⟩:BA)=l from zV l);have Hs:=G hs;clear hg hs hr;generalize hX:vv l=X at*;generalize (⟨l.toArray⟩:BA)=src at*;cases X with
  |error k=>
   have HB:=G hB;clear hB hX HF;simp only;go_enter func27,ntmps27;go_wp2_with (go_at_call 76;refine HB.out.mono ?_;rintro e w1 ⟨p,rfl,ho⟩;have HO:=G ho;clear ho)
   go_ret2
   exact⟨rfl,HO.out⟩
  |ok m=>
   have HB:=G hB;have hk:=(HF.out m rfl).1;have AA:=(HF.out m rfl).2;rw[<-CR.out]at hk;have HN:=G (fun W g r A c (hM:Mac W g r src m A c) (hO:Old w W)=>xQ W (Hg.out.old hO) g r src m A c hM (by have:=Hs.out;omega) (by rw[<-jB,CR.out];have:=Hs.out;omega) hk);rw[CR.out]at HN;clear hB hX HF hk AA;simp only;generalize Kb l m=R at*;go_enter func27,ntmps27;go_wp2_with (first|(go_at_call 76;refine HB.out.mono ?_;rintro e w1 ⟨g,r,A1,c1,rfl,hM,ho,_,_⟩;have HO:=G ho;have HM:=G hM;clear ho hM)|(go_at_call 79;refine(HN.out _ _ _ _ _ HM.out HO.out).mono ?_;rintro e w2 ⟨p,rfl,hp,ho,hlen⟩;have Gz:=G (HO.out.old ho);have HP:=G hp;clear ho hp)|(go_at_call 80;refine(XQ _ p R HP.out (by omega)).mono ?_;rintro e w3 ⟨A3,c3,rfl,Hi,ho⟩;have N9:=G (Gz.out.old ho);have Dq:=G (jAi Hi Gz.out.size);clear ho Hi))
   go_ret2
   exact⟨A3,c3,rfl,Dq.out,N9.out⟩
 ·rw[jJ5 hs];have b1:(60000:Int)<(n:Int):=(by omega);clear hs hg hr;go_enter func27,ntmps27;go_wp2
  go_ret2
  exact⟨rfl,jQ0 _ _⟩
end Go.Proofs.YtmmjcbbogokmfaaGreatDoor

import Derived.Test.YtmmjcbbogokmfaaGreatDoorMb39
import Derived.Lib.SlBytesConst
import Derived.Lib.LaidTab
set_option maxRecDepth 100000
set_option maxHeartbeats 25600000
namespace Go.Proofs.YtmmjcbbogokmfaaGreatDoor
open Go.Proofs.Tryz
def kT:LB:=[116,121,112,101,32,97,32,123,32,109,105,108,101,115,116,111,110,101,32,109,32,114,101,97,99,104,101,100,32,119,104,101,110,32,110,111,116,32,98,32,61,32,49,50,32,59,32,125]
def kP:LB:=[116,121,112,101,32,97,32,123,10,109,105,108,101,115,116,111,110,101,32,109,32,114,101,97,99,104,101,100,32,119,104,101,110,32,110,111,116,32,98,32,61,32,49,50,32,59,10,125,10]
def kB:LB:=[116,121,112,101,32,105,110,32,123,32,115,116,97,103,101,32,115,116,97,103,101]
def kF:LB:=[116,121,112,101,32,97,32,123,32,115,116]
def kE:LB:=[97,103,101,9,97,123,125,125]
structure Small(r:Rdr):Prop where
 name:r.tree.name=⟨#[97]⟩
 at_:r.tree.at_=5
 miles:r.tree.miles.map (fun m=>(m.name,m.in_,m.when_,m.order))=[(⟨#[109]⟩,⟨#[]⟩,3,0)]
 attrs:r.tree.attrs=[]
 stages:r.tree.stages=[]
 steps:r.tree.steps=[]
 ats:r.tree.ats=[38,42,40,34]
 len:r.tree.nodes.length=4
 ops:r.tree.nodes.map (fun n=>(n.op,n.vn,n.kids))=[(5,0,[]),(1,12,[]),(11,0,[0,1]),(8,0,[2])]
 prints:yV r.tree=some kP
 rights:r.tree.nodes.all jR=true
 lay:(jx r.tree).l=[(3,0)]
theorem jIR:(match ka kT with| .ok m=>decide (m.stack=[])| .error _=>false)=true:=by decide+kernel
theorem jIZ:(match ka kB with| .ok _=>false| .error k=>decide (k=7))=true:=by decide+kernel
theorem jIY:Vi kF=some kE:=by decide+kernel
theorem jG0:(yh kT 100).isSome=true:=by decide+kernel
theorem jG2:(yh kT 100).map (fun r=>r.tree.name)=some ⟨#[97]⟩:=by decide+kernel
theorem jJg:(yh kT 100).map (fun r=>r.tree.at_)=some 5:=by decide+kernel
theorem jET:(yh kT 100).map (fun r=>r.tree.miles.map (fun m=>(m.name,m.in_,m.when_,m.order)))=some [(⟨#[109]⟩,⟨#[]⟩,3,0)]:=by decide+kernel
theorem jG1:(yh kT 100).map (fun r=>(r.tree.attrs.length,r.tree.stages.length,r.tree.steps.length))=some (0,0,0):=by decide+kernel
theorem jIU:(yh kT 100).map (fun r=>r.tree.ats)=some [38,42,40,34]:=by decide+kernel
theorem jIS:(yh kT 100).map (fun r=>r.tree.nodes.map (fun n=>(n.op,n.vn,n.kids)))=some [(5,0,[]),(1,12,[]),(11,0,[0,1]),(8,0,[2])]:=by decide+kernel
theorem jCJ:(yh kT 100).bind (fun r=>yV r.tree)=some kP:=by decide+kernel
theorem jCI:(yh kT 100).map (fun r=>r.tree.nodes.all jR)=some true:=by decide+kernel
theorem jIT:(yh kT 100).map (fun r=>(jx r.tree).l)=some [(3,0)]:=by decide+kernel
theorem jDe{r:Rdr}(h:yh kT 100=some r):Small r:=by
 have e1:=jG2;have e2:=jJg;have e3:=jET;have e4:=jG1;have e5:=jIU;have e6:=jIS;have e7:=jCJ;have e8:=jCI;have e9:=jIT;rw[h]at e1 e2 e3 e4 e5 e6 e7 e8 e9;simp only[Option.map_some,Option.some.injEq,Prod.mk.injEq,jL2]at e1 e2 e3 e4 e5 e6 e7 e8 e9;refine⟨e1,e2,e3,List.eq_nil_of_length_eq_zero e4.1,List.eq_nil_of_length_eq_zero e4.2.1,List.eq_nil_of_length_eq_zero e4.2.2,e5,?_,e6,e7,e8,e9⟩;have:=congrArg List.length e6;simpa using this
theorem jJf:∃m,ka kT=.ok m/\m.stack=[]:=by
 have h:=jIR;cases hb:ka kT with
 |ok m=>rw[hb]at h;exact⟨m,rfl,jM8 h⟩
 |error k=>rw[hb]at h;cases h
theorem jIa:ka kB=.error 7:=by
 have h:=jIZ;cases hb:ka kB with
 |ok m=>rw[hb]at h;cases h
 |error k=>rw[hb]at h;rw[jM8 h]
open Go.RowKit
theorem Small.mile{r:Rdr}(h:Small r):∃m,r.tree.miles=[m]/\m.when_=3:=by
 have h1:=h.miles;rcases hm:r.tree.miles with _ |⟨m,_ |⟨m2,l⟩⟩
 ·rw[hm]at h1;cases h1
 ·rw[hm]at h1;simp only[List.map_cons,List.map_nil,List.cons.injEq,Prod.mk.injEq,and_true]at h1;exact⟨m,rfl,h1.2.2.1⟩
 ·rw[hm]at h1;simp only[List.map_cons,List.cons.injEq]at h1;cases h1.2
theorem Small.node{r:Rdr}(h:Small r){n:Nd}(hn:n∈r.tree.nodes):(n.op=1->n.vn=12)/\n.op≠3/\n.kids.length<=2:=by
 have h1:(n.op,n.vn,n.kids)∈r.tree.nodes.map (fun n=>(n.op,n.vn,n.kids)):=List.mem_map_of_mem hn;rw[h.ops]at h1;simp only[List.mem_cons,Prod.mk.injEq,List.not_mem_nil,or_false]at h1;rcases h1 with⟨e1,e2,e3⟩|⟨e1,e2,e3⟩|⟨e1,e2,e3⟩|⟨e1,e2,e3⟩
 all_goals (rw[e1,e2,e3];exact⟨by decide,by decide,by decide⟩)
theorem Small.op3{r:Rdr}(h:Small r):∃n,r.tree.nodes[3]? =some n/\n.op=8:=by
 have h1:=congrArg (fun l=>l[3]?) h.ops;simp only[jM1]at h1;obtain⟨n,hn,e⟩:=jM4 (h1.trans rfl);exact⟨n,hn,(Prod.mk.inj e).1⟩
theorem Small.vn1{r:Rdr}(h:Small r):∃n,r.tree.nodes[1]? =some n/\n.vn=12:=by
 have h1:=congrArg (fun l=>l[1]?) h.ops;simp only[jM1]at h1;obtain⟨n,hn,e⟩:=jM4 (h1.trans rfl);exact⟨n,hn,(Prod.mk.inj (Prod.mk.inj e).2).1⟩
theorem xf{w:World}{g:Nat}{src:BA}{r:Rdr}{s:Sl}(hs:Small r)(h:St w g src r s):∃ns ps,TrD w r.tree s ns ps:=by
 obtain⟨m,hm,_⟩:=hs.mile;refine jHr h (by rw[hs.len];decide) (fun n hn=>jL4 (hs.node hn).2.2 (by decide)) (by rw[hs.attrs];decide) (by rw[hs.stages];decide) (by rw[hm];exact(by decide:1<=1000000)) (by rw[hs.steps];decide) (fun x hx=> ?_);rw[hs.steps]at hx;cases hx
theorem jBb{w:World}(hg:Sg w)(h8:8<=w.heap.size){r:Rdr}(hs:Small r){s:Sl}{ns:List MNd}{ps:List MSt}(TD:TrD w r.tree s ns ps):∀w1,Old w w1->PrtOk w1 r.tree s:=by
 intro w1 ho;have TD1:=TD.old ho;have ND:=hg.old ho;have CE:=jL4 h8 ho.size;obtain⟨m,hm,hw⟩:=hs.mile;have Sv:r.tree.miles[0]? =some m:=by rw[hm];rfl
 refine⟨fun d hd W next l B bc hn hp=> ?_,fun d hd W next l l' B bc hp hk hl=> ?_⟩
 ·rw[hs.lay,jL7]at hd;subst hd;have h1:=jBR w1 W ND CE r.tree s ns ps TD1 0 m Sv next l B bc hp hn;rw[show km r.tree (3,0) next=Jw r.tree.nodes m next by
   unfold km;rw[jJ5 (by decide),jJ5 (by decide),jJ6 rfl];show(r.tree.miles[0]?).bind _=_;rw[Sv];rfl]
  exact h1
 ·rw[hs.lay,jL7]at hd;subst hd;unfold Kw at hk;rw[jJ5 (by decide),jJ5 (by decide),jJ6 rfl]at hk;obtain⟨l4,h4,e4⟩:=jM4 hk;have h5:Zg r.tree.nodes m l=some l4:=by
   have h6:(r.tree.miles[0]?).bind (fun a=>Zg r.tree.nodes a l)=some l4:=h4;rw[Sv]at h6;exact h6
  subst e4;have PX:=jFI w1 ND CE r.tree s ns TD1.nd (fun n hn=>List.all_eq_true.1 hs.rights n hn) (jHZ w1 r.tree s (fun n hn=>⟨(hs.node hn).1,(hs.node hn).2.1⟩)) (r.tree.nodes.length+1);exact jFW w1 W r.tree s ns ps TD1 PX 0 m Sv (by omega) next l l4 B bc hp h5 hl
def jKT(w:World)(o:Option LB)(e:Ending)(w' :World):Prop:=
 match o with
 |none=>e=.returned (.tuple #[.slice none 0 0,.bool false])/\Old w w'
 |some l=>∃A c,e=.returned (.tuple #[.slice A l.length c,.bool true])/\w'.ownsRow w.heap.size 5 1 (.slice A l.length c) l.length (l.map bv)/\Old w w'
theorem jAA(w:World)(hg:Sg w)(h8:8<=w.heap.size)(A:OA)(n c:Nat)(l:LB)(hr:Rd w 1 A n (l.map bv)):
  Calls prog 27 #[.slice A n c] w (jKT w (Vi l)):=by
 have hn:l.length=n:=(by simpa using hr.1);unfold Vi;by_cases hs:l.length<=60000
 ·rw[jJ6 hs];have Pc:=yJ (P:=prog) (w:=w) underlying33 underlying5 underlying9 A n c l hr;have hB:=VA w hg ⟨l.toArray⟩ (by rw[<-jB,yS];exact hs) h8;rw[yS]at hB;have HF:=G (fun m (hm:ka l=.ok m)=>And.intro (jCw hm) (jCv hm));have b1:¬(60000:Int)<(n:Int):=(by omega);have Hg:=G hg;have X4:=G (show sb (⟨l.toArray⟩:BA)=l from yS l);have Hs:=G hs;clear hg hs hr;generalize hX:ka l=X at*;generalize (⟨l.toArray⟩:BA)=src at*;cases X with
  |error k=>
   have HB:=G hB;clear hB hX HF;simp only;go_enter func27,ntmps27;go_wp2_with (go_at_call 76;refine HB.out.mono ?_;rintro e w1 ⟨p,rfl,ho⟩;have HO:=G ho;clear ho)
   go_ret2
   exact⟨rfl,HO.out⟩
  |ok m=>
   have HB:=G hB;have hk:=(HF.out m rfl).1;have Dz:=(HF.out m rfl).2;rw[<-X4.out]at hk;have HN:=G (fun W g r A c (hM:Mac W g r src m A c) (hO:Old w W)=>uZ W (Hg.out.old hO) g r src m A c hM (by have:=Hs.out;omega) (by rw[<-jB,X4.out];have:=Hs.out;omega) hk);rw[X4.out]at HN;clear hB hX HF hk Dz;simp only;generalize Ku l m=R at*;go_enter func27,ntmps27;go_wp2_with (first|(go_at_call 76;refine HB.out.mono ?_;rintro e w1 ⟨g,r,A1,c1,rfl,hM,ho,_,_⟩;have HO:=G ho;have HM:=G hM;clear ho hM)|(go_at_call 79;refine(HN.out _ _ _ _ _ HM.out HO.out).mono ?_;rintro e w2 ⟨p,rfl,hp,ho,hlen⟩;have Gi:=G (HO.out.old ho);have HP:=G hp;clear ho hp)|(go_at_call 80;refine(Ui _ p R HP.out (by omega)).mono ?_;rintro e w3 ⟨A3,c3,rfl,Hh,ho⟩;have GN:=G (Gi.out.old ho);have Nh:=G (qe Hh Gi.out.size);clear ho Hh))
   go_ret2
   exact⟨A3,c3,rfl,Nh.out,GN.out⟩
 ·rw[jJ5 hs];have b1:(60000:Int)<(n:Int):=(by omega);clear hs hg hr;go_enter func27,ntmps27;go_wp2
  go_ret2
  exact⟨rfl,jQ0 _ _⟩
theorem XW(w:World)(T:TypeId)(fr:Nat×Nat)(xs:List Value)(n:Nat)(hn:xs.length=n):Rd (w.alloc (.cells xs.toArray T fr)) 1 (some ⟨w.heap.size,0,none⟩) n xs:=
 ⟨by rw[hn,Nat.mul_one],fun _=>⟨w.heap.size,0,rfl,fun j u hu=>by rw[Nat.zero_add,World.cell?_alloc_mark,jJ7];exact hu⟩⟩
theorem jBE(w:World)(A B:OA)(n c d:Nat)(l:LB)(hn:l.length=n)(hx:Rd w 1 A n (l.map bv))(hy:Rd w 1 B n (l.map bv))(hl:n<=9223372036854775807):
  Calls prog 16 #[.slice A n c,.slice B n d] w fun e w' =>e=.returned (.bool true)/\Old w w' :=by
 subst hn;have H:=G (jJM w A B c d l hx hy hl);clear hx hy hl;go_enter func16,ntmps16;go_wp2_with (first|(go_at_call 61;refine H.out.mono ?_;rintro e w1 ⟨rfl,ho⟩;have HO:=G ho;clear ho)|fail);go_ret;exact⟨rfl,HO.out⟩
theorem jIG{w W W1:World}(h:Old w W)(hk:Kp (ZH W.heap.size) W W1):Old w W1:=h.trans (hk.mono (fun b hb e=>by have:W.heap.size<=b:=e;omega)) (fun _ _ e=>e)
theorem jIX(w:World)(hg:Sg w)(h8:8<=w.heap.size):∃r,Small r/\Calls prog 26 #[.slice (some ⟨w.heap.size,0,none⟩) 48 48] (w.alloc (.cells #[.int .u8 116,.int .u8 121,.int .u8 112,.int .u8 101,.int .u8 32,.int .u8 97,.int .u8 32,.int .u8 123,.int .u8 32,.int .u8 109,.int .u8 105,.int .u8 108,.int .u8 101,.int .u8 115,.int .u8 116,.int .u8 111,.int .u8 110,.int .u8 101,.int .u8 32,.int .u8 109,.int .u8 32,.int .u8 114,.int .u8 101,.int .u8 97,.int .u8 99,.int .u8 104,.int .u8 101,.int .u8 100,.int .u8 32,.int .u8 119,.int .u8 104,.int .u8 101,.int .u8 110,.int .u8 32,.int .u8 110,.int .u8 111,.int .u8 116,.int .u8 32,.int .u8 98,.int .u8 32,.int .u8 61,.int .u8 32,.int .u8 49,.int .u8 50,.int .u8 32,.int .u8 59,.int .u8 32,.int .u8 125] 5 (48,48+1))) (jI8 (w.alloc (.cells #[.int .u8 116,.int .u8 121,.int .u8 112,.int .u8 101,.int .u8 32,.int .u8 97,.int .u8 32,.int .u8 123,.int .u8 32,.int .u8 109,.int .u8 105,.int .u8 108,.int .u8 101,.int .u8 115,.int .u8 116,.int .u8 111,.int .u8 110,.int .u8 101,.int .u8 32,.int .u8 109,.int .u8 32,.int .u8 114,.int .u8 101,.int .u8 97,.int .u8 99,.int .u8 104,.int .u8 101,.int .u8 100,.int .u8 32,.int .u8 119,.int .u8 104,.int .u8 101,.int .u8 110,.int .u8 32,.int .u8 110,.int .u8 111,.int .u8 116,.int .u8 32,.int .u8 98,.int .u8 32,.int .u8 61,.int .u8 32,.int .u8 49,.int .u8 50,.int .u8 32,.int .u8 59,.int .u8 32,.int .u8 125] 5 (48,48+1))) ⟨kT.toArray⟩ r):=by
 obtain⟨m,hb,hm⟩:=jJf;obtain⟨r,hr⟩:=Option.isSome_iff_exists.1 jG0;have ho:=(jQ0 NoX w).alloc (.cells #[.int .u8 116,.int .u8 121,.int .u8 112,.int .u8 101,.int .u8 32,.int .u8 97,.int .u8 32,.int .u8 123,.int .u8 32,.int .u8 109,.int .u8 105,.int .u8 108,.int .u8 101,.int .u8 115,.int .u8 116,.int .u8 111,.int .u8 110,.int .u8 101,.int .u8 32,.int .u8 109,.int .u8 32,.int .u8 114,.int .u8 101,.int .u8 97,.int .u8 99,.int .u8 104,.int .u8 101,.int .u8 100,.int .u8 32,.int .u8 119,.int .u8 104,.int .u8 101,.int .u8 110,.int .u8 32,.int .u8 110,.int .u8 111,.int .u8 116,.int .u8 32,.int .u8 98,.int .u8 32,.int .u8 61,.int .u8 32,.int .u8 49,.int .u8 50,.int .u8 32,.int .u8 59,.int .u8 32,.int .u8 125] 5 (48,48+1));exact⟨r,jDe hr,qb _ (hg.old ho) (jL4 h8 ho.size) _ _ _ kT (XW w 5 (48,48+1) (kT.map bv) 48 rfl) (by decide) m hb hm 100 r hr⟩
theorem jG3(w:World)(hg:Sg w)(h8:8<=w.heap.size):Calls prog 26 #[.slice (some ⟨w.heap.size,0,none⟩) 21 21] (w.alloc (.cells #[.int .u8 116,.int .u8 121,.int .u8 112,.int .u8 101,.int .u8 32,.int .u8 105,.int .u8 110,.int .u8 32,.int .u8 123,.int .u8 32,.int .u8 115,.int .u8 116,.int .u8 97,.int .u8 103,.int .u8 101,.int .u8 32,.int .u8 115,.int .u8 116,.int .u8 97,.int .u8 103,.int .u8 101] 5 (21,21+1))) (UT (w.alloc (.cells #[.int .u8 116,.int .u8 121,.int .u8 112,.int .u8 101,.int .u8 32,.int .u8 105,.int .u8 110,.int .u8 32,.int .u8 123,.int .u8 32,.int .u8 115,.int .u8 116,.int .u8 97,.int .u8 103,.int .u8 101,.int .u8 32,.int .u8 115,.int .u8 116,.int .u8 97,.int .u8 103,.int .u8 101] 5 (21,21+1))) 7 90):=by
 have ho:=(jQ0 NoX w).alloc (.cells #[.int .u8 116,.int .u8 121,.int .u8 112,.int .u8 101,.int .u8 32,.int .u8 105,.int .u8 110,.int .u8 32,.int .u8 123,.int .u8 32,.int .u8 115,.int .u8 116,.int .u8 97,.int .u8 103,.int .u8 101,.int .u8 32,.int .u8 115,.int .u8 116,.int .u8 97,.int .u8 103,.int .u8 101] 5 (21,21+1));exact uB _ (hg.old ho) (jL4 h8 ho.size) _ _ _ kB (XW w 5 (21,21+1) (kB.map bv) 21 rfl) (by decide) 7 jIa
theorem jG4(w:World)(hg:Sg w)(h8:8<=w.heap.size):Calls prog 27 #[.slice (some ⟨w.heap.size,0,none⟩) 11 11] (w.alloc (.cells #[.int .u8 116,.int .u8 121,.int .u8 112,.int .u8 101,.int .u8 32,.int .u8 97,.int .u8 32,.int .u8 123,.int .u8 32,.int .u8 115,.int .u8 116] 5 (11,11+1))) fun e w' =>∃A c,e=.returned (.tuple #[.slice A 8 c,.bool true])/\Rd w' 1 A 8 (kE.map bv)/\Old w w' :=by
 have ho:=(jQ0 NoX w).alloc (.cells #[.int .u8 116,.int .u8 121,.int .u8 112,.int .u8 101,.int .u8 32,.int .u8 97,.int .u8 32,.int .u8 123,.int .u8 32,.int .u8 115,.int .u8 116] 5 (11,11+1));have h:=jAA _ (hg.old ho) (jL4 h8 ho.size) _ 11 11 kF (XW w 5 (11,11+1) (kF.map bv) 11 rfl);rw[jIY]at h;refine h.mono ?_;rintro e w' ⟨A,c,he,Hh,L1⟩;exact⟨A,c,he,Rd.of_own Hh,ho.trans L1 (fun _ _ e=>e)⟩
theorem jIV(w:World)(s:LB)(xs:Array Value)(V5:xs=(s.map bv).toArray)(n:Nat)(hn:s.length=n)(hl:n<=9223372036854775807)(A:OA)(c:Nat)(hx:Rd w 1 A n (s.map bv))(k:Nat)(hk:k=w.heap.size):
  Calls prog 16 #[.slice A n c,.slice (some ⟨k,0,none⟩) n n] (w.alloc (.cells xs 5 (n,n+1))) fun e w' =>e=.returned (.bool true)/\Old w w' :=by
 subst V5;subst hk;have ho:=(jQ0 NoX w).alloc (.cells (s.map bv).toArray 5 (n,n+1));exact(jBE _ A _ n c n s hn (hx.old ho) (XW w 5 (n,n+1) (s.map bv) n (by rw[jK7];exact hn)) hl).mono (fun e w' h=>⟨h.1,ho.trans h.2 (fun _ _ e=>e)⟩)
theorem jEN:jQ (sb ⟨#[97,95,49]⟩)=true:=by decide+kernel
theorem jEM:jQ (sb ⟨#[105,110]⟩)=false:=by decide+kernel
theorem jF4(w:World)(hg:Sg w):Calls prog 22 #[.agg #[.int .i64 4,.string ⟨#[]⟩,.int .i64 0,.int .i64 0,.string ⟨#[]⟩,.slice none 0 0,.slice none 0 0]] w fun e w' =>e=.returned (.bool true)/\Old w w' :=
 Yl w hg ⟨⟨4,⟨#[]⟩,0,0,⟨#[]⟩,[],[]⟩,none,0,none,0⟩
theorem jDo(w:World)(hg:Sg w):Calls prog 22 #[.agg #[.int .i64 34,.string ⟨#[]⟩,.int .i64 0,.int .i64 0,.string ⟨#[]⟩,.slice none 0 0,.slice none 0 0]] w fun e w' =>e=.returned (.bool false)/\Old w w' :=
 Yl w hg ⟨⟨34,⟨#[]⟩,0,0,⟨#[]⟩,[],[]⟩,none,0,none,0⟩
theorem QC{r:Rdr}(h:Small r)(s:Sl):(jJ r.tree s).toArray= #[.string ⟨#[97]⟩,.int .i64 5,.slice s.aA 0 s.ac,.slice s.gA 0 s.gc,.slice s.mA 1 s.mc,.slice s.pA 0 s.pc,.slice s.nA 4 s.nc,.slice s.oA 4 s.oc]:=by
 obtain⟨m,hm,_⟩:=h.mile;unfold jJ iv;rw[h.name,h.at_,h.attrs,h.stages,hm,h.steps,h.len,h.ats];rfl
theorem Ub{w:World}{g:Nat}{src:BA}{r:Rdr}{s:Sl}(hs:Small r)(h:St w g src r s):∃b1 o1 b2 o2 b3 o3,s.mA=some ⟨b1,o1,none⟩/\w.cell? ⟨b1,o1+5,none⟩=some (.int .i64 3)/\s.nA=some ⟨b2,o2,none⟩/\w.cell? ⟨b2,o2+21,none⟩=some (.int .i64 8)/\w.cell? ⟨b2,o2+10,none⟩=some (.int .i64 12)/\s.oA=some ⟨b3,o3,none⟩/\w.cell? ⟨b3,o3+2,none⟩=some (.int .i64 40):=by
 obtain⟨ns,ps,TD⟩:=xf hs h;obtain⟨ns',ps',R⟩:=h.rows;obtain⟨m,hm,hw⟩:=hs.mile;obtain⟨b1,o1,SJ,FE⟩:=kH (C:=miC) (fun x=>rfl) TD.rM (k:=0) (x:=m) (by rw[hm];rfl) (by rw[hm];exact Nat.one_pos);obtain⟨n3,WM,e3⟩:=hs.op3;obtain⟨n1,Fl,e1⟩:=hs.vn1;obtain⟨x3,b2,o2,_,ex3,RM,Fq,_,_⟩:=TD.nd.at_ WM;obtain⟨x1,b2',o2',_,ex1,Ld,TK,_,_⟩:=TD.nd.at_ Fl;rw[RM]at Ld;injection Ld with Ld;injection Ld with q1 q2;subst q1;subst q2;obtain⟨b3,o3,Q0,Fh⟩:=(Rd.of_own R.rO).2 (by rw[hs.ats];decide);have c1:=FE 5 (iv m.when_) rfl;have c2:=Fq 0 (iv x3.n.op) rfl;have c3:=TK 3 (iv x1.n.vn) rfl;have c4:=Fh 2 (iv 40) (by rw[hs.ats];rfl);rw[hw]at c1;rw[ex3,e3]at c2;rw[ex1,e1]at c3;exact⟨b1,o1,b2,o2,b3,o3,SJ,c1,RM,c2,c3,Q0,c4⟩
theorem jIW(W:World)(hg:Sg W)(h8:8<=W.heap.size){g:Nat}{src:BA}{r:Rdr}{s:Sl}(hs:Small r)(h:St W g src r s):
  Calls prog 14 #[.agg (jJ r.tree s).toArray] W fun e W' =>∃A c,e=.returned (.tuple #[.slice A 49 c,.int .i64 0])/\Rd W' 1 A 49 (kP.map bv)/\Old W W' :=by
 obtain⟨ns,ps,TD⟩:=xf hs h;have hp:=hs.prints;unfold yV at hp;split at hp
 ·rename_i hfit;refine(xt W hg h8 r.tree s ns ps TD (jBb hg h8 hs TD) hfit kP hp (by decide)).mono ?_;rintro e W' ⟨A,c,he,Hh,hk⟩;exact⟨A,c,he,Rd.of_own Hh,jIG (jQ0 NoX W) hk⟩
 ·cases hp
theorem uO(w:World)(hg:Sg w)(h8:8<=w.heap.size):Calls prog 12 #[] w fun e w' =>e=.returned (.bool true)/\Old w w' :=by
 obtain⟨r,hs,hP⟩:=jIX w hg h8;have HP:=G hP;have Hg:=G hg;have H8:=G h8;have HS:=G hs;have EF:=G (fun W (hO:Old w W)=>jG3 W (hg.old hO) (jL4 h8 hO.size));have Lo:=G (fun W (hO:Old w W)=>jG4 W (hg.old hO) (jL4 h8 hO.size));have Ey:=G (fun W A c (hx:Rd W 1 A 49 (kP.map bv)) k (hk:k=W.heap.size)=>jIV W kP #[.int .u8 116,.int .u8 121,.int .u8 112,.int .u8 101,.int .u8 32,.int .u8 97,.int .u8 32,.int .u8 123,.int .u8 10,.int .u8 109,.int .u8 105,.int .u8 108,.int .u8 101,.int .u8 115,.int .u8 116,.int .u8 111,.int .u8 110,.int .u8 101,.int .u8 32,.int .u8 109,.int .u8 32,.int .u8 114,.int .u8 101,.int .u8 97,.int .u8 99,.int .u8 104,.int .u8 101,.int .u8 100,.int .u8 32,.int .u8 119,.int .u8 104,.int .u8 101,.int .u8 110,.int .u8 32,.int .u8 110,.int .u8 111,.int .u8 116,.int .u8 32,.int .u8 98,.int .u8 32,.int .u8 61,.int .u8 32,.int .u8 49,.int .u8 50,.int .u8 32,.int .u8 59,.int .u8 10,.int .u8 125,.int .u8 10] rfl 49 rfl (by decide) A c hx k hk);have Ez:=G (fun W A c (hx:Rd W 1 A 8 (kE.map bv)) k (hk:k=W.heap.size)=>jIV W kE #[.int .u8 97,.int .u8 103,.int .u8 101,.int .u8 9,.int .u8 97,.int .u8 123,.int .u8 125,.int .u8 125] rfl 8 rfl (by decide) A c hx k hk);have Sd:=G (fun W (hO:Old w W)=>jf W (hg.old hO) ⟨#[97,95,49]⟩);have Sb:=G (fun W (hO:Old w W)=>jf W (hg.old hO) ⟨#[105,110]⟩);rw[jEN]at Sd;rw[jEM]at Sb;have EA:=G (fun W (hO:Old w W)=>jF4 W (hg.old hO));have Z7:=G (fun W (hO:Old w W)=>jDo W (hg.old hO));have GY:=fun(W:World)=>(show(convert 33 33 (.slice (some ⟨W.heap.size,0,none⟩) 48 48)).run prog (W.alloc (.cells #[.int .u8 116,.int .u8 121,.int .u8 112,.int .u8 101,.int .u8 32,.int .u8 97,.int .u8 32,.int .u8 123,.int .u8 32,.int .u8 109,.int .u8 105,.int .u8 108,.int .u8 101,.int .u8 115,.int .u8 116,.int .u8 111,.int .u8 110,.int .u8 101,.int .u8 32,.int .u8 109,.int .u8 32,.int .u8 114,.int .u8 101,.int .u8 97,.int .u8 99,.int .u8 104,.int .u8 101,.int .u8 100,.int .u8 32,.int .u8 119,.int .u8 104,.int .u8 101,.int .u8 110,.int .u8 32,.int .u8 110,.int .u8 111,.int .u8 116,.int .u8 32,.int .u8 98,.int .u8 32,.int .u8 61,.int .u8 32,.int .u8 49,.int .u8 50,.int .u8 32,.int .u8 59,.int .u8 32,.int .u8 125] 5))=.ok (.slice (some ⟨W.heap.size,0,none⟩) 48 48) (W.alloc (.cells #[.int .u8 116,.int .u8 121,.int .u8 112,.int .u8 101,.int .u8 32,.int .u8 97,.int .u8 32,.int .u8 123,.int .u8 32,.int .u8 109,.int .u8 105,.int .u8 108,.int .u8 101,.int .u8 115,.int .u8 116,.int .u8 111,.int .u8 110,.int .u8 101,.int .u8 32,.int .u8 109,.int .u8 32,.int .u8 114,.int .u8 101,.int .u8 97,.int .u8 99,.int .u8 104,.int .u8 101,.int .u8 100,.int .u8 32,.int .u8 119,.int .u8 104,.int .u8 101,.int .u8 110,.int .u8 32,.int .u8 110,.int .u8 111,.int .u8 116,.int .u8 32,.int .u8 98,.int .u8 32,.int .u8 61,.int .u8 32,.int .u8 49,.int .u8 50,.int .u8 32,.int .u8 59,.int .u8 32,.int .u8 125] 5 (48,48+1)))from Lib.run_convert_bytes_const W 33 5 _ _ _ underlying33 underlying5);have FE:=fun(W:World)=>(show(convert 33 33 (.slice (some ⟨W.heap.size,0,none⟩) 49 49)).run prog (W.alloc (.cells #[.int .u8 116,.int .u8 121,.int .u8 112,.int .u8 101,.int .u8 32,.int .u8 97,.int .u8 32,.int .u8 123,.int .u8 10,.int .u8 109,.int .u8 105,.int .u8 108,.int .u8 101,.int .u8 115,.int .u8 116,.int .u8 111,.int .u8 110,.int .u8 101,.int .u8 32,.int .u8 109,.int .u8 32,.int .u8 114,.int .u8 101,.int .u8 97,.int .u8 99,.int .u8 104,.int .u8 101,.int .u8 100,.int .u8 32,.int .u8 119,.int .u8 104,.int .u8 101,.int .u8 110,.int .u8 32,.int .u8 110,.int .u8 111,.int .u8 116,.int .u8 32,.int .u8 98,.int .u8 32,.int .u8 61,.int .u8 32,.int .u8 49,.int .u8 50,.int .u8 32,.int .u8 59,.int .u8 10,.int .u8 125,.int .u8 10] 5))=.ok (.slice (some ⟨W.heap.size,0,none⟩) 49 49) (W.alloc (.cells #[.int .u8 116,.int .u8 121,.int .u8 112,.int .u8 101,.int .u8 32,.int .u8 97,.int .u8 32,.int .u8 123,.int .u8 10,.int .u8 109,.int .u8 105,.int .u8 108,.int .u8 101,.int .u8 115,.int .u8 116,.int .u8 111,.int .u8 110,.int .u8 101,.int .u8 32,.int .u8 109,.int .u8 32,.int .u8 114,.int .u8 101,.int .u8 97,.int .u8 99,.int .u8 104,.int .u8 101,.int .u8 100,.int .u8 32,.int .u8 119,.int .u8 104,.int .u8 101,.int .u8 110,.int .u8 32,.int .u8 110,.int .u8 111,.int .u8 116,.int .u8 32,.int .u8 98,.int .u8 32,.int .u8 61,.int .u8 32,.int .u8 49,.int .u8 50,.int .u8 32,.int .u8 59,.int .u8 10,.int .u8 125,.int .u8 10] 5 (49,49+1)))from Lib.run_convert_bytes_const W 33 5 _ _ _ underlying33 underlying5);have Fq:=fun(W:World)=>(show(convert 33 33 (.slice (some ⟨W.heap.size,0,none⟩) 21 21)).run prog (W.alloc (.cells #[.int .u8 116,.int .u8 121,.int .u8 112,.int .u8 101,.int .u8 32,.int .u8 105,.int .u8 110,.int .u8 32,.int .u8 123,.int .u8 32,.int .u8 115,.int .u8 116,.int .u8 97,.int .u8 103,.int .u8 101,.int .u8 32,.int .u8 115,.int .u8 116,.int .u8 97,.int .u8 103,.int .u8 101] 5))=.ok (.slice (some ⟨W.heap.size,0,none⟩) 21 21) (W.alloc (.cells #[.int .u8 116,.int .u8 121,.int .u8 112,.int .u8 101,.int .u8 32,.int .u8 105,.int .u8 110,.int .u8 32,.int .u8 123,.int .u8 32,.int .u8 115,.int .u8 116,.int .u8 97,.int .u8 103,.int .u8 101,.int .u8 32,.int .u8 115,.int .u8 116,.int .u8 97,.int .u8 103,.int .u8 101] 5 (21,21+1)))from Lib.run_convert_bytes_const W 33 5 _ _ _ underlying33 underlying5);have Fh:=fun(W:World)=>(show(convert 33 33 (.slice (some ⟨W.heap.size,0,none⟩) 11 11)).run prog (W.alloc (.cells #[.int .u8 116,.int .u8 121,.int .u8 112,.int .u8 101,.int .u8 32,.int .u8 97,.int .u8 32,.int .u8 123,.int .u8 32,.int .u8 115,.int .u8 116] 5))=.ok (.slice (some ⟨W.heap.size,0,none⟩) 11 11) (W.alloc (.cells #[.int .u8 116,.int .u8 121,.int .u8 112,.int .u8 101,.int .u8 32,.int .u8 97,.int .u8 32,.int .u8 123,.int .u8 32,.int .u8 115,.int .u8 116] 5 (11,11+1)))from Lib.run_convert_bytes_const W 33 5 _ _ _ underlying33 underlying5);have Ms:=fun(W:World)=>(show(convert 33 33 (.slice (some ⟨W.heap.size,0,none⟩) 8 8)).run prog (W.alloc (.cells #[.int .u8 97,.int .u8 103,.int .u8 101,.int .u8 9,.int .u8 97,.int .u8 123,.int .u8 125,.int .u8 125] 5))=.ok (.slice (some ⟨W.heap.size,0,none⟩) 8 8) (W.alloc (.cells #[.int .u8 97,.int .u8 103,.int .u8 101,.int .u8 9,.int .u8 97,.int .u8 123,.int .u8 125,.int .u8 125] 5 (8,8+1)))from Lib.run_convert_bytes_const W 33 5 _ _ _ underlying33 underlying5);clear hP hg h8 hs;go_enter func12,ntmps12;go_wp2_with (first|(go_at_call 22;refine(Z7.out _ CW.out).mono ?_;rintro e w8 ⟨rfl,ho⟩;have EI:=G (CW.out.trans ho (fun _ _ e=>e));clear ho)|(go_at_call 22;refine(EA.out _ SV.out).mono ?_;rintro e w7 ⟨rfl,ho⟩;have CW:=G (SV.out.trans ho (fun _ _ e=>e));clear ho)|(go_at_call 20;refine(Sb.out _ SV.out).mono ?_;rintro e wl ⟨rfl,rfl⟩)|(go_at_call 20;refine(Sd.out _ SV.out).mono ?_;rintro e wl ⟨rfl,rfl⟩)|(go_at_call 16;refine(Ez.out _ _ _ Ew.out _ rfl).mono ?_;rintro e w6 ⟨rfl,ho⟩;have SV:=G (EJ.out.trans ho (fun _ _ e=>e));clear ho)|(go_at_call 27;refine(Lo.out _ V1.out).mono ?_;rintro e w5 ⟨A5,c5,rfl,hx,ho⟩;have Ew:=G hx;have EJ:=G (V1.out.trans ho (fun _ _ e=>e));clear hx ho)|(go_at_call 26;refine(EF.out _ GN.out).mono ?_;rintro e w4 ⟨rfl,ho⟩;have V1:=G ((GN.out.alloc _).trans ho (fun _ _ e=>e));clear ho;unfold iv)|(go_at_call 16;refine(Ey.out _ _ _ Wv.out _ rfl).mono ?_;rintro e w3 ⟨rfl,ho⟩;have GN:=G (Gi.out.trans ho (fun _ _ e=>e));clear ho)|(go_at_call 14;refine(S7.out _).mono ?_;rintro e w2 ⟨A2,c2,rfl,hx,ho⟩;have Wv:=G hx;have Gi:=G ((FL.out.alloc _).trans ho (fun _ _ e=>e));clear hx ho)|(go_at_call 26;refine HP.out.mono ?_;rintro e w1 ⟨g,s,rfl,Fd,ho,_⟩;have FL:=G (((jQ0 NoX w).alloc _).trans ho (fun _ _ e=>e):Old w w1);have S7:=G (fun o=>jIW (w1.alloc o) (Hg.out.old (FL.out.alloc o)) (jL4 H8.out (FL.out.alloc o).size) HS.out (Fd.old ((jQ0 NoX w1).alloc o)));have Ly:=QC HS.out s;rw[Ly];obtain⟨b1,o1,b2,o2,b3,o3,SJ,k1,RM,k2,k3,Q0,k4⟩:=Ub HS.out Fd;rw[SJ,RM,Q0];simp only[Ly,SJ,RM,Q0]at S7;have K1:=fun o=>Lib.cell?_alloc_marked o k1;have K2:=fun o=>Lib.cell?_alloc_marked o k2;have K3:=fun o=>Lib.cell?_alloc_marked o k3;have K4:=fun o=>Lib.cell?_alloc_marked o k4;unfold iv;clear Fd ho k1 k2 k3 k4)|fail);go_ret;exact⟨rfl,EI.out⟩
def jKE(l:LB):LB:=(Vi l).getD []
def jKD(l:LB):Bool:=(Vi l).isSome
def jDD(l:LB):Nat:=if l.length<=60000 then(match qZ l with|none=>0|some _=>90)else 6
def jBj(l:LB):Nat:=if l.length<=60000 then(qZ l).getD 0 else 0
theorem qc{l:LB}(h:¬l.length<=60000):jDD l=6/\jBj l=0/\jKD l=false/\jKE l=[]:=by
 unfold jDD jBj jKD jKE Vi;rw[jJ5 h,jJ5 h,jJ5 h];exact⟨rfl,rfl,rfl,rfl⟩
theorem Rel.inv{src:LB}{m:Mc}{b:Bs}(hI:InvB b)(h:Rel src m b):Inv m.stack:=by
 cases h with
 |btw h=>exact hI.st
 |com h=>exact hI.st
 |wrd h1 h2 h3=>exact hI.st
 |one h1 h2 h3 h4 h5=>rw[h4];exact hI.st.take (ku _) h3.2
 |two h1 h2 h3 h4=>exact hI.st
 |txt h1 h2 h3 h4=>exact hI.st
def jJH(w:World)(l:LB)(e:Ending)(w' :World):Prop:=∃nm ta aA an ac gA gn gc mA mn mc pA pn pc nA nn nc oA on oc,e=.returned (.tuple #[.agg #[.string nm,.int .i64 ta,.slice aA an ac,.slice gA gn gc,.slice mA mn mc,.slice pA pn pc,.slice nA nn nc,.slice oA on oc],.int .i64 (jBj l:Int),.int .i64 (jDD l:Int)])/\Old w w'
theorem jDu(w:World)(hg:Sg w)(h8:8<=w.heap.size)(A:OA)(n c:Nat)(l:LB)(hr:Rd w 1 A n (l.map bv)):Calls prog 26 #[.slice A n c] w (jJH w l):=by
 have hn:l.length=n:=(by simpa using hr.1);by_cases hl:l.length<=60000
 ·unfold jJH jBj jDD qZ;rw[jJ6 hl,jJ6 hl];cases hb:ka l with
  |error k=>exact(uB w hg h8 A n c l hr hl k hb).mono fun e w' ⟨he,ho⟩=>⟨_,_,_,_,_,_,_,_,_,_,_,_,_,_,_,_,_,_,_,_,he,ho⟩
  |ok m=>
   simp only;by_cases hm:m.stack=[]
   ·rw[jJ6 hm];obtain⟨r,hk⟩:=qW hb hm hl;exact(qb w hg h8 A n c l hr hl m hb hm _ r hk).mono fun e w' ⟨g,s,he,_,ho,_⟩=>⟨_,_,_,_,_,_,_,_,_,_,_,_,_,_,_,_,_,_,_,_,he,ho⟩
   ·rw[jJ5 hm];exact(QO w hg h8 A n c l hr hl m hb hm).mono fun e w' ⟨he,ho⟩=>⟨_,_,_,_,_,_,_,_,_,_,_,_,_,_,_,_,_,_,_,_,he,ho⟩
 ·unfold jJH;rw[(qc hl).1,(qc hl).2.1];exact(Zr w A n c (by omega)).mono fun e w' ⟨he,ho⟩=>⟨_,_,_,_,_,_,_,_,_,_,_,_,_,_,_,_,_,_,_,_,he,ho⟩
section
variable(w:World)(hg:Sg w)(h8:8<=w.heap.size)(B:OA)(d:Nat)(l:LB)(hr:Rd w 1 B l.length (l.map bv))(hl:l.length<=100000000)
include hg h8 hr hl
end
theorem UN:∀(f n:Nat),n<10^(f+1)->ZN (f+1) n=Lib.decDigits n
 |0,n,h=>by
  have h1:n<10:=h;rw[Lib.decDigits,ZN,jJ6 h1,dif_pos h1]
 |f+1,n,h=>by
  rw[Lib.decDigits,ZN];by_cases h1:n<10
  ·rw[jJ6 h1,dif_pos h1]
  ·rw[jJ5 h1,dif_neg h1,UN f (n/10) (by rw[Nat.pow_succ]at h;omega)]
theorem jEU{n:Int}(h0:0<=n)(h1:n<=9223372036854775807):Lib.itoa n=Yu n:=by
 rw[Lib.itoa,jJ5 (by omega),Yu,UN 19 _ (by omega)]
def TabW(w:World):Prop:=Lib.TabIs prog w "internal/strconv.uint64pow10" .u64 Lib.pow10Tab
theorem gPow:prog.globalNamed "internal/strconv.uint64pow10" =some 3:=by kernel_rfl
theorem TabW.kp{X:Nat->Prop}{w w' :World}(h:TabW w)(hk:Kp X w w')(h3:¬X 3):TabW w' :=by
 unfold TabW Lib.TabIs World.var? at*;rw[gPow]at*;simp only[jL2]at*;have hl:3<w.heap.size:=by
  rcases Nat.lt_or_ge 3 w.heap.size with hl|hl
  ·exact hl
  ·rw[Array.getElem?_eq_none hl]at h;cases h
 rw[hk.block 3 hl h3];exact h
theorem TabW.old{w w' :World}(h:TabW w)(hk:Old w w'):TabW w' :=h.kp hk (fun f=>f)
theorem jD0(w:World)(q:Nat)(os:Array Obj):Old w (Sort.grow (w.drewN q) os):=
 ⟨rfl,rfl,rfl,by simp[Sort.grow],fun k hk _=>by
  show(w.heap++os)[k]? =w.heap[k]?;rw[Array.getElem?_append_left hk]⟩
theorem jEV(w:World)(hT:TabW w)(n:Int)(h0:0<=n)(h1:n<=9223372036854775807):Calls prog 221 #[.int .i64 n] w fun e w' =>e=.returned (.string ⟨(Yu n).toArray⟩)/\Old w w' :=
 (Any.strconv_Itoa jJi n (by omega) h1 w hT).mono fun e w' ⟨he,k,os,hw⟩=>⟨by rw[he,jEU h0 h1],by rw[hw];exact jD0 w k os⟩
theorem Um{w:World}{g base:Nat}{t:TypeId}{xs:List Value}(h:Blk w g t xs.toArray)(hb:base<=g)(hm:xs.length<=maxLen):w.ownsRow base t 1 (.slice (some ⟨g,0,none⟩) xs.length xs.length) xs.length xs:=by
 refine⟨by simp,.inr ⟨g,xs.length,xs.toArray,rfl,hb,h,jL3 _,hm,by simp,by simp⟩⟩
structure BRow(w:World)(base:Nat)(l:LB)(A:OA)(c:Nat):Prop where
 own:w.ownsRow base 5 1 (.slice A l.length c) l.length (l.map bv)
 le:base<=w.heap.size
def From(base:Nat):Nat->Prop:=fun k=>base<=k
section
variable{w w' :World}{base:Nat}{l:LB}{A:OA}{c:Nat}
theorem BRow.rd(h:BRow w base l A c):Rd w 1 A l.length (l.map bv):=Rd.of_own h.own
theorem BRow.old(h:BRow w base l A c)(ho:Old w w'):BRow w' base l A c:=⟨jW h.own ho (fun _ _ f=>f),jL4 h.le ho.size⟩
theorem BRow.kp{X:Nat->Prop}(h:BRow w base l A c)(ho:Kp X w w')(hx:∀k,base<=k->k<w.heap.size->¬X k):BRow w' base l A c:=by
 refine⟨jW h.own ho (fun k e=> ?_),jL4 h.le ho.size⟩;have:=h.own.lt k e;exact hx k this.1 this.2
theorem BRow.drewN(h:BRow w base l A c)(n:Nat):BRow (w.drewN n) base l A c:=h.old ((jQ0 _ _).drewN n)
theorem BRow.alloc(h:BRow w base l A c)(o:Obj):BRow (w.alloc o) base l A c:=h.old ((jQ0 _ _).alloc o)
theorem BRow.new(w:World)(l:LB)(hm:l.length<=maxLen):BRow (w.alloc (.cells (l.map bv).toArray 5)) w.heap.size l (some ⟨w.heap.size,0,none⟩) l.length:=by
 refine⟨?_,by simp⟩;have:=Um (base:=w.heap.size) (jQ2 w 5 (l.map bv).toArray) (jL3 _) (by simpa using hm);simpa using this
theorem BRow.grown{A' :OA}{c' :Nat}{m:LB}{n:Nat}(h:BRow w base l A c)(hn:m.length=n){xs:List Value}(V5:xs=m.map bv)
  (Hh:w'.ownsRow base 5 1 (.slice A' (l.length+n) c') (l.length+n) (l.map bv++xs)) (hg:w.grownBy w' (Value.slice A l.length c).ownBlock):
  BRow w' base (l++m) A' c' /\Kp (From base) w w' :=by
 subst hn V5;refine⟨⟨by rw[jJ4,jN3];exact Hh,jL4 h.le hg.size⟩,?_⟩;exact(jQ0 (From base) w).grown hg (fun k e _=>(h.own.lt k e).1)
end
theorem From.old{w w1 w2:World}{base:Nat}(h:Old w w1)(hk:Kp (From base) w1 w2)(hb:w.heap.size<=base):Old w w2:=h.trans hk (fun b Gs hx=>by have:base<=b:=hx;omega)
section
variable{w:World}{ops:Array Oper}{rest:List Oper}{o:Oper}{a:Act}{Q:Exit->Act->World->Prop}
theorem VC(s x:Operand){base:Nat}{l:LB}{A:OA}{c:Nat}(h:BRow w base l A c){B:OA}{m:LB}{d:Nat}(hr:Rd w 1 B m.length (m.map bv))(hl:l.length+m.length<=10000000000000)
  (Wp:o.guard=none) (ho:o.op=.call {callee:=.builtin .append,args:= #[s,x],argTypes:= #[33,33]}) (hs:a.eval s=.slice A l.length c) (hx:a.eval x=.slice B m.length d)
  (hK:∀(out:LB) A' c' w',Hid (out=l++m)->BRow w' base out A' c' ->Kp (From base) w w' ->wpList prog ops Q rest (a.put o.dst (.slice A' out.length c')) w'):wpList prog ops Q (o::rest) a w:=by
 obtain⟨i0,hi,FF,Ft,FM⟩:=info_parts Kn;refine jF w Wp s x 33 ho base 5 i0 (.int .u8 0) 1 1 underlying33 hi FF Ft FM rfl (by decide) (.slice A l.length c) l.length (l.map bv) hs h.own B m.length d (m.map bv) hx hr (Ys _) (by unfold maxLen;omega) (by omega) h.le ?_;intro A' c' w' Hh hg _;obtain⟨h1,h2⟩:=h.grown rfl rfl Hh hg;have:=hK _ A' c' w' (G rfl) h1 h2
 rwa [jJ4]at this
theorem Zl{K:Act->World->Prop}{E:Prop}(s x:Operand){base:Nat}{l:LB}{A:OA}{c:Nat}(h:BRow w base l A c){B:OA}{m:LB}{d:Nat}(hr:Rd w 1 B m.length (m.map bv))(hl:l.length+m.length<=10000000000000)
  (Wp:o.guard=none) (ho:o.op=.call {callee:=.builtin .append,args:= #[s,x],argTypes:= #[33,33]}) (hs:a.eval s=.slice A l.length c) (hx:a.eval x=.slice B m.length d)
  (hK:∀(out:LB) A' c' w',Hid (out=l++m)->BRow w' base out A' c' ->Kp (From base) w w' ->K (a.put o.dst (.slice A' out.length c')) w'):if Region.wanted o (yielded ops a.tmps)=true then Oper.wp prog o a w K Q else E:=by
 obtain⟨i0,hi,FF,Ft,FM⟩:=info_parts Kn;refine kR w Wp s x 33 ho base 5 i0 (.int .u8 0) 1 1 underlying33 hi FF Ft FM rfl (by decide) (.slice A l.length c) l.length (l.map bv) hs h.own B m.length d (m.map bv) hx hr (Ys _) (by unfold maxLen;omega) (by omega) h.le ?_;intro A' c' w' Hh hg _;obtain⟨h1,h2⟩:=h.grown rfl rfl Hh hg;have:=hK _ A' c' w' (G rfl) h1 h2
 rwa [jJ4]at this
theorem jC6(s x:Operand){base:Nat}{l:LB}{A:OA}{c:Nat}(h:BRow w base l A c){t:BA}(hl:l.length+t.size<=10000000000000)
  (Wp:o.guard=none) (ho:o.op=.call {callee:=.builtin .append,args:= #[s,x],argTypes:= #[33,9]}) (hs:a.eval s=.slice A l.length c) (hx:a.eval x=.string t)
  (hK:∀(out:LB) A' c' w',Hid (out=l++sb t)->BRow w' base out A' c' ->Kp (From base) w w' ->wpList prog ops Q rest (a.put o.dst (.slice A' out.length c')) w'):wpList prog ops Q (o::rest) a w:=by
 obtain⟨i0,hi,FF,Ft,FM⟩:=info_parts Kn;refine jq w Wp s x 33 9 ho base 5 i0 underlying33 underlying9 hi FF Ft FM (.slice A l.length c) l.length (l.map bv) hs h.own t hx (by unfold maxLen;omega) (by omega) h.le ?_;intro A' c' w' Hh hg _;obtain⟨h1,h2⟩:=h.grown (jB t) rfl Hh hg;have:=hK _ A' c' w' (G rfl) h1 h2
 rwa [jJ4,jB]at this
end
end Go.Proofs.YtmmjcbbogokmfaaGreatDoor

import Derived.Test.YtnaolhjbapgjgaaGreatMg27
set_option maxRecDepth 100000
set_option maxHeartbeats 6400000
namespace Go.Proofs.YtnaolhjbapgjgaaGreat
open Go.Proofs.Tryz
open Go.RowKit
def XT(bs:LB)(p:Nat):Sgn:=(XS bs ⟨p,0⟩).1
def KB(bs:LB):Nat->Nat->List Sgn->Option (List Sgn)
 |0,_,acc=>some acc
 |n+1,i,acc=>if 0<i/\¬Lib.compareBytes ((acc.map (·.key)).getD (i-1) []) (XT bs (115+64*i)).key<0 then none else KB bs n (i+1) (acc++[XT bs (115+64*i)])
def qU(bs:LB)(o:Option Hd)(c:Nat):Option (Hd×List Sgn):=
 match o with
 |none=>none
 |some h=>if 1<=c/\c<=16/\bs.length=115+64*c then(KB bs c 0 []).map fun l=>(h,l)else none
def VF(bs:LB):Option (Hd×List Sgn):=if 115<=bs.length/\bs.getD 0 0=33 then qU bs (zq (sl bs 1 113)) (bs.getD 114 0).toNat else none
theorem jAD{bs:LB}{p:Nat}(h:p+64<=bs.length):(XT bs p).key=sl bs p 32/\(XT bs p).tag=sl bs (p+32) 32:=by
 have e:∀q,q+32<=bs.length->kq bs ⟨q,0⟩=(sl bs q 32,⟨q+32,0⟩):=fun q hq=>by
  have h1:=yH bs q 32 hq;have e:vE bs 32 ⟨q,0⟩=(sl bs q 32,⟨q+32,0⟩):=by
   simp only[vE];rw[jJ5 (by simp),jJ5 (by omega)];rfl
  unfold kq;rw[e,jJ5 (by intro e';simp only at e';rw[e']at h1;simp at h1)]
 unfold XT XS;simp only[e p (by omega),e (p+32) (by omega),and_self]
theorem jDY{ks:List LB}(h:vP ks=true)(j:Nat)(hj:j+1<ks.length):Lib.compareBytes (ks.getD j []) (ks.getD (j+1) [])<0:=by
 unfold vP at h;rw[List.all_eq_true]at h;exact of_decide_eq_true (h j (List.mem_range.2 (by omega)))
theorem jBS{ks:List LB}{k:LB}(h:vP ks=true)(hk:0<ks.length->Lib.compareBytes (ks.getD (ks.length-1) []) k<0):vP (ks++[k])=true:=by
 unfold vP at*;rw[List.all_eq_true]at*;intro j hj;rw[jJ4,List.length_singleton,List.mem_range]at hj;refine jK5 ?_;by_cases hl:j+1<ks.length
 ·have:=of_decide_eq_true (h j (List.mem_range.2 (by omega)));simpa [List.getD,List.getElem?_append_left hl,List.getElem?_append_left (show j<ks.length by omega)]using this
 ·have:=hk (by omega);rw[show ks.length-1=j by omega]at this;have e:(ks++[k]).getD (j+1) []=k:=(by simp[List.getD,List.getElem?_append_right (show ks.length<=j+1 by omega),show j+1-ks.length=0 by omega]);rw[e];simpa [List.getD,List.getElem?_append_left (show j<ks.length by omega)]using this
theorem jCd{bs:LB}{p:Nat}{e:LB}{n:Nat}(h:At bs p e)(hn:e.length=n):sl bs p n=e:=by
 subst hn;obtain⟨pre,post,rfl,rfl⟩:=h;simp[sl]
theorem jE2{bs:LB}{p:Nat}{x:UInt8}{e:LB}(h:At bs p (x::e)):bs.getD p 0=x:=by
 obtain⟨pre,post,rfl,rfl⟩:=h;simp[List.getD]
theorem Zf{n:Int}(h:0<=n/\n<=9223372036854775807):jq (be8 n)=n.toNat:=by
 rw[jAu h,VT,Nat.mod_eq_of_lt (by rw[xp];omega)]
theorem jBc{h:Hd}(hk:h.Ok)(ho:vU h=true):zq (vh h)=some h:=by
 unfold vU at ho;have ho:=of_decide_eq_true ho;have hA:At (vh h) 0 (be 1 32++(h.log++(be8 h.size++(h.root++(h.index++be8 h.clock))))):=At.all _;have a1:=hA.snd' (q:=1) (by rw[jC]);have a2:=a1.snd' (q:=33) (by rw[hk.log]);have a3:=a2.snd' (q:=41) (by rw[jG]);have a4:=a3.snd' (q:=73) (by rw[hk.root]);have a5:=a4.snd' (q:=105) (by rw[hk.index]);have e1:=jCd a1.fst hk.log;have e2:=jCd a2.fst (jG _);have e3:=jCd a3.fst hk.root;have e4:=jCd a4.fst hk.index;have e5:=jCd a5 (jG _);have e0:(vh h).getD 0 0=32:=rfl;unfold zq;rw[e2,e5,Zf (by omega),Zf (by omega),jJ6 ⟨JN hk,e0,jK5 (by omega),jK5 (by omega)⟩];unfold jI5;rw[e1,e2,e3,e4,e5,Zf (by omega),Zf (by omega),kW _ (by omega),kW _ (by omega),show((h.size.toNat:Nat):Int)=h.size by omega,show((h.clock.toNat:Nat):Int)=h.clock by omega]
theorem jHM{l:LB}(hl:l.length=8)(hs:jq l<9223372036854775808):be8 (i64 (jq l))=l:=by
 rw[kW _ hs,jAu (by omega),jL1];have:=jEu l
 rwa [hl]at this
theorem VD(l:LB)(p n m:Nat):sl l p n++sl l (p+n) m=sl l p (n+m):=by
 unfold sl;rw[<-List.drop_drop];generalize l.drop p=k;rw[List.take_add]
theorem Xx{l:LB}{h:Hd}(e:zq l=some h):h.Ok/\vU h=true/\vh h=l:=by
 unfold zq at e;split at e
 ·rename_i hc;obtain⟨hl,h0,h1,h2⟩:=hc;have h1:=of_decide_eq_true h1;have h2:=of_decide_eq_true h2;obtain rfl:=jL5 e;have s1:=yH l 33 8 (by omega);have s2:=yH l 105 8 (by omega);have n1:i64 (jq (sl l 33 8))=(jq (sl l 33 8):Int):=kW _ (by omega);have n2:i64 (jq (sl l 105 8))=(jq (sl l 105 8):Int):=kW _ (by omega);refine⟨⟨yH l 1 32 (by omega),yH l 41 32 (by omega),yH l 73 32 (by omega)⟩,?_,?_⟩
  ·unfold vU jI5;simp only;rw[n1,n2];exact jK5 (by omega)
  ·unfold vh jI5;simp only;rw[jHM s1 (by omega),jHM s2 (by omega),VD l 73 32 8,VD l 41 32 40,VD l 33 8 72,VD l 1 32 80];have e3:be 1 32=sl l 0 1:=by
    cases l with
    |nil=>simp at hl
    |cons x t=>
     have:x=32:=(by simpa [List.getD]using h0);subst this;rfl
   rw[e3,VD l 0 1 112];rw[sl,List.drop_zero,jK4 (by omega)]
 ·cases e
theorem uF{bs:LB}{x:Hd×List Sgn}(h:jn bs=some x):x.1.Ok/\vP (x.2.map (·.key))=true:=by
 unfold jn UH at h;split at h
 ·cases h
 ·rename_i hd he;split at h
  ·unfold KK at h;split at h
   ·rename_i hc;obtain rfl:=jL5 h;refine⟨?_,hc.2⟩;unfold JM jHH at he;simp only at he;split at he
    ·obtain rfl:=jL5 he;exact⟨kU _ _,kU _ _,kU _ _⟩
    ·cases he
   ·cases h
  ·cases h
section
variable{bs:LB}
theorem jAB:∀(l acc:List Sgn),vP ((acc++l).map (·.key))=true->At bs (115+64*acc.length) (l.flatMap vY)->KB bs l.length acc.length acc=some (acc++l)
 |[],acc,_,_=>by simp[KB]
 |x::l,acc,hr,h=>by
  rw[jL9]at h;have e:XT bs (115+64*acc.length)=x:=(by rw[XT,h.fst.sgn]);have ih:=jAB l (acc++[x]) (by simpa using hr) (by
   have:=h.snd' (q:=115+64*(acc++[x]).length) (by rw[vY,jJ4,jJ4,x.hk,x.ht,List.length_singleton];omega);exact this)
  rw[jK6,KB,e,jJ5]
  ·rw[jJ4,List.length_singleton]at ih;rw[ih];simp
  ·rintro ⟨h0,hn⟩;refine hn ?_;have:=jDY hr (acc.length-1) (by simp;omega);rw[show acc.length-1+1=acc.length by omega]at this;have e1:(((acc++x::l).map (·.key)).getD acc.length [])=x.key:=(by simp[List.getD]);have e2:((acc++x::l).map (·.key)).getD (acc.length-1) []=(acc.map (·.key)).getD (acc.length-1) []:=by
    rw[List.map_append];simp[List.getD,List.getElem?_append_left (show acc.length-1<(acc.map (·.key)).length by rw[jK7];omega)]
   rwa [e1,e2]at this
theorem xV:∀(n i:Nat) (acc:List Sgn) {l:List Sgn},acc.length=i->115+64*(i+n)<=bs.length->vP (acc.map (·.key))=true->KB bs n i acc=some l->
  ∃t,l=acc++t/\t.length=n/\vP (l.map (·.key))=true/\t.flatMap vY=sl bs (115+64*i) (64*n)
 |0,i,acc,l,hi,hb,hr,e=>by
  obtain rfl:=jL5 e;exact⟨[],by simp,rfl,hr,by simp[sl]⟩
 |n+1,i,acc,l,hi,hb,hr,e=>by
  rw[KB]at e;split at e
  ·cases e
  ·rename_i hc;obtain⟨k1,k2⟩:=jAD (bs:=bs) (p:=115+64*i) (by omega);obtain⟨t,e1,e2,e3,e4⟩:=xV n (i+1) (acc++[XT bs (115+64*i)]) (by rw[jJ4,hi];rfl) (by omega) (by
    rw[List.map_append];refine jBS hr (fun h0=> ?_);rw[jK7]at h0⊢;rw[hi]at h0⊢;exact Classical.byContradiction fun hn=>hc ⟨h0,hn⟩) e
   refine⟨XT bs (115+64*i)::t,by rw[e1];simp,by rw[jK6,e2],e3,?_⟩;rw[jL9,e4,vY,k1,k2,jK1,show 115+64*(i+1)=115+64*i+32+32 by omega,VD bs (115+64*i+32) 32 (64*n),VD]
   congr 1
   omega
end
theorem jGG(bs:LB):VF bs=jn bs:=by
 cases hd:jn bs with
 |some x=>
  obtain⟨hk,hr⟩:=uF hd;have hb:=zu hd;obtain⟨h,l⟩:=x;simp only at hk hr hb;unfold yU at hb;rw[Ja hr]at hb;split at hb
  ·rename_i hc;have hb:=jL5 hb;have hA:At bs 0 (be 1 33++(vh h++(be 1 l.length++l.flatMap vY))):=by rw[hb];exact At.all bs
   have a1:=hA.snd' (q:=1) (by rw[jC]);have a2:=a1.snd' (q:=114) (by rw[JN hk]);have a3:=a2.snd' (q:=115) (by rw[jC]);have hlen:bs.length=115+64*l.length:=by
    rw[<-hb];simp only[jJ4,jC,JN hk,KA];omega
   have GC:be 1 l.length=[UInt8.ofNat l.length]:=(by simp[be]);have e0:bs.getD 0 0=33:=jE2 hA.fst;have e1:sl bs 1 113=vh h:=jCd a1.fst (JN hk);have e2:(bs.getD 114 0).toNat=l.length:=by
    have:=a2.fst;rw[GC]at this;rw[jE2 this];have:=hc.2.2.1;simp only[UInt8.toNat_ofNat'];omega
   unfold VF;rw[jJ6 ⟨by omega,e0⟩,e1,jBc hk hc.1,e2];unfold qU;simp only;rw[jJ6 ⟨hc.2.1,hc.2.2.1,hlen⟩];have:=jAB (bs:=bs) l [] (by simpa using hr) (by simpa using a3);simp only[List.length_nil,List.nil_append]at this;rw[this];rfl
  ·cases hb
 |none=>
  cases hn:VF bs with
  |none=>rfl
  |some x=>
   exfalso;unfold VF at hn;split at hn
   ·rename_i h0;unfold qU at hn;split at hn
    ·cases hn
    ·rename_i h eh;obtain⟨hk,ho,hB⟩:=Xx eh;split at hn
     ·rename_i hc;generalize M8:(bs.getD 114 0).toNat=c at*;cases hs:KB bs c 0 []with
      |none=>rw[hs]at hn;cases hn
      |some l=>
       obtain⟨t,e1,e2,e3,e4⟩:=xV (bs:=bs) c 0 [] rfl (by omega) rfl hs;rw[List.nil_append]at e1;subst e1;have hb:yU h l=some bs:=by
        unfold yU;rw[Ja e3,jJ6 ⟨ho,by omega,by omega,e3⟩,hB,e4,e2];have x0:be 1 33=sl bs 0 1:=by
         cases bs with
         |nil=>simp at h0
         |cons x t=>
          have:x=33:=(by simpa [List.getD]using h0.2);subst this;rfl
        have x1:be 1 c=sl bs 114 1:=by
         have DG:114<bs.length:=(by omega);have hg:bs.getD 114 0=bs[114]:=(by simp[List.getD,DG]);rw[hg]at M8;have:sl bs 114 1=[bs[114]]:=by
          unfold sl;rw[List.drop_eq_getElem_cons DG];rfl
         rw[this,<-M8];simp[be]
        rw[x0,x1,show 115+64*0=114+1 by omega,VD bs 114 1,show 114=1+113 by omega,VD bs 1 113,show(1:Nat)=0+1 by omega,VD bs 0 (0+1)]
        congr 1
        unfold sl;rw[List.drop_zero,jK4 (by omega)]
       have:=Ve hk hb;rw[hd]at this;cases this
     ·cases hn
   ·cases hn
def jJ0(w:World)(d:Option (Hd×List Sgn))(e:Ending)(w' :World):Prop:=
 ∃m:MNote,(m.head,m.signs)=d.getD (zeroHd,[])/\e=.returned (.tuple #[.agg m.cells.toArray,.bool d.isSome])/\m.Ok w' (fun k=>k<w.heap.size)/\Old w w'
theorem zZ{w w' :World}(ho:Old w w'):jJ0 w none (.returned (.tuple #[.agg zeroNote.toArray,.bool false])) w' :=by
 refine⟨⟨zeroHd,[],none,0⟩,rfl,?_,⟨zeroHd_ok,Rd.none_,fun h=>absurd h (by simp),by decide⟩,ho⟩;have e:zeroNote=MNote.cells ⟨zeroHd,[],none,0⟩:=by
  simp only[MNote.cells,yF];rfl
 rw[e];rfl
theorem Uf(cs:List Value)(hl:cs.length=98):prog.built 48 [(0,.agg cs.toArray)]=some (cs++[Value.slice none 0 0]).toArray:=by
 have hz:((prog.info? 48).bind (·.zero)).map (·.cells)=some zeroNote.toArray:=(by kernel_rfl);obtain⟨fs,hu,hp⟩:=xo;unfold Program.built;cases hi:prog.info? 48 with
 |none=>rw[hi]at hz;cases hz
 |some it=>
  cases Wo:it.zero with
  |none=>rw[hi]at hz;simp[Wo]at hz
  |some z=>
   rw[hi]at hz;simp only[jL2,Wo,Option.map_some,Option.some.injEq]at hz;simp only[hu,Wo,hp];obtain⟨r,e1,s1,k1⟩:=Zo (([(0,98),(98,1)]:List (Nat×Nat)).toArray[·]?) 0 0 98 (.agg cs.toArray) rfl (by simp[Value.cells,hl]) z.cells (by rw[hz];decide) [];rw[e1];simp only[Instr.fill,Option.some.injEq];apply Array.ext_getElem?;intro k;rw[k1 k,hz];by_cases hk:k<98
   ·rw[jJ6 (by omega)];simp[Value.cells,List.getElem?_append_left (show k<cs.length by omega)]
   ·rw[jJ5 (by omega)];by_cases h98:k=98
    ·subst h98;simp only[jJ7];rw[List.getElem?_append_right (by omega),hl];rfl
    ·have h1:zeroNote.length=99:=rfl;simp only[jJ7];rw[List.getElem?_eq_none (by omega),List.getElem?_eq_none (by rw[jJ4,hl];simp;omega)]
def zeroSgL:List Value:=[.int .u8 0,.int .u8 0,.int .u8 0,.int .u8 0,.int .u8 0,.int .u8 0,.int .u8 0,.int .u8 0,.int .u8 0,.int .u8 0,.int .u8 0,.int .u8 0,.int .u8 0,.int .u8 0,.int .u8 0,.int .u8 0,.int .u8 0,.int .u8 0,.int .u8 0,.int .u8 0,.int .u8 0,.int .u8 0,.int .u8 0,.int .u8 0,.int .u8 0,.int .u8 0,.int .u8 0,.int .u8 0,.int .u8 0,.int .u8 0,.int .u8 0,.int .u8 0,.int .u8 0,.int .u8 0,.int .u8 0,.int .u8 0,.int .u8 0,.int .u8 0,.int .u8 0,.int .u8 0,.int .u8 0,.int .u8 0,.int .u8 0,.int .u8 0,.int .u8 0,.int .u8 0,.int .u8 0,.int .u8 0,.int .u8 0,.int .u8 0,.int .u8 0,.int .u8 0,.int .u8 0,.int .u8 0,.int .u8 0,.int .u8 0,.int .u8 0,.int .u8 0,.int .u8 0,.int .u8 0,.int .u8 0,.int .u8 0,.int .u8 0,.int .u8 0]
theorem jA0:zeroSgn.cells=zeroSgL:=by
 rw[Vl];rfl
structure NtRd(w:World)(N:Nat)(h:Hd)(acc:List Sgn)(A:OA)(c:Nat)(W:World):Prop where
 box:Blk W w.heap.size 48 zeroNote.toArray
 note:Blk W N 48 (MNote.cells ⟨h,acc,A,c⟩).toArray
 own:W.ownsRow (N+1) 165 64 (.slice A acc.length c) acc.length (acc.flatMap Sgn.cells)
 ok:h.Ok
 old:Old w W
 lt:w.heap.size<N
section
variable{w:World}{N:Nat}{h:Hd}{acc:List Sgn}{A:OA}{c:Nat}{W W' :World}
theorem NtRd.past(k:NtRd w N h acc A c W)(hk:Kp (fun b=>W.heap.size<=b) W W'):NtRd w N h acc A c W' :=
 ⟨k.box.kp hk (fun e=>by have h1:W.heap.size<=w.heap.size:=e;have:=k.box.lt;omega),k.note.kp hk (fun e=>by have h1:W.heap.size<=N:=e;have:=k.note.lt;omega),
  kG k.own hk (fun b e hx=>by
   rw[jE]at e;have:=(jY k.own e).2;omega),k.ok,k.old.trans hk (fun b hb e=>by have h1:W.heap.size<=b:=e;have:=k.old.size;omega),k.lt⟩
theorem NtRd.c98(k:NtRd w N h acc A c W):W.cell? ⟨N,98,none⟩=some (.slice A acc.length c):=by
 refine k.note.at_ 98 ?_;rw[jJ7];exact(Sub.end_ h.cells [.slice A acc.length c] 98 k.ok.len) 0 _ rfl
theorem NtRd.grow{A' :OA}{c' :Nat}{s:Sgn}(k:NtRd w N h acc A c W)(hg:W.grownBy W' (A.map (·.block)))(ho:W'.ownsRow (N+1) 165 64 (.slice A' (acc.length+1) c') (acc.length+1) ((acc++[s]).flatMap Sgn.cells)):
  NtRd w N h (acc++[s]) A' c' (W'.setCell ⟨N,98,none⟩ (.slice A' (acc.length+1) c')):=by
 have hl:(acc++[s]).length=acc.length+1:=(by simp);have k1:Kp (fun b=>A.map (·.block)=some b) W W' :=kM hg;have k2:=(jQ0 (fun b=>b=N) W').setCell (p:=⟨N,98,none⟩) (fun _=>rfl) (.slice A' (acc.length+1) c');refine⟨(k.box.kp k1 (fun e=>by have:=(jY k.own e).1;have:=k.lt;omega)).kp k2 (fun e=>by have:=k.lt;omega),?_,?_,k.ok,?_,k.lt⟩
 ·have hb:=k.note.kp k1 (fun e=>by have:=(jY k.own e).1;omega);have:=Blk.setCells (pre:=h.cells) (mid:=[.slice A acc.length c]) (post:=[]) (by simpa [MNote.cells]using hb) [.slice A' (acc.length+1) c'] rfl;rw[k.ok.len]at this;have e:W'.setCells N 98 [.slice A' (acc.length+1) c']=W'.setCell ⟨N,98,none⟩ (.slice A' (acc.length+1) c'):=rfl;rw[e]at this;simpa [MNote.cells,hl]using this
 ·rw[hl];exact kG ho k2 (fun b e hx=>by rw[jE]at e;have:=(jY ho e).1;omega)
 ·exact(k.old.trans k1 (fun b hb e=>by have:=(jY k.own e).1;have:=k.lt;omega)).trans k2 (fun b hb e=>by have:=k.lt;omega)
end
theorem jIP{W' :World}{S:Nat}{s:Sgn}(d:LB)(hd:d.length=32)(hG:W'.heap[S]? =some (.cells (splice s.cells 0 (d.map bv)).toArray 165 (0,0))):Blk W' S 165 (Sgn.cells ⟨d,s.tag,hd,s.ht⟩).toArray:=by
 have e:=zP [] (jA s.key) (jA s.tag) (d.map bv) (by rw[jB,jK7,hd,s.hk]);have e2:splice s.cells 0 (d.map bv)=Sgn.cells ⟨d,s.tag,hd,s.ht⟩:=(by simpa [Sgn.cells,jA]using e);rw[e2]at hG;exact hG
theorem jIO{W' :World}{S:Nat}{s:Sgn}(d:LB)(hd:d.length=32)(hG:W'.heap[S]? =some (.cells (splice s.cells 32 (d.map bv)).toArray 165 (0,0))):Blk W' S 165 (Sgn.cells ⟨s.key,d,s.hk,hd⟩).toArray:=by
 have e:=zP (jA s.key) (jA s.tag) [] (d.map bv) (by rw[jB,jK7,hd,s.ht]);rw[jB,s.hk]at e;have e2:splice s.cells 32 (d.map bv)=Sgn.cells ⟨s.key,d,s.hk,hd⟩:=(by simpa [Sgn.cells,jA]using e);rw[e2]at hG;exact hG
theorem xh(w:World)(A:OA)(c:Nat)(bs:LB)(Fa:Rd w 1 A bs.length (bs.map bv))(hc:bs.length<=c)(hl:bs.length<=10000000000):
  Calls prog 128 #[.slice A bs.length c] w (jJ0 w (jn bs)):=by
 rw[<-jGG];have WS:=G (show Blk (w.alloc (.cells zeroCells48 48)) w.heap.size 48 zeroNote.toArray from by rw[Zw];exact jQ2 w _ _);have V7:=G ((jQ0 NoX w).alloc (.cells zeroCells48 48));have NJ:=G (show(prog.info? 48).map (·.size)=some zeroNote.length from kN);have Wk:=G (show zeroNote.toArray.all (·.oneCell')=true from jR rfl);have Wj:=G zT;have WO:=G (fun W (h:Blk W w.heap.size 48 zeroNote.toArray)=>h.there 0 zeroNote.toArray.size (by decide));have Lb:=G (fun W (h:Blk W w.heap.size 48 zeroNote.toArray)=>h.setWhole zeroNote rfl);have La:=G (fun W (h:Old w W)=>h.trans (Kp.setCells w.heap.size 0 zeroNote W) (fun b hb e=>by omega));have V9:(prog.info? 48).map (·.size)=some zeroNote.toArray.size:=NJ.out;have Hc:=G hc;have Hl:=G hl;clear hc hl;by_cases h115:115<=bs.length
 case neg=>
  have hY:=G (show VF bs=none by rw[VF,jJ5 (fun h=>h115 h.1)]);generalize VF bs=D at*;have b0:(bs.length:Int)<115:=(by omega);clear h115 Fa;go_enter func128,ntmps128;have hU:=G (WO.out _ WS.out);have FI:=G (Lb.out _ WS.out);have FR:=G (La.out _ V7.out);go_wp2_with (first|((with_reducible refine jM 48 ?_);refine jX rfl 48 rfl _ (Wj.out _) ?_)|((with_reducible refine jF 48 (.tmp 2) (.tmp 19) ?_);refine jQ1 rfl 48 (.tmp 2) (.tmp 19) rfl w.heap.size 0 zeroNote.toArray rfl rfl hU.out NJ.out Wk.out ?_)|fail);refine jD (g:=w.heap.size) (cs:=zeroNote.toArray) rfl rfl FI.out underlying48 rfl V9 rfl ?_;rw[hY.out];exact zZ FR.out
 have b0:¬(bs.length:Int)<115:=(by omega);have Mr:=G h115;obtain⟨b,o,hA,X0⟩:∃b o,A=some ⟨b,o,none⟩/\∀j,(hj:j<bs.length)->w.cell? ⟨b,o+j,none⟩=some (.int .u8 (bs[j].toNat:Int)):=by
  obtain⟨b,o,rfl,Fw⟩:=Fa.2 (by omega);exact⟨b,o,rfl,fun j hj=>Fw j _ (by rw[jM1,jJ9 hj];rfl)⟩
 have Nn:=G (show∀W,Old w W->∀j,(hj:j<bs.length)->W.cell? ⟨b,o+j,none⟩=some (.int .u8 (bs[j].toNat:Int))from fun W h j hj=>zJ h (X0 j hj));have Fy:=G Fa;have q0:=Nn.out _ V7.out 0 (by omega);simp only[Nat.add_zero]at q0;have Dn:bs.getD 0 0=bs[0]'(by omega):=(by simp[List.getD,show 0<bs.length by omega]);have HR:=G (show VF bs=if bs.getD 0 0=33 then qU bs (zq (sl bs 1 113)) (bs.getD 114 0).toNat else none by
  unfold VF;simp only[h115,true_and])
 rw[Dn]at HR;generalize VF bs=D at*;generalize hx:bs[0]'(by omega)=x at*;clear X0 Dn hx Fa;subst hA;by_cases hx33:x=33
 case neg=>
  have hY:=G (show D=none by rw[HR.out,jJ5 hx33]);have b1:((x.toNat:Int) !=33)=true:=by
   have:¬(x.toNat:Int)=33:=fun e=>hx33 (UInt8.toNat_inj.1 (by have:(33:UInt8).toNat=33:=rfl;omega));simpa using this
  have b2:(0:Int)<(bs.length:Int):=(by omega);clear hx33 h115;go_enter func128,ntmps128;have hU:=G (WO.out _ WS.out);have FI:=G (Lb.out _ WS.out);have FR:=G (La.out _ V7.out);go_wp2_with (first|((with_reducible refine jM 48 ?_);refine jX rfl 48 rfl _ (Wj.out _) ?_)|((with_reducible refine jF 48 (.tmp 2) (.tmp 19) ?_);refine jQ1 rfl 48 (.tmp 2) (.tmp 19) rfl w.heap.size 0 zeroNote.toArray rfl rfl hU.out NJ.out Wk.out ?_)|fail);refine jD (g:=w.heap.size) (cs:=zeroNote.toArray) rfl rfl FI.out underlying48 rfl V9 rfl ?_;rw[hY.out];exact zZ FR.out
 subst hx33;have b1:(((33:UInt8).toNat:Int) !=33)=false:=(by decide);have b2:(0:Int)<(bs.length:Int):=(by omega);have WJ:=G (show D=qU bs (zq (sl bs 1 113)) (bs.getD 114 0).toNat by rw[HR.out,jJ6 rfl]);clear HR h115;have RO:=G (show bs.getD 114 0=bs[114]'(by have:=Mr.out;omega)by simp[List.getD,show 114<bs.length by have:=Mr.out;omega]);have G9:=G (fun W (ho:Old w W)=>Rd.sub (p:=1) (m:=113) (Fy.out.old ho) (by have:=Mr.out;omega) Hc.out);have hs:=fun W=>VJ (P:=prog) kE kA (some ⟨b,o,none⟩) bs.length c 1 114 .i64 .i64 1 114 rfl rfl (by decide) (by have:=Hc.out;have:=Mr.out;omega) W;generalize (if c=1 then(some (⟨b,o,none⟩:Addr))else(some (⟨b,o,none⟩:Addr)).map (·.add (1*1)))=AA at hs G9;have HH:=G (fun W (ho:Old w W)=>jBb W AA 113 (c-1) (sl bs 1 113) (yH bs 1 113 (by have:=Mr.out;omega)) (G9.out W ho) (by have:=Hc.out;have:=Mr.out;omega));go_enter func128,ntmps128;go_wp2_with fail;refine(HH.out _ V7.out).mono ?_;clear HH hs G9 q0;generalize w.alloc _=W0 at*;generalize zq (sl bs 1 113)=RH at*;rintro e w1 ⟨h,Hu,hh,rfl,F0⟩;have Hh:=G hh;clear hh;replace WS:=G (WS.out.old F0);replace V7:=G (V7.out.old F0);obtain⟨ML,OM,Bh⟩:=ZC 45 zeroCells45 h.cells (by rw[Hu.len,zn];rfl) w1 w1.heap.size rfl;have Fe:=G Hu;have MW:=G ML;have RP:=G OM;have T7:=G (show(prog.info? 45).map (·.size)=some h.cells.length by rw[Hu.len];kernel_rfl);have HhO:=G (Hd.one h);replace WS:=G (WS.out.old Bh);replace V7:=G (V7.out.old Bh);have q0:=Nn.out _ V7.out 114 (by have:=Mr.out;omega);rw[RO.out]at WJ;generalize hx:bs[114]'(by have:=Mr.out;omega)=x at*;have Cp:=x.toNat_lt;have b3:(114:Int)<(bs.length:Int):=by have:=Mr.out;omega
 have e3:IntKind.i64.wrap (x.toNat:Int)=(x.toNat:Int):=jQ3 _ (by omega);clear ML OM Bh Hu F0 hx RO;generalize Sb:x.toNat=cn at*;clear Sb;go_upto_region 4 with(first|((with_reducible refine jF 45 (.tmp 4) (.tmp 24) ?_);refine jQ1 rfl 45 (.tmp 4) (.tmp 24) rfl w1.heap.size 0 h.cells.toArray rfl rfl MW.out T7.out HhO.out ?_)|fail);clear MW;generalize (w1.alloc _).setCells _ _ _=W2 at*;generalize w1.heap.size=H0 at*;have Nd:=G (show∀hd,RH=some hd->D=if 1<=cn/\cn<=16/\bs.length=115+64*cn then(KB bs cn 0 []).map fun l=>(hd,l)else none from fun hd e=>by rw[WJ.out,e];rfl);have Ma:=G (show RH=none->D=none from fun e=>by rw[WJ.out,e];rfl);clear WJ;have Gy:RH=none\/(RH=some h/\cn<1)\/(RH=some h/\1<=cn/\16<cn)\/(RH=some h/\1<=cn/\cn<=16/\bs.length≠115+64*cn)\/(RH=some h/\1<=cn/\cn<=16/\bs.length=115+64*cn):=by
  cases hRH:RH with
  |none=>exact .inl rfl
  |some hd=>
   have hh:=Hh.out;rw[hRH]at hh;have:h=hd:=hh;subst this;rcases Nat.lt_or_ge cn 1 with h1|h1
   ·exact .inr (.inl ⟨rfl,h1⟩)
   ·rcases Nat.lt_or_ge 16 cn with h2|h2
    ·exact .inr (.inr (.inl ⟨rfl,h1,h2⟩))
    ·by_cases h3:bs.length=115+64*cn
     ·exact .inr (.inr (.inr (.inr ⟨rfl,h1,h2,h3⟩)))
     ·exact .inr (.inr (.inr (.inl ⟨rfl,h1,h2,h3⟩)))
 clear Hh;rcases Gy with hR|⟨hR,h1⟩|⟨hR,h1,h2⟩|⟨hR,h1,h2,h3⟩|⟨hR,h1,h2,h3⟩
 ·have hY:=G (Ma.out hR);subst hR;clear Ma Nd;simp only[Option.isSome_none];have hU:=G (WO.out _ WS.out);have FI:=G (Lb.out _ WS.out);have FR:=G (La.out _ V7.out);go_wp2_with (first|((with_reducible refine jM 48 ?_);refine jX rfl 48 rfl _ (Wj.out _) ?_)|((with_reducible refine jF 48 (.tmp 2) (.tmp 48) ?_);refine jQ1 rfl 48 (.tmp 2) (.tmp 48) rfl w.heap.size 0 zeroNote.toArray rfl rfl hU.out NJ.out Wk.out ?_)|fail);refine jD (g:=w.heap.size) (cs:=zeroNote.toArray) rfl rfl FI.out underlying48 rfl V9 rfl ?_;rw[hY.out];exact zZ FR.out
 ·have hY:=G (show D=none by rw[Nd.out h hR,jJ5 (by omega)]);subst hR;have c1:(cn:Int)<1:=(by omega);clear Ma Nd;simp only[Option.isSome_some];have hU:=G (WO.out _ WS.out);have FI:=G (Lb.out _ WS.out);have FR:=G (La.out _ V7.out);go_wp2_with (first|((with_reducible refine jM 48 ?_);refine jX rfl 48 rfl _ (Wj.out _) ?_)|((with_reducible refine jF 48 (.tmp 2) (.tmp 48) ?_);refine jQ1 rfl 48 (.tmp 2) (.tmp 48) rfl w.heap.size 0 zeroNote.toArray rfl rfl hU.out NJ.out Wk.out ?_)|fail);refine jD (g:=w.heap.size) (cs:=zeroNote.toArray) rfl rfl FI.out underlying48 rfl V9 rfl ?_;rw[hY.out];exact zZ FR.out
 ·have hY:=G (show D=none by rw[Nd.out h hR,jJ5 (by omega)]);subst hR;have c1:¬(cn:Int)<1:=(by omega);have c2:(16:Int)<(cn:Int):=(by omega);clear Ma Nd;simp only[Option.isSome_some];have hU:=G (WO.out _ WS.out);have FI:=G (Lb.out _ WS.out);have FR:=G (La.out _ V7.out);go_wp2_with (first|((with_reducible refine jM 48 ?_);refine jX rfl 48 rfl _ (Wj.out _) ?_)|((with_reducible refine jF 48 (.tmp 2) (.tmp 48) ?_);refine jQ1 rfl 48 (.tmp 2) (.tmp 48) rfl w.heap.size 0 zeroNote.toArray rfl rfl hU.out NJ.out Wk.out ?_)|fail);refine jD (g:=w.heap.size) (cs:=zeroNote.toArray) rfl rfl FI.out underlying48 rfl V9 rfl ?_;rw[hY.out];exact zZ FR.out
 ·have hY:=G (show D=none by rw[Nd.out h hR,jJ5 (fun h=>h3 h.2.2)]);subst hR;have c1:¬(cn:Int)<1:=(by omega);have c2:¬(16:Int)<(cn:Int):=(by omega);have c3:((bs.length:Int) !=115+64*(cn:Int))=true:=by
   have:¬(bs.length:Int)=115+64*(cn:Int):=(by omega);simpa using this
  clear Ma Nd;simp only[Option.isSome_some];have hU:=G (WO.out _ WS.out);have FI:=G (Lb.out _ WS.out);have FR:=G (La.out _ V7.out);go_wp2_with (first|((with_reducible refine jM 48 ?_);refine jX rfl 48 rfl _ (Wj.out _) ?_)|((with_reducible refine jF 48 (.tmp 2) (.tmp 48) ?_);refine jQ1 rfl 48 (.tmp 2) (.tmp 48) rfl w.heap.size 0 zeroNote.toArray rfl rfl hU.out NJ.out Wk.out ?_)|fail);refine jD (g:=w.heap.size) (cs:=zeroNote.toArray) rfl rfl FI.out underlying48 rfl V9 rfl ?_;rw[hY.out];exact zZ FR.out
 have HD:=G (show D=(KB bs cn 0 []).map fun l=>(h,l)by rw[Nd.out h hR,jJ6 ⟨h1,h2,h3⟩]);subst hR;have c1:¬(cn:Int)<1:=(by omega);have c2:¬(16:Int)<(cn:Int):=(by omega);have c3:((bs.length:Int) !=115+64*(cn:Int))=false:=by
  have:(bs.length:Int)=115+64*(cn:Int):=(by omega);simpa using this
 have AC:=G h2;have AD:=G h3;clear Ma Nd h1 h2 h3;simp only[Option.isSome_some];have MG:=G RP.out.range;have Hbn:=G (Uf h.cells Fe.out.len);obtain⟨ML,OL,Bg⟩:=ZC 48 zeroCells48 (MNote.cells ⟨h,[],none,0⟩) (by rw[MNote.len Fe.out,Zw];rfl) W2 W2.heap.size rfl;have DS:=G ML;have HsN:=G (show(prog.info? 48).map (·.size)=some (MNote.cells ⟨h,[],none,0⟩).length by rw[MNote.len Fe.out];exact kN);have Ge:=G (MNote.one ⟨h,[],none,0⟩);have HS:=G (show NtRd w W2.heap.size h [] none 0 _ from⟨WS.out.old Bg,OL,World.ownsRow_nil _ _ _ _,Fe.out,V7.out.old Bg,WS.out.lt⟩);clear ML OL Bg WS V7;go_upto_region 8 with(first
  |((with_reducible refine jT 45 (.tmp 4) ?_);refine jK rfl 45 (.tmp 4) rfl H0 0 rfl h.cells _ MG.out underlying45 rfl T7.out ?_)
  |((with_reducible refine ji 45 (.tmp 4) ?_);refine jK rfl 45 (.tmp 4) rfl H0 0 rfl h.cells _ MG.out underlying45 rfl T7.out ?_)
  |((with_reducible refine ZF 48 (.tmp 49) ?_);refine Yf rfl 48 (.tmp 49) rfl _ rfl _ Hbn.out ?_)
  |((with_reducible refine jF 48 (.tmp 7) (.tmp 50) ?_);refine jQ1 rfl 48 (.tmp 7) (.tmp 50) rfl W2.heap.size 0 (MNote.cells ⟨h,[],none,0⟩).toArray rfl rfl DS.out HsN.out Ge.out ?_)
  |fail)
 clear MG Hbn RP T7 HhO DS Ge q0;generalize (W2.alloc _).setCells _ _ _=W3 at*;generalize W2.heap.size=N at*;go_wp2;go_loopw [8] (fun i wr=>∃(k:Nat) (acc:List Sgn) (A' :OA) (c' :Nat),k<=cn/\i=.int .i64 k/\acc.length=k/\NtRd w N h acc A' c' wr/\KB bs cn 0 []=KB bs (cn-k) k acc) (fun i _=>cn-(intOf i).toNat)
 case atStart=>exact⟨0,[],none,0,Nat.zero_le _,rfl,rfl,HS.out,rfl⟩
 case round=>
  clear HS;obtain⟨k,acc,A',c',hk,rfl,G1,hS,FM⟩:=hrel;have HS:=G hS;have Fs:=G FM;have FY:=G G1;clear hS FM G1;have d0:(0:Int)<=(k:Int):=(by omega);by_cases hM:k<cn
  ·have d1:(k:Int)<(cn:Int):=(by omega);have d2:(k:Int)<=15:=by have:=AC.out;omega
   have Eu:=G (show k<=15 by omega);have Rt:=G (show 115+64*k+64<=bs.length by have:=AD.out;omega);have N5:=G (show KB bs cn 0 []=if 0<k/\¬Lib.compareBytes ((acc.map (·.key)).getD (k-1) []) (XT bs (115+64*k)).key<0 then none else KB bs (cn-(k+1)) (k+1) (acc++[XT bs (115+64*k)])by
    rw[Fs.out];obtain⟨mm,hm⟩:∃mm,cn-k=mm+1:=⟨cn-k-1,by omega⟩;rw[hm,KB,show cn-(k+1)=mm by omega])
   obtain⟨lb,Gw⟩:∃lb:Bool,lb=decide (Lib.compareBytes ((acc.map (·.key)).getD (k-1) []) (XT bs (115+64*k)).key<0):=⟨_,rfl⟩;have Px:=G Gw;have Fv:=G (show(k=0\/lb=true)->KB bs cn 0 []=KB bs (cn-(k+1)) (k+1) (acc++[XT bs (115+64*k)])from fun h=>by
    rw[N5.out,jJ5];rintro ⟨h1,h2⟩;rcases h with h|h
    ·omega
    ·rw[Gw]at h;exact h2 (of_decide_eq_true h))
   have M6:=G (show 0<k->lb=false->D=none from fun h1 h2=>by
    rw[Gw]at h2;rw[HD.out,N5.out,jJ6 ⟨h1,of_decide_eq_false h2⟩];rfl)
   clear N5 Gw;have I7:=G (show(XT bs (115+64*k)).key=sl bs (115+64*k) 32/\(XT bs (115+64*k)).tag=sl bs (147+64*k) 32 from by have:=jAD (bs:=bs) (p:=115+64*k) Rt.out;rw[show 147+64*k=115+64*k+32 by omega];exact this);generalize XT bs (115+64*k)=sg at*;have WQ:=G (show Blk (wr.alloc (.cells zeroSgL.toArray 165)) wr.heap.size 165 zeroSgn.cells.toArray from by rw[jA0];exact jQ2 wr _ _);have Pd:=G ((jQ0 (fun b=>wr.heap.size<=b) wr).alloc (.cells zeroSgL.toArray 165));unfold zeroSgL at WQ Pd;clear Fs;go_upto_region 12 with(fail);generalize wr.alloc _=Ws at*;generalize hSS:wr.heap.size=S at*;have EK:=G hSS;clear hSS;have e64:IntKind.i64.wrap (64*(k:Int))=64*(k:Int):=jQ3 _ (by omega);have e115:IntKind.i64.wrap (115+64*(k:Int))=115+64*(k:Int):=jQ3 _ (by omega);have e147:IntKind.i64.wrap (147+64*(k:Int))=147+64*(k:Int):=jQ3 _ (by omega);have e179:IntKind.i64.wrap (179+64*(k:Int))=179+64*(k:Int):=jQ3 _ (by omega);have Pz:=G (show(prog.info? 5).map (·.size)=some 1 by kernel_rfl);have hs:=fun W=>VJ (P:=prog) kE kA (some ⟨b,o,none⟩) bs.length c (115+64*k) (147+64*k) .i64 .i64 (115+64*(k:Int)) (147+64*(k:Int)) (by omega) (by omega) (by omega) (by have:=Hc.out;have:=Rt.out;omega) W;have G9:=G (Rd.sub (p:=115+64*k) (m:=32) (Fy.out.old (HS.out.past (by rw[EK.out];exact Pd.out)).old.drew) (by have:=Rt.out;omega) Hc.out);have Wc:=G (yH bs (115+64*k) 32 (by have:=Rt.out;omega));rw[show 147+64*k-(115+64*k)=32 by omega]at hs;generalize (if c=115+64*k then(some (⟨b,o,none⟩:Addr))else(some (⟨b,o,none⟩:Addr)).map (·.add ((115+64*k)*1)))=AA56 at hs G9;generalize c-(115+64*k)=cc56 at hs;generalize sl bs (115+64*k) 32=dd56 at*;replace WQ:=G WQ.out.drew;replace Pd:=G Pd.out.drew;refine je (S:=fun _=>True) 11 rfl (by kernel_rfl) trivial (fun H9=> ?_)
   iterate 10 (first|(refine qI rfl rfl (by kernel_rfl) (fun _ _ _ h=>h) rfl H9 ?_;simp only[Act.put,jJ1,jJ2,jJ3])|(refine' tOn rfl rfl (by kernel_rfl) (fun _ _ _ h=>h) rfl H9 (fun w' hJ=> ?_) ?_;rotate_left;(clear hJ;go_simp<;>with_reducible rfl);simp only[Act.put,jJ1,jJ2,jJ3]))
   refine VP rfl (by kernel_rfl) (by decide) (fun K hK=> ?_);refine step_copy_splice rfl (.tmp 57) (.tmp 65) 22 22 rfl 5 underlying22 Pz.out (some ⟨S,0,none⟩) AA56 32 32 32 cc56 rfl rfl S 0 (Sgn.cells zeroSgn) 165 WQ.out (dd56.map bv) (by rw[jK7,Wc.out];rfl) (fun hn=> ?_) (by rw[jK7,Wc.out,Sgn.len];decide) (jf _) S _ (Below.refl _ _) (jL3 _) ?_
   ·obtain⟨b2,o2,rfl,Gz⟩:=G9.out.2 (by decide);exact⟨rfl,_,rfl,fun j v hv=>by rw[Addr.add_lit];exact Gz j v hv⟩
   intro w4 WC WE;obtain⟨s1,CO,WQ⟩:∃s1:Sgn,s1.key=dd56/\Hid (Blk w4 S 165 s1.cells.toArray):=⟨⟨dd56,zeroSgn.tag,Wc.out,zeroSgn.ht⟩,rfl,G (jIP dd56 Wc.out WC.out)⟩;replace Pd:=G (Pd.out.trans (Kp.of_under WE) (fun _ _ hx=>hx));have Sp:=G CO;clear WC WE hs G9 Wc CO;go_wp2_with fail;refine hK.out _ _ trivial (fun H9=> ?_);clear hK K;refine wpAnyH_done (by kernel_rfl) ?_ _;go_upto_region 13 with(fail);have hs:=fun W=>VJ (P:=prog) kE kA (some ⟨b,o,none⟩) bs.length c (147+64*k) (179+64*k) .i64 .i64 (147+64*(k:Int)) (179+64*(k:Int)) (by omega) (by omega) (by omega) (by have:=Hc.out;have:=Rt.out;omega) W;have G9:=G (Rd.sub (p:=147+64*k) (m:=32) (Fy.out.old (HS.out.past (by rw[EK.out];exact Pd.out)).old.drew) (by have:=Rt.out;omega) Hc.out);have Wc:=G (yH bs (147+64*k) 32 (by have:=Rt.out;omega));rw[show 179+64*k-(147+64*k)=32 by omega]at hs;generalize (if c=147+64*k then(some (⟨b,o,none⟩:Addr))else(some (⟨b,o,none⟩:Addr)).map (·.add ((147+64*k)*1)))=AA67 at hs G9;generalize c-(147+64*k)=cc67 at hs;generalize sl bs (147+64*k) 32=dd67 at*;replace WQ:=G WQ.out.drew;replace Pd:=G Pd.out.drew;refine je (S:=fun _=>True) 11 rfl (by kernel_rfl) trivial (fun H9=> ?_)
   iterate 10 (first|(refine qI rfl rfl (by kernel_rfl) (fun _ _ _ h=>h) rfl H9 ?_;simp only[Act.put,jJ1,jJ2,jJ3])|(refine' tOn rfl rfl (by kernel_rfl) (fun _ _ _ h=>h) rfl H9 (fun w' hJ=> ?_) ?_;rotate_left;(clear hJ;go_simp<;>with_reducible rfl);simp only[Act.put,jJ1,jJ2,jJ3]))
   refine VP rfl (by kernel_rfl) (by decide) (fun K hK=> ?_);refine step_copy_splice rfl (.tmp 68) (.tmp 76) 22 22 rfl 5 underlying22 Pz.out (some ⟨S,32,none⟩) AA67 32 32 32 cc67 rfl rfl S 32 (Sgn.cells s1) 165 WQ.out (dd67.map bv) (by rw[jK7,Wc.out];rfl) (fun hn=> ?_) (by rw[jK7,Wc.out,Sgn.len];decide) (jf _) S _ (Below.refl _ _) (jL3 _) ?_
   ·obtain⟨b2,o2,rfl,Gz⟩:=G9.out.2 (by decide);exact⟨rfl,_,rfl,fun j v hv=>by rw[Addr.add_lit];exact Gz j v hv⟩
   intro w5 WC WE;obtain⟨s2,Nw,Oa,WQ⟩:∃s2:Sgn,s2.key=s1.key/\s2.tag=dd67/\Hid (Blk w5 S 165 s2.cells.toArray):=⟨⟨s1.key,dd67,s1.hk,Wc.out⟩,rfl,rfl,G (jIO dd67 Wc.out WC.out)⟩;replace Pd:=G (Pd.out.trans (Kp.of_under WE) (fun _ _ hx=>hx));obtain rfl:s2=sg:=jDD (by rw[Nw,Sp.out,I7.out.1]) (by rw[Oa,I7.out.2]);clear WC WE hs G9 Wc Nw Oa Sp I7;go_wp2_with fail;refine hK.out _ _ trivial (fun H9=> ?_);clear hK K;refine wpAnyH_done (by kernel_rfl) ?_ _;go_upto_region 14 with(fail);have HwN:=G (show N<S by have:=HS.out.note.lt;rw[EK.out]at this;exact this);replace HS:=G (HS.out.past (by rw[EK.out];exact Pd.out));have HwS:=G (show S<w5.heap.size from WQ.out.lt);clear Pd EK;have Gy:k=0\/(0<k/\lb=true)\/(0<k/\lb=false):=by
    rcases Nat.eq_zero_or_pos k with h|h
    ·exact .inl h
    ·cases lb
     ·exact .inr (.inr ⟨h,rfl⟩)
     ·exact .inr (.inl ⟨h,rfl⟩)
   rcases Gy with h0|⟨h0,Lu⟩|⟨h0,Lu⟩
   case' inl=>
    have d3:¬(0:Int)<(k:Int):=(by omega);have d3n:¬0<k:=(by omega);have Hg2:=G (Fv.out (.inl h0));clear h0 Fv M6 Px;refine je (S:=fun _=>True) 15 rfl (by kernel_rfl) trivial (fun H9=> ?_)
    iterate 15 (first|(refine qI rfl rfl (by kernel_rfl) (fun _ _ _ h=>h) rfl H9 ?_;simp only[Act.put,jJ1,jJ2,jJ3])|(refine' tOn rfl rfl (by kernel_rfl) (fun _ _ _ h=>h) rfl H9 (fun w' hJ=> ?_) ?_;rotate_left;(clear hJ;go_simp<;>with_reducible rfl);simp only[Act.put,jJ1,jJ2,jJ3]))
    refine wpAnyH_done (by kernel_rfl) ?_ _;replace HS:=G (HS.out.past (jQ0 _ _).drew);replace WQ:=G WQ.out.drew;generalize w5.drew=w6 at*
   case' inr.inl=>
    have hv:decide (Lib.compareBytes ((acc.map (·.key)).getD (k-1) []) s2.key<0)=true:=by rw[<-Px.out];exact Lu
    have Hg2:=G (Fv.out (.inr Lu));clear Lu Fv M6 Px
   case' inr.inr=>
    have hv:decide (Lib.compareBytes ((acc.map (·.key)).getD (k-1) []) s2.key<0)=false:=by rw[<-Px.out];exact Lu
    have hY:=G (M6.out h0 Lu);clear Lu Fv M6 Px
   case' inr.inl|inr.inr=>
    have d3:(0:Int)<(k:Int):=(by omega);have d3n:0<k:=h0;have d4:(k:Int)-1<(k:Int):=(by omega);have d5:(0:Int)<=(k:Int)-1:=(by omega);have d6:((k:Int)-1).toNat=k-1:=(by omega);have d7:(1:Int)<=(k:Int):=(by omega);have em1:IntKind.i64.wrap ((k:Int)-1)=(k:Int)-1:=jQ3 _ (by omega);have SQ:k-1<acc.length:=by have:=FY.out;omega
    have TT:(acc.map (·.key)).getD (k-1) []=acc[k-1].key:=(by simp[List.getD,SQ]);rw[TT]at hv;obtain⟨g2,o2,Ak,_,SG⟩:=Zk (Rd.of_own HS.out.own) rfl SQ;have CJ:=G (show∀W',Old w5 W' ->W'.cell? ⟨N,98,none⟩=some (.slice (some ⟨g2,o2,none⟩) k c')/\W'.rangeAt g2 (o2+(k-1)*64) (jA acc[k-1].key)/\W'.rangeAt S 0 (jA s2.key)from fun W' ho=>⟨by
     have:=zJ ho HS.out.c98;rw[Ak,FY.out]at this;exact this,jo SG ho,jo (s2.s0.range WQ.out) ho⟩)
    have LY:(prog.info? 40).map (·.size)=some (jA acc[k-1].key).length:=by rw[jB,acc[k-1].hk];exact jO
    have PH:(prog.info? 40).map (·.size)=some (jA s2.key).length:=by rw[jB,s2.hk];exact jO
    have HL:=G (fun W=>QT W acc[k-1].key s2.key acc[k-1].hk s2.hk);have Pp:=CJ.out w5.drew ((jQ0 NoX w5).drew);generalize acc[k-1].key=yk at*;clear SG Ak TT;refine je (S:=fun w' =>w'.cell? ⟨N,98,none⟩=some (.slice (some ⟨g2,o2,none⟩) k c')/\w'.rangeAt g2 (o2+(k-1)*64) (jA yk)/\w'.rangeAt S 0 (jA s2.key)) 15 rfl (by kernel_rfl) Pp (fun H9=> ?_);clear Pp
    iterate 4 (first|(refine qI rfl rfl (by kernel_rfl) (fun _ _ _ h=>h) rfl H9 ?_;simp only[Act.put,jJ1,jJ2,jJ3])|(refine' tOn rfl rfl (by kernel_rfl) (fun _ _ _ h=>h) rfl H9 (fun w' hJ=> ?_) ?_;rotate_left;(clear hJ;go_simp<;>with_reducible rfl);simp only[Act.put,jJ1,jJ2,jJ3]))
    refine' tOn rfl rfl (by kernel_rfl) (fun _ _ _ h=>h) rfl H9 (fun w' hJ=> ?_) ?_;rotate_left
    ·have hq1:=hJ.1;clear hJ;go_simp<;>with_reducible rfl
    simp only[Act.put,jJ1,jJ2,jJ3]
    iterate 4 (first|(refine qI rfl rfl (by kernel_rfl) (fun _ _ _ h=>h) rfl H9 ?_;simp only[Act.put,jJ1,jJ2,jJ3])|(refine' tOn rfl rfl (by kernel_rfl) (fun _ _ _ h=>h) rfl H9 (fun w' hJ=> ?_) ?_;rotate_left;(clear hJ;go_simp<;>with_reducible rfl);simp only[Act.put,jJ1,jJ2,jJ3]))
    refine' tOn rfl rfl (by kernel_rfl) (fun _ _ _ h=>h) rfl H9 (fun w' hJ=>jl 40 (.tmp 86) rfl g2 (o2+(k-1)*64) rfl (jA yk) _ hJ.2.1 underlying40 rfl LY) ?_;simp only[Act.put,jJ1,jJ2,jJ3]
    iterate 1 (first|(refine qI rfl rfl (by kernel_rfl) (fun _ _ _ h=>h) rfl H9 ?_;simp only[Act.put,jJ1,jJ2,jJ3])|(refine' tOn rfl rfl (by kernel_rfl) (fun _ _ _ h=>h) rfl H9 (fun w' hJ=> ?_) ?_;rotate_left;(clear hJ;go_simp<;>with_reducible rfl);simp only[Act.put,jJ1,jJ2,jJ3]))
    refine' tOn rfl rfl (by kernel_rfl) (fun _ _ _ h=>h) rfl H9 (fun w' hJ=>jl 40 (.tmp 88) rfl S 0 rfl (jA s2.key) _ hJ.2.2 underlying40 rfl PH) ?_;simp only[Act.put,jJ1,jJ2,jJ3];refine VP rfl (by kernel_rfl) (by decide) (fun K hK=> ?_);go_simp;go_at_call 167;refine(HL.out _).mono ?_;rintro e w6 ⟨rfl,FN⟩;have GZ:=((jQ0 NoX w5).drew).old FN;replace HS:=G (HS.out.past (GZ.mono (fun _ _ f=>f.elim)));replace WQ:=G (WQ.out.old GZ);have HhS:=G (CJ.out _ GZ);clear FN GZ CJ HL;rw[hv];go_simp;refine hK.out _ _ HhS.out (fun H9=> ?_);clear hK K
    iterate 2 (first|(refine qI rfl rfl (by kernel_rfl) (fun _ _ _ h=>h) rfl H9 ?_;simp only[Act.put,jJ1,jJ2,jJ3])|(refine' tOn rfl rfl (by kernel_rfl) (fun _ _ _ h=>h) rfl H9 (fun w' hJ=> ?_) ?_;rotate_left;(clear hJ;go_simp<;>with_reducible rfl);simp only[Act.put,jJ1,jJ2,jJ3]))
    refine wpAnyH_done (by kernel_rfl) ?_ _;clear H9 HhS LY PH hv h0
   case inr.inr=>
    have WS:=G HS.out.box;have V7:=G HS.out.old;have hU:=G (WO.out _ WS.out);have FI:=G (Lb.out _ WS.out);have FR:=G (La.out _ V7.out);go_wp2_with (first|((with_reducible refine jM 48 ?_);refine jX rfl 48 rfl _ (Wj.out _) ?_)|((with_reducible refine jF 48 (.tmp 2) (.tmp 93) ?_);refine jQ1 rfl 48 (.tmp 2) (.tmp 93) rfl w.heap.size 0 zeroNote.toArray rfl rfl hU.out NJ.out Wk.out ?_)|fail);refine jD (g:=w.heap.size) (cs:=zeroNote.toArray) rfl rfl FI.out underlying48 rfl V9 rfl ?_;rw[hY.out];exact zZ FR.out
   all_goals
    obtain⟨i0,z0,hi,Fz,Ft,FC,Ms⟩:=Zm;have FU:=G (show k+1<=maxLen by have:=Eu.out;unfold maxLen;omega);have FV:=G (show(k+1)*64<=140737488355328 by have:=Eu.out;omega);have Gg:=G (show N+1<=w6.heap.size from HS.out.note.lt);have In:=G (show w6.ownsRow (N+1) 165 64 (.slice A' k c') k _ from by have h:=HS.out.own;rw[FY.out]at h;exact h);have c98:w6.cell? ⟨N,98,none⟩=some (.slice A' k c'):=by have h:=HS.out.c98;rw[FY.out]at h;exact h
    have z98:=HS.out.note.frozen 98;have NA:=G (HS.out.note.alloc (.cells s2.cells.toArray 165));have V5:=G (show(w6.alloc (.cells s2.cells.toArray 165)).cell? ⟨N,98,none⟩=some (.slice A' k c')from cal c98 _);have Ff:some N≠(Value.slice A' k c').ownBlock:=by
     rw[jE];intro e;have:=(jY In.out e.symm).1;omega
    have Cy:=G WQ.out.range;have I8:=G (show(prog.info? 165).map (·.size)=some s2.cells.length by rw[s2.len];exact Kf);go_wp2_with (first
     |((with_reducible refine jT 165 (.tmp 9) ?_);refine jK rfl 165 (.tmp 9) rfl S 0 rfl s2.cells _ Cy.out underlying165 rfl I8.out ?_)
     |((with_reducible refine ji 165 (.tmp 9) ?_);refine jK rfl 165 (.tmp 9) rfl S 0 rfl s2.cells _ Cy.out underlying165 rfl I8.out ?_)
     |((with_reducible refine jHN 46 (.tmp 96) ?_);refine jCv rfl (.tmp 96) rfl s2 rfl ?_)
     |(at_builtin;refine jJ _ rfl (.tmp 95) (.tmp 97) 46 rfl (N+1) 165 i0 (.agg z0) 64 64 underlying46 hi Fz Ft FC Ms (by decide) (.slice A' k c') k _ rfl (In.out.alloc _) (some ⟨w6.heap.size,0,none⟩) 1 1 s2.cells rfl (Rd.row_new _ _ 64 1 _ (by rw[s2.len])) (Sgn.one s2) FU.out FV.out (jL4 Gg.out (by simp)) ?_;intro A7 c7 w7 Hi hgrow Fo;have M8:=hgrow.cell (a:=⟨N,98,none⟩) V5.out Ff;have Wo:w7.frozen? ⟨N,98,none⟩=false:=(World.frozen?_of_block (hgrow.block N NA.out.lt Ff)).trans (NA.out.frozen 98))
     |fail)
    rw[jE]at hgrow Fo;have No:=G ((HS.out.past ((jQ0 _ _).alloc (.cells s2.cells.toArray 165))).grow (s:=s2) hgrow (by rw[FY.out,List.flatMap_append,List.flatMap_singleton];exact Hi));rw[FY.out]at No;clear Hi hgrow Fo FU FV In hi Fz Ft FC Ms Gg c98 z98 Ff M8 Wo HS NA V5 WQ Cy I8;go_roundw
    case rel=>exact⟨k+1,acc++[s2],A7,c7,by omega,by go_num,by rw[jJ4,FY.out];rfl,No.out,Hg2.out⟩
    case measure=>simp[intOf];omega
  ·obtain rfl:k=cn:=(by omega);have RL:=G (show D=some (h,acc)by rw[HD.out,Fs.out,Nat.sub_self];rfl);have d1:¬(k:Int)<(k:Int):=(by omega);have I9:=G (show(prog.info? 48).map (·.size)=some (MNote.cells ⟨h,acc,A',c'⟩).length by rw[MNote.len HS.out.ok];exact kN);have HM1:=G (MNote.one ⟨h,acc,A',c'⟩);have Fn:=G HS.out.note.range;have U1:=G (show zeroNote.length=(MNote.cells ⟨h,acc,A',c'⟩).length by rw[MNote.len HS.out.ok];rfl);have hU:=G (HS.out.box.there 0 (MNote.cells ⟨h,acc,A',c'⟩).toArray.size (by rw[jJ8,jJ8,U1.out];omega));have FI:=G (HS.out.box.setWhole (MNote.cells ⟨h,acc,A',c'⟩) U1.out);have FR:=G (HS.out.old.trans (Kp.setCells w.heap.size 0 (MNote.cells ⟨h,acc,A',c'⟩) wr) (fun b hb e=>by omega));have IZ:=G (show MNote.Ok (wr.setCells w.heap.size 0 (MNote.cells ⟨h,acc,A',c'⟩)) (fun b=>b<w.heap.size) ⟨h,acc,A',c'⟩from
    ⟨HS.out.ok,(Rd.of_own HS.out.own).kp (Kp.setCells w.heap.size 0 _ wr) (fun hn ad e hx=>by
      have h1:=vd HS.out.own hn ad e;have h2:¬ad.block<N+1:=h1;have h3:ad.block=w.heap.size:=hx;have:=HS.out.lt;omega),fun hn ad e hx=>by
      have h1:=vd HS.out.own hn ad e;have h2:¬ad.block<N+1:=h1;have h3:ad.block<w.heap.size:=hx;have:=HS.out.lt;omega,by have:=FY.out;have:=AC.out;show acc.length<=_;omega⟩)
   clear Fs;go_wp2_with (first|((with_reducible refine jT 48 (.tmp 7) ?_);refine jK rfl 48 (.tmp 7) rfl N 0 rfl (MNote.cells ⟨h,acc,A',c'⟩) _ Fn.out underlying48 rfl I9.out ?_)|((with_reducible refine jF 48 (.tmp 2) (.tmp 100) ?_);refine jQ1 rfl 48 (.tmp 2) (.tmp 100) rfl w.heap.size 0 (MNote.cells ⟨h,acc,A',c'⟩).toArray rfl rfl hU.out I9.out HM1.out ?_)|fail);refine jD (g:=w.heap.size) (cs:=(MNote.cells ⟨h,acc,A',c'⟩).toArray) rfl rfl FI.out underlying48 rfl (by rw[jJ8];exact I9.out) rfl ?_;exact⟨⟨h,acc,A',c'⟩,by rw[RL.out];rfl,by rw[RL.out];rfl,IZ.out,FR.out⟩
def RdP(w:World)(g P:Nat)(bs:LB)(X:Nat->Prop)(x:Rep×Ls)(e:Ending)(w' :World):Prop:=
 e=.returned (.tuple #[])/\∃m:MReply,m.data=x.1/\Blk w' P 63 m.cells.toArray/\m.Ok w' X/\Lr w' g bs x.2/\Kp (fun k=>k=g\/k=P) w w'
theorem jIn(w:World)(g P:Nat)(bs:LB)(s:Ls)(X:Nat->Prop)(hX:∀k,X k->k<w.heap.size)(h:Lr w g bs s)(hP:Blk w P 63 zeroMR.cells.toArray)(N1:g<P):
  Calls prog 74 #[.pointer (some ⟨g,0,none⟩),.int .i64 8,.pointer (some ⟨P,0,none⟩)] w (RdP w g P bs X ({zeroRep with inc:=(ve (bs.drop s.at_)).getD ⟨0,0,[]⟩},s)):=by
 have Hh:=G h;have HP:=G hP;have Nm:=G N1;have HX:=G hX;have WI:=G hP.lt;obtain⟨A,c,hb,hr,_,hc,Fu,hl⟩:=h;have c0:=hb.at_ 0 (v:=.slice A (bs.length-s.at_) c) rfl;have e1:bs.length-s.at_=(bs.drop s.at_).length:=(by rw[jK8]);rw[e1]at c0 hr hc;have HC:=G (jDn w A c (bs.drop s.at_) hr hc);clear hb hr hc Fu hl e1 hP N1 hX;generalize (bs.drop s.at_).length=n at*;generalize ve (bs.drop s.at_)=D at*;go_enter func74,ntmps74;go_wp2_with fail;refine HC.out.mono ?_;clear HC;rintro e w1 ⟨m0,er,hm,rfl,Hu,ho⟩;have Hm:=G hm;have hU:=G ((HP.out.old ho).there 146 m0.cells.toArray.size (by rw[jJ8,jJ8,(jI w NoX).len,show m0.cells.length=3 from rfl];decide));have GB:=G (Kp.setCells P 146 m0.cells w1);have RC:=G (show Blk (w1.setCells P 146 m0.cells) P 63 (MReply.cells {zeroMR with inc:=m0}).toArray from(HP.out.old ho).rInc jy zeroHd_ok m0);have M7:=G (show MReply.Ok (w1.setCells P 146 m0.cells) X {zeroMR with inc:=m0}from by
  have Z:=jI (w1.setCells P 146 m0.cells) X;have k:m0.Ok (w1.setCells P 146 m0.cells) X:=Hu.turn GB.out (fun b _ e=>by have h1:b=P:=e;have:=WI.out;show b<w.heap.size;omega) (fun b _ e=>HX.out b e);exact{Z with inc:=k})
 have HL:=G ((Hh.out.old ho).kp GB.out (fun k hk e=>by have h1:k=P:=e;have:=Nm.out;omega));have HK:=G ((ho.mono (Y:=fun k=>k=g\/k=P) (fun _ _ f=>f.elim)).trans GB.out (fun b _ e=>.inr e));clear hm Hu ho c0;go_wp2_with (first|((with_reducible refine jF 51 (.tmp 178) (.tmp 175) ?_);refine jQ1 rfl 51 (.tmp 178) (.tmp 175) rfl P 146 m0.cells.toArray rfl rfl hU.out jN (jR rfl) ?_)|fail);go_end0;exact⟨rfl,_,by show({zeroRep with inc:=m0.data}:Rep)=_;rw[Hm.out],RC.out,M7.out,HL.out,HK.out⟩
theorem jIm(w:World)(g P:Nat)(bs:LB)(s:Ls)(X:Nat->Prop)(hX:∀k,X k->k<w.heap.size)(h:Lr w g bs s)(hP:Blk w P 63 zeroMR.cells.toArray)(N1:g<P):
  Calls prog 74 #[.pointer (some ⟨g,0,none⟩),.int .i64 9,.pointer (some ⟨P,0,none⟩)] w (RdP w g P bs X ({zeroRep with con:=(vf (bs.drop s.at_)).getD ⟨0,0,[]⟩},s)):=by
 have Hh:=G h;have HP:=G hP;have Nm:=G N1;have HX:=G hX;have WI:=G hP.lt;obtain⟨A,c,hb,hr,_,hc,Fu,hl⟩:=h;have c0:=hb.at_ 0 (v:=.slice A (bs.length-s.at_) c) rfl;have e1:bs.length-s.at_=(bs.drop s.at_).length:=(by rw[jK8]);rw[e1]at c0 hr hc;have HC:=G (jDp w A c (bs.drop s.at_) hr hc);clear hb hr hc Fu hl e1 hP N1 hX;generalize (bs.drop s.at_).length=n at*;generalize vf (bs.drop s.at_)=D at*;go_enter func74,ntmps74;go_wp2_with fail;refine HC.out.mono ?_;clear HC;rintro e w1 ⟨m0,er,hm,rfl,Hu,ho⟩;have Hm:=G hm;have hU:=G ((HP.out.old ho).there 149 m0.cells.toArray.size (by rw[jJ8,jJ8,(jI w NoX).len,show m0.cells.length=3 from rfl];decide));have GB:=G (Kp.setCells P 149 m0.cells w1);have RC:=G (show Blk (w1.setCells P 149 m0.cells) P 63 (MReply.cells {zeroMR with con:=m0}).toArray from(HP.out.old ho).rCon jy zeroHd_ok m0);have M7:=G (show MReply.Ok (w1.setCells P 149 m0.cells) X {zeroMR with con:=m0}from by
  have Z:=jI (w1.setCells P 149 m0.cells) X;have k:m0.Ok (w1.setCells P 149 m0.cells) X:=Hu.turn GB.out (fun b _ e=>by have h1:b=P:=e;have:=WI.out;show b<w.heap.size;omega) (fun b _ e=>HX.out b e);exact{Z with con:=k})
 have HL:=G ((Hh.out.old ho).kp GB.out (fun k hk e=>by have h1:k=P:=e;have:=Nm.out;omega));have HK:=G ((ho.mono (Y:=fun k=>k=g\/k=P) (fun _ _ f=>f.elim)).trans GB.out (fun b _ e=>.inr e));clear hm Hu ho c0;go_wp2_with (first|((with_reducible refine jF 53 (.tmp 191) (.tmp 188) ?_);refine jQ1 rfl 53 (.tmp 191) (.tmp 188) rfl P 149 m0.cells.toArray rfl rfl hU.out jL (jR rfl) ?_)|fail);go_end0;exact⟨rfl,_,by show({zeroRep with con:=m0.data}:Rep)=_;rw[Hm.out],RC.out,M7.out,HL.out,HK.out⟩
end Go.Proofs.YtnaolhjbapgjgaaGreat

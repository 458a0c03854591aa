import Derived.Test.YtifbhcfdealfaaaGreatDoorMd23
import GoSem.ClaimKeys
import Derived.WideKeyEntry
set_option maxRecDepth 100000
set_option maxHeartbeats 25600000
namespace Go.Proofs.YtifbhcfdealfaaaGreatDoor
open Go.Proofs.Tryz
open Go.Maps (has IsMap)
structure MapN{κ:Type}(key:κ->Lit)(D:DM)(f:κ->Int):Prop where
 is:IsMap D
 at_:∀s,D.atKey (key s) (.lit (.int .i64 0))=.lit (.int .i64 (f s))
theorem MapN.empty{κ:Type}(key:κ->Lit):MapN key (.map []) (fun _=>0):=⟨Maps.isMap_empty,fun _=>rfl⟩
theorem MapN.put{κ:Type}[DecidableEq κ]{key:κ->Lit}(inj:∀a b,key a=key b->a=b)(hl:∀a,WideAt.IsKeyLit (key a)){D:DM}{f:κ->Int}(h:MapN key D f)(x:κ)(v:Int):MapN key (D.put (key x) (.lit (.int .i64 v))) (fun s=>if s=x then v else f s):=by
 refine⟨h.is.put _ _,fun s=> ?_⟩;by_cases e:s=x
 ·subst e;rw[jJ6 rfl,Maps.atKey_put_same h.is (hl s)]
 ·rw[jJ5 e,Maps.atKey_put_other (fun he=>e (inj _ _ he)),h.at_]
theorem MapN.congr{κ:Type}{key:κ->Lit}{D:DM}{f g:κ->Int}(h:MapN key D f)(e:∀s,f s=g s):MapN key D g:=⟨h.is,fun s=>by rw[<-e];exact h.at_ s⟩
def MapC{κ:Type}(P:Program)(k e:TypeId)(key:κ->Lit)(w:World)(b n:Nat)(f:κ->Int):Prop:=∃D:DM,w.ownsMap P k (plainElem P e) b n D/\MapN key D f
section
variable{κ:Type}{P:Program}{k e:TypeId}{key:κ->Lit}{w:World}{b n:Nat}{f:κ->Int}
theorem MapC.lt(h:MapC P k e key w b n f):b<w.heap.size:=by
 obtain⟨D,h,_⟩:=h;exact h.lt
theorem MapC.same{w' :World}(h:MapC P k e key w b n f)(hb:w'.heap[b]? =w.heap[b]?):MapC P k e key w' b n f:=by
 obtain⟨D,⟨es,clock,h1,h2⟩,hr⟩:=h;exact⟨D,⟨es,clock,hb.trans h1,h2⟩,hr⟩
theorem MapC.congr(h:MapC P k e key w b n f){g:κ->Int}(hg:∀s,f s=g s):MapC P k e key w b n g:=by
 obtain⟨D,h,hr⟩:=h;exact⟨D,h,hr.congr hg⟩
end
def VE{κ:Type}[DecidableEq κ](l:List κ)(s:κ):Int:=(l.countP (fun y=>decide (y=s)):Nat)
theorem jFT{κ:Type}[DecidableEq κ](s:κ):VE ([]:List κ) s=0:=rfl
theorem VD{κ:Type}[DecidableEq κ](l:List κ)(x s:κ):VE (l++[x]) s=if s=x then VE l x+1 else VE l s:=by
 unfold VE;rw[List.countP_append,List.countP_singleton];by_cases e:s=x
 ·subst e;rw[jJ6 rfl,jJ6 (jK5 rfl)];omega
 ·rw[jJ5 e,jJ5 (by simpa using fun h=>e h.symm)];omega
theorem xl{κ:Type}[DecidableEq κ](l:List κ)(s:κ):l.any (fun y=>decide (y=s))=decide (0<VE l s):=by
 unfold VE;rw[Bool.eq_iff_iff,decide_eq_true_iff,List.any_eq_true,Int.natCast_pos,List.countP_pos_iff]
theorem UX{κ:Type}[DecidableEq κ](l:List κ)(s:κ):0<=VE l s/\VE l s<=(l.length:Int):=by
 unfold VE;have:=List.countP_le_length (p:=fun y=>decide (y=s)) (l:=l);omega
theorem jBV(l:List (BA×Bool))(x:BA)(b:Bool):(l.any fun y=>decide (y.1=x)&&decide (y.2=b))=decide (0<VE l (x,b)):=by
 rw[<-xl]
 congr 1
 funext y
 obtain⟨y1,y2⟩:=y;by_cases h1:y1=x<;>by_cases h2:y2=b<;>simp[h1,h2]
def kE(e:BA×Bool):Lit:=.string (keyBytes [.string e.1.data.toList,.bool e.2])
theorem zm:∀(w n:Nat),(bytesLE w n).length=w
 |0,_=>rfl
 |w+1,n=>by rw[bytesLE,jK6,zm w]
theorem jEt(a b:BA×Bool)(h:kE a=kE b):a=b:=by
 unfold kE keyBytes at h;injection h with h;simp only[jL9,List.flatMap_nil,jN7,Lit.keyBytes,jK1]at h;have hl:=congrArg List.length h;simp only[jJ4,bytesBE,List.length_reverse,zm,jK6,jN2]at hl;have h2:=List.append_inj h (by simp[bytesBE,zm]);have h3:=List.append_inj h2.2 (by omega);obtain⟨a1,a2⟩:=a;obtain⟨b1,b2⟩:=b;have e1:a1=b1:=by
  have:=h3.1;simp only at this;cases a1;cases b1
  congr 1
  exact Array.toList_inj.1 this
 have e2:a2=b2:=by
  have:=h3.2;cases a2<;>cases b2<;>first|rfl|(exact absurd this (by simp))
 rw[e1,e2]
open Go.Maps (Keyed)
section
variable{P:Program}{w:World}{t k e:TypeId}{b n:Nat}{D:DM}{key:Value}{kl:Lit}
theorem Qz(K:WideMaps.KeyLaw P k)(ht:P.underlying t=some (.map k e))(he:P.underlying e=some (.int .i64))(hz:∀u:World,(zeroValue e).run P u=.ok (.int .i64 0) u)
  (h:w.ownsMap P k (plainElem P e) b n D) (hm:Maps.IsMap D) (hl:WideAt.IsKeyLit kl) (hn:n<maxLen) (Fa:keyOf P k key=some kl) {c:Int} (hc:D.atKey kl (.lit (.int .i64 0))=.lit (.int .i64 c)):
  ∃(v0:Value) (st:Nat) (w1:World),(Instr.mapEntry t (.map (some b)) key).run P w=.ok (.tuple #[v0,goInt st]) w1/\w.grownBy w1 (some b)/\
   (∀w2:World,w2.heap[b]? =w1.heap[b]? ->(Instr.lookup t (.map (some b)) key false).run P w2=.ok (.int .i64 c) w2)/\
   ∀(w2:World) (x:Int),(Lit.int .i64 x).wf=true->w2.heap[b]? =w1.heap[b]? ->∃w3,(Instr.entryStore t (.map (some b)) (goInt st) (.int .i64 x)).run P w2=.ok () w3/\w3.ownsMap P k (plainElem P e) b (n+1) (D.put kl (.lit (.int .i64 x)))/\w2.grownBy w3 (some b):=by
 have K' :=Keyed.of_law K;have D7:=fun x (hx:(Lit.int .i64 x).wf=true)=>h.update K' ht hn Fa (plainElem_int (H:=Unit) he hx);have NS:=fun(w2:World) (D2:DM) (n2:Nat) (h2:w2.ownsMap P k (plainElem P e) b n2 D2)=>h2.lookup_int K' ht he (hz w2) Fa;have h0:=h;obtain⟨es,clock,hb,F,hs,hD⟩:=h;obtain⟨v0,st,es1,clock1,Ge,_,F3⟩:=WideElems.entry_then_store K ht hz hb F Fa;have W7:(ChangeMaps.setBlock w b (.map es1 clock1)).heap[b]? =some (.map es1 clock1):=ChangeMaps.heap_setBlock_same hb _;refine⟨v0,st,_,Ge,⟨rfl,rfl,rfl,by simp[ChangeMaps.setBlock],fun i _ hi=>ChangeMaps.heap_setBlock_other hb _ (fun e=>hi (by rw[e]))⟩,fun w2 L6=> ?_,fun w2 x hx L6=> ?_⟩
 ·rw[W7]at L6;rcases K.find w Fa es.toList F.keys with⟨h1,h2⟩|⟨j,e0,h1,h2,h3⟩
  ·obtain⟨w',MA,X0,_⟩:=D7 0 (by decide);have e1:(Instr.mapUpdate t (.map (some b)) key (.int .i64 0)).run P w=.ok () (ChangeMaps.setBlock w b (.map (es.push ⟨key,.int .i64 0,clock⟩) (clock+1))):=by
    simp[Instr.mapUpdate,run_underlying ht,MapKept.run_getObj_map hb,K.check w false Fa,h1,MapKept.run_setObj_map _ hb,Result.andThen,ChangeMaps.setBlock]
   have e2:(Instr.mapEntry t (.map (some b)) key).run P w=.ok (.tuple #[.int .i64 0,goInt clock]) (ChangeMaps.setBlock w b (.map (es.push ⟨key,.int .i64 0,clock⟩) (clock+1))):=by
    simp[Instr.mapEntry,run_underlying ht,MapKept.run_getObj_map hb,K.check w false Fa,h1,hz,MapKept.run_setObj_map _ hb,Result.andThen,ChangeMaps.setBlock]
   rw[e1]at MA;rw[e2]at Ge;have MA:=(Result.ok.inj MA).2;have Ge:=(Result.ok.inj Ge).2;have LO:(ChangeMaps.setBlock w b (.map (es.push ⟨key,.int .i64 0,clock⟩) (clock+1))).heap[b]? =some (.map es1 clock1):=by rw[Ge];exact W7
   subst MA;have Pw:w2.ownsMap P k (plainElem P e) b (n+1) (D.put kl (.lit (.int .i64 0))):=by
    obtain⟨es',clock',Gm,rest⟩:=X0;exact⟨es',clock',L6.trans (LO.symm.trans Gm),rest⟩
   obtain⟨c',WO,Ng,_⟩:=NS w2 _ _ Pw;rw[Maps.atKey_put_same hm hl]at Ng;have Ng:=(Lit.int.inj (DataW.lit.inj Ng)).2;rcases Maps.fit_look false K' ht (hz w) hb F Fa with⟨_,_,F1⟩|⟨e0,y,Ax,Wj,_⟩
   ·rw[<-hD]at F1;rw[F1]at hc;have hc:=(Lit.int.inj (DataW.lit.inj hc)).2;rw[WO,<-Ng,<-hc]
   ·exact absurd Wj (h2 e0 Ax)
  ·have hj:es[j]? =some e0:=(by simpa using h2);have Q6:es.modify j (fun e=>{e with key:=key})=es:=by
    apply Array.ext';rw[Array.toList_modify,ChangeMaps.modify_eq_set _ _ _ _ h2];have:({e0 with key:=key}:MapEntry)=e0:=(by rw[<-h3]);rw[this];exact WideElems.set_self _ _ _ h2
   have e2:(Instr.mapEntry t (.map (some b)) key).run P w=.ok (.tuple #[e0.val,goInt e0.born]) (ChangeMaps.setBlock w b (.map es clock)):=by
    simp[Instr.mapEntry,run_underlying ht,MapKept.run_getObj_map hb,K.check w false Fa,h1,hj,h3,K.stays w Fa,Q6,MapKept.run_setObj_map _ hb,Result.andThen,ChangeMaps.setBlock]
   rw[e2]at Ge;have Ge:=(Result.ok.inj Ge).2;have LO:(ChangeMaps.setBlock w b (.map es clock)).heap[b]? =some (.map es1 clock1):=by rw[Ge];exact W7
   rw[ChangeMaps.heap_setBlock_same hb]at LO;have Pw:w2.ownsMap P k (plainElem P e) b n D:=⟨es,clock,L6.trans LO.symm,F,hs,hD⟩;obtain⟨c',WO,Ng,_⟩:=NS w2 _ _ Pw;rw[hc]at Ng;have Ng:=(Lit.int.inj (DataW.lit.inj Ng)).2;rw[WO,Ng]
 ·rw[W7]at L6;obtain⟨es',clock',FC,hu⟩:=F3 w2 (.int .i64 x) L6;obtain⟨w',MA,X0,IC⟩:=D7 x hx;rw[hu]at MA;have MA:=(Result.ok.inj MA).2;subst MA;obtain⟨es'',clock'',RS,rest⟩:=X0;rw[ChangeMaps.heap_setBlock_same hb]at RS;refine⟨_,FC,⟨es'',clock'',?_,rest⟩,⟨rfl,rfl,rfl,by simp[ChangeMaps.setBlock],fun i _ hi=>ChangeMaps.heap_setBlock_other L6 _ (fun e=>hi (by rw[e]))⟩⟩;rw[ChangeMaps.heap_setBlock_same L6];exact RS
end
section
variable{P:Program}{w:World}{o:Oper}{a:Act}{K:Act->World->Prop}{Q:Exit->Act->World->Prop}{ops:Array Oper}{E:Prop}
theorem yu(N7:o.guard=none)(m x:Operand)(t:TypeId)(hg:o.op=Op.lookup t m x false)(mv xv:Value)(hm:a.eval m=mv)(hx:a.eval x=xv){v:Value}(h:(Instr.lookup t mv xv false).run P w=.ok v w)(hK:K (a.put o.dst v) w):if Region.wanted o (yielded ops a.tmps)=true then Oper.wp P o a w K Q else E:=by
 rw[jJ6 (show Region.wanted o (yielded ops a.tmps)=true by simp[Region.wanted,N7])];unfold Oper.wp;simp[execOp,hg,hm,hx,h,Result.andThen];exact hK
theorem ze(N7:o.guard=none)(m x:Operand)(t:TypeId)(hg:o.op=Op.mapEntry t m x)(mv xv:Value)(hm:a.eval m=mv)(hx:a.eval x=xv){v:Value}{w' :World}(h:(Instr.mapEntry t mv xv).run P w=.ok v w')(hK:K (a.put o.dst v) w'):if Region.wanted o (yielded ops a.tmps)=true then Oper.wp P o a w K Q else E:=by
 rw[jJ6 (show Region.wanted o (yielded ops a.tmps)=true by simp[Region.wanted,N7])];unfold Oper.wp;simp[execOp,hg,hm,hx,h,Result.andThen];exact hK
theorem vi(N7:o.guard=none)(m x y:Operand)(t:TypeId)(hg:o.op=Op.entryStore t m x y)(mv xv yv:Value)(hm:a.eval m=mv)(hx:a.eval x=xv)(hy:a.eval y=yv){w' :World}(h:(Instr.entryStore t mv xv yv).run P w=.ok () w')(hK:K (a.put o.dst undef) w'):if Region.wanted o (yielded ops a.tmps)=true then Oper.wp P o a w K Q else E:=by
 rw[jJ6 (show Region.wanted o (yielded ops a.tmps)=true by simp[Region.wanted,N7])];unfold Oper.wp;simp[execOp,hg,hm,hx,hy,h,Result.andThen];exact hK
end
end Go.Proofs.YtifbhcfdealfaaaGreatDoor

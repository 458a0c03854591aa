import Derived.Test.YtmmjcbbogokmfaaGreatDoorMp16
import Derived.Shelf.Strconv.Itoa3
import Derived.Shelf.Strconv.AtoiAll
import Derived.Ground.NamesProg
import Derived.Test.YtmmjcbbogokmfaaGreatDoorProg
import Derived.Lib.AtoiAll
set_option maxRecDepth 100000
set_option maxHeartbeats 25600000
namespace Go.Proofs
open Go.Proofs.Tryz
open Go.Shelf
def jBJ:Go.Shelf.Ren:=⟨fun|171=>221|243=>235|246=>242|283=>247|284=>248|285=>249|286=>250|129=>256|317=>255|318=>257|319=>258|320=>259|337=>268|338=>269|n=>n,fun|3=>3|9=>9|2=>2|4=>4|171=>287|0=>0|53=>288|37=>33|5=>5|173=>291|212=>297|51=>298|20=>20|213=>299|46=>200|232=>315|233=>316|n=>n,fun|17=>3|18=>6|19=>7|n=>n⟩
theorem jHu:Go.Proofs.LaysM.n171 prog jBJ:={
 mixed:=by kernel_rfl
 f129:=func256.trans (congrArg some (by kernel_rfl))
 f171:=func221.trans (congrArg some (by kernel_rfl))
 f243:=func235.trans (congrArg some (by kernel_rfl))
 f246:=func242.trans (congrArg some (by kernel_rfl))
 f283:=func247.trans (congrArg some (by kernel_rfl))
 f284:=func248.trans (congrArg some (by kernel_rfl))
 f285:=func249.trans (congrArg some (by kernel_rfl))
 f286:=func250.trans (congrArg some (by kernel_rfl))
 f317:=func255.trans (congrArg some (by kernel_rfl))
 f318:=func257.trans (congrArg some (by kernel_rfl))
 f319:=func258.trans (congrArg some (by kernel_rfl))
 f320:=func259.trans (congrArg some (by kernel_rfl))
 f337:=func268.trans (congrArg some (by kernel_rfl))
 f338:=func269.trans (congrArg some (by kernel_rfl))
 t0:=underlying0
 a0:=isAgg0
 z0:=sizeOf0
 v0:=zeroValue0
 t2:=underlying2
 a2:=isAgg2
 z2:=sizeOf2
 v2:=zeroValue2
 t3:=underlying3
 a3:=isAgg3
 z3:=sizeOf3
 v3:=zeroValue3
 t4:=underlying4
 a4:=isAgg4
 z4:=sizeOf4
 v4:=zeroValue4
 t5:=underlying5
 a5:=isAgg5
 z5:=sizeOf5
 v5:=zeroValue5
 t9:=underlying9
 a9:=isAgg9
 z9:=sizeOf9
 v9:=zeroValue9
 t20:=underlying20
 a20:=isAgg20
 z20:=sizeOf20
 v20:=zeroValue20
 t37:=underlying33
 a37:=isAgg33
 z37:=sizeOf33
 v37:=zeroValue33
 t46:=underlying200
 a46:=isAgg200
 z46:=sizeOf200
 v46:=zeroValue200
 t51:=underlying298
 a51:=isAgg298
 z51:=sizeOf298
 v51:=zeroValue298
 t53:=underlying288
 a53:=isAgg288
 z53:=sizeOf288
 v53:=zeroValue288
 t171:=underlying287
 a171:=isAgg287
 z171:=sizeOf287
 v171:=zeroValue287
 t173:=underlying291
 a173:=isAgg291
 z173:=sizeOf291
 v173:=zeroValue291
 t212:=underlying297
 a212:=isAgg297
 z212:=sizeOf297
 v212:=zeroValue297
 t213:=underlying299
 a213:=isAgg299
 z213:=sizeOf299
 t232:=underlying315
 a232:=isAgg315
 z232:=sizeOf315
 v232:=zeroValue315
 t233:=underlying316
 a233:=isAgg316
 z233:=sizeOf316
 v233:=zeroValue316
 g17:=by kernel_rfl
 g18:=by kernel_rfl
 g19:=by kernel_rfl
 i0:=by kernel_rfl
 i2:=by kernel_rfl
 i3:=by kernel_rfl
 i4:=by kernel_rfl
 i5:=by kernel_rfl
 i9:=by kernel_rfl
 i20:=by kernel_rfl
 i37:=by kernel_rfl
 i46:=by kernel_rfl
 i51:=by kernel_rfl
 i53:=by kernel_rfl
 i171:=by kernel_rfl
 i173:=by kernel_rfl
 i212:=by kernel_rfl
 i232:=by kernel_rfl
 i233:=by kernel_rfl
 m17:=by kernel_rfl
 m18:=by kernel_rfl
 m19:=by kernel_rfl}
def jB9:Go.Shelf.Ren:=⟨fun|172=>243|244=>251|245=>252|247=>260|279=>261|280=>262|281=>263|282=>264|287=>265|316=>270|171=>221|205=>271|321=>272|322=>273|243=>235|246=>242|283=>247|284=>248|285=>249|286=>250|129=>256|317=>255|318=>257|319=>258|320=>259|337=>268|338=>269|n=>n,fun|9=>9|3=>3|75=>283|76=>284|4=>4|5=>5|167=>301|37=>33|0=>0|85=>302|2=>2|168=>304|53=>288|175=>294|46=>200|210=>309|127=>317|145=>320|143=>318|21=>21|171=>287|173=>291|212=>297|51=>298|20=>20|213=>299|232=>315|233=>316|80=>240|n=>n,fun|15=>4|16=>5|17=>3|18=>6|19=>7|n=>n⟩
theorem jH2:Go.Proofs.LaysC.n172 prog jB9:={
 mixed:=by kernel_rfl
 f129:=func256.trans (congrArg some (by kernel_rfl))
 f171:=func221.trans (congrArg some (by kernel_rfl))
 f172:=func243.trans (congrArg some (by kernel_rfl))
 f205:=func271.trans (congrArg some (by kernel_rfl))
 f243:=func235.trans (congrArg some (by kernel_rfl))
 f244:=func251.trans (congrArg some (by kernel_rfl))
 f245:=func252.trans (congrArg some (by kernel_rfl))
 f246:=func242.trans (congrArg some (by kernel_rfl))
 f247:=func260.trans (congrArg some (by kernel_rfl))
 f279:=func261.trans (congrArg some (by kernel_rfl))
 f280:=func262.trans (congrArg some (by kernel_rfl))
 f281:=func263.trans (congrArg some (by kernel_rfl))
 f282:=func264.trans (congrArg some (by kernel_rfl))
 f283:=func247.trans (congrArg some (by kernel_rfl))
 f284:=func248.trans (congrArg some (by kernel_rfl))
 f285:=func249.trans (congrArg some (by kernel_rfl))
 f286:=func250.trans (congrArg some (by kernel_rfl))
 f287:=func265.trans (congrArg some (by kernel_rfl))
 f316:=func270.trans (congrArg some (by kernel_rfl))
 f317:=func255.trans (congrArg some (by kernel_rfl))
 f318:=func257.trans (congrArg some (by kernel_rfl))
 f319:=func258.trans (congrArg some (by kernel_rfl))
 f320:=func259.trans (congrArg some (by kernel_rfl))
 f321:=func272.trans (congrArg some (by kernel_rfl))
 f322:=func273.trans (congrArg some (by kernel_rfl))
 f337:=func268.trans (congrArg some (by kernel_rfl))
 f338:=func269.trans (congrArg some (by kernel_rfl))
 t0:=underlying0
 a0:=isAgg0
 z0:=sizeOf0
 v0:=zeroValue0
 t2:=underlying2
 a2:=isAgg2
 z2:=sizeOf2
 v2:=zeroValue2
 t3:=underlying3
 a3:=isAgg3
 z3:=sizeOf3
 v3:=zeroValue3
 t4:=underlying4
 a4:=isAgg4
 z4:=sizeOf4
 v4:=zeroValue4
 t5:=underlying5
 a5:=isAgg5
 z5:=sizeOf5
 v5:=zeroValue5
 t9:=underlying9
 a9:=isAgg9
 z9:=sizeOf9
 v9:=zeroValue9
 t20:=underlying20
 a20:=isAgg20
 z20:=sizeOf20
 v20:=zeroValue20
 t21:=underlying21
 a21:=isAgg21
 z21:=sizeOf21
 v21:=zeroValue21
 t37:=underlying33
 a37:=isAgg33
 z37:=sizeOf33
 v37:=zeroValue33
 t46:=underlying200
 a46:=isAgg200
 z46:=sizeOf200
 v46:=zeroValue200
 t51:=underlying298
 a51:=isAgg298
 z51:=sizeOf298
 v51:=zeroValue298
 t53:=underlying288
 a53:=isAgg288
 z53:=sizeOf288
 v53:=zeroValue288
 t75:=underlying283
 a75:=isAgg283
 z75:=sizeOf283
 v75:=zeroValue283
 t76:=underlying284
 a76:=isAgg284
 z76:=sizeOf284
 v76:=zeroValue284
 t85:=underlying302
 a85:=isAgg302
 z85:=sizeOf302
 v85:=zeroValue302
 t127:=underlying317
 a127:=isAgg317
 z127:=sizeOf317
 v127:=zeroValue317
 t143:=underlying318
 a143:=isAgg318
 z143:=sizeOf318
 v143:=zeroValue318
 t145:=underlying320
 a145:=isAgg320
 z145:=sizeOf320
 v145:=zeroValue320
 t167:=underlying301
 a167:=isAgg301
 z167:=sizeOf301
 v167:=zeroValue301
 t168:=underlying304
 a168:=isAgg304
 z168:=sizeOf304
 v168:=zeroValue304
 t171:=underlying287
 a171:=isAgg287
 z171:=sizeOf287
 v171:=zeroValue287
 t173:=underlying291
 a173:=isAgg291
 z173:=sizeOf291
 v173:=zeroValue291
 t175:=underlying294
 a175:=isAgg294
 z175:=sizeOf294
 v175:=zeroValue294
 t210:=underlying309
 a210:=isAgg309
 z210:=sizeOf309
 v210:=zeroValue309
 t212:=underlying297
 a212:=isAgg297
 z212:=sizeOf297
 v212:=zeroValue297
 t213:=underlying299
 a213:=isAgg299
 z213:=sizeOf299
 t232:=underlying315
 a232:=isAgg315
 z232:=sizeOf315
 v232:=zeroValue315
 t233:=underlying316
 a233:=isAgg316
 z233:=sizeOf316
 v233:=zeroValue316
 g15:=by kernel_rfl
 g16:=by kernel_rfl
 g17:=by kernel_rfl
 g18:=by kernel_rfl
 g19:=by kernel_rfl
 t80:=underlying240
 a80:=isAgg240
 z80:=sizeOf240
 v80:=zeroValue240
 i0:=by kernel_rfl
 i2:=by kernel_rfl
 i3:=by kernel_rfl
 i4:=by kernel_rfl
 i5:=by kernel_rfl
 i9:=by kernel_rfl
 i20:=by kernel_rfl
 i21:=by kernel_rfl
 i37:=by kernel_rfl
 i46:=by kernel_rfl
 i51:=by kernel_rfl
 i53:=by kernel_rfl
 i75:=by kernel_rfl
 i76:=by kernel_rfl
 i80:=by kernel_rfl
 i85:=by kernel_rfl
 i127:=by kernel_rfl
 i143:=by kernel_rfl
 i145:=by kernel_rfl
 i167:=by kernel_rfl
 i168:=by kernel_rfl
 i171:=by kernel_rfl
 i173:=by kernel_rfl
 i175:=by kernel_rfl
 i210:=by kernel_rfl
 i212:=by kernel_rfl
 i232:=by kernel_rfl
 i233:=by kernel_rfl
 m15:=by kernel_rfl
 m16:=by kernel_rfl
 m17:=by kernel_rfl
 m18:=by kernel_rfl
 m19:=by kernel_rfl
 c0:=by kernel_rfl
 c2:=by kernel_rfl
 c3:=by kernel_rfl
 c4:=by kernel_rfl
 c5:=by kernel_rfl
 c9:=by kernel_rfl
 c20:=by kernel_rfl
 c21:=by kernel_rfl
 c37:=by kernel_rfl
 c46:=by kernel_rfl
 c51:=by kernel_rfl
 c53:=by kernel_rfl
 c75:=by kernel_rfl
 c76:=by kernel_rfl
 c80:=by kernel_rfl
 c85:=by kernel_rfl
 c127:=by kernel_rfl
 c143:=by kernel_rfl
 c145:=by kernel_rfl
 c167:=by kernel_rfl
 c168:=by kernel_rfl
 c171:=by kernel_rfl
 c173:=by kernel_rfl
 c175:=by kernel_rfl
 c210:=by kernel_rfl
 c212:=by kernel_rfl
 c213:=by kernel_rfl
 c232:=by kernel_rfl
 c233:=by kernel_rfl}
end Go.Proofs
namespace Go.Proofs.YtmmjcbbogokmfaaGreatDoor
open Go.Proofs.Tryz
theorem qt:∀(l:LB) (acc:Nat),l.all zS=true->VT l acc<18446744073709551616->Lib.parseUint10 acc l=.ok (VT l acc)
 |[],acc,_,_=>rfl
 |c::l,acc,h,hl=>by
  rw[List.all_cons,Bool.and_eq_true]at h;have hc:=xY h.1;rw[VT]at hl⊢;have hg:=jFm l (10*acc+(c.toNat-48));rw[Lib.parseUint10,jJ6 hc,jJ5 (by omega),jJ5 (by omega),Nat.mul_comm acc 10];exact qt l _ h.2 hl
theorem jDt{l:LB}(h:jz l=true)(Fh:l≠ []):Lib.atoiAll l=.ok (VT l 0:Int):=by
 obtain⟨h1,h2⟩:=jG3 h;cases l with
 |nil=>exact absurd rfl Fh
 |cons c r=>
  have hc:48<=c.toNat/\c.toNat<=57:=by
   rw[List.all_cons,Bool.and_eq_true]at h1;exact xY h1.1
  have hp:=qt (c::r) 0 h1 (by omega);unfold Lib.atoiAll;simp only;rw[jJ5 (by omega)];unfold Lib.parseMag;rw[jJ5 (by simp),hp];simp only;rw[jJ5 (by omega),jJ5 (by omega),jJ5 (by omega)]
open Go.RowKit
theorem jAg(w:World)(s:BA)(a b:UInt8)(hs:sb s=[a,b])(ha:UG a=true)(hb:UG b=true):
  Calls prog 253 #[.string s,.int .i64 16,.int .i64 8] w fun e w' =>e=.returned (.tuple #[.int .u64 ((16*ZK a+ZK b:Nat):Int),.nilIface])/\Old w w' :=by
 have H:=G (jCs w s a b hs ha hb);clear hs ha hb;generalize 16*ZK a+ZK b=n at*;go_enter func253,ntmps253;go_wp2_with (go_at_call 265;refine H.out.mono ?_;rintro e w1 ⟨rfl,hO⟩)
 go_ret2
 exact⟨rfl,hO⟩
theorem QB(s:BA)(k:Nat)(h:k<s.size):(sb s).drop k=s[k]::(sb s).drop (k+1):=by
 have h' :k<(sb s).length:=by rw[jB];exact h
 rw[jM9 h'];rfl
structure Mean(w:World)(s:BA)(v:LB)(wr:World)(j:Nat)(acc:LB)(A:OA)(c:Nat):Prop where
 le:j<=s.size
 rest:∃f r,meantN f ((sb s).drop j)=some r/\acc++r=v
 own:wr.ownsRow w.heap.size 5 1 (.slice A acc.length c) acc.length (acc.map bv)
 old:Old w wr
 len:acc.length<=j
theorem Mean.put{w w2:World}{s:BA}{v:LB}{wr w3:World}{j n:Nat}{acc:LB}{A A' :OA}{c c' :Nat}(h:Mean w s v wr j acc A c)(z:UInt8)(hn:j<j+n/\j+n<=s.size)(hr:∃f r,meantN f ((sb s).drop (j+n))=some r/\acc++z::r=v)
  (ho:Old wr w2) (hg:w2.grownBy w3 ((Value.slice A acc.length c).ownBlock)) (Hi:w3.ownsRow w.heap.size 5 1 (.slice A' (acc.length+1) c') (acc.length+1) (acc.map bv++[bv z])):Mean w s v w3 (j+n) (acc++[z]) A' c' :=by
 obtain⟨f,r,h1,h2⟩:=hr;refine⟨hn.2,⟨f,r,h1,by rw[jK1];exact h2⟩,?_,(h.old.trans ho (fun _ _ e=>e)).grown hg (fun k e hlt=> ?_),?_⟩
 ·rw[jJ4,jN3];exact Hi
 ·have:=(h.own.lt k e).1;omega
 ·rw[jJ4,List.length_singleton];have:=h.len;omega
theorem jAy(w:World)(s:BA)(v:LB)(f:Nat)(hv:meantN f (sb s)=some v)(hs:s.size<=1000000000):
  Calls prog 244 #[.string s] w fun e w' =>e=.returned (.string ⟨v.toArray⟩)/\Old w w' :=by
 obtain⟨i0,hi,Fm,GI,GW⟩:=info_parts KU;have H0:=G (show Mean w s v w 0 [] none 0 from⟨Nat.zero_le _,⟨f,v,hv,rfl⟩,World.ownsRow_nil _ _ _ _,jQ0 _ _,jL3 _⟩);clear hv;go_enter func244,ntmps244;go_wp2;go_loopw [3,4] (fun b i wr=>∃j acc A c,b=.slice A acc.length c/\i=.int .i64 ((j:Nat):Int)/\Mean w s v wr j acc A c) (fun _ i _=>s.size-(intOf i).toNat)
 case atStart=>exact⟨0,[],none,0,rfl,rfl,H0.out⟩
 case round=>
  clear H0;obtain⟨j,acc,A,c,rfl,rfl,hm⟩:=hrel;have HM:=G hm;have Hi:=hm.own;obtain⟨f1,r1,Fy,FH⟩:=hm.rest;have Fa:=hm.le;have WJ:=hm.len;have W5:=G hm.old.size;clear hm;by_cases hlt:j<s.size
  ·have hd:=QB s j hlt;rw[hd]at Fy;have b1:(0:Int)<=(j:Int):=(by omega);have b2:(j:Int)<(s.size:Int):=(by omega);have b3:(j:Int).toNat=j:=(by omega);have b4:IntKind.i64.wrap ((j:Int)+1)=(j:Int)+1:=jQ3 _ (by omega);have J63:=G (show acc.length+1<=maxLen by unfold maxLen;omega);have J47:=G (show(acc.length+1)*1<=140737488355328 by omega);have To:=G (fun(z:UInt8)=>(show(acc++[z]).length=acc.length+1 by rw[jJ4];rfl));obtain⟨f1,rfl⟩:∃g,f1=g+1:=by
    cases f1 with
    |zero=>cases Fy
    |succ g=>exact⟨g,rfl⟩
   have No:=G Hi;generalize hx:s[j]=x at*;by_cases h92:x.toNat=92
   ·have e92:((x.toNat:Int)==92)=true:=beq_iff_eq.2 (by omega);have Gm:j+1<s.size:=by
     rcases Nat.lt_or_ge (j+1) s.size with h|h
     ·exact h
     ·rw[List.drop_eq_nil_of_le (by rw[jB];exact h),jGi f1 x h92]at Fy;cases Fy
    have NR:=QB s (j+1) Gm;rw[NR]at Fy;have i1:(0:Int)<=(j:Int)+1:=(by omega);have i2:(j:Int)+1<(s.size:Int):=(by omega);have i3:((j:Int)+1).toNat=j+1:=(by omega);have i4:IntKind.i64.wrap ((j:Int)+1+1)=(j:Int)+1+1:=jQ3 _ (by omega);generalize hy:s[j+1]=y at*;by_cases h120:y.toNat=120
    ·obtain⟨L,hL⟩:∃L,(sb s).drop (j+2)=L:=⟨_,rfl⟩;rw[show j+1+1=j+2 from rfl,hL]at Fy;obtain⟨a,b,l2,FM⟩:∃a b l2,L=a::b::l2:=by
      match L,Fy with
      |[],h=>rw[jHr f1 x y h92 h120]at h;cases h
      |[a],h=>rw[jHq f1 x y a h92 h120]at h;cases h
      |a::b::l,h=>exact⟨a,b,l,rfl⟩
     subst FM;rw[jH5 f1 x y a b l2 h92 h120]at Fy;have FM:=hL;clear hL;split at Fy
     case isFalse=>cases Fy
     rename_i Ml;obtain⟨r2,e2,e3⟩:=jM4 Fy;have hlen:=congrArg List.length FM;rw[jK8,jB,jK6,jK6]at hlen;have Mh:(sb s).drop (j+4)=l2:=by rw[show j+4=(j+2)+2 from rfl,<-List.drop_drop,FM];rfl
     have hD:sb (s.extract (j+2) (j+4))=[a,b]:=by rw[jq,FM,show j+4-(j+2)=2 by omega];rfl
     have HC:=G (fun W=>jAg W (s.extract (j+2) (j+4)) a b hD Ml.1 Ml.2);have Al:ZK a<=15:=by have:=Zu Ml.1;omega
     have Ak:ZK b<=15:=by have:=Zu Ml.2;omega
     generalize ZK a=va at*;generalize ZK b=vb at*;generalize hz:16*va+vb=zn at*;obtain⟨z,DC⟩:∃z:UInt8,z.toNat=zn:=⟨UInt8.ofNat zn,UInt8.toNat_ofNat_of_lt' (show zn<256 by omega)⟩;rw[<-DC,UInt8.ofNat_toNat]at e3;have TQ:=z.toNat_lt;have HR:=G (show∃f r,meantN f ((sb s).drop (j+4))=some r/\acc++z::r=v from⟨f1,r2,by rw[Mh];exact e2,by rw[<-FH,<-e3]⟩);have HB:=G (show j<j+4/\j+4<=s.size by omega);have z1:IntKind.u8.wrap (z.toNat:Int)=(z.toNat:Int):=IntWalk.u8_in _ (by omega);subst DC;have k1:IntKind.i64.wrap ((j:Int)+1+1)=(j:Int)+1+1:=jQ3 _ (by omega);have k2:IntKind.i64.wrap ((j:Int)+1+3)=(j:Int)+1+3:=jQ3 _ (by omega);have k3:(0:Int)<=(j:Int)+1+1:=(by omega);have k4:(j:Int)+1+3<=(s.size:Int):=(by omega);have k5:(j:Int)+1+1<=(j:Int)+1+3:=(by omega);have k6:((j:Int)+1+1).toNat=j+2:=(by omega);have k7:((j:Int)+1+3).toNat=j+4:=(by omega);have k8:IntKind.i64.wrap ((j:Int)+1+2)=(j:Int)+1+2:=jQ3 _ (by omega);have k9:IntKind.i64.wrap ((j:Int)+1+2+1)=(j:Int)+1+2+1:=jQ3 _ (by omega);have e110:((y.toNat:Int)==110)=false:=jM3 (by omega);have e116:((y.toNat:Int)==116)=false:=jM3 (by omega);have e120:((y.toNat:Int)==120)=true:=beq_iff_eq.2 (by omega);generalize hk:acc.length=k at*;clear Fy FH e2 e3 hd NR h92 Fa WJ Hi FM Mh hD Ml Al Ak hlen h120 hz TQ;go_wp2_with (first|(go_at_call 253;refine(HC.out _).mono ?_;rintro e w2 ⟨rfl,hO⟩;have HO:=G hO;clear hO)|(at_builtin;refine jE _ rfl (.tmp 45) (.tmp 47) 33 rfl w.heap.size 5 i0 (.int .u8 0) 1 1 underlying33 hi Fm GI GW rfl (by decide) (.slice A k c) k (acc.map bv) rfl (jV (jV No.out HO.out (fun _ _ e=>e)) ((jQ0 NoX _).alloc _) (fun _ _ e=>e)) _ 1 1 [bv z] rfl (Rd.one_new _ _ _) (ji _ rfl) J63.out J47.out (jL4 (jL4 W5.out HO.out.size) ((jQ0 NoX _).alloc _).size) ?_;intro A' c' w3 FC hgrow Fc;subst hk;have HP:=G (HM.out.put z HB.out HR.out (HO.out.alloc _) hgrow FC);clear FC hgrow Fc)|fail);exact⟨⟨j+4,_,A',c',by rw[To.out],by rw[show((j+4:Nat):Int)=(j:Int)+1+2+1 by omega],HP.out⟩,by have:=HB.out;simp only[intOf];omega⟩
    ·rw[jGj f1 x y _ h92 h120]at Fy;obtain⟨r2,e2,e3⟩:=jM4 Fy;have HB:=G (show j<j+2/\j+2<=s.size by omega);have HR:=G (show∃f r,meantN f ((sb s).drop (j+2))=some r/\acc++jDc y::r=v from⟨f1,r2,e2,by rw[<-FH,<-e3]⟩);have e120:((y.toNat:Int)==120)=false:=jM3 (by omega);clear Fy FH e2 e3;by_cases h110:y.toNat=110
     ·have e110:((y.toNat:Int)==110)=true:=beq_iff_eq.2 (by omega);rw[show jDc y=10 by unfold jDc;rw[jJ6 h110]]at HR;generalize hk:acc.length=k at*;clear hd NR h92 Fa WJ Hi h120 h110;go_wp2_with (at_builtin;refine jE _ rfl (.tmp 45) (.tmp 47) 33 rfl w.heap.size 5 i0 (.int .u8 0) 1 1 underlying33 hi Fm GI GW rfl (by decide) (.slice A k c) k (acc.map bv) rfl (jV No.out ((jQ0 NoX _).alloc _) (fun _ _ e=>e)) _ 1 1 [bv 10] rfl (Rd.one_new _ _ _) (ji _ rfl) J63.out J47.out (jL4 W5.out ((jQ0 NoX _).alloc _).size) ?_;intro A' c' w3 FC hgrow Fc;subst hk;have HP:=G (HM.out.put 10 HB.out HR.out ((jQ0 NoX _).alloc _) hgrow FC);clear FC hgrow Fc);exact⟨⟨j+2,_,A',c',by rw[To.out],by rw[show((j+2:Nat):Int)=(j:Int)+1+1 by omega],HP.out⟩,by have:=HB.out;simp only[intOf];omega⟩
     ·have e110:((y.toNat:Int)==110)=false:=jM3 (by omega);by_cases h116:y.toNat=116
      ·have e116:((y.toNat:Int)==116)=true:=beq_iff_eq.2 (by omega);rw[show jDc y=9 by unfold jDc;rw[jJ5 h110,jJ6 h116]]at HR;generalize hk:acc.length=k at*;clear hd NR h92 Fa WJ Hi h120 h110 h116;go_wp2_with (at_builtin;refine jE _ rfl (.tmp 45) (.tmp 47) 33 rfl w.heap.size 5 i0 (.int .u8 0) 1 1 underlying33 hi Fm GI GW rfl (by decide) (.slice A k c) k (acc.map bv) rfl (jV No.out ((jQ0 NoX _).alloc _) (fun _ _ e=>e)) _ 1 1 [bv 9] rfl (Rd.one_new _ _ _) (ji _ rfl) J63.out J47.out (jL4 W5.out ((jQ0 NoX _).alloc _).size) ?_;intro A' c' w3 FC hgrow Fc;subst hk;have HP:=G (HM.out.put 9 HB.out HR.out ((jQ0 NoX _).alloc _) hgrow FC);clear FC hgrow Fc);exact⟨⟨j+2,_,A',c',by rw[To.out],by rw[show((j+2:Nat):Int)=(j:Int)+1+1 by omega],HP.out⟩,by have:=HB.out;simp only[intOf];omega⟩
      ·have e116:((y.toNat:Int)==116)=false:=jM3 (by omega);rw[show jDc y=y by unfold jDc;rw[jJ5 h110,jJ5 h116]]at HR;generalize hk:acc.length=k at*;clear hd NR h92 Fa WJ Hi h120 h110 h116;go_wp2_with (at_builtin;refine jE _ rfl (.tmp 45) (.tmp 47) 33 rfl w.heap.size 5 i0 (.int .u8 0) 1 1 underlying33 hi Fm GI GW rfl (by decide) (.slice A k c) k (acc.map bv) rfl (jV No.out ((jQ0 NoX _).alloc _) (fun _ _ e=>e)) _ 1 1 [bv y] rfl (Rd.one_new _ _ _) (ji _ rfl) J63.out J47.out (jL4 W5.out ((jQ0 NoX _).alloc _).size) ?_;intro A' c' w3 FC hgrow Fc;subst hk;have HP:=G (HM.out.put y HB.out HR.out ((jQ0 NoX _).alloc _) hgrow FC);clear FC hgrow Fc);exact⟨⟨j+2,_,A',c',by rw[To.out],by rw[show((j+2:Nat):Int)=(j:Int)+1+1 by omega],HP.out⟩,by have:=HB.out;simp only[intOf];omega⟩
   ·rw[jDA f1 x _ h92]at Fy;obtain⟨r2,e2,e3⟩:=jM4 Fy;have e92:((x.toNat:Int)==92)=false:=jM3 (by omega);have HR:=G (show∃f r,meantN f ((sb s).drop (j+1))=some r/\acc++x::r=v from⟨f1,r2,e2,by rw[<-FH,<-e3]⟩);have HB:=G (show j<j+1/\j+1<=s.size by omega);generalize hk:acc.length=k at*;clear Fy FH e2 e3 hd h92 Fa WJ Hi;go_wp2_with (at_builtin;refine jE _ rfl (.tmp 45) (.tmp 47) 33 rfl w.heap.size 5 i0 (.int .u8 0) 1 1 underlying33 hi Fm GI GW rfl (by decide) (.slice A k c) k (acc.map bv) rfl (jV No.out ((jQ0 NoX _).alloc _) (fun _ _ e=>e)) _ 1 1 [bv x] rfl (Rd.one_new _ _ _) (ji _ rfl) J63.out J47.out (jL4 W5.out ((jQ0 NoX _).alloc _).size) ?_;intro A' c' w3 FC hgrow Fc;subst hk;have HP:=G (HM.out.put x HB.out HR.out ((jQ0 NoX _).alloc _) hgrow FC);clear FC hgrow Fc);exact⟨⟨j+1,_,A',c',by rw[To.out],by rw[show((j+1:Nat):Int)=(j:Int)+1 by omega],HP.out⟩,by have:=HB.out;simp only[intOf];omega⟩
  ·obtain rfl:j=s.size:=(by omega);rw[List.drop_eq_nil_of_le (by rw[jB];exact jL3 _)]at Fy;have TU:r1=[]:=by
    cases f1 with
    |zero=>cases Fy
    |succ g=>rw[meantN]at Fy;injection Fy with Fy;exact Fy.symm
   rw[TU,jN7]at FH;subst FH;have WU:=jj (P:=prog) (w:=wr) underlying33 underlying5 underlying9 A acc.length c acc (Rd.of_own Hi);have HO:=G HM.out.old;clear Fy Hi HM Fa WJ W5;go_wp2;go_ret;exact⟨rfl,HO.out⟩
theorem jD7(w:World)(s:BA)(h:jz (sb s)=true)(Fh:sb s≠ [])(hs:s.size<=1000000):
  Calls prog 243 #[.string s] w fun e w' =>e=.returned (.tuple #[.int .i64 (VT (sb s) 0:Nat),.nilIface])/\Old w w' :=
 Calls.mono (Any.strconv_Atoi_ok jH2 s (by omega) _ (jDt h Fh) w) fun e w' ⟨he,hw⟩=>⟨he,by
  rcases hw with rfl|⟨t,rfl⟩
  ·exact jQ0 _ _
  ·exact Kp.of_below (Lib.bytesWorld_below _ _ _)⟩
theorem xH{w:World}{g:Nat}{src:BA}{r:Rdr}{s:Sl}(h:St w g src r s):(kn (sb src) r).length<=1000000:=by
 unfold kn;rw[jK8,jK9,jB];have:=h.small;omega
theorem jE8(w:World)(g:Nat)(src:BA)(r r1 r' :Rdr)(s:Sl)(x:Int)(at_:Nat)(h:St w g src r s)(ht:r.t=2)(h0:kn (sb src) r≠ [])(hd:jz (kn (sb src) r)=true)(hn:kA (sb src) r=some r1)
  (hx:ye ⟨1,⟨#[]⟩,1,(VT (kn (sb src) r) 0:Nat),⟨#[]⟩,[],[]⟩ at_ r1=some (x,r')):
  Calls prog 236 #[.pointer (some ⟨g,0,none⟩),iv (at_:Int)] w (Ex w g src s r' (iv x)):=by
 have Fo:=h.box.c3;rw[ht]at Fo;have HS:=G h;have HN:=G hn;have HL:=G (fun n=>yo (w.drewN n) g src r s (h.drewN n));obtain⟨h1,h2,h3,h4⟩:=yh hx;have Wk:=xH h;generalize kn (sb src) r=lx at*;have HA:=G (fun W=>jD7 W ⟨lx.toArray⟩ (by rw[zV];exact hd) (by rw[zV];exact h0) (by rw[<-jB,zV];exact Wk));rw[zV]at HA;generalize VT lx 0=nv at*;have HB:=G h1;have HT:=G h2;generalize hq:r1.tree.nodes.length=q at*;subst h3;clear h hn hx h1 h2 ht h0 hd Wk;unfold iv;have f1:(0:Int)<=(q:Int):=(by omega);have f2:(q:Int).toNat=q:=(by omega);have f3:(q:Int)<(q:Int)+1:=(by omega);go_enter func236,ntmps236;go_wp2;go_quiet ((go_at_call 165;exact Calls.quiet_of (HL.out _)));go_wp2_with (first|(go_at_call 135;refine(jZ _ g src _ _ s (HS.out.drewN _) HN.out).mono ?_;rintro e w1 ⟨rfl,hX⟩;have HX:=G hX;clear hX)|(go_at_call 201;refine(yK _ g src _ _ s 4 _ _ none 0 [] HX.out.1 Rd.none_ (fun h0=>absurd h0 (Nat.lt_irrefl 0)) HB.out).mono ?_;rintro e w2 ⟨rfl,s2,hY,NY⟩;obtain⟨k,ns,xx,ps,WE,WQ,Fz,NS⟩:=hY.lastC rfl hq;have d0:w2.cell? ⟨k,q*7,none⟩=_:=(Fz.cell 0 rfl).1;have z0:w2.frozen? ⟨k,q*7,none⟩=false:=(Fz.cell 0 rfl).2;have d2:=(Fz.cell 2 rfl).1;have z2:=(Fz.cell 2 rfl).2;have d3:=(Fz.cell 3 rfl).1;have z3:=(Fz.cell 3 rfl).2;have d4:=(Fz.cell 4 rfl).1;have z4:=(Fz.cell 4 rfl).2;have d5:=(Fz.cell 5 rfl).1;have z5:=(Fz.cell 5 rfl).2;have MI:=G Fz;have HF:=G NY;clear Fz hY NY;unfold iv)|(go_at_call 243;refine(HA.out _).mono ?_;rintro e w3 ⟨rfl,hO⟩;have Gh:=G (MI.out.old hO);have d0:w3.cell? ⟨k,q*7,none⟩=_:=(Gh.out.cell 0 rfl).1;have z0:w3.frozen? ⟨k,q*7,none⟩=false:=(Gh.out.cell 0 rfl).2;have d2:=(Gh.out.cell 2 rfl).1;have z2:=(Gh.out.cell 2 rfl).2;have d3:=(Gh.out.cell 3 rfl).1;have z3:=(Gh.out.cell 3 rfl).2;have d4:=(Gh.out.cell 4 rfl).1;have z4:=(Gh.out.cell 4 rfl).2;have d5:=(Gh.out.cell 5 rfl).1;have z5:=(Gh.out.cell 5 rfl).2;clear hO)|fail);go_ret;have HD:=G ((((((Gh.out.set_ 0 (.int .i64 1)).set_ 2 (.int .i64 1)).set_ 3 (.int .i64 (nv:Int))).set_ 4 (.string ⟨#[]⟩)).set_ 5 (.slice none 0 0)).lit WQ HT.out rfl rfl none 0 (by simp only[ndC,WE];rfl));exact⟨rfl,s2,HD.out.1,(((Fr.of_old s ((jQ0 _ _).drewN _)).trans HX.out.2).trans HF.out).trans HD.out.2⟩
theorem jDC(w:World)(g:Nat)(src:BA)(r r1 r' :Rdr)(s:Sl)(x:Int)(at_:Nat)(h:St w g src r s)(ht:r.t=3)(v:LB)(h0:2<=(kn (sb src) r).length)(hd:meantN ((kn (sb src) r).length+1) (((kn (sb src) r).drop 1).take ((kn (sb src) r).length-2))=some v)(hn:kA (sb src) r=some r1)
  (hx:ye ⟨3,⟨#[]⟩,3,0,⟨v.toArray⟩,[],[]⟩ at_ r1=some (x,r')):
  Calls prog 236 #[.pointer (some ⟨g,0,none⟩),iv (at_:Int)] w (Ex w g src s r' (iv x)):=by
 have Fo:=h.box.c3;rw[ht]at Fo;have HS:=G h;have HN:=G hn;have HL:=G (fun n=>yo (w.drewN n) g src r s (h.drewN n));obtain⟨h1,h2,h3,h4⟩:=yh hx;have Wk:=xH h;generalize kn (sb src) r=lx at*;obtain⟨nl,Cr⟩:∃n,lx.length=n+2:=⟨lx.length-2,by omega⟩;have Gl:(⟨lx.toArray⟩:BA).size=nl+2:=(by rw[<-jB,zV,Cr]);rw[Cr,Nat.add_sub_cancel]at hd;have HA:=G (fun W=>jAy W ((⟨lx.toArray⟩:BA).extract 1 (nl+1)) v _ (by rw[jq,zV,Nat.add_sub_cancel];exact hd) (by rw[<-jB,jq,jK9,jK8,zV];omega));have HB:=G h1;have HT:=G h2;generalize hq:r1.tree.nodes.length=q at*;subst h3;have f4:((nl:Int)+2-1)=(nl:Int)+1:=(by omega);have f5:IntKind.i64.wrap ((nl:Int)+1)=(nl:Int)+1:=jQ3 _ (by omega);have f6:(0:Int)<=(nl:Int)+1:=(by omega);have f7:((nl:Int)+1).toNat=nl+1:=(by omega);have f8:(nl:Int)+1<=(nl:Int)+2:=(by omega);have f9:(1:Int)<=(nl:Int)+1:=(by omega);clear h hn hx h1 h2 ht h0 hd Wk Cr;unfold iv;have f1:(0:Int)<=(q:Int):=(by omega);have f2:(q:Int).toNat=q:=(by omega);have f3:(q:Int)<(q:Int)+1:=(by omega);go_enter func236,ntmps236;go_wp2;go_quiet ((go_at_call 165;exact Calls.quiet_of (HL.out _)));go_wp2_with (first|(go_at_call 135;refine(jZ _ g src _ _ s (HS.out.drewN _) HN.out).mono ?_;rintro e w1 ⟨rfl,hX⟩;have HX:=G hX;clear hX)|(go_at_call 201;refine(yK _ g src _ _ s 4 _ _ none 0 [] HX.out.1 Rd.none_ (fun h0=>absurd h0 (Nat.lt_irrefl 0)) HB.out).mono ?_;rintro e w2 ⟨rfl,s2,hY,NY⟩;obtain⟨k,ns,xx,ps,WE,WQ,Fz,NS⟩:=hY.lastC rfl hq;have d0:w2.cell? ⟨k,q*7,none⟩=_:=(Fz.cell 0 rfl).1;have z0:w2.frozen? ⟨k,q*7,none⟩=false:=(Fz.cell 0 rfl).2;have d2:=(Fz.cell 2 rfl).1;have z2:=(Fz.cell 2 rfl).2;have d3:=(Fz.cell 3 rfl).1;have z3:=(Fz.cell 3 rfl).2;have d4:=(Fz.cell 4 rfl).1;have z4:=(Fz.cell 4 rfl).2;have d5:=(Fz.cell 5 rfl).1;have z5:=(Fz.cell 5 rfl).2;have MI:=G Fz;have HF:=G NY;clear Fz hY NY;unfold iv)|(go_at_call 244;refine(HA.out _).mono ?_;rintro e w3 ⟨rfl,hO⟩;have Gh:=G (MI.out.old hO);have d0:w3.cell? ⟨k,q*7,none⟩=_:=(Gh.out.cell 0 rfl).1;have z0:w3.frozen? ⟨k,q*7,none⟩=false:=(Gh.out.cell 0 rfl).2;have d2:=(Gh.out.cell 2 rfl).1;have z2:=(Gh.out.cell 2 rfl).2;have d3:=(Gh.out.cell 3 rfl).1;have z3:=(Gh.out.cell 3 rfl).2;have d4:=(Gh.out.cell 4 rfl).1;have z4:=(Gh.out.cell 4 rfl).2;have d5:=(Gh.out.cell 5 rfl).1;have z5:=(Gh.out.cell 5 rfl).2;clear hO)|fail);go_ret;have HD:=G ((((((Gh.out.set_ 0 (.int .i64 3)).set_ 2 (.int .i64 3)).set_ 3 (.int .i64 0)).set_ 4 (.string ⟨v.toArray⟩)).set_ 5 (.slice none 0 0)).lit WQ HT.out rfl rfl none 0 (by simp only[ndC,WE];rfl));exact⟨rfl,s2,HD.out.1,(((Fr.of_old s ((jQ0 _ _).drewN _)).trans HX.out.2).trans HF.out).trans HD.out.2⟩
theorem uT(w:World)(g:Nat)(src:BA)(r r1 r' :Rdr)(s:Sl)(x:Int)(at_:Nat)(h:St w g src r s)(ht:r.t=48)(hn:kA (sb src) r=some r1)
  (hx:ye (yw 4 []) at_ r1=some (x,r')):
  Calls prog 236 #[.pointer (some ⟨g,0,none⟩),iv (at_:Int)] w (Ex w g src s r' (iv x)):=by
 have Fo:=h.box.c3;rw[ht]at Fo;have HS:=G h;have HN:=G hn;have HL:=G (fun n=>yo (w.drewN n) g src r s (h.drewN n));obtain⟨h1,h2,h3,h4⟩:=yh hx;generalize kn (sb src) r=lx at*;have HB:=G h1;have HT:=G h2;generalize hq:r1.tree.nodes.length=q at*;subst h3;clear h hn hx h1 h2 ht;unfold iv;have f1:(0:Int)<=(q:Int):=(by omega);have f2:(q:Int).toNat=q:=(by omega);have f3:(q:Int)<(q:Int)+1:=(by omega);go_enter func236,ntmps236;go_wp2;go_quiet ((go_at_call 165;exact Calls.quiet_of (HL.out _)));go_wp2_with (first|(go_at_call 135;refine(jZ _ g src _ _ s (HS.out.drewN _) HN.out).mono ?_;rintro e w1 ⟨rfl,hX⟩;have HX:=G hX;clear hX)|(go_at_call 201;refine(yK _ g src _ _ s 4 _ _ none 0 [] HX.out.1 Rd.none_ (fun h0=>absurd h0 (Nat.lt_irrefl 0)) HB.out).mono ?_;rintro e w2 ⟨rfl,s2,hY,NY⟩;obtain⟨k,ns,xx,ps,WE,WQ,Fz,NS⟩:=hY.lastC rfl hq;have d0:w2.cell? ⟨k,q*7,none⟩=_:=(Fz.cell 0 rfl).1;have z0:w2.frozen? ⟨k,q*7,none⟩=false:=(Fz.cell 0 rfl).2;have d1:=(Fz.cell 1 rfl).1;have z1:=(Fz.cell 1 rfl).2;have MI:=G Fz;have HF:=G NY;clear Fz hY NY;unfold iv)|fail);go_ret;have HD:=G (MI.out.lit WQ HT.out rfl rfl xx.vA xx.vc (by simp only[ndC,WE]));exact⟨rfl,s2,HD.out.1,(((Fr.of_old s ((jQ0 _ _).drewN _)).trans HX.out.2).trans HF.out).trans HD.out.2⟩
theorem uS(w:World)(g:Nat)(src:BA)(r r1 r' :Rdr)(s:Sl)(n:Nd)(x:Int)(at_:Nat)(h:St w g src r s)(hl:jGE r.t=true)(hd:JN r.t (kn (sb src) r)=some n)(hn:kA (sb src) r=some r1)
  (hx:ye n at_ r1=some (x,r')):Calls prog 236 #[.pointer (some ⟨g,0,none⟩),iv (at_:Int)] w (Ex w g src s r' (iv x)):=by
 have ht:=jM8 hl;unfold JN at hd;by_cases h2:r.t=2
 ·rw[jJ6 h2]at hd;split at hd
  case isFalse=>cases hd
  rename_i hi;injection hd with hd;subst hd;exact jE8 w g src r r1 r' s x at_ h h2 hi.2 hi.1 hn hx
 rw[jJ5 h2]at hd;by_cases h46:r.t=46\/r.t=47
 ·rw[jJ6 h46]at hd;injection hd with hd;subst hd;rcases h46 with e|e
  ·rw[e]at hx;exact Xn w g src r r1 r' s x at_ h e hn hx
  ·rw[e]at hx;exact Xm w g src r r1 r' s x at_ h e hn hx
 rw[jJ5 h46]at hd;by_cases h3:r.t=3
 ·rw[jJ6 h3]at hd;split at hd
  case isFalse=>cases hd
  rename_i CO;obtain⟨v,hv,hd⟩:=jM4 hd;subst hd;exact jDC w g src r r1 r' s x at_ h h3 v CO hv hn hx
 rw[jJ5 h3]at hd;by_cases h1:r.t=1
 ·rw[jJ6 h1]at hd;injection hd with hd;subst hd;exact jDD w g src r r1 r' s x at_ h h1 hn hx
 rw[jJ5 h1]at hd;injection hd with hd;subst hd;exact uT w g src r r1 r' s x at_ h (by omega) hn hx
theorem KM(w:World)(g:Nat)(src:BA)(r r' :Rdr)(s:Sl)(op x:Int)(at_:Nat)(kids:List Int)(h:St w g src r s)(hn:ye (yw op kids) at_ r=some (x,r')):
  Calls prog 201 #[.pointer (some ⟨g,0,none⟩),iv op,iv (at_:Int),.slice (some ⟨w.heap.size,0,none⟩) kids.length kids.length] (w.alloc (.cells (kids.map iv).toArray 3)) (Ex w g src s r' (iv x)):=by
 have ho:=(jQ0 NoX w).alloc (.cells (kids.map iv).toArray 3);have hr:=Rd.row_new w 3 1 kids.length (kids.map iv) (by simp);refine(yK _ g src r r' s op x at_ _ kids.length kids (h.old ho) hr (fun _ ad e hx=> ?_) hn).mono (fun _ _ hX=>Ex.of (Fr.of_old s ho) hX);injection e with e;subst e;have:w.heap.size<w.heap.size:=hx.elim (fun e=>(h.ox8 _ e).2) (fun e=>h.zlt _ e);exact Nat.lt_irrefl _ this
def ExL(w:World)(g:Nat)(src:BA)(s:Sl)(r' :Rdr)(kids:List Int)(e:Ending)(w' :World):Prop:=
 ∃A c s',e=.returned (.slice A kids.length c)/\Rd w' 1 A kids.length (kids.map iv)/\Av (AX g s') kids.length A/\St w' g src r' s' /\Fr g s s' w w'
def jHW:List Nat:=[43,44,45,18,20,19]
structure ExAll(src:BA)(f:Nat):Prop where
 ex:∀(w:World) (g:Nat) (r:Rdr) (s:Sl) (k:Int×List Int×Rdr),St w g src r s->exN (sb src) f .expr r=some k->Calls prog 172 #[.pointer (some ⟨g,0,none⟩)] w (Ex w g src s k.2.2 (iv k.1))
 row:∀(l:Nat),l∈jHW->∀(w:World) (g:Nat) (r:Rdr) (s:Sl) (k:Int×List Int×Rdr),St w g src r s->exN (sb src) f (.row l) r=some k->Calls prog 200 #[.pointer (some ⟨g,0,none⟩),.int .u8 (l:Int)] w (Ex w g src s k.2.2 (iv k.1))
 two:∀(op root:Int) (l:Nat),l∈jHW->∀(w:World) (g:Nat) (r:Rdr) (s:Sl) (k:Int×List Int×Rdr),St w g src r s->exN (sb src) f (.two op root l) r=some k->Calls prog 227 #[.pointer (some ⟨g,0,none⟩),iv op,iv root,.int .u8 (l:Int)] w (Ex w g src s k.2.2 (iv k.1))
 un:∀(w:World) (g:Nat) (r:Rdr) (s:Sl) (k:Int×List Int×Rdr),St w g src r s->exN (sb src) f .unary r=some k->Calls prog 228 #[.pointer (some ⟨g,0,none⟩)] w (Ex w g src s k.2.2 (iv k.1))
 ls:∀(last:Nat) (w:World) (g:Nat) (r:Rdr) (s:Sl) (k:Int×List Int×Rdr),St w g src r s->exN (sb src) f (.list last []) r=some k->Calls prog 237 #[.pointer (some ⟨g,0,none⟩),.int .u8 (last:Int)] w (ExL w g src s k.2.2 k.2.1)
theorem jFh(src:BA)(f:Nat)(IH:ExAll src f)(w:World)(g:Nat)(r:Rdr)(s:Sl)(k:Int×List Int×Rdr)(h:St w g src r s)(hk:exN (sb src) (f+1) .expr r=some k):
  Calls prog 172 #[.pointer (some ⟨g,0,none⟩)] w (Ex w g src s k.2.2 (iv k.1)):=by
 rw[exN]at hk;have FE:=h.box.c2;have Fo:=h.box.c3;have HS:=G h;have HI:=G IH;by_cases ht:r.t=40
 ·rw[jJ5 (fun e=>e ht)]at hk;obtain⟨r1,Fq,hk⟩:=jM2 hk;obtain⟨c,hc,hk⟩:=jM2 hk;obtain⟨r2,Fu,hk⟩:=jM2 hk;obtain⟨a,ha,hk⟩:=jM2 hk;obtain⟨r3,Wa,hk⟩:=jM2 hk;obtain⟨b,hb,hk⟩:=jM2 hk;obtain⟨x,hx,hk⟩:=jM4 hk;subst hk;obtain⟨x,r'⟩:=x;have N1:=G Fq;have N2:=G Fu;have N3:=G Wa;have E1:=G hc;have E2:=G ha;have E3:=G hb;have NX:=G hx;rw[ht]at Fo;clear h IH Fq hc Fu ha Wa hb hx ht;simp only;go_enter func172,ntmps172;go_wp2_with (first|(go_at_call 135;first|(refine(jZ _ g src _ _ s HS.out N1.out).mono ?_;rintro e w1 ⟨rfl,hX⟩;have H1:=G hX;clear hX)|(refine(jZ _ g src _ _ _ H2.out.1 N2.out).mono ?_;rintro e w3 ⟨rfl,hX⟩;have H3:=G hX;clear hX)|(refine(jZ _ g src _ _ _ H4.out.1 N3.out).mono ?_;rintro e w5 ⟨rfl,hX⟩;have H5:=G hX;clear hX))|(go_at_call 172;first|(refine(HI.out.ex _ g _ _ _ H1.out.1 E1.out).mono ?_;rintro e w2 ⟨rfl,s2,hX⟩;have H2:=G hX;clear hX;unfold iv)|(refine(HI.out.ex _ g _ _ _ H3.out.1 E2.out).mono ?_;rintro e w4 ⟨rfl,s4,hX⟩;have H4:=G hX;clear hX;unfold iv)|(refine(HI.out.ex _ g _ _ _ H5.out.1 E3.out).mono ?_;rintro e w6 ⟨rfl,s6,hX⟩;have H6:=G hX;clear hX;unfold iv))|(go_at_call 201;refine(KM _ g src _ _ _ 23 _ _ [c.1,a.1,b.1] H6.out.1 NX.out).mono ?_;rintro e w7 ⟨rfl,s7,hX⟩;have H7:=G hX;clear hX;unfold iv)|fail);go_ret;exact⟨rfl,s7,H7.out.1,(((((H1.out.2.trans H2.out.2).trans H3.out.2).trans H4.out.2).trans H5.out.2).trans H6.out.2).trans H7.out.2⟩
 ·rw[jJ6 ht]at hk;have E1:=G hk;have e40:((r.t:Int) !=40)=true:=by rw[bne,jM3 (show(r.t:Int)≠40 by omega)];rfl
  clear h hk ht;go_enter func172,ntmps172;go_wp2_with (first|(go_at_call 200;refine(HI.out.row 43 (by decide) _ g _ _ _ HS.out E1.out).mono ?_;rintro e w2 ⟨rfl,s2,hX⟩;have H2:=G hX;clear hX;unfold iv)|fail);go_ret;exact⟨rfl,s2,H2.out⟩
theorem jCM(src:BA)(f:Nat)(IH:ExAll src f)(op root:Int)(l:Nat)(hl:l∈jHW)(w:World)(g:Nat)(r:Rdr)(s:Sl)(k:Int×List Int×Rdr)(h:St w g src r s)(hk:exN (sb src) (f+1) (.two op root l) r=some k):
  Calls prog 227 #[.pointer (some ⟨g,0,none⟩),iv op,iv root,.int .u8 (l:Int)] w (Ex w g src s k.2.2 (iv k.1)):=by
 rw[exN]at hk;have FE:=h.box.c2;have HS:=G h;have HI:=G IH;have HL:=G hl;obtain⟨r1,Fq,hk⟩:=jM2 hk;obtain⟨q,hq,hk⟩:=jM2 hk;obtain⟨x,hx,hk⟩:=jM4 hk;subst hk;obtain⟨x,r'⟩:=x;have N1:=G Fq;have E1:=G hq;have NX:=G hx;clear h IH Fq hq hx hl;unfold iv;go_enter func227,ntmps227;go_wp2_with (first|(go_at_call 135;refine(jZ _ g src _ _ s HS.out N1.out).mono ?_;rintro e w1 ⟨rfl,hX⟩;have H1:=G hX;clear hX)|(go_at_call 200;refine(HI.out.row _ HL.out _ g _ _ _ H1.out.1 E1.out).mono ?_;rintro e w2 ⟨rfl,s2,hX⟩;have H2:=G hX;clear hX;unfold iv)|(go_at_call 201;refine(KM _ g src _ _ _ op _ _ [root,q.1] H2.out.1 NX.out).mono ?_;rintro e w3 ⟨rfl,s3,hX⟩;have H3:=G hX;clear hX;unfold iv)|fail);go_ret;exact⟨rfl,s3,H3.out.1,(H1.out.2.trans H2.out.2).trans H3.out.2⟩
theorem jBv(v:Int)(hv:v=49\/v=52\/v=31\/v=50\/v=51\/v=53\/v=54\/v=55\/v=56\/v=57)(w:World):Calls prog 238 #[.int .u8 v] w fun e w' =>e=.returned (iv (jDz v.toNat))/\w=w' :=by
 rcases hv with rfl|rfl|rfl|rfl|rfl|rfl|rfl|rfl|rfl|rfl
 all_goals
  go_enter func238,ntmps238;go_wp2;go_ret;exact⟨rfl,rfl⟩
def zA(s:Sl)(A:OA):Nat->Prop:=fun b=>s.z b\/A.map (·.block)=some b
structure LsSt(src:BA)(w:World)(g:Nat)(last:Nat)(s:Sl)(k:Int×List Int×Rdr)(f:Nat)(A:OA)(c:Nat)(kids:List Int)(r:Rdr)(s' :Sl)(W:World):Prop where
 st:St W g src r s'
 z:s'.z=zA s A
 kp:Kp (OX g s) w W
 ox:∀b,b<w.heap.size->OX g s' b->OX g s b
 own:W.ownsRow w.heap.size 3 1 (.slice A kids.length c) kids.length (kids.map iv)
 ex:exN (sb src) f (.list last kids) r=some k
theorem LsSt.start{src:BA}{w:World}{g last:Nat}{s:Sl}{k:Int×List Int×Rdr}{f:Nat}{r:Rdr}(h:St w g src r s)(he:exN (sb src) f (.list last []) r=some k):LsSt src w g last s k f none 0 [] r {s with z:=zA s none} w:=
 ⟨h.zgrow (jQ0 NoX w) (fun _ e=>e.elim) _ (fun b hb=>hb.elim (fun e=>⟨.inl e,h.zlt b e⟩) (fun e=>by cases e)),rfl,jQ0 _ _,fun _ _ e=>e,World.ownsRow_nil _ _ _ _,he⟩
theorem LsSt.grow{src:BA}{w W W1 W2 W3:World}{g last:Nat}{s s' :Sl}{k:Int×List Int×Rdr}{f f' :Nat}{A A' :OA}{c c' :Nat}{kids:List Int}{r r1:Rdr}{x:Int}{s1:Sl}(h:LsSt src w g last s k f A c kids r s' W)
  (h1:St W1 g src r1 s1) (f1:Fr g s' s1 W W1) (he:exN (sb src) f' (.list last (kids++[x])) r1=some k) (ho:Old W1 W2) (hg:W2.grownBy W3 (A.map (·.block))) (ha:A'.map (·.block)=A.map (·.block)\/A'.map (·.block)=some W2.heap.size)
  (Hi:W3.ownsRow w.heap.size 3 1 (.slice A' (kids.length+1) c') (kids.length+1) (kids.map iv++[iv x])):LsSt src w g last s k f' A' c' (kids++[x]) r1 {s1 with z:=zA s A'} W3:=by
 have hU:Kp (fun b=>A.map (·.block)=some b) W1 W3:=Kp.grown (ho.mono (fun _ _ e=>e.elim)) hg (fun _ e _=>e);have Fi:s1.z=zA s A:=f1.z.trans h.z;have hw:w.heap.size<=W1.heap.size:=jL4 h.kp.size f1.kp.size;refine⟨h1.zgrow hU (fun b e=>by rw[Fi];exact .inr e) _ (fun b hb=> ?_),rfl,(h.kp.trans f1.kp h.ox).trans hU (fun b hb e=> ?_),fun b hb e=>h.ox b hb (f1.own b (jL8 hb h.kp.size) e),by rw[jJ4,jN3];exact Hi,he⟩
 ·rcases hb with e|e
  ·have e2:s1.z b:=by rw[Fi];exact .inl e
   exact⟨.inl e2,jL8 (h1.zlt b e2) hU.size⟩
  ·refine⟨?_,(JL Hi e).2⟩;rcases ha with ha|ha
   ·left;rw[Fi];right;rw[<-ha];exact e
   ·right;rw[ha]at e;injection e with e;rw[<-e];exact ho.size
 ·have:=(JL h.own e).1;omega
theorem LsSt.done{src:BA}{w W W' :World}{g last:Nat}{s s' :Sl}{k:Int×List Int×Rdr}{f:Nat}{A:OA}{c:Nat}{kids:List Int}{r r1:Rdr}(h:LsSt src w g last s k f A c kids r s' W)(h0:∀b,s.z b->b<w.heap.size)
  (h1:St W' g src r1 s') (f1:Fr g s' s' W W'):ExL w g src s r1 kids (.returned (.slice A kids.length c)) W' :=by
 have ho:=jV h.own f1.kp (fun b e hx=>h.st.zno b hx (by rw[h.z];right;rw[<-jC];exact e));have hw:w.heap.size<=W'.heap.size:=jL4 h.kp.size f1.kp.size;refine⟨A,c,{s' with z:=s.z},rfl,Rd.of_own ho,fun hn ad ea hx=> ?_,h1.zgrow (jQ0 NoX W') (fun _ e=>e.elim) _ (fun b e=>⟨.inl (by rw[h.z];exact .inl e),jL8 (h0 b e) hw⟩),⟨h.kp.trans f1.kp h.ox,fun b hb e=>h.ox b hb e,rfl⟩⟩;have hb:A.map (·.block)=some ad.block:=by rw[ea];rfl
 rcases hx with hx|hx
 ·exact h.st.zno _ hx (by rw[h.z];exact .inr hb)
 ·have:=(JL h.own hb).1;have:=h0 _ hx;omega
def jEA(src:BA)(w:World)(g:Nat)(last:Nat)(s:Sl)(k:Int×List Int×Rdr)(F f:Nat)(kv:Value)(W:World):Prop:=f<=F/\∃A c kids r' s',kv=.slice A kids.length c/\LsSt src w g last s k f A c kids r' s' W
theorem jA2(src:BA)(f:Nat)(IH:∀m,m<=f->ExAll src m)(last:Nat)(w:World)(g:Nat)(r:Rdr)(s:Sl)(k:Int×List Int×Rdr)(h:St w g src r s)(hk:exN (sb src) (f+1) (.list last []) r=some k):
  Calls prog 237 #[.pointer (some ⟨g,0,none⟩),.int .u8 (last:Int)] w (ExL w g src s k.2.2 k.2.1):=by
 have H0:=G (show jEA src w g last s k (f+1) (f+1) (.slice none 0 0) w from⟨jL3 _,none,0,[],r,_,rfl,LsSt.start h hk⟩);have HI:=G IH;have HZ:=G h.zlt;obtain⟨i1,hj,Ca,C9,C8⟩:=info_parts jBP;clear h hk IH;go_enter func237,ntmps237;go_wp2;go_loopw [5] (fun kv wr=>∃n,jEA src w g last s k (f+1) n kv wr) (fun kv wr=>least (fun n=>jEA src w g last s k (f+1) n kv wr))
 case atStart=>exact⟨_,H0.out⟩
 case round=>
  clear H0;obtain⟨n,⟨hn,A,c,kids,r',s',rfl,Hv⟩,Fv⟩:=zF hrel;have Fo:=Hv.st.box.c3;have Gw:=G Hv;have Gp:=G Fv;cases n with
  |zero=>exact absurd Hv.ex (by simp[exN])
  |succ m=>
   have hD:=Hv.ex;rw[exN]at hD;by_cases ht:r'.t=last
   ·rw[jJ6 ht]at hD;obtain⟨r1,Fq,he⟩:=jM2 hD;injection he with he;have N1:=G Fq;have He:=G he;have e1:((r'.t:Int) !=(last:Int))=false:=by rw[bne,beq_iff_eq.2 (show(r'.t:Int)=(last:Int)by omega)];rfl
    clear Hv Fv hrel hD Fq he ht;go_wp2_with (first|(go_at_call 135;refine(jZ _ g src _ _ _ Gw.out.st N1.out).mono ?_;rintro e w1 ⟨rfl,hX⟩;have H1:=G hX;clear hX)|fail);go_ret;rw[<-He.out];exact Gw.out.done HZ.out H1.out.1 H1.out.2
   ·rw[jJ5 ht]at hD;split at hD
    case isFalse=>cases hD
    rename_i hlt;obtain⟨⟨b,r2⟩,hU,hD⟩:=jM2 hD;obtain⟨q,hq,hD⟩:=jM2 hD;have K1:=G hU;have E1:=G hq;have EX:=G hD;have Pw:=G (HI.out m (by omega));have GA:=G (show kids.length+1<=maxLen by unfold maxLen;omega);have GH:=G (show(kids.length+1)*8<=140737488355328 by omega);have e1:((r'.t:Int) !=(last:Int))=true:=by rw[bne,jM3 (show(r'.t:Int)≠(last:Int)by omega)];rfl
    clear Hv Fv hrel hD hU hq ht hlt;go_wp2_with (first|(go_at_call 167;refine(jk _ g src _ _ _ 8 _ Gw.out.st K1.out).mono ?_;rintro e w1 ⟨rfl,hX⟩;have H1:=G hX;clear hX)|(go_at_call 172;refine(Pw.out.ex _ g _ _ _ H1.out.1 E1.out).mono ?_;rintro e w2 ⟨rfl,s2,hX⟩;have H2:=G hX;clear hX;unfold iv)|(at_builtin;refine jE _ rfl (.tmp 14) (.tmp 17) 27 rfl w.heap.size 3 i1 _ 1 8 underlying27 hj Ca C9 C8 rfl (by decide) (.slice A kids.length c) kids.length (kids.map iv) rfl (jV (jV (jV Gw.out.own H1.out.2.kp (fun b e hx=>Gw.out.st.zno b hx (by rw[Gw.out.z];right;rw[<-jC];exact e))) H2.out.2.kp (fun b e hx=>H1.out.1.zno b hx (by rw[Gw.out.z];right;rw[<-jC];exact e))) ((jQ0 NoX _).alloc _) (fun _ _ e=>e)) _ 1 1 [iv q.1] rfl (Rd.one_new _ _ _) (ji _ rfl) GA.out GH.out (jL4 (jL4 (jL4 Gw.out.kp.size H1.out.2.kp.size) H2.out.2.kp.size) ((jQ0 NoX _).alloc _).size) ?_;intro A1 c1 w3 Hi hgrow Fc;rw[jC]at hgrow Fc;have HG:=G (Gw.out.grow H2.out.1 (H1.out.2.trans H2.out.2) EX.out ((jQ0 NoX _).alloc _) hgrow Fc Hi);clear Hi hgrow Fc)|fail);have HL:jEA src w g last s k (f+1) m (.slice A1 (kids.length+1) c1) w3:=⟨by omega,A1,c1,kids++[q.1],_,_,by rw[jJ4];rfl,HG.out⟩;exact⟨⟨m,HL⟩,by rw[Gp.out];exact vP HL (Nat.lt_succ_self m)⟩
theorem jCK(src:BA)(f:Nat)(IH:ExAll src f)(w:World)(g:Nat)(r:Rdr)(s:Sl)(k:Int×List Int×Rdr)(h:St w g src r s)(ht:r.t=19)(hk:exN (sb src) (f+1) .unary r=some k):
  Calls prog 228 #[.pointer (some ⟨g,0,none⟩)] w (Ex w g src s k.2.2 (iv k.1)):=by
 rw[exN,jJ6 ht]at hk;have FE:=h.box.c2;have HS:=G h;have HI:=G IH;obtain⟨r1,Fq,hk⟩:=jM2 hk;obtain⟨q,hq,hk⟩:=jM2 hk;obtain⟨x,hx,hk⟩:=jM4 hk;subst hk;obtain⟨x,r'⟩:=x;have K1:=G (show kJ (sb src) 19 r=some (true,r1)by rw[kJ,jJ6 ht,Fq];rfl);have E1:=G hq;have NX:=G hx;clear h IH Fq hq hx ht;unfold iv;go_enter func228,ntmps228;go_wp2_with (first|(go_at_call 167;refine(jk _ g src _ _ s 19 _ HS.out K1.out).mono ?_;rintro e w1 ⟨rfl,hX⟩;have H1:=G hX;clear hX)|(go_at_call 228;refine(HI.out.un _ g _ _ _ H1.out.1 E1.out).mono ?_;rintro e w2 ⟨rfl,s2,hX⟩;have H2:=G hX;clear hX;unfold iv)|(go_at_call 201;refine(KM _ g src _ _ _ 7 _ _ [q.1] H2.out.1 NX.out).mono ?_;rintro e w3 ⟨rfl,s3,hX⟩;have H3:=G hX;clear hX;unfold iv)|fail);go_ret;exact⟨rfl,s3,H3.out.1,(H1.out.2.trans H2.out.2).trans H3.out.2⟩
theorem jGN(src:BA)(f:Nat)(w:World)(g:Nat)(r:Rdr)(s:Sl)(k:Int×List Int×Rdr)(h:St w g src r s)(LV:jGE r.t=true)(hk:exN (sb src) (f+1) .unary r=some k):
  Calls prog 228 #[.pointer (some ⟨g,0,none⟩)] w (Ex w g src s k.2.2 (iv k.1)):=by
 have ht:=jM8 LV;rcases ht with ht|ht|ht|ht|ht|ht
 all_goals
  rw[exN,jJ5 (by rw[ht];decide),jJ6 LV]at hk;have FE:=h.box.c2;have HS:=G h;obtain⟨n,Cs,hk⟩:=jM2 hk;obtain⟨r1,Fq,hk⟩:=jM2 hk;obtain⟨x,hx,hk⟩:=jM4 hk;subst hk;obtain⟨x,r'⟩:=x;have K1:=G (show kJ (sb src) 19 r=some (false,r)by rw[kJ,jJ5 (by rw[ht];decide)]);have HT:=G ht;have HL:=G (fun W s2 (hS:St W g src r s2)=>uS W g src r r1 r' s2 n x r.from_ hS LV Cs Fq hx);clear h Fq Cs hx ht LV;unfold iv at*;go_enter func228,ntmps228;go_wp2_with (first|(go_at_call 167;refine(jk _ g src _ _ s 19 _ HS.out K1.out).mono ?_;rintro e w1 ⟨rfl,hX⟩;have H1:=G hX;have FE:=hX.1.box.c2;have Fo:=hX.1.box.c3;rw[HT.out]at Fo;clear hX)|fail);go_quiet (fail);go_wp2_with (first|(go_at_call 236;refine(HL.out _ _ (H1.out.1.drewN _)).mono ?_;rintro e w2 ⟨rfl,s2,hX⟩;have H2:=G hX;clear hX)|fail);go_ret;exact⟨rfl,s2,H2.out.1,(H1.out.2.trans (Fr.of_old s ((jQ0 _ _).drewN _))).trans H2.out.2⟩
theorem jES(src:BA)(f:Nat)(IH:ExAll src f)(w:World)(g:Nat)(r:Rdr)(s:Sl)(k:Int×List Int×Rdr)(h:St w g src r s)(ht:r.t=6)(hk:exN (sb src) (f+1) .unary r=some k):
  Calls prog 228 #[.pointer (some ⟨g,0,none⟩)] w (Ex w g src s k.2.2 (iv k.1)):=by
 rw[exN,jJ5 (by rw[ht];decide),jJ5 (by rw[ht];decide),jJ6 ht]at hk;have FE:=h.box.c2;have HS:=G h;have HI:=G IH;obtain⟨r1,Fq,hk⟩:=jM2 hk;obtain⟨q,hq,hk⟩:=jM2 hk;obtain⟨r2,Fu,hk⟩:=jM2 hk;injection hk with hk;subst hk;have K1:=G (show kJ (sb src) 19 r=some (false,r)by rw[kJ,jJ5 (by rw[ht];decide)]);have HT:=G ht;have N1:=G Fq;have N2:=G Fu;have E1:=G hq;clear h IH Fq hq Fu ht;unfold iv;go_enter func228,ntmps228;go_wp2_with (first|(go_at_call 167;refine(jk _ g src _ _ s 19 _ HS.out K1.out).mono ?_;rintro e w1 ⟨rfl,hX⟩;have H1:=G hX;have FE:=hX.1.box.c2;have Fo:=hX.1.box.c3;rw[HT.out]at Fo;clear hX)|fail);go_quiet (fail);go_wp2_with (first|(go_at_call 135;first|(refine(jZ _ g src _ _ s (H1.out.1.drewN _) N1.out).mono ?_;rintro e w2 ⟨rfl,hX⟩;have H2:=G hX;clear hX)|(refine(jZ _ g src _ _ _ H3.out.1 N2.out).mono ?_;rintro e w4 ⟨rfl,hX⟩;have H4:=G hX;clear hX))|(go_at_call 172;refine(HI.out.ex _ g _ _ _ H2.out.1 E1.out).mono ?_;rintro e w3 ⟨rfl,s3,hX⟩;have H3:=G hX;clear hX;unfold iv)|fail);go_ret;exact⟨rfl,s3,H4.out.1,(((H1.out.2.trans (Fr.of_old s ((jQ0 _ _).drewN _))).trans H2.out.2).trans H3.out.2).trans H4.out.2⟩
theorem jER(src:BA)(f:Nat)(IH:ExAll src f)(w:World)(g:Nat)(r:Rdr)(s:Sl)(k:Int×List Int×Rdr)(h:St w g src r s)(ht:r.t=4)(hk:exN (sb src) (f+1) .unary r=some k):
  Calls prog 228 #[.pointer (some ⟨g,0,none⟩)] w (Ex w g src s k.2.2 (iv k.1)):=by
 rw[exN,jJ5 (by rw[ht];decide),jJ5 (by rw[ht];decide),jJ5 (by rw[ht];decide),jJ6 ht]at hk;have FE:=h.box.c2;have HS:=G h;have HI:=G IH;obtain⟨r1,Fq,hk⟩:=jM2 hk;obtain⟨q,hq,hk⟩:=jM2 hk;obtain⟨x,hx,hk⟩:=jM4 hk;subst hk;obtain⟨x,r'⟩:=x;have K1:=G (show kJ (sb src) 19 r=some (false,r)by rw[kJ,jJ5 (by rw[ht];decide)]);have HT:=G ht;have N1:=G Fq;have E1:=G hq;have NX:=G hx;clear h IH Fq hq hx ht;unfold iv;go_enter func228,ntmps228;go_wp2_with (first|(go_at_call 167;refine(jk _ g src _ _ s 19 _ HS.out K1.out).mono ?_;rintro e w1 ⟨rfl,hX⟩;have H1:=G hX;have FE:=hX.1.box.c2;have Fo:=hX.1.box.c3;rw[HT.out]at Fo;clear hX)|fail);go_quiet (fail);go_wp2_with (first|(go_at_call 135;refine(jZ _ g src _ _ s (H1.out.1.drewN _) N1.out).mono ?_;rintro e w2 ⟨rfl,hX⟩;have H2:=G hX;clear hX)|(go_at_call 237;refine(HI.out.ls 5 _ g _ _ _ H2.out.1 E1.out).mono ?_;rintro e w3 ⟨A3,c3,s3,rfl,hX⟩;have H3:=G hX;clear hX)|(go_at_call 201;refine(yK _ g src _ _ _ 6 _ _ A3 c3 q.2.1 H3.out.2.2.1 H3.out.1 H3.out.2.1 NX.out).mono ?_;rintro e w4 ⟨rfl,s4,hX⟩;have H4:=G hX;clear hX;unfold iv)|fail);go_ret;exact⟨rfl,s4,H4.out.1,(((H1.out.2.trans (Fr.of_old s ((jQ0 _ _).drewN _))).trans H2.out.2).trans H3.out.2.2.2).trans H4.out.2⟩
end Go.Proofs.YtmmjcbbogokmfaaGreatDoor

import Derived.Test.YtifbhcfdealfaaaGreatDoorMl12
import Derived.Shelf.Strconv.Itoa3
import Derived.Shelf.Strconv.AtoiAll
import Derived.Ground.NamesProg
import Derived.Test.YtifbhcfdealfaaaGreatDoorProg
import Derived.Lib.AtoiAll
set_option maxRecDepth 100000
set_option maxHeartbeats 25600000
namespace Go.Proofs
open Go.Proofs.Tryz
open Go.Shelf
def Xk:Go.Shelf.Ren:=⟨fun|171=>59|243=>127|246=>184|283=>231|284=>232|285=>233|286=>234|129=>194|317=>267|318=>268|319=>269|320=>270|337=>292|338=>293|n=>n,fun|3=>3|9=>9|2=>2|4=>4|171=>308|0=>0|53=>281|37=>22|5=>5|173=>310|212=>343|51=>279|20=>20|213=>344|46=>233|232=>48|233=>368|n=>n,fun|17=>4|18=>5|19=>6|n=>n⟩
theorem jGz:Go.Proofs.LaysM.n171 prog Xk:={
 mixed:=by kernel_rfl
 f129:=func194.trans (congrArg some (by kernel_rfl))
 f171:=func59.trans (congrArg some (by kernel_rfl))
 f243:=func127.trans (congrArg some (by kernel_rfl))
 f246:=func184.trans (congrArg some (by kernel_rfl))
 f283:=func231.trans (congrArg some (by kernel_rfl))
 f284:=func232.trans (congrArg some (by kernel_rfl))
 f285:=func233.trans (congrArg some (by kernel_rfl))
 f286:=func234.trans (congrArg some (by kernel_rfl))
 f317:=func267.trans (congrArg some (by kernel_rfl))
 f318:=func268.trans (congrArg some (by kernel_rfl))
 f319:=func269.trans (congrArg some (by kernel_rfl))
 f320:=func270.trans (congrArg some (by kernel_rfl))
 f337:=func292.trans (congrArg some (by kernel_rfl))
 f338:=func293.trans (congrArg some (by kernel_rfl))
 t0:=underlying0
 a0:=isAgg0
 z0:=sizeOf0
 v0:=zeroValue0
 t2:=underlying2
 a2:=isAgg2
 z2:=sizeOf2
 v2:=zeroValue2
 t3:=underlying3
 a3:=isAgg3
 z3:=sizeOf3
 v3:=zeroValue3
 t4:=underlying4
 a4:=isAgg4
 z4:=sizeOf4
 v4:=zeroValue4
 t5:=underlying5
 a5:=isAgg5
 z5:=sizeOf5
 v5:=zeroValue5
 t9:=underlying9
 a9:=isAgg9
 z9:=sizeOf9
 v9:=zeroValue9
 t20:=underlying20
 a20:=isAgg20
 z20:=sizeOf20
 v20:=zeroValue20
 t37:=underlying22
 a37:=isAgg22
 z37:=sizeOf22
 v37:=zeroValue22
 t46:=underlying233
 a46:=isAgg233
 z46:=sizeOf233
 v46:=zeroValue233
 t51:=underlying279
 a51:=isAgg279
 z51:=sizeOf279
 v51:=zeroValue279
 t53:=underlying281
 a53:=isAgg281
 z53:=sizeOf281
 v53:=zeroValue281
 t171:=underlying308
 a171:=isAgg308
 z171:=sizeOf308
 v171:=zeroValue308
 t173:=underlying310
 a173:=isAgg310
 z173:=sizeOf310
 v173:=zeroValue310
 t212:=underlying343
 a212:=isAgg343
 z212:=sizeOf343
 v212:=zeroValue343
 t213:=underlying344
 a213:=isAgg344
 z213:=sizeOf344
 t232:=underlying48
 a232:=isAgg48
 z232:=sizeOf48
 v232:=zeroValue48
 t233:=underlying368
 a233:=isAgg368
 z233:=sizeOf368
 v233:=zeroValue368
 g17:=by kernel_rfl
 g18:=by kernel_rfl
 g19:=by kernel_rfl
 i0:=by kernel_rfl
 i2:=by kernel_rfl
 i3:=by kernel_rfl
 i4:=by kernel_rfl
 i5:=by kernel_rfl
 i9:=by kernel_rfl
 i20:=by kernel_rfl
 i37:=by kernel_rfl
 i46:=by kernel_rfl
 i51:=by kernel_rfl
 i53:=by kernel_rfl
 i171:=by kernel_rfl
 i173:=by kernel_rfl
 i212:=by kernel_rfl
 i232:=by kernel_rfl
 i233:=by kernel_rfl
 m17:=by kernel_rfl
 m18:=by kernel_rfl
 m19:=by kernel_rfl}
def Ui:Go.Shelf.Ren:=⟨fun|172=>318|244=>325|245=>326|247=>329|279=>330|280=>331|281=>332|282=>333|287=>334|316=>335|171=>59|205=>336|321=>337|322=>338|243=>127|246=>184|283=>231|284=>232|285=>233|286=>234|129=>194|317=>267|318=>268|319=>269|320=>270|337=>292|338=>293|n=>n,fun|9=>9|3=>3|75=>226|76=>227|4=>4|5=>5|167=>382|37=>22|0=>0|85=>383|2=>2|168=>385|53=>281|175=>379|46=>233|210=>389|127=>269|145=>394|143=>392|21=>21|171=>308|173=>310|212=>343|51=>279|20=>20|213=>344|232=>48|233=>368|80=>30|n=>n,fun|15=>7|16=>8|17=>4|18=>5|19=>6|n=>n⟩
theorem jGQ:Go.Proofs.LaysC.n172 prog Ui:={
 mixed:=by kernel_rfl
 f129:=func194.trans (congrArg some (by kernel_rfl))
 f171:=func59.trans (congrArg some (by kernel_rfl))
 f172:=func318.trans (congrArg some (by kernel_rfl))
 f205:=func336.trans (congrArg some (by kernel_rfl))
 f243:=func127.trans (congrArg some (by kernel_rfl))
 f244:=func325.trans (congrArg some (by kernel_rfl))
 f245:=func326.trans (congrArg some (by kernel_rfl))
 f246:=func184.trans (congrArg some (by kernel_rfl))
 f247:=func329.trans (congrArg some (by kernel_rfl))
 f279:=func330.trans (congrArg some (by kernel_rfl))
 f280:=func331.trans (congrArg some (by kernel_rfl))
 f281:=func332.trans (congrArg some (by kernel_rfl))
 f282:=func333.trans (congrArg some (by kernel_rfl))
 f283:=func231.trans (congrArg some (by kernel_rfl))
 f284:=func232.trans (congrArg some (by kernel_rfl))
 f285:=func233.trans (congrArg some (by kernel_rfl))
 f286:=func234.trans (congrArg some (by kernel_rfl))
 f287:=func334.trans (congrArg some (by kernel_rfl))
 f316:=func335.trans (congrArg some (by kernel_rfl))
 f317:=func267.trans (congrArg some (by kernel_rfl))
 f318:=func268.trans (congrArg some (by kernel_rfl))
 f319:=func269.trans (congrArg some (by kernel_rfl))
 f320:=func270.trans (congrArg some (by kernel_rfl))
 f321:=func337.trans (congrArg some (by kernel_rfl))
 f322:=func338.trans (congrArg some (by kernel_rfl))
 f337:=func292.trans (congrArg some (by kernel_rfl))
 f338:=func293.trans (congrArg some (by kernel_rfl))
 t0:=underlying0
 a0:=isAgg0
 z0:=sizeOf0
 v0:=zeroValue0
 t2:=underlying2
 a2:=isAgg2
 z2:=sizeOf2
 v2:=zeroValue2
 t3:=underlying3
 a3:=isAgg3
 z3:=sizeOf3
 v3:=zeroValue3
 t4:=underlying4
 a4:=isAgg4
 z4:=sizeOf4
 v4:=zeroValue4
 t5:=underlying5
 a5:=isAgg5
 z5:=sizeOf5
 v5:=zeroValue5
 t9:=underlying9
 a9:=isAgg9
 z9:=sizeOf9
 v9:=zeroValue9
 t20:=underlying20
 a20:=isAgg20
 z20:=sizeOf20
 v20:=zeroValue20
 t21:=underlying21
 a21:=isAgg21
 z21:=sizeOf21
 v21:=zeroValue21
 t37:=underlying22
 a37:=isAgg22
 z37:=sizeOf22
 v37:=zeroValue22
 t46:=underlying233
 a46:=isAgg233
 z46:=sizeOf233
 v46:=zeroValue233
 t51:=underlying279
 a51:=isAgg279
 z51:=sizeOf279
 v51:=zeroValue279
 t53:=underlying281
 a53:=isAgg281
 z53:=sizeOf281
 v53:=zeroValue281
 t75:=underlying226
 a75:=isAgg226
 z75:=sizeOf226
 v75:=zeroValue226
 t76:=underlying227
 a76:=isAgg227
 z76:=sizeOf227
 v76:=zeroValue227
 t85:=underlying383
 a85:=isAgg383
 z85:=sizeOf383
 v85:=zeroValue383
 t127:=underlying269
 a127:=isAgg269
 z127:=sizeOf269
 v127:=zeroValue269
 t143:=underlying392
 a143:=isAgg392
 z143:=sizeOf392
 v143:=zeroValue392
 t145:=underlying394
 a145:=isAgg394
 z145:=sizeOf394
 v145:=zeroValue394
 t167:=underlying382
 a167:=isAgg382
 z167:=sizeOf382
 v167:=zeroValue382
 t168:=underlying385
 a168:=isAgg385
 z168:=sizeOf385
 v168:=zeroValue385
 t171:=underlying308
 a171:=isAgg308
 z171:=sizeOf308
 v171:=zeroValue308
 t173:=underlying310
 a173:=isAgg310
 z173:=sizeOf310
 v173:=zeroValue310
 t175:=underlying379
 a175:=isAgg379
 z175:=sizeOf379
 v175:=zeroValue379
 t210:=underlying389
 a210:=isAgg389
 z210:=sizeOf389
 v210:=zeroValue389
 t212:=underlying343
 a212:=isAgg343
 z212:=sizeOf343
 v212:=zeroValue343
 t213:=underlying344
 a213:=isAgg344
 z213:=sizeOf344
 t232:=underlying48
 a232:=isAgg48
 z232:=sizeOf48
 v232:=zeroValue48
 t233:=underlying368
 a233:=isAgg368
 z233:=sizeOf368
 v233:=zeroValue368
 g15:=by kernel_rfl
 g16:=by kernel_rfl
 g17:=by kernel_rfl
 g18:=by kernel_rfl
 g19:=by kernel_rfl
 t80:=underlying30
 a80:=isAgg30
 z80:=sizeOf30
 v80:=zeroValue30
 i0:=by kernel_rfl
 i2:=by kernel_rfl
 i3:=by kernel_rfl
 i4:=by kernel_rfl
 i5:=by kernel_rfl
 i9:=by kernel_rfl
 i20:=by kernel_rfl
 i21:=by kernel_rfl
 i37:=by kernel_rfl
 i46:=by kernel_rfl
 i51:=by kernel_rfl
 i53:=by kernel_rfl
 i75:=by kernel_rfl
 i76:=by kernel_rfl
 i80:=by kernel_rfl
 i85:=by kernel_rfl
 i127:=by kernel_rfl
 i143:=by kernel_rfl
 i145:=by kernel_rfl
 i167:=by kernel_rfl
 i168:=by kernel_rfl
 i171:=by kernel_rfl
 i173:=by kernel_rfl
 i175:=by kernel_rfl
 i210:=by kernel_rfl
 i212:=by kernel_rfl
 i232:=by kernel_rfl
 i233:=by kernel_rfl
 m15:=by kernel_rfl
 m16:=by kernel_rfl
 m17:=by kernel_rfl
 m18:=by kernel_rfl
 m19:=by kernel_rfl
 c0:=by kernel_rfl
 c2:=by kernel_rfl
 c3:=by kernel_rfl
 c4:=by kernel_rfl
 c5:=by kernel_rfl
 c9:=by kernel_rfl
 c20:=by kernel_rfl
 c21:=by kernel_rfl
 c37:=by kernel_rfl
 c46:=by kernel_rfl
 c51:=by kernel_rfl
 c53:=by kernel_rfl
 c75:=by kernel_rfl
 c76:=by kernel_rfl
 c80:=by kernel_rfl
 c85:=by kernel_rfl
 c127:=by kernel_rfl
 c143:=by kernel_rfl
 c145:=by kernel_rfl
 c167:=by kernel_rfl
 c168:=by kernel_rfl
 c171:=by kernel_rfl
 c173:=by kernel_rfl
 c175:=by kernel_rfl
 c210:=by kernel_rfl
 c212:=by kernel_rfl
 c213:=by kernel_rfl
 c232:=by kernel_rfl
 c233:=by kernel_rfl}
end Go.Proofs
namespace Go.Proofs.YtifbhcfdealfaaaGreatDoor
open Go.Proofs.Tryz
theorem ZC:∀(l:LB) (acc:Nat),l.all yU=true->Jq l acc<18446744073709551616->Lib.parseUint10 acc l=.ok (Jq l acc)
 |[],acc,_,_=>rfl
 |c::l,acc,h,hl=>by
  rw[List.all_cons,Bool.and_eq_true]at h;have hc:=Zb h.1;rw[Jq]at hl⊢;have hg:=jDb l (10*acc+(c.toNat-48));rw[Lib.parseUint10,jJ6 hc,jJ5 (by omega),jJ5 (by omega),Nat.mul_comm acc 10];exact ZC l _ h.2 hl
theorem jBJ{l:LB}(h:jZ l=true)(Fe:l≠ []):Lib.atoiAll l=.ok (Jq l 0:Int):=by
 obtain⟨h1,h2⟩:=jEw h;cases l with
 |nil=>exact absurd rfl Fe
 |cons c r=>
  have hc:48<=c.toNat/\c.toNat<=57:=by
   rw[List.all_cons,Bool.and_eq_true]at h1;exact Zb h1.1
  have hp:=ZC (c::r) 0 h1 (by omega);unfold Lib.atoiAll;simp only;rw[jJ5 (by omega)];unfold Lib.parseMag;rw[jJ5 (by simp),hp];simp only;rw[jJ5 (by omega),jJ5 (by omega),jJ5 (by omega)]
open Go.RowKit
theorem YK{c:UInt8}(h:Vi c=true):(48<=c.toNat/\c.toNat<=57/\VI c=c.toNat-48)\/(97<=c.toNat/\c.toNat<=102/\VI c=c.toNat-87):=by
 unfold Vi at h;rw[Bool.or_eq_true]at h;rcases h with h|h
 ·have h2:48<=c.toNat/\c.toNat<=57:=jM8 h;exact .inl ⟨h2.1,h2.2,by unfold VI;rw[jJ6 h]⟩
 ·have h2:=jM8 h;refine .inr ⟨h2.1,h2.2,?_⟩;unfold VI;rw[jJ5 (by unfold yU;rw[jK3 (by omega)];decide)]
theorem jAQ(w:World)(s:BA)(a b:UInt8)(hs:sb s=[a,b])(ha:Vi a=true)(hb:Vi b=true):
  Calls prog 334 #[.string s,.int .i64 16,.int .i64 8] w fun e w' =>e=.returned (.tuple #[.int .u64 ((16*VI a+VI b:Nat):Int),.nilIface])/\Old w w' :=by
 have FK:s.size=2:=by rw[<-jB,hs];rfl
 have Fe:s.toList.isEmpty=false:=by
  rw[ByteArray.toList_eq];show(sb s).isEmpty=false;rw[hs];rfl
 have e0:(sb s).length=2:=by rw[hs];rfl
 have HS:=G hs;obtain⟨da,Dz⟩:∃d,VI a=d:=⟨_,rfl⟩;obtain⟨db,Dy⟩:∃d,VI b=d:=⟨_,rfl⟩;have H1:=G (YK ha);have H2:=G (YK hb);rw[Dz]at H1⊢;rw[Dy]at H2⊢;clear hs ha hb Dz Dy;go_enter func334,ntmps334;go_wp2_with (first|(with_reducible refine jDn 9 22 ?_;refine VJ _ underlying9 underlying22 underlying5 s rfl ?_;intro A1 c1 w1 R6 Ri Z3)|fail);have HR:=G R6;have HO:=G Ri;clear R6 Ri Z3;go_loopw [101,13,12] (fun i n u wr=>∃(j nj k:Nat),j<=2/\i=.int .i64 (j:Int)/\n=.int .u64 (nj:Int)/\u=.bool false/\(j=0->nj=0)/\(j=1->nj=da)/\(j=2->nj=16*da+db)/\nj<=255/\(j<=1->nj<=15)/\wr=w1.drewN k) (fun i _ _ _=>2-(intOf i).toNat)
 case atStart=>exact⟨0,0,0,by omega,rfl,rfl,rfl,fun _=>rfl,fun e=>by omega,fun e=>by omega,by omega,fun _=>by omega,by simp[World.drewN_zero]⟩
 case round=>
  obtain⟨j,nj,k,hj,rfl,rfl,rfl,h0,h1,h2,Sh,Z9,rfl⟩:=hrel;have HJ:=G (And.intro h0 (And.intro h1 h2));by_cases hlt:j<2
  ·obtain⟨x,d,hx,hc,Df⟩:∃x d:Nat,(sb s)[j]? =some (UInt8.ofNat x)/\((48<=x/\x<=57/\d=x-48)\/(97<=x/\x<=102/\d=x-87))/\(j=0->d=da)/\(j=1->d=db):=by
    have AB:j=0\/j=1:=(by omega);rcases AB with rfl|rfl
    ·refine⟨a.toNat,da,by rw[HS.out,UInt8.ofNat_toNat];rfl,H1.out,fun _=>rfl,fun e=>by omega⟩
    ·refine⟨b.toNat,db,by rw[HS.out,UInt8.ofNat_toNat];rfl,H2.out,fun e=>by omega,fun _=>rfl⟩
   obtain⟨b3,o3,u3,hA,hu,Ff⟩:=HR.out.at_ (k:=j) (by rw[FK];exact hlt);subst hA;have It:x<256:=(by omega);have NA:u3=.int .u8 (x:Int):=by
    rw[jM1,hx]at hu;injection hu with hu;rw[<-hu];unfold bv;rw[UInt8.toNat_ofNat_of_lt' (by omega)]
   subst NA;have IE:(w1.drewN k).cell? ⟨b3,o3+j,none⟩=some (.int .u8 (x:Int)):=Ff;have At:nj<=15:=Z9 (by omega);have AM:d<=15:=(by omega);have b1:(0:Int)<=(j:Int):=(by omega);have b2:(j:Int).toNat=j:=(by omega);have b3' :(j:Int)<(s.size:Int):=(by omega);have b4:IntKind.i64.wrap ((j:Int)+1)=(j:Int)+1:=jQ3 _ (by omega);have c1:((x:Int)==95)=false:=jM3 (by omega);have c5:¬(16:Int)<=(d:Int):=(by omega);have c6:¬(1152921504606846976:Int)<=(nj:Int):=(by omega);have c7:IntKind.u64.wrap ((nj:Int)*16)=(nj:Int)*16:=IntWalk.u64_in _ (by omega);have c8:IntKind.u64.wrap ((nj:Int)*16+(d:Int))=(nj:Int)*16+(d:Int):=IntWalk.u64_in _ (by omega);have c9:¬(nj:Int)*16+(d:Int)<(nj:Int)*16:=(by omega);have c10:¬(255:Int)<(nj:Int)*16+(d:Int):=(by omega);have Tw:=G Df;clear hu Ff hx h0 h1 h2 Z9 Df Sh;rcases hc with⟨x1,x2,x3⟩|⟨x1,x2,x3⟩
   ·have c2:(48:Int)<=(x:Int):=(by omega);have c3:(x:Int)<=57:=(by omega);have c4:IntKind.u8.wrap ((x:Int)-48)=(d:Int):=by rw[show(x:Int)-48=(d:Int)by omega];exact IntWalk.u8_in _ (by omega)
    clear x1 x2 x3;go_wp2_with (first|go_quiet (fail)|fail);exact⟨⟨j+1,nj*16+d,k,by omega,by rw[show((j+1:Nat):Int)=(j:Int)+1 by omega],by rw[show((nj*16+d:Nat):Int)=(nj:Int)*16+(d:Int)by omega],rfl,fun e=>by omega,fun e=>by have:=Tw.out.1 (by omega);have:=HJ.out.1 (by omega);omega,fun e=>by have:=Tw.out.2 (by omega);have:=HJ.out.2.1 (by omega);omega,by omega,fun e=>by have:=HJ.out.1 (by omega);omega,rfl⟩,by simp only[intOf];omega⟩
   ·have c2:(48:Int)<=(x:Int):=(by omega);have c3:¬(x:Int)<=57:=(by omega);have c4:IntKind.u8.wrap ((x:Int)-97)=(x:Int)-97:=IntWalk.u8_in _ (by omega);have c4' :IntKind.u8.wrap ((x:Int)-97+10)=(d:Int):=by rw[show(x:Int)-97+10=(d:Int)by omega];exact IntWalk.u8_in _ (by omega)
    have c3' :(97:Int)<=(x:Int):=(by omega);have c3'' :(x:Int)<=122:=(by omega);have cb:bits BinOp.or IntKind.u8 (x:Int) 32=(x:Int):=by
     have EV:x=97\/x=98\/x=99\/x=100\/x=101\/x=102:=(by omega);rcases EV with rfl|rfl|rfl|rfl|rfl|rfl<;>decide
    clear x1 x2 x3;go_wp2;exact⟨⟨j+1,nj*16+d,k,by omega,by rw[show((j+1:Nat):Int)=(j:Int)+1 by omega],by rw[show((nj*16+d:Nat):Int)=(nj:Int)*16+(d:Int)by omega],rfl,fun e=>by omega,fun e=>by have:=Tw.out.1 (by omega);have:=HJ.out.1 (by omega);omega,fun e=>by have:=Tw.out.2 (by omega);have:=HJ.out.2.1 (by omega);omega,by omega,fun e=>by have:=HJ.out.1 (by omega);omega,rfl⟩,by simp only[intOf];omega⟩
  ·obtain rfl:j=2:=(by omega);have hn:=h2 rfl;clear h0 h1 h2 Z9 Sh;subst hn;go_wp2_with (first|go_quiet (fail)|fail)
   go_ret2
   exact⟨rfl,HO.out.drewN _⟩
theorem Qu(w:World)(s:BA)(a b:UInt8)(hs:sb s=[a,b])(ha:Vi a=true)(hb:Vi b=true):
  Calls prog 327 #[.string s,.int .i64 16,.int .i64 8] w fun e w' =>e=.returned (.tuple #[.int .u64 ((16*VI a+VI b:Nat):Int),.nilIface])/\Old w w' :=by
 have H:=G (jAQ w s a b hs ha hb);clear hs ha hb;generalize 16*VI a+VI b=n at*;go_enter func327,ntmps327;go_wp2_with (go_at_call 334;refine H.out.mono ?_;rintro e w1 ⟨rfl,hO⟩)
 go_ret2
 exact⟨rfl,hO⟩
theorem xF(s:BA)(k:Nat)(h:k<s.size):(sb s).drop k=s[k]::(sb s).drop (k+1):=by
 have h' :k<(sb s).length:=by rw[jB];exact h
 rw[jM9 h'];rfl
structure Mean(w:World)(s:BA)(v:LB)(wr:World)(j:Nat)(acc:LB)(A:OA)(c:Nat):Prop where
 le:j<=s.size
 rest:∃f r,meantN f ((sb s).drop j)=some r/\acc++r=v
 own:wr.ownsRow w.heap.size 5 1 (.slice A acc.length c) acc.length (acc.map bv)
 old:Old w wr
 len:acc.length<=j
theorem Mean.put{w w2:World}{s:BA}{v:LB}{wr w3:World}{j n:Nat}{acc:LB}{A A' :OA}{c c' :Nat}(h:Mean w s v wr j acc A c)(z:UInt8)(hn:j<j+n/\j+n<=s.size)(hr:∃f r,meantN f ((sb s).drop (j+n))=some r/\acc++z::r=v)
  (ho:Old wr w2) (hg:w2.grownBy w3 ((Value.slice A acc.length c).ownBlock)) (hI:w3.ownsRow w.heap.size 5 1 (.slice A' (acc.length+1) c') (acc.length+1) (acc.map bv++[bv z])):Mean w s v w3 (j+n) (acc++[z]) A' c' :=by
 obtain⟨f,r,h1,h2⟩:=hr;refine⟨hn.2,⟨f,r,h1,by rw[jK1];exact h2⟩,?_,(h.old.trans ho (fun _ _ e=>e)).grown hg (fun k e hlt=> ?_),?_⟩
 ·rw[jJ4,jN3];exact hI
 ·have:=(h.own.lt k e).1;omega
 ·rw[jJ4,List.length_singleton];have:=h.len;omega
theorem XR(w:World)(s:BA)(v:LB)(f:Nat)(hv:meantN f (sb s)=some v)(hs:s.size<=1000000000):
  Calls prog 319 #[.string s] w fun e w' =>e=.returned (.string ⟨v.toArray⟩)/\Old w w' :=by
 obtain⟨i0,hi,FJ,Gw,GQ⟩:=info_parts jA7;have H0:=G (show Mean w s v w 0 [] none 0 from⟨Nat.zero_le _,⟨f,v,hv,rfl⟩,World.ownsRow_nil _ _ _ _,jQ0 _ _,jL3 _⟩);clear hv;go_enter func319,ntmps319;go_wp2;go_loopw [3,4] (fun b i wr=>∃j acc A c,b=.slice A acc.length c/\i=.int .i64 ((j:Nat):Int)/\Mean w s v wr j acc A c) (fun _ i _=>s.size-(intOf i).toNat)
 case atStart=>exact⟨0,[],none,0,rfl,rfl,H0.out⟩
 case round=>
  clear H0;obtain⟨j,acc,A,c,rfl,rfl,hm⟩:=hrel;have HM:=G hm;have hI:=hm.own;obtain⟨f1,r1,FH,FC⟩:=hm.rest;have Gx:=hm.le;have Mu:=hm.len;have Nb:=G hm.old.size;clear hm;by_cases hlt:j<s.size
  ·have hd:=xF s j hlt;rw[hd]at FH;have b1:(0:Int)<=(j:Int):=(by omega);have b2:(j:Int)<(s.size:Int):=(by omega);have b3:(j:Int).toNat=j:=(by omega);have b4:IntKind.i64.wrap ((j:Int)+1)=(j:Int)+1:=jQ3 _ (by omega);have J63:=G (show acc.length+1<=maxLen by unfold maxLen;omega);have J47:=G (show(acc.length+1)*1<=140737488355328 by omega);have So:=G (fun(z:UInt8)=>(show(acc++[z]).length=acc.length+1 by rw[jJ4];rfl));obtain⟨f1,rfl⟩:∃g,f1=g+1:=by
    cases f1 with
    |zero=>cases FH
    |succ g=>exact⟨g,rfl⟩
   have F9:=G hI;generalize hx:s[j]=x at*;by_cases h92:x.toNat=92
   ·have e92:((x.toNat:Int)==92)=true:=beq_iff_eq.2 (by omega);have WZ:j+1<s.size:=by
     rcases Nat.lt_or_ge (j+1) s.size with h|h
     ·exact h
     ·rw[List.drop_eq_nil_of_le (by rw[jB];exact h),jB0 f1 x h92]at FH;cases FH
    have NW:=xF s (j+1) WZ;rw[NW]at FH;have i1:(0:Int)<=(j:Int)+1:=(by omega);have i2:(j:Int)+1<(s.size:Int):=(by omega);have i3:((j:Int)+1).toNat=j+1:=(by omega);have i4:IntKind.i64.wrap ((j:Int)+1+1)=(j:Int)+1+1:=jQ3 _ (by omega);generalize hy:s[j+1]=y at*;by_cases h120:y.toNat=120
    ·obtain⟨L,hL⟩:∃L,(sb s).drop (j+2)=L:=⟨_,rfl⟩;rw[show j+1+1=j+2 from rfl,hL]at FH;obtain⟨a,b,l2,NU⟩:∃a b l2,L=a::b::l2:=by
      match L,FH with
      |[],h=>rw[jEn f1 x y h92 h120]at h;cases h
      |[a],h=>rw[jEm f1 x y a h92 h120]at h;cases h
      |a::b::l,h=>exact⟨a,b,l,rfl⟩
     subst NU;rw[jFN f1 x y a b l2 h92 h120]at FH;have NU:=hL;clear hL;split at FH
     case isFalse=>cases FH
     rename_i hab;obtain⟨r2,e2,e3⟩:=jM4 FH;have hlen:=congrArg List.length NU;rw[jK8,jB,jK6,jK6]at hlen;have PA:(sb s).drop (j+4)=l2:=by rw[show j+4=(j+2)+2 from rfl,<-List.drop_drop,NU];rfl
     have F4:sb (s.extract (j+2) (j+4))=[a,b]:=by rw[jt,NU,show j+4-(j+2)=2 by omega];rfl
     have HC:=G (fun W=>Qu W (s.extract (j+2) (j+4)) a b F4 hab.1 hab.2);have PY:VI a<=15:=by have:=YK hab.1;omega
     have EZ:VI b<=15:=by have:=YK hab.2;omega
     generalize VI a=va at*;generalize VI b=vb at*;generalize hz:16*va+vb=zn at*;obtain⟨z,CY⟩:∃z:UInt8,z.toNat=zn:=⟨UInt8.ofNat zn,UInt8.toNat_ofNat_of_lt' (show zn<256 by omega)⟩;rw[<-CY,UInt8.ofNat_toNat]at e3;have ER:=z.toNat_lt;have HR:=G (show∃f r,meantN f ((sb s).drop (j+4))=some r/\acc++z::r=v from⟨f1,r2,by rw[PA];exact e2,by rw[<-FC,<-e3]⟩);have HB:=G (show j<j+4/\j+4<=s.size by omega);have z1:IntKind.u8.wrap (z.toNat:Int)=(z.toNat:Int):=IntWalk.u8_in _ (by omega);subst CY;have k1:IntKind.i64.wrap ((j:Int)+1+1)=(j:Int)+1+1:=jQ3 _ (by omega);have k2:IntKind.i64.wrap ((j:Int)+1+3)=(j:Int)+1+3:=jQ3 _ (by omega);have k3:(0:Int)<=(j:Int)+1+1:=(by omega);have k4:(j:Int)+1+3<=(s.size:Int):=(by omega);have k5:(j:Int)+1+1<=(j:Int)+1+3:=(by omega);have k6:((j:Int)+1+1).toNat=j+2:=(by omega);have k7:((j:Int)+1+3).toNat=j+4:=(by omega);have k8:IntKind.i64.wrap ((j:Int)+1+2)=(j:Int)+1+2:=jQ3 _ (by omega);have k9:IntKind.i64.wrap ((j:Int)+1+2+1)=(j:Int)+1+2+1:=jQ3 _ (by omega);have e110:((y.toNat:Int)==110)=false:=jM3 (by omega);have e116:((y.toNat:Int)==116)=false:=jM3 (by omega);have e120:((y.toNat:Int)==120)=true:=beq_iff_eq.2 (by omega);generalize hk:acc.length=k at*;clear FH FC e2 e3 hd NW h92 Gx Mu hI NU PA F4 hab PY EZ hlen h120 hz ER;go_wp2_with (first|(go_at_call 327;refine(HC.out _).mono ?_;rintro e w2 ⟨rfl,hO⟩;have HO:=G hO;clear hO)|(at_builtin;refine jG _ rfl (.tmp 45) (.tmp 47) 22 rfl w.heap.size 5 i0 (.int .u8 0) 1 1 underlying22 hi FJ Gw GQ rfl (by decide) (.slice A k c) k (acc.map bv) rfl (jJ (jJ F9.out HO.out (fun _ _ e=>e)) ((jQ0 NoX _).alloc _) (fun _ _ e=>e)) _ 1 1 [bv z] rfl (Rd.one_new _ _ _) (kI _ rfl) J63.out J47.out (jL4 (jL4 Nb.out HO.out.size) ((jQ0 NoX _).alloc _).size) ?_;intro A' c' w3 Ft hgrow F1;subst hk;have HP:=G (HM.out.put z HB.out HR.out (HO.out.alloc _) hgrow Ft);clear Ft hgrow F1)|fail);exact⟨⟨j+4,_,A',c',by rw[So.out],by rw[show((j+4:Nat):Int)=(j:Int)+1+2+1 by omega],HP.out⟩,by have:=HB.out;simp only[intOf];omega⟩
    ·rw[xW f1 x y _ h92 h120]at FH;obtain⟨r2,e2,e3⟩:=jM4 FH;have HB:=G (show j<j+2/\j+2<=s.size by omega);have HR:=G (show∃f r,meantN f ((sb s).drop (j+2))=some r/\acc++jBG y::r=v from⟨f1,r2,e2,by rw[<-FC,<-e3]⟩);have e120:((y.toNat:Int)==120)=false:=jM3 (by omega);clear FH FC e2 e3;by_cases h110:y.toNat=110
     ·have e110:((y.toNat:Int)==110)=true:=beq_iff_eq.2 (by omega);rw[show jBG y=10 by unfold jBG;rw[jJ6 h110]]at HR;generalize hk:acc.length=k at*;clear hd NW h92 Gx Mu hI h120 h110;go_wp2_with (at_builtin;refine jG _ rfl (.tmp 45) (.tmp 47) 22 rfl w.heap.size 5 i0 (.int .u8 0) 1 1 underlying22 hi FJ Gw GQ rfl (by decide) (.slice A k c) k (acc.map bv) rfl (jJ F9.out ((jQ0 NoX _).alloc _) (fun _ _ e=>e)) _ 1 1 [bv 10] rfl (Rd.one_new _ _ _) (kI _ rfl) J63.out J47.out (jL4 Nb.out ((jQ0 NoX _).alloc _).size) ?_;intro A' c' w3 Ft hgrow F1;subst hk;have HP:=G (HM.out.put 10 HB.out HR.out ((jQ0 NoX _).alloc _) hgrow Ft);clear Ft hgrow F1);exact⟨⟨j+2,_,A',c',by rw[So.out],by rw[show((j+2:Nat):Int)=(j:Int)+1+1 by omega],HP.out⟩,by have:=HB.out;simp only[intOf];omega⟩
     ·have e110:((y.toNat:Int)==110)=false:=jM3 (by omega);by_cases h116:y.toNat=116
      ·have e116:((y.toNat:Int)==116)=true:=beq_iff_eq.2 (by omega);rw[show jBG y=9 by unfold jBG;rw[jJ5 h110,jJ6 h116]]at HR;generalize hk:acc.length=k at*;clear hd NW h92 Gx Mu hI h120 h110 h116;go_wp2_with (at_builtin;refine jG _ rfl (.tmp 45) (.tmp 47) 22 rfl w.heap.size 5 i0 (.int .u8 0) 1 1 underlying22 hi FJ Gw GQ rfl (by decide) (.slice A k c) k (acc.map bv) rfl (jJ F9.out ((jQ0 NoX _).alloc _) (fun _ _ e=>e)) _ 1 1 [bv 9] rfl (Rd.one_new _ _ _) (kI _ rfl) J63.out J47.out (jL4 Nb.out ((jQ0 NoX _).alloc _).size) ?_;intro A' c' w3 Ft hgrow F1;subst hk;have HP:=G (HM.out.put 9 HB.out HR.out ((jQ0 NoX _).alloc _) hgrow Ft);clear Ft hgrow F1);exact⟨⟨j+2,_,A',c',by rw[So.out],by rw[show((j+2:Nat):Int)=(j:Int)+1+1 by omega],HP.out⟩,by have:=HB.out;simp only[intOf];omega⟩
      ·have e116:((y.toNat:Int)==116)=false:=jM3 (by omega);rw[show jBG y=y by unfold jBG;rw[jJ5 h110,jJ5 h116]]at HR;generalize hk:acc.length=k at*;clear hd NW h92 Gx Mu hI h120 h110 h116;go_wp2_with (at_builtin;refine jG _ rfl (.tmp 45) (.tmp 47) 22 rfl w.heap.size 5 i0 (.int .u8 0) 1 1 underlying22 hi FJ Gw GQ rfl (by decide) (.slice A k c) k (acc.map bv) rfl (jJ F9.out ((jQ0 NoX _).alloc _) (fun _ _ e=>e)) _ 1 1 [bv y] rfl (Rd.one_new _ _ _) (kI _ rfl) J63.out J47.out (jL4 Nb.out ((jQ0 NoX _).alloc _).size) ?_;intro A' c' w3 Ft hgrow F1;subst hk;have HP:=G (HM.out.put y HB.out HR.out ((jQ0 NoX _).alloc _) hgrow Ft);clear Ft hgrow F1);exact⟨⟨j+2,_,A',c',by rw[So.out],by rw[show((j+2:Nat):Int)=(j:Int)+1+1 by omega],HP.out⟩,by have:=HB.out;simp only[intOf];omega⟩
   ·rw[KG f1 x _ h92]at FH;obtain⟨r2,e2,e3⟩:=jM4 FH;have e92:((x.toNat:Int)==92)=false:=jM3 (by omega);have HR:=G (show∃f r,meantN f ((sb s).drop (j+1))=some r/\acc++x::r=v from⟨f1,r2,e2,by rw[<-FC,<-e3]⟩);have HB:=G (show j<j+1/\j+1<=s.size by omega);generalize hk:acc.length=k at*;clear FH FC e2 e3 hd h92 Gx Mu hI;go_wp2_with (at_builtin;refine jG _ rfl (.tmp 45) (.tmp 47) 22 rfl w.heap.size 5 i0 (.int .u8 0) 1 1 underlying22 hi FJ Gw GQ rfl (by decide) (.slice A k c) k (acc.map bv) rfl (jJ F9.out ((jQ0 NoX _).alloc _) (fun _ _ e=>e)) _ 1 1 [bv x] rfl (Rd.one_new _ _ _) (kI _ rfl) J63.out J47.out (jL4 Nb.out ((jQ0 NoX _).alloc _).size) ?_;intro A' c' w3 Ft hgrow F1;subst hk;have HP:=G (HM.out.put x HB.out HR.out ((jQ0 NoX _).alloc _) hgrow Ft);clear Ft hgrow F1);exact⟨⟨j+1,_,A',c',by rw[So.out],by rw[show((j+1:Nat):Int)=(j:Int)+1 by omega],HP.out⟩,by have:=HB.out;simp only[intOf];omega⟩
  ·obtain rfl:j=s.size:=(by omega);rw[List.drop_eq_nil_of_le (by rw[jB];exact jL3 _)]at FH;have Ah:r1=[]:=by
    cases f1 with
    |zero=>cases FH
    |succ g=>rw[meantN]at FH;injection FH with FH;exact FH.symm
   rw[Ah,jN7]at FC;subst FC;have ST:=vm (P:=prog) (w:=wr) underlying22 underlying5 underlying9 A acc.length c acc (Rd.of_own hI);have HO:=G HM.out.old;clear FH hI HM Gx Mu Nb;go_wp2;go_ret;exact⟨rfl,HO.out⟩
theorem jBU(w:World)(s:BA)(h:jZ (sb s)=true)(Fe:sb s≠ [])(hs:s.size<=1000000):
  Calls prog 318 #[.string s] w fun e w' =>e=.returned (.tuple #[.int .i64 (Jq (sb s) 0:Nat),.nilIface])/\Old w w' :=
 Calls.mono (Any.strconv_Atoi_ok jGQ s (by omega) _ (jBJ h Fe) w) fun e w' ⟨he,hw⟩=>⟨he,by
  rcases hw with rfl|⟨t,rfl⟩
  ·exact jQ0 _ _
  ·exact Kp.of_below (Lib.bytesWorld_below _ _ _)⟩
theorem ZM{w:World}{g:Nat}{src:BA}{r:Rdr}{s:Sl}(h:St w g src r s):(jh (sb src) r).length<=1000000:=by
 unfold jh;rw[jK8,jK9,jB];have:=h.small;omega
theorem jDE(w:World)(g:Nat)(src:BA)(r r1 r' :Rdr)(s:Sl)(x:Int)(at_:Nat)(h:St w g src r s)(ht:r.t=2)(h0:jh (sb src) r≠ [])(hd:jZ (jh (sb src) r)=true)(hn:jc (sb src) r=some r1)
  (hx:vJ ⟨1,⟨#[]⟩,1,(Jq (jh (sb src) r) 0:Nat),⟨#[]⟩,[],[]⟩ at_ r1=some (x,r')):
  Calls prog 304 #[.pointer (some ⟨g,0,none⟩),iv (at_:Int)] w (Ex w g src s r' (iv x)):=by
 have Fq:=h.box.c3;rw[ht]at Fq;have HS:=G h;have HN:=G hn;have HL:=G (fun n=>vr (w.drewN n) g src r s (h.drewN n));obtain⟨h1,h2,h3,h4⟩:=vf hx;have Wi:=ZM h;generalize jh (sb src) r=lx at*;have HA:=G (fun W=>jBU W ⟨lx.toArray⟩ (by rw[zZ];exact hd) (by rw[zZ];exact h0) (by rw[<-jB,zZ];exact Wi));rw[zZ]at HA;generalize Jq lx 0=nv at*;have HB:=G h1;have HT:=G h2;generalize hq:r1.tree.nodes.length=q at*;subst h3;clear h hn hx h1 h2 ht h0 hd Wi;unfold iv;have f1:(0:Int)<=(q:Int):=(by omega);have f2:(q:Int).toNat=q:=(by omega);have f3:(q:Int)<(q:Int)+1:=(by omega);go_enter func304,ntmps304;go_wp2;go_quiet ((go_at_call 209;exact Calls.quiet_of (HL.out _)));go_wp2_with (first|(go_at_call 150;refine(jN _ g src _ _ s (HS.out.drewN _) HN.out).mono ?_;rintro e w1 ⟨rfl,hX⟩;have HX:=G hX;clear hX)|(go_at_call 257;refine(vR _ g src _ _ s 4 _ _ none 0 [] HX.out.1 Rd.none_ (fun h0=>absurd h0 (Nat.lt_irrefl 0)) HB.out).mono ?_;rintro e w2 ⟨rfl,s2,hY,N9⟩;obtain⟨k,ns,xx,ps,NL,GO,Fk,GS⟩:=hY.lastC rfl hq;have d0:w2.cell? ⟨k,q*7,none⟩=_:=(Fk.cell 0 rfl).1;have z0:w2.frozen? ⟨k,q*7,none⟩=false:=(Fk.cell 0 rfl).2;have d2:=(Fk.cell 2 rfl).1;have z2:=(Fk.cell 2 rfl).2;have d3:=(Fk.cell 3 rfl).1;have z3:=(Fk.cell 3 rfl).2;have d4:=(Fk.cell 4 rfl).1;have z4:=(Fk.cell 4 rfl).2;have d5:=(Fk.cell 5 rfl).1;have z5:=(Fk.cell 5 rfl).2;have Wu:=G Fk;have HF:=G N9;clear Fk hY N9;unfold iv)|(go_at_call 318;refine(HA.out _).mono ?_;rintro e w3 ⟨rfl,hO⟩;have FG:=G (Wu.out.old hO);have d0:w3.cell? ⟨k,q*7,none⟩=_:=(FG.out.cell 0 rfl).1;have z0:w3.frozen? ⟨k,q*7,none⟩=false:=(FG.out.cell 0 rfl).2;have d2:=(FG.out.cell 2 rfl).1;have z2:=(FG.out.cell 2 rfl).2;have d3:=(FG.out.cell 3 rfl).1;have z3:=(FG.out.cell 3 rfl).2;have d4:=(FG.out.cell 4 rfl).1;have z4:=(FG.out.cell 4 rfl).2;have d5:=(FG.out.cell 5 rfl).1;have z5:=(FG.out.cell 5 rfl).2;clear hO)|fail);go_ret;have HD:=G ((((((FG.out.set_ 0 (.int .i64 1)).set_ 2 (.int .i64 1)).set_ 3 (.int .i64 (nv:Int))).set_ 4 (.string ⟨#[]⟩)).set_ 5 (.slice none 0 0)).lit GO HT.out rfl rfl none 0 (by simp only[ndC,NL];rfl));exact⟨rfl,s2,HD.out.1,(((Fr.of_old s ((jQ0 _ _).drewN _)).trans HX.out.2).trans HF.out).trans HD.out.2⟩
theorem jAj(w:World)(g:Nat)(src:BA)(r r1 r' :Rdr)(s:Sl)(x:Int)(at_:Nat)(h:St w g src r s)(ht:r.t=3)(v:LB)(h0:2<=(jh (sb src) r).length)(hd:meantN ((jh (sb src) r).length+1) (((jh (sb src) r).drop 1).take ((jh (sb src) r).length-2))=some v)(hn:jc (sb src) r=some r1)
  (hx:vJ ⟨3,⟨#[]⟩,3,0,⟨v.toArray⟩,[],[]⟩ at_ r1=some (x,r')):
  Calls prog 304 #[.pointer (some ⟨g,0,none⟩),iv (at_:Int)] w (Ex w g src s r' (iv x)):=by
 have Fq:=h.box.c3;rw[ht]at Fq;have HS:=G h;have HN:=G hn;have HL:=G (fun n=>vr (w.drewN n) g src r s (h.drewN n));obtain⟨h1,h2,h3,h4⟩:=vf hx;have Wi:=ZM h;generalize jh (sb src) r=lx at*;obtain⟨nl,Nj⟩:∃n,lx.length=n+2:=⟨lx.length-2,by omega⟩;have FK:(⟨lx.toArray⟩:BA).size=nl+2:=(by rw[<-jB,zZ,Nj]);rw[Nj,Nat.add_sub_cancel]at hd;have HA:=G (fun W=>XR W ((⟨lx.toArray⟩:BA).extract 1 (nl+1)) v _ (by rw[jt,zZ,Nat.add_sub_cancel];exact hd) (by rw[<-jB,jt,jK9,jK8,zZ];omega));have HB:=G h1;have HT:=G h2;generalize hq:r1.tree.nodes.length=q at*;subst h3;have f4:((nl:Int)+2-1)=(nl:Int)+1:=(by omega);have f5:IntKind.i64.wrap ((nl:Int)+1)=(nl:Int)+1:=jQ3 _ (by omega);have f6:(0:Int)<=(nl:Int)+1:=(by omega);have f7:((nl:Int)+1).toNat=nl+1:=(by omega);have f8:(nl:Int)+1<=(nl:Int)+2:=(by omega);have f9:(1:Int)<=(nl:Int)+1:=(by omega);clear h hn hx h1 h2 ht h0 hd Wi Nj;unfold iv;have f1:(0:Int)<=(q:Int):=(by omega);have f2:(q:Int).toNat=q:=(by omega);have f3:(q:Int)<(q:Int)+1:=(by omega);go_enter func304,ntmps304;go_wp2;go_quiet ((go_at_call 209;exact Calls.quiet_of (HL.out _)));go_wp2_with (first|(go_at_call 150;refine(jN _ g src _ _ s (HS.out.drewN _) HN.out).mono ?_;rintro e w1 ⟨rfl,hX⟩;have HX:=G hX;clear hX)|(go_at_call 257;refine(vR _ g src _ _ s 4 _ _ none 0 [] HX.out.1 Rd.none_ (fun h0=>absurd h0 (Nat.lt_irrefl 0)) HB.out).mono ?_;rintro e w2 ⟨rfl,s2,hY,N9⟩;obtain⟨k,ns,xx,ps,NL,GO,Fk,GS⟩:=hY.lastC rfl hq;have d0:w2.cell? ⟨k,q*7,none⟩=_:=(Fk.cell 0 rfl).1;have z0:w2.frozen? ⟨k,q*7,none⟩=false:=(Fk.cell 0 rfl).2;have d2:=(Fk.cell 2 rfl).1;have z2:=(Fk.cell 2 rfl).2;have d3:=(Fk.cell 3 rfl).1;have z3:=(Fk.cell 3 rfl).2;have d4:=(Fk.cell 4 rfl).1;have z4:=(Fk.cell 4 rfl).2;have d5:=(Fk.cell 5 rfl).1;have z5:=(Fk.cell 5 rfl).2;have Wu:=G Fk;have HF:=G N9;clear Fk hY N9;unfold iv)|(go_at_call 319;refine(HA.out _).mono ?_;rintro e w3 ⟨rfl,hO⟩;have FG:=G (Wu.out.old hO);have d0:w3.cell? ⟨k,q*7,none⟩=_:=(FG.out.cell 0 rfl).1;have z0:w3.frozen? ⟨k,q*7,none⟩=false:=(FG.out.cell 0 rfl).2;have d2:=(FG.out.cell 2 rfl).1;have z2:=(FG.out.cell 2 rfl).2;have d3:=(FG.out.cell 3 rfl).1;have z3:=(FG.out.cell 3 rfl).2;have d4:=(FG.out.cell 4 rfl).1;have z4:=(FG.out.cell 4 rfl).2;have d5:=(FG.out.cell 5 rfl).1;have z5:=(FG.out.cell 5 rfl).2;clear hO)|fail);go_ret;have HD:=G ((((((FG.out.set_ 0 (.int .i64 3)).set_ 2 (.int .i64 3)).set_ 3 (.int .i64 0)).set_ 4 (.string ⟨v.toArray⟩)).set_ 5 (.slice none 0 0)).lit GO HT.out rfl rfl none 0 (by simp only[ndC,NL];rfl));exact⟨rfl,s2,HD.out.1,(((Fr.of_old s ((jQ0 _ _).drewN _)).trans HX.out.2).trans HF.out).trans HD.out.2⟩
theorem qZ(w:World)(g:Nat)(src:BA)(r r1 r' :Rdr)(s:Sl)(x:Int)(at_:Nat)(h:St w g src r s)(ht:r.t=48)(hn:jc (sb src) r=some r1)
  (hx:vJ (jn 4 []) at_ r1=some (x,r')):
  Calls prog 304 #[.pointer (some ⟨g,0,none⟩),iv (at_:Int)] w (Ex w g src s r' (iv x)):=by
 have Fq:=h.box.c3;rw[ht]at Fq;have HS:=G h;have HN:=G hn;have HL:=G (fun n=>vr (w.drewN n) g src r s (h.drewN n));obtain⟨h1,h2,h3,h4⟩:=vf hx;generalize jh (sb src) r=lx at*;have HB:=G h1;have HT:=G h2;generalize hq:r1.tree.nodes.length=q at*;subst h3;clear h hn hx h1 h2 ht;unfold iv;have f1:(0:Int)<=(q:Int):=(by omega);have f2:(q:Int).toNat=q:=(by omega);have f3:(q:Int)<(q:Int)+1:=(by omega);go_enter func304,ntmps304;go_wp2;go_quiet ((go_at_call 209;exact Calls.quiet_of (HL.out _)));go_wp2_with (first|(go_at_call 150;refine(jN _ g src _ _ s (HS.out.drewN _) HN.out).mono ?_;rintro e w1 ⟨rfl,hX⟩;have HX:=G hX;clear hX)|(go_at_call 257;refine(vR _ g src _ _ s 4 _ _ none 0 [] HX.out.1 Rd.none_ (fun h0=>absurd h0 (Nat.lt_irrefl 0)) HB.out).mono ?_;rintro e w2 ⟨rfl,s2,hY,N9⟩;obtain⟨k,ns,xx,ps,NL,GO,Fk,GS⟩:=hY.lastC rfl hq;have d0:w2.cell? ⟨k,q*7,none⟩=_:=(Fk.cell 0 rfl).1;have z0:w2.frozen? ⟨k,q*7,none⟩=false:=(Fk.cell 0 rfl).2;have d1:=(Fk.cell 1 rfl).1;have z1:=(Fk.cell 1 rfl).2;have Wu:=G Fk;have HF:=G N9;clear Fk hY N9;unfold iv)|fail);go_ret;have HD:=G (Wu.out.lit GO HT.out rfl rfl xx.vA xx.vc (by simp only[ndC,NL]));exact⟨rfl,s2,HD.out.1,(((Fr.of_old s ((jQ0 _ _).drewN _)).trans HX.out.2).trans HF.out).trans HD.out.2⟩
theorem qY(w:World)(g:Nat)(src:BA)(r r1 r' :Rdr)(s:Sl)(n:Nd)(x:Int)(at_:Nat)(h:St w g src r s)(hl:Uo r.t=true)(hd:kJ r.t (jh (sb src) r)=some n)(hn:jc (sb src) r=some r1)
  (hx:vJ n at_ r1=some (x,r')):Calls prog 304 #[.pointer (some ⟨g,0,none⟩),iv (at_:Int)] w (Ex w g src s r' (iv x)):=by
 have ht:=jM8 hl;unfold kJ at hd;by_cases h2:r.t=2
 ·rw[jJ6 h2]at hd;split at hd
  case isFalse=>cases hd
  rename_i hi;injection hd with hd;subst hd;exact jDE w g src r r1 r' s x at_ h h2 hi.2 hi.1 hn hx
 rw[jJ5 h2]at hd;by_cases h46:r.t=46\/r.t=47
 ·rw[jJ6 h46]at hd;injection hd with hd;subst hd;rcases h46 with e|e
  ·rw[e]at hx;exact ua w g src r r1 r' s x at_ h e hn hx
  ·rw[e]at hx;exact uZ w g src r r1 r' s x at_ h e hn hx
 rw[jJ5 h46]at hd;by_cases h3:r.t=3
 ·rw[jJ6 h3]at hd;split at hd
  case isFalse=>cases hd
  rename_i h2l;obtain⟨v,hv,hd⟩:=jM4 hd;subst hd;exact jAj w g src r r1 r' s x at_ h h3 v h2l hv hn hx
 rw[jJ5 h3]at hd;by_cases h1:r.t=1
 ·rw[jJ6 h1]at hd;injection hd with hd;subst hd;exact jAk w g src r r1 r' s x at_ h h1 hn hx
 rw[jJ5 h1]at hd;injection hd with hd;subst hd;exact qZ w g src r r1 r' s x at_ h (by omega) hn hx
theorem JM(w:World)(g:Nat)(src:BA)(r r' :Rdr)(s:Sl)(op x:Int)(at_:Nat)(kids:List Int)(h:St w g src r s)(hn:vJ (jn op kids) at_ r=some (x,r')):
  Calls prog 257 #[.pointer (some ⟨g,0,none⟩),iv op,iv (at_:Int),.slice (some ⟨w.heap.size,0,none⟩) kids.length kids.length] (w.alloc (.cells (kids.map iv).toArray 3)) (Ex w g src s r' (iv x)):=by
 have ho:=(jQ0 NoX w).alloc (.cells (kids.map iv).toArray 3);have hr:=Rd.row_new w 3 1 kids.length (kids.map iv) (by simp);refine(vR _ g src r r' s op x at_ _ kids.length kids (h.old ho) hr (fun _ ad e hx=> ?_) hn).mono (fun _ _ hX=>Ex.of (Fr.of_old s ho) hX);injection e with e;subst e;have:w.heap.size<w.heap.size:=hx.elim (fun e=>(h.ox8 _ e).2) (fun e=>h.zlt _ e);exact Nat.lt_irrefl _ this
def ExL(w:World)(g:Nat)(src:BA)(s:Sl)(r' :Rdr)(kids:List Int)(e:Ending)(w' :World):Prop:=
 ∃A c s',e=.returned (.slice A kids.length c)/\Rd w' 1 A kids.length (kids.map iv)/\Av (AX g s') kids.length A/\St w' g src r' s' /\Fr g s s' w w'
def jFO:List Nat:=[43,44,45,18,20,19]
structure ExAll(src:BA)(f:Nat):Prop where
 ex:∀(w:World) (g:Nat) (r:Rdr) (s:Sl) (k:Int×List Int×Rdr),St w g src r s->exN (sb src) f .expr r=some k->Calls prog 217 #[.pointer (some ⟨g,0,none⟩)] w (Ex w g src s k.2.2 (iv k.1))
 row:∀(l:Nat),l∈jFO->∀(w:World) (g:Nat) (r:Rdr) (s:Sl) (k:Int×List Int×Rdr),St w g src r s->exN (sb src) f (.row l) r=some k->Calls prog 256 #[.pointer (some ⟨g,0,none⟩),.int .u8 (l:Int)] w (Ex w g src s k.2.2 (iv k.1))
 two:∀(op root:Int) (l:Nat),l∈jFO->∀(w:World) (g:Nat) (r:Rdr) (s:Sl) (k:Int×List Int×Rdr),St w g src r s->exN (sb src) f (.two op root l) r=some k->Calls prog 288 #[.pointer (some ⟨g,0,none⟩),iv op,iv root,.int .u8 (l:Int)] w (Ex w g src s k.2.2 (iv k.1))
 un:∀(w:World) (g:Nat) (r:Rdr) (s:Sl) (k:Int×List Int×Rdr),St w g src r s->exN (sb src) f .unary r=some k->Calls prog 289 #[.pointer (some ⟨g,0,none⟩)] w (Ex w g src s k.2.2 (iv k.1))
 ls:∀(last:Nat) (w:World) (g:Nat) (r:Rdr) (s:Sl) (k:Int×List Int×Rdr),St w g src r s->exN (sb src) f (.list last []) r=some k->Calls prog 305 #[.pointer (some ⟨g,0,none⟩),.int .u8 (last:Int)] w (ExL w g src s k.2.2 k.2.1)
theorem jDZ(src:BA)(f:Nat)(IH:ExAll src f)(w:World)(g:Nat)(r:Rdr)(s:Sl)(k:Int×List Int×Rdr)(h:St w g src r s)(hk:exN (sb src) (f+1) .expr r=some k):
  Calls prog 217 #[.pointer (some ⟨g,0,none⟩)] w (Ex w g src s k.2.2 (iv k.1)):=by
 rw[exN]at hk;have Fm:=h.box.c2;have Fq:=h.box.c3;have HS:=G h;have HI:=G IH;by_cases ht:r.t=40
 ·rw[jJ5 (fun e=>e ht)]at hk;obtain⟨r1,Fp,hk⟩:=jM2 hk;obtain⟨c,hc,hk⟩:=jM2 hk;obtain⟨r2,FZ,hk⟩:=jM2 hk;obtain⟨a,ha,hk⟩:=jM2 hk;obtain⟨r3,WW,hk⟩:=jM2 hk;obtain⟨b,hb,hk⟩:=jM2 hk;obtain⟨x,hx,hk⟩:=jM4 hk;subst hk;obtain⟨x,r'⟩:=x;have N1:=G Fp;have N2:=G FZ;have N3:=G WW;have E1:=G hc;have E2:=G ha;have E3:=G hb;have NX:=G hx;rw[ht]at Fq;clear h IH Fp hc FZ ha WW hb hx ht;simp only;go_enter func217,ntmps217;go_wp2_with (first|(go_at_call 150;first|(refine(jN _ g src _ _ s HS.out N1.out).mono ?_;rintro e w1 ⟨rfl,hX⟩;have H1:=G hX;clear hX)|(refine(jN _ g src _ _ _ H2.out.1 N2.out).mono ?_;rintro e w3 ⟨rfl,hX⟩;have H3:=G hX;clear hX)|(refine(jN _ g src _ _ _ H4.out.1 N3.out).mono ?_;rintro e w5 ⟨rfl,hX⟩;have H5:=G hX;clear hX))|(go_at_call 217;first|(refine(HI.out.ex _ g _ _ _ H1.out.1 E1.out).mono ?_;rintro e w2 ⟨rfl,s2,hX⟩;have H2:=G hX;clear hX;unfold iv)|(refine(HI.out.ex _ g _ _ _ H3.out.1 E2.out).mono ?_;rintro e w4 ⟨rfl,s4,hX⟩;have H4:=G hX;clear hX;unfold iv)|(refine(HI.out.ex _ g _ _ _ H5.out.1 E3.out).mono ?_;rintro e w6 ⟨rfl,s6,hX⟩;have H6:=G hX;clear hX;unfold iv))|(go_at_call 257;refine(JM _ g src _ _ _ 23 _ _ [c.1,a.1,b.1] H6.out.1 NX.out).mono ?_;rintro e w7 ⟨rfl,s7,hX⟩;have H7:=G hX;clear hX;unfold iv)|fail);go_ret;exact⟨rfl,s7,H7.out.1,(((((H1.out.2.trans H2.out.2).trans H3.out.2).trans H4.out.2).trans H5.out.2).trans H6.out.2).trans H7.out.2⟩
 ·rw[jJ6 ht]at hk;have E1:=G hk;have e40:((r.t:Int) !=40)=true:=by rw[bne,jM3 (show(r.t:Int)≠40 by omega)];rfl
  clear h hk ht;go_enter func217,ntmps217;go_wp2_with (first|(go_at_call 256;refine(HI.out.row 43 (by decide) _ g _ _ _ HS.out E1.out).mono ?_;rintro e w2 ⟨rfl,s2,hX⟩;have H2:=G hX;clear hX;unfold iv)|fail);go_ret;exact⟨rfl,s2,H2.out⟩
end Go.Proofs.YtifbhcfdealfaaaGreatDoor

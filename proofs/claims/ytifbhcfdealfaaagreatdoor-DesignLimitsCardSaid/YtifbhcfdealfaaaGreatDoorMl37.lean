import Derived.Test.YtifbhcfdealfaaaGreatDoorMl11
import Derived.Lib.BytesEntry
import Derived.Lib.SlBytesConst
import Derived.Laws.Externs
set_option maxRecDepth 100000
set_option maxHeartbeats 25600000
namespace Go.Proofs.YtifbhcfdealfaaaGreatDoor
open Go.Proofs.Tryz
open Go.RowKit
section
variable{P:Program}(w:World)
theorem qp(l:LB):Lib.bytesOf (l.map fun x=>(x.toNat:Int))=l:=by
 unfold Lib.bytesOf;rw[List.map_map]
 conv=>rhs;rw[<-List.map_id l]
 refine List.map_congr_left (fun x _=> ?_);simp
theorem jBL(l:LB):Lib.countByte l 10=lfs l:=by
 unfold Lib.countByte lfs;rw[List.count_eq_length_filter]
 congr 2
theorem Yt(A:OA)(n c:Nat)(l:LB)(hr:Rd w 1 A n (l.map bv)):(Extern.BytealgCount.count #[.slice A n c,.int .u8 10]).run P w=.ok (.int .i64 (lfs l:Int)) w:=by
 have hn:l.length=n:=(by simpa using hr.1);have hs:=Lib.run_countString (P:=P) ⟨l.toArray⟩ 10 w;rw[show(⟨l.toArray⟩:BA).data.toList=l from rfl,show(10:Int).toNat.toUInt8=10 from rfl,jBL]at hs;cases A with
 |none=>
  have h0:n=0:=by
   rcases Nat.eq_zero_or_pos n with h|h
   ·exact h
   ·obtain⟨_,_,h2,_⟩:=hr.2 h;cases h2
  subst h0;obtain rfl:l=[]:=List.length_eq_zero_iff.1 hn;exact Lib.run_countString (P:=P) .empty 10 w
 |some a=>
  have hl:=Lib.run_loadBytesX (P:=P) w (l.map fun x=>(x.toNat:Int)) a .empty (fun j x hj=>by
   rw[jM1]at hj;obtain⟨y,hy,rfl⟩:=jM4 hj;have Fs:j<l.length:=(jM5 hy).1;obtain⟨b,o,hA,hc⟩:=hr.2 (by omega);injection hA with hA;subst hA;have:=hc j (bv y) (by rw[jM1,hy];rfl);rw[Addr.add_lit];exact this)
  rw[jK7,hn,qp]at hl;have he:(⟨ByteArray.empty.data++l.toArray⟩:BA)=⟨l.toArray⟩:=by
   apply ByteArray.ext;show(#[]:Array UInt8)++l.toArray=l.toArray;simp
  rw[he]at hl;change Sem.run P (do
   let b<-Extern.Bytes.bytesOf (.slice (some a) n c)
   let c' <-Extern.Bytes.asByte (.int .u8 10)
   pure (goInt (b.foldl (fun n x=>if x==c' then n+1 else n) (0:Nat)))) w=_
  change Sem.run P (do
   let b<-Extern.Bytes.bytesOf (.string ⟨l.toArray⟩)
   let c' <-Extern.Bytes.asByte (.int .u8 10)
   pure (goInt (b.foldl (fun n x=>if x==c' then n+1 else n) (0:Nat)))) w=_ at hs
  simp only[Extern.Bytes.bytesOf,Sem.run_bind,Sem.run_pure,hl,Result.andThen]at hs⊢;simpa using hs
end
theorem UT(w:World)(A:OA)(n c:Nat)(l:LB)(hr:Rd w 1 A n (l.map bv))(b2 d:Nat)(hb:w.cell? ⟨b2,0,none⟩=some (.int .u8 10)):
  Calls prog 115 #[.slice A n c,.slice (some ⟨b2,0,none⟩) 1 d] w fun e w' =>e=.returned (.int .i64 (lfs l:Int))/\w=w' :=by
 have hc:=Yt (P:=prog) w A n c l hr;go_enter func115,ntmps115;go_wp2;rw[run_callFunc_extern func168 (by kernel_rfl) (by kernel_rfl) (by kernel_rfl) (e:=Extern.BytealgCount.count) (by kernel_rfl),hc];simp only[Result.andThen];rw[Oper.upon_value];go_wp2;go_ret;exact⟨rfl,rfl⟩
theorem qb{l:LB}{k:Nat}(h:k<l.length):kX (l.take (k+1))=if l[k]=10 then(k:Int)else kX (l.take k):=by
 rw[jK2 h,zk,jK9,Nat.min_eq_left (Nat.le_of_lt h)]
theorem jAp(w:World)(A:OA)(n c:Nat)(l:LB)(hr:Rd w 1 A n (l.map bv))(hl:n<=4000000000):
  Calls prog 170 #[.slice A n c,.int .u8 10] w fun e w' =>e=.returned (.int .i64 (kX l))/\w=w' :=by
 have hn:l.length=n:=(by simpa using hr.1);have H0:=G (show kX l=kX (l.take n)by rw[jK4 (by omega)]);generalize kX l=R at H0⊢;have Hr:=G hr;have Hn:=G hn;have Hl:=G hl;have i0:IntKind.i64.wrap ((n:Int)-1)=(n:Int)-1:=jQ3 _ (by omega);clear hr hn hl;go_enter func170,ntmps170;go_wp2;go_loopw [5] (fun i wr=>∃k:Nat,k<=n/\i=.int .i64 ((k:Int)-1)/\w=wr/\R=kX (l.take k)) (fun i _=>(intOf i+1).toNat)
 case atStart=>exact⟨n,jL3 _,rfl,rfl,H0.out⟩
 case round=>
  clear H0 i0;obtain⟨k,hk,rfl,rfl,hR⟩:=hrel;cases k with
  |zero=>
   have Fy:=G (show R= -1 from hR);rw[show((0:Nat):Int)-1= -1 from rfl];clear hR hk;go_wp2;go_ret;exact⟨by rw[Fy.out];rfl,rfl⟩
  |succ k=>
   rw[qb (by have:=Hn.out;omega)]at hR;have FV:k<l.length:=by have:=Hn.out;omega
   obtain⟨kb,ko,u,hA,hu,hc⟩:=Hr.out.at_ (k:=k) (by have:=Hn.out;omega);rw[jM1,jJ9 FV]at hu;obtain rfl:=jL5 hu;generalize l[k]=y at*;replace hc:w.cell? ⟨kb,ko+k,none⟩=some (.int .u8 (y.toNat:Int)):=hc;have e0:((k+1:Nat):Int)-1=(k:Int):=(by omega);rw[e0];have j1:(0:Int)<=(k:Int):=(by omega);have j2:(k:Int).toNat=k:=(by omega);have j3:(k:Int)<(n:Int):=(by omega);have j4:IntKind.i64.wrap ((k:Int)-1)=(k:Int)-1:=jQ3 _ (by have:=Hl.out;omega);have Hk:=G hk;rw[hA];by_cases hy:y=10
   ·have Fy:=G (show R=(k:Int)by rw[hR,jJ6 hy]);have t0:((y.toNat:Int)==10)=true:=by rw[hy];rfl
    clear hR hA FV hk e0 hy;go_wp2;go_ret;exact⟨by rw[Fy.out];rfl,rfl⟩
   ·have Fy:=G (show R=kX (l.take k)by rw[hR,jJ5 hy]);have t0:((y.toNat:Int)==10)=false:=jM3 (fun h=>hy (UInt8.toNat_inj.1 (by show y.toNat=10;omega)));clear hR hA FV hk e0 hy;go_wp2;exact⟨⟨k,by have:=Hk.out;omega,rfl,by trivial,Fy.out⟩,by simp only[intOf];omega⟩
def xJ(l:LB)(at_:Nat):List Value:=[iv (at_:Int),iv (kK l at_),iv (vz l at_)]
theorem jDF(w:World)(A:OA)(n c:Nat)(l:LB)(hr:Rd w 1 A n (l.map bv))(hl:n<=4000000000):
  Calls prog 116 #[.slice A n c,.int .u8 10] w fun e w' =>e=.returned (.int .i64 (kX l))/\w=w' :=by
 have HL:=G (jAp w A n c l hr hl);clear hr hl;go_enter func116,ntmps116;go_wp2_with (first|(go_at_call 170;refine HL.out.mono ?_;rintro e w2 ⟨rfl,rfl⟩)|fail);go_ret;exact⟨rfl,rfl⟩
theorem Jd(w:World)(A:OA)(n c:Nat)(l:LB)(hr:Rd w 1 A n (l.map bv))(NQ:n<=c)(hl:n<=4000000000)(k:Nat)(hk:k<=n):
  Calls prog 55 #[.slice A n c,.int .i64 (k:Int)] w fun e w' =>e=.returned (.agg (xJ l k).toArray)/\Old w w' :=by
 have hn:l.length=n:=(by simpa using hr.1);have hcut:=fun W=>jBK (P:=prog) (t:=22) underlying22 (s:=1) (fun w=>by kernel_rfl) A n c k .i64 (k:Int) rfl (by omega) W;have FC:Rd w 1 A k ((l.take k).map bv):=by
  have:=hr.take_ hk
  rwa [Nat.mul_one,<-List.map_take]at this
 have O1:=(jQ0 NoX w).alloc (.cells #[.int .i64 0,.int .i64 0,.int .i64 0] 25);have O2:=O1.alloc (.cells #[.int .u8 10] 5 (1,2));have NO:(w.alloc (.cells #[.int .i64 0,.int .i64 0,.int .i64 0] 25)).heap.size=w.heap.size+1:=(by simp);have ST:(convert 22 22 (.slice (some ⟨w.heap.size+1,0,none⟩) 1 1)).run prog ((w.alloc (.cells #[.int .i64 0,.int .i64 0,.int .i64 0] 25)).alloc (.cells #[.int .u8 10] 5))=.ok (.slice (some ⟨w.heap.size+1,0,none⟩) 1 1) ((w.alloc (.cells #[.int .i64 0,.int .i64 0,.int .i64 0] 25)).alloc (.cells #[.int .u8 10] 5 (1,2))):=by
  have:=Lib.run_convert_bytes_const (P:=prog) (w.alloc (.cells #[.int .i64 0,.int .i64 0,.int .i64 0] 25)) 22 5 #[.int .u8 10] 1 1 underlying22 underlying5
  rwa [NO]at this
 have RR:((w.alloc (.cells #[.int .i64 0,.int .i64 0,.int .i64 0] 25)).alloc (.cells #[.int .u8 10] 5 (1,2))).cell? ⟨w.heap.size+1,0,none⟩=some (.int .u8 10):=by
  have h:=heap_alloc_new (w.alloc (.cells #[.int .i64 0,.int .i64 0,.int .i64 0] 25)) (.cells #[.int .u8 10] 5 (1,2));rw[NO]at h;unfold World.cell?;rw[h];rfl
 have HC:=G (UT _ A k c (l.take k) (FC.old O2) _ 1 RR);have HL:=G (jDF _ A k c (l.take k) (FC.old O2) (by omega));have b1:¬(n:Int)<(k:Int):=(by omega);have b2:(k:Int)<=(n:Int):=(by omega);have b3:min (k:Int) (n:Int)=(k:Int):=(by omega);have h1:=Ku (l.take k);have h2:=jB1 (l.take k);have h3:(l.take k).length=k:=by rw[jK9];omega
 have i1:IntKind.i64.wrap (1+(lfs (l.take k):Int))=1+(lfs (l.take k):Int):=jQ3 _ (by omega);have i2:IntKind.i64.wrap ((k:Int)-kX (l.take k))=(k:Int)-kX (l.take k):=jQ3 _ (by omega);have HP:=G (show xJ l k=[.int .i64 (k:Int),.int .i64 (1+(lfs (l.take k):Int)),.int .i64 ((k:Int)-kX (l.take k))]from rfl);rw[HP.out];generalize (lfs (l.take k):Int)=x at*;generalize kX (l.take k)=y at*;clear hr FC O1 O2 hn h1 h2 h3 HP NO RR;go_enter func55,ntmps55;go_wp2_with (first|(go_at_call 115;refine HC.out.mono ?_;rintro e w2 ⟨rfl,rfl⟩)|(go_at_call 116;refine HL.out.mono ?_;rintro e w2 ⟨rfl,rfl⟩)|fail);refine KA rfl rfl ((jQ2 w _ _).alloc _) underlying25 rfl (by kernel_rfl) rfl ?_;exact⟨rfl,((jQ0 _ _).alloc _).alloc _⟩
end Go.Proofs.YtifbhcfdealfaaaGreatDoor

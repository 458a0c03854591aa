import Derived.Test.YtmmjcbbogokmfaaGreatDoorMp14
set_option maxRecDepth 100000
set_option maxHeartbeats 25600000
namespace Go.Proofs.YtmmjcbbogokmfaaGreatDoor
open Go.Proofs.Tryz
open Go.RowKit
theorem jAO(n:Nd)(h:1<=n.op/\n.op<=33):yP n=jK n:=by
 obtain⟨op,name,vk,vn,vt,vs,kids⟩:=n;simp only at h;have h3:op=1\/op=2\/op=3\/op=4\/op=5\/op=6\/op=7\/op=8\/op=9\/op=10\/op=11\/op=12\/op=13\/op=14\/op=15\/op=16\/op=17\/op=18\/op=19\/op=20\/op=21\/op=22\/op=23\/op=24\/op=25\/op=26\/op=27\/op=28\/op=29\/op=30\/op=31\/op=32\/op=33:=(by omega);clear h;have hlen:∀k:Nat,((kids.length:Int)=(k:Int))=(kids.length=k):=fun k=>propext ⟨fun e=>by omega,fun e=>by omega⟩;rcases h3 with rfl|rfl|rfl|rfl|rfl|rfl|rfl|rfl|rfl|rfl|rfl|rfl|rfl|rfl|rfl|rfl|rfl|rfl|rfl|rfl|rfl|rfl|rfl|rfl|rfl|rfl|rfl|rfl|rfl|rfl|rfl|rfl|rfl
 all_goals
  rw[Bool.eq_iff_iff];simp[yP,jK,VA,KO,Xo]
 all_goals grind
theorem jAP(n:Nd):yP n=jK n:=by
 by_cases h:1<=n.op/\n.op<=33
 ·exact jAO n h
 ·have h1:jK n=false:=by
   cases hr:jK n with
   |false=>rfl
   |true=>exact absurd (QH hr) h
  rw[h1];unfold yP;rw[jJ6 (.inl (by unfold VA;rw[jJ6 (by omega)]))]
theorem Yy(w:World)(hg:SgR w)(x:MNd):Calls prog 23 #[.agg (ndC x).toArray] w fun e w' =>e=.returned (.bool (jK x.n))/\Old w w' :=by
 rw[<-jAP];exact XI w hg x
end Go.Proofs.YtmmjcbbogokmfaaGreatDoor

import Derived.Test.YtifbhcfdealfaaaGreatDoorMl44
set_option maxRecDepth 100000
set_option maxHeartbeats 25600000
namespace Go.Proofs.YtifbhcfdealfaaaGreatDoor
open Go.Proofs.Tryz
set_option maxRecDepth 100000
theorem jJh:((List.range' 1 40).all fun n=>jIM 3 n)=true:=by decide+kernel
theorem jJg:((List.range' 41 15).all fun n=>jIM 3 n)=true:=by decide+kernel
theorem jJf:((List.range' 56 12).all fun n=>jIM 3 n)=true:=by decide+kernel
theorem jJe:((List.range' 1 40).all fun n=>jIM 4 n)=true:=by decide+kernel
theorem jJd:((List.range' 41 15).all fun n=>jIM 4 n)=true:=by decide+kernel
theorem jJc:((List.range' 56 12).all fun n=>jIM 4 n)=true:=by decide+kernel
set_option maxRecDepth 100000
theorem jJb:((List.range' 1 19).all fun n=>jIn 5 n)=true:=by decide+kernel
theorem jJa:((List.range' 1 35).all fun n=>jIn 6 n)=true:=by decide+kernel
theorem jJZ:((List.range' 1 12).all fun n=>jIn 7 n)=true:=by decide+kernel
theorem jJY:((List.range' 13 7).all fun n=>jIn 7 n)=true:=by decide+kernel
set_option maxRecDepth 100000
theorem jJW:((List.range' 0 45).all fun n=>jJX n)=true:=by decide+kernel
theorem jJV:((List.range' 45 22).all fun n=>jJX n)=true:=by decide+kernel
theorem jJU:((List.range' 1 130).all fun n=>jIi n)=true:=by decide+kernel
theorem jJT:((List.range' 131 130).all fun n=>jIi n)=true:=by decide+kernel
theorem jJS:((List.range' 261 130).all fun n=>jIi n)=true:=by decide+kernel
theorem jJR:((List.range' 391 130).all fun n=>jIi n)=true:=by decide+kernel
theorem jJQ:((List.range' 521 130).all fun n=>jIi n)=true:=by decide+kernel
theorem jJP:((List.range' 651 130).all fun n=>jIi n)=true:=by decide+kernel
theorem jJO:((List.range' 781 130).all fun n=>jIi n)=true:=by decide+kernel
theorem jJN:((List.range' 911 117).all fun n=>jIi n)=true:=by decide+kernel
def jI1(l:LB)(e:Wr9N):Prop:=∃m r f,kC l=.ok m/\m.stack=[]/\Jb l f=some r/\Kr r.tree (dOf r.tree) ⟨#[116]⟩=e
theorem jHq{f:Nat->Bool}{a m n:Nat}(h:((List.range' a m).all fun n=>f n)=true)(h1:a<=n)(h2:n<a+m):f n=true:=List.all_eq_true.1 h n (List.mem_range'_1.2 ⟨h1,h2⟩)
theorem jH4{l:LB}{e:Wr9N}(h:(jIL l ⟨#[116]⟩==some e)=true):jI1 l e:=by
 have h:=eq_of_beq h;unfold jIL at h;split at h
 ·cases h
 ·rename_i m hm;split at h
  ·rename_i hs;obtain⟨r,hr,he⟩:=jM4 h;exact⟨m,r,_,hm,List.isEmpty_iff.1 hs,hr,he⟩
  ·cases h
theorem jIB(k n:Nat)(hk:k=1\/k=2\/k=3\/k=4)(hn:n<=67)(h:jIM k n=true):jI1 (jHo k n) (jIe k n):=by
 have hl:(zsL n).length=n:=(by simp[zsL]);obtain⟨⟨m,hb,hm⟩,r,hr,ht⟩:=(jJJ k).whole (zsL n) (jJM hn) (by omega) 100 (by omega) (jIk k n hk);refine⟨m,r,_,hb,hm,hr,?_⟩;rw[ht];exact eq_of_beq h
theorem jIy(k n:Nat)(h1:1<=k)(h9:k<=9)(n1:1<=n)(hn:n<=jHx k+3):jI1 (jHo k n) (jIe k n):=by
 have hk:k=1\/k=2\/k=3\/k=4\/k=5\/k=6\/k=7\/k=8\/k=9:=(by omega);have c3:∀{f:Nat->Bool},((List.range' 1 40).all fun n=>f n)=true->((List.range' 41 15).all fun n=>f n)=true->((List.range' 56 12).all fun n=>f n)=true->n<=67->f n=true:=fun{f} a b c hn=>by
  by_cases e1:n<41
  ·exact jHq a n1 (by omega)
  by_cases e2:n<56
  ·exact jHq b (by omega) (by omega)
  ·exact jHq c (by omega) (by omega)
 rcases hk with rfl|rfl|rfl|rfl|rfl|rfl|rfl|rfl|rfl
 ·exact jIB 1 n (by decide) hn (c3 jJn jJm jJl hn)
 ·exact jIB 2 n (by decide) hn (c3 jJk jJj jJi hn)
 ·exact jIB 3 n (by decide) hn (c3 jJh jJg jJf hn)
 ·exact jIB 4 n (by decide) hn (c3 jJe jJd jJc hn)
 ·rw[jIU];exact jH4 (jHq (f:=jIn 5) jJb n1 (by have:jHx 5=16:=rfl;omega))
 ·rw[jIU];exact jH4 (jHq (f:=jIn 6) jJa n1 (by have:jHx 6=32:=rfl;omega))
 ·rw[jIU];have h7:jHx 7=16:=rfl;by_cases e:n<13
  ·exact jH4 (jHq (f:=jIn 7) jJZ n1 (by omega))
  ·exact jH4 (jHq (f:=jIn 7) jJY (by omega) (by omega))
 ·have h8:jHx 8=64:=rfl;obtain⟨n,rfl⟩:∃n',n=n' +1:=⟨n-1,by omega⟩;rw[jJu];obtain⟨⟨m,hb,hm⟩,r,hr,ht⟩:=jIu (zI9 0) (zsE 1 n) (jI7 (by decide)) (jIl n 1 (by omega)) (by rw[jIP];omega) 0;refine⟨m,r,_,hb,hm,hr,?_⟩;rw[ht];have hs:jJX n=true:=by
   by_cases e:n<45
   ·exact jHq jJW (Nat.zero_le _) (by omega)
   ·exact jHq jJV (by omega) (by omega)
  exact eq_of_beq hs
 ·have h9:jHx 9=1024:=rfl;rw[jJt];obtain⟨⟨m,hb,hm⟩,r,hr,ht⟩:=jIt n 0;refine⟨m,r,_,hb,hm,hr,?_⟩;rw[ht];have hs:jIi n=true:=by
   by_cases e1:n<131
   ·exact jHq jJU n1 (by omega)
   by_cases e2:n<261
   ·exact jHq jJT (by omega) (by omega)
   by_cases e3:n<391
   ·exact jHq jJS (by omega) (by omega)
   by_cases e4:n<521
   ·exact jHq jJR (by omega) (by omega)
   by_cases e5:n<651
   ·exact jHq jJQ (by omega) (by omega)
   by_cases e6:n<781
   ·exact jHq jJP (by omega) (by omega)
   by_cases e7:n<911
   ·exact jHq jJO (by omega) (by omega)
   ·exact jHq jJN (by omega) (by omega)
  exact eq_of_beq hs
theorem jIj(k n i:Nat):(jHw k++jHr k n i).length<=40:=by
 unfold jHw jHr jHs;rw[jJ4]
 repeat' split
 all_goals simp
theorem jHh(k n:Nat):∀i,(jHg k n i).length<=60+40*i
 |0=>by
  unfold jHg jIF;split<;>simp[t0L]
 |i+1=>by
  have:=jHh k n i;have:=jIj k n i;rw[jHg,jJ4];omega
theorem jIx(k n:Nat)(hn:n<=1100):(jHo k n).length<=50000:=by
 have:=jHh k n n;have ht:(jHz k).length<=20:=by
  unfold jHz;split<;>simp
 unfold jHo;rw[jJ4];omega
end Go.Proofs.YtifbhcfdealfaaaGreatDoor

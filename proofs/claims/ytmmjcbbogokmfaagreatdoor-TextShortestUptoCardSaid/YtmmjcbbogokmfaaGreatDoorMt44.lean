import Derived.Test.YtmmjcbbogokmfaaGreatDoorMt01
import Derived.Test.YtmmjcbbogokmfaaGreatDoorMt08
import Derived.Test.YtmmjcbbogokmfaaGreatDoorMt09
import Derived.Test.YtmmjcbbogokmfaaGreatDoorMt11
import Derived.Test.YtmmjcbbogokmfaaGreatDoorMt18
import Derived.Test.YtmmjcbbogokmfaaGreatDoorMt26
import Derived.Test.YtmmjcbbogokmfaaGreatDoorMt41
import Derived.Test.YtmmjcbbogokmfaaGreatDoorMt43
import Derived.Deep.MidRow
import Derived.Laws.IdiomCopy
import Derived.Laws.MakeOwn
import Derived.Laws.OwnMore
import Derived.Lib.SlBytesConst
set_option maxRecDepth 100000
set_option maxHeartbeats 25600000
namespace Go.Proofs.YtmmjcbbogokmfaaGreatDoor
open Go.RowKit
def setLw (w : World) (g : Nat) : Nat -> List Value -> World
  | _, [] => w
  | i, v :: vs => setLw (w.setCell ⟨g, i, none⟩ v) g (i + 1) vs
theorem Kp.setL (g : Nat) : ∀ (vs : List Value) (w : World) (i : Nat), Kp (fun k => k = g) w (setLw w g i vs)
  | [], w, _ => Kp.refl _ w
  | v :: vs, w, i => ((Kp.refl (fun k => k = g) w).setCell (p := ⟨g, i, none⟩) (fun _ => rfl) v).trans (Kp.setL g vs _ (i + 1)) (fun _ _ h => h)
theorem Blk.range {w : World} {g : Nat} {t : TypeId} {cs : List Value} (h : Blk w g t cs.toArray) : w.rangeAt g 0 cs := by
  intro j v hv
  rw [Nat.zero_add, h.cell, List.getElem?_toArray, hv]
theorem Tryz.infoB : (Tryz.prog.info? 5).map (fun i => (i.zero, i.size, i.bytes)) = some (some (.int .u8 0), 1, 1) := by kernel_rfl
theorem Tryz.elemB : Tryz.prog.underlying 33 = some (.slice (Tryz.prog.elem 33)) := by kernel_rfl
theorem Tryz.sizeEB (w : World) : (sizeOf (Tryz.prog.elem 33)).run Tryz.prog w = .ok 1 w := by kernel_rfl
theorem sameB (w : World) (A B : Option Addr) (c d : Nat) (l : List UInt8) (hx : Rd w 1 A l.length (l.map bv)) (hy : Rd w 1 B l.length (l.map bv)) (hl : l.length <= 9223372036854775807) :
    Calls Tryz.prog 61 #[.slice A l.length c, .slice B l.length d] w fun e w' => e = .returned (.bool true) /\ Old w w' := by
  have h1 : ((l.length : Int) != (l.length : Int)) = false := bne_eq_false_iff_eq.2 rfl
  go_enter Tryz.func61, Tryz.ntmps61
  go_wp2
  go_loopw [5] (fun i wr => ∃ k : Nat, k <= l.length /\ i = .int .i64 k /\ Old w wr) (fun i _ => l.length - (intOf i).toNat)
  case atStart => exact ⟨0, by omega, rfl, Kp.refl _ _⟩
  case round =>
    obtain ⟨k, hk, rfl, hold⟩ := hrel
    by_cases hlt : k < l.length
    · obtain ⟨b1, o1, u1, rfl, hu1, hc1⟩ := (hx.old hold).at_ hlt
      obtain ⟨b2, o2, u2, rfl, hu2, hc2⟩ := (hy.old hold).at_ hlt
      rw [List.getElem?_map, List.getElem?_eq_getElem hlt] at hu1 hu2
      simp only [Option.map_some, Option.some.injEq, bv] at hu1 hu2
      subst hu1 hu2
      have b5 : (k : Int) <= 9223372036854775806 := by omega
      have b6 : (0 : Int) <= (k : Int) := by omega
      have b7 : (k : Int) < (l.length : Int) := by omega
      have b8 : (k : Int).toNat = k := by omega
      have Ho := jJ0 hold
      clear hold
      generalize l[k] = q at *
      have hq : ((q.toNat:Int)!=(q.toNat:Int))=false := by simp
      go_wp2
      go_quiet (fail)
      go_wp2
      go_roundw
      case rel => exact ⟨k + 1, by omega, by go_num, Ho.out.drewN _⟩
      case measure => simp [intOf]; omega
    · obtain rfl : k = l.length := by omega
      have Ho := jJ0 hold
      clear hold
      go_wp2
      go_ret
      exact ⟨rfl, Ho.out⟩
def FinT (w : World) (o : Option (List UInt8)) (e : Ending) (w' : World) : Prop :=
  match o with
  | none => e = .returned (.tuple #[.slice none 0 0, .bool false]) /\ Old w w'
  | some l => ∃ A c, e = .returned (.tuple #[.slice A l.length c, .bool true]) /\ w'.ownsRow w.heap.size 5 1 (.slice A l.length c) l.length (l.map bv) /\ Old w w'
theorem finish_any (w : World) (hg : Sg w) (h8 : 8 <= w.heap.size) (A : Option Addr) (n c : Nat) (l : List UInt8) (hr : Rd w 1 A n (l.map bv)) :
    Calls Tryz.prog 27 #[.slice A n c] w (FinT w (vO l)) := by
  have hn : l.length = n := by simpa using hr.1
  unfold vO
  by_cases hs : l.length <= 60000
  · rw [if_pos hs]
    have hcv := vu (P := Tryz.prog) (w := w) Tryz.underlying33 Tryz.underlying5 Tryz.underlying9 A n c l hr
    have hB := begun_any w hg ⟨l.toArray⟩ (by rw [<- jA, vr]; exact hs) h8
    rw [vr] at hB
    have HF := jJ0 (fun m (hm : kG l = .ok m) => And.intro (begun_fin hm) (begun_len hm))
    have b1 : ¬ (60000 : Int) < (n : Int) := by omega
    have Hg := jJ0 hg
    have Hsx := jJ0 (show sb (⟨l.toArray⟩ : ByteArray) = l from vr l)
    have Hs := jJ0 hs
    clear hg hs hr
    generalize hX : kG l = X at *
    generalize (⟨l.toArray⟩ : ByteArray) = src at *
    cases X with
    | error k =>
      have HB := jJ0 hB
      clear hB hX HF
      simp only
      go_enter Tryz.func27, Tryz.ntmps27
      go_wp2_with (go_at_call 76; refine HB.out.mono ?_; rintro e w1 ⟨p, rfl, ho⟩; have HO := jJ0 ho; clear ho)
      go_ret2
      exact ⟨rfl, HO.out⟩
    | ok m =>
      have HB := jJ0 hB
      have hk := (HF.out m rfl).1
      have hml := (HF.out m rfl).2
      rw [<- Hsx.out] at hk
      have HN := jJ0 (fun W g r A c (hM : Mac W g r src m A c) (hO : Old w W) => finished_any W (Hg.out.old hO) g r src m A c hM (by have := Hs.out; omega) (by rw [<- jA, Hsx.out]; have := Hs.out; omega) hk)
      rw [Hsx.out] at HN
      clear hB hX HF hk hml
      simp only
      generalize vF l m = R at *
      go_enter Tryz.func27, Tryz.ntmps27
      go_wp2_with (first | (go_at_call 76; refine HB.out.mono ?_; rintro e w1 ⟨g, r, A1, c1, rfl, hM, ho, _, _⟩; have HO := jJ0 ho; have HM := jJ0 hM; clear ho hM) | (go_at_call 79; refine (HN.out _ _ _ _ _ HM.out HO.out).mono ?_; rintro e w2 ⟨p, rfl, hp, ho, hlen⟩; have HO2 := jJ0 (HO.out.old ho); have HP := jJ0 hp; clear ho hp) | (go_at_call 80; refine (rbytes_any _ p R HP.out (by omega)).mono ?_; rintro e w3 ⟨A3, c3, rfl, hown, ho⟩; have HO3 := jJ0 (HO2.out.old ho); have HOwn := jJ0 (own_low hown HO2.out.size); clear ho hown))
      go_ret2
      exact ⟨A3, c3, rfl, HOwn.out, HO3.out⟩
  · rw [if_neg hs]
    have b1 : (60000 : Int) < (n : Int) := by omega
    clear hs hg hr
    go_enter Tryz.func27, Tryz.ntmps27
    go_wp2
    go_ret2
    exact ⟨rfl, Kp.refl _ _⟩
theorem rd_new (w : World) (T : TypeId) (fr : Nat × Nat) (xs : List Value) (n : Nat) (hn : xs.length = n) : Rd (w.alloc (.cells xs.toArray T fr)) 1 (some ⟨w.heap.size, 0, none⟩) n xs :=
  ⟨by rw [hn, Nat.mul_one], fun _ => ⟨w.heap.size, 0, rfl, fun j u hu => by rw [Nat.zero_add, World.cell?_alloc_mark, List.getElem?_toArray]; exact hu⟩⟩
theorem same9_any (w : World) (A B : Option Addr) (n c d : Nat) (l : List UInt8) (hn : l.length = n) (hx : Rd w 1 A n (l.map bv)) (hy : Rd w 1 B n (l.map bv)) (hl : n <= 9223372036854775807) :
    Calls Tryz.prog 16 #[.slice A n c, .slice B n d] w fun e w' => e = .returned (.bool true) /\ Old w w' := by
  subst hn
  have H := jJ0 (sameB w A B c d l hx hy hl)
  clear hx hy hl
  go_enter Tryz.func16, Tryz.ntmps16
  go_wp2_with (first | (go_at_call 61; refine H.out.mono ?_; rintro e w1 ⟨rfl, ho⟩; have HO := jJ0 ho; clear ho) | fail)
  go_ret
  exact ⟨rfl, HO.out⟩
theorem old_of {w W W1 : World} (h : Old w W) (hk : Kp (fromB W.heap.size) W W1) : Old w W1 := h.trans (hk.mono (fun b hb e => by have : W.heap.size <= b := e; omega)) (fun _ _ e => e)
theorem kParse (w : World) (hg : Sg w) (h8 : 8 <= w.heap.size) : ∃ r, Small r /\ Calls Tryz.prog 26 #[.slice (some ⟨w.heap.size, 0, none⟩) 48 48] (w.alloc (.cells #[.int .u8 116, .int .u8 121, .int .u8 112, .int .u8 101, .int .u8 32, .int .u8 97, .int .u8 32, .int .u8 123, .int .u8 32, .int .u8 109, .int .u8 105, .int .u8 108, .int .u8 101, .int .u8 115, .int .u8 116, .int .u8 111, .int .u8 110, .int .u8 101, .int .u8 32, .int .u8 109, .int .u8 32, .int .u8 114, .int .u8 101, .int .u8 97, .int .u8 99, .int .u8 104, .int .u8 101, .int .u8 100, .int .u8 32, .int .u8 119, .int .u8 104, .int .u8 101, .int .u8 110, .int .u8 32, .int .u8 110, .int .u8 111, .int .u8 116, .int .u8 32, .int .u8 98, .int .u8 32, .int .u8 61, .int .u8 32, .int .u8 49, .int .u8 50, .int .u8 32, .int .u8 59, .int .u8 32, .int .u8 125] 5 (48, 48 + 1))) (ParOk (w.alloc (.cells #[.int .u8 116, .int .u8 121, .int .u8 112, .int .u8 101, .int .u8 32, .int .u8 97, .int .u8 32, .int .u8 123, .int .u8 32, .int .u8 109, .int .u8 105, .int .u8 108, .int .u8 101, .int .u8 115, .int .u8 116, .int .u8 111, .int .u8 110, .int .u8 101, .int .u8 32, .int .u8 109, .int .u8 32, .int .u8 114, .int .u8 101, .int .u8 97, .int .u8 99, .int .u8 104, .int .u8 101, .int .u8 100, .int .u8 32, .int .u8 119, .int .u8 104, .int .u8 101, .int .u8 110, .int .u8 32, .int .u8 110, .int .u8 111, .int .u8 116, .int .u8 32, .int .u8 98, .int .u8 32, .int .u8 61, .int .u8 32, .int .u8 49, .int .u8 50, .int .u8 32, .int .u8 59, .int .u8 32, .int .u8 125] 5 (48, 48 + 1))) ⟨kT.toArray⟩ r) := by
  obtain ⟨m, hb, hm⟩ := kT_ok
  obtain ⟨r, hr⟩ := Option.isSome_iff_exists.1 kT_some
  have ho := (Kp.refl NoX w).alloc (.cells #[.int .u8 116, .int .u8 121, .int .u8 112, .int .u8 101, .int .u8 32, .int .u8 97, .int .u8 32, .int .u8 123, .int .u8 32, .int .u8 109, .int .u8 105, .int .u8 108, .int .u8 101, .int .u8 115, .int .u8 116, .int .u8 111, .int .u8 110, .int .u8 101, .int .u8 32, .int .u8 109, .int .u8 32, .int .u8 114, .int .u8 101, .int .u8 97, .int .u8 99, .int .u8 104, .int .u8 101, .int .u8 100, .int .u8 32, .int .u8 119, .int .u8 104, .int .u8 101, .int .u8 110, .int .u8 32, .int .u8 110, .int .u8 111, .int .u8 116, .int .u8 32, .int .u8 98, .int .u8 32, .int .u8 61, .int .u8 32, .int .u8 49, .int .u8 50, .int .u8 32, .int .u8 59, .int .u8 32, .int .u8 125] 5 (48, 48 + 1))
  exact ⟨r, small_of hr, parse_ok _ (hg.old ho) (Nat.le_trans h8 ho.size) _ _ _ kT (rd_new w 5 (48, 48 + 1) (kT.map bv) 48 rfl) (by decide) m hb hm 100 r hr⟩
theorem kParseB (w : World) (hg : Sg w) (h8 : 8 <= w.heap.size) : Calls Tryz.prog 26 #[.slice (some ⟨w.heap.size, 0, none⟩) 21 21] (w.alloc (.cells #[.int .u8 116, .int .u8 121, .int .u8 112, .int .u8 101, .int .u8 32, .int .u8 105, .int .u8 110, .int .u8 32, .int .u8 123, .int .u8 32, .int .u8 115, .int .u8 116, .int .u8 97, .int .u8 103, .int .u8 101, .int .u8 32, .int .u8 115, .int .u8 116, .int .u8 97, .int .u8 103, .int .u8 101] 5 (21, 21 + 1))) (ParBad (w.alloc (.cells #[.int .u8 116, .int .u8 121, .int .u8 112, .int .u8 101, .int .u8 32, .int .u8 105, .int .u8 110, .int .u8 32, .int .u8 123, .int .u8 32, .int .u8 115, .int .u8 116, .int .u8 97, .int .u8 103, .int .u8 101, .int .u8 32, .int .u8 115, .int .u8 116, .int .u8 97, .int .u8 103, .int .u8 101] 5 (21, 21 + 1))) 7 90) := by
  have ho := (Kp.refl NoX w).alloc (.cells #[.int .u8 116, .int .u8 121, .int .u8 112, .int .u8 101, .int .u8 32, .int .u8 105, .int .u8 110, .int .u8 32, .int .u8 123, .int .u8 32, .int .u8 115, .int .u8 116, .int .u8 97, .int .u8 103, .int .u8 101, .int .u8 32, .int .u8 115, .int .u8 116, .int .u8 97, .int .u8 103, .int .u8 101] 5 (21, 21 + 1))
  exact parse_bad _ (hg.old ho) (Nat.le_trans h8 ho.size) _ _ _ kB (rd_new w 5 (21, 21 + 1) (kB.map bv) 21 rfl) (by decide) 7 kB_bad
theorem kFinish (w : World) (hg : Sg w) (h8 : 8 <= w.heap.size) : Calls Tryz.prog 27 #[.slice (some ⟨w.heap.size, 0, none⟩) 11 11] (w.alloc (.cells #[.int .u8 116, .int .u8 121, .int .u8 112, .int .u8 101, .int .u8 32, .int .u8 97, .int .u8 32, .int .u8 123, .int .u8 32, .int .u8 115, .int .u8 116] 5 (11, 11 + 1))) fun e w' => ∃ A c, e = .returned (.tuple #[.slice A 8 c, .bool true]) /\ Rd w' 1 A 8 (kE.map bv) /\ Old w w' := by
  have ho := (Kp.refl NoX w).alloc (.cells #[.int .u8 116, .int .u8 121, .int .u8 112, .int .u8 101, .int .u8 32, .int .u8 97, .int .u8 32, .int .u8 123, .int .u8 32, .int .u8 115, .int .u8 116] 5 (11, 11 + 1))
  have h := finish_any _ (hg.old ho) (Nat.le_trans h8 ho.size) _ 11 11 kF (rd_new w 5 (11, 11 + 1) (kF.map bv) 11 rfl)
  rw [kF_run] at h
  refine h.mono ?_
  rintro e w' ⟨A, c, he, hown, ho2⟩
  exact ⟨A, c, he, Rd.of_own hown, ho.trans ho2 (fun _ _ e => e)⟩
theorem kSame (w : World) (s : List UInt8) (xs : Array Value) (hxs : xs = (s.map bv).toArray) (n : Nat) (hn : s.length = n) (hl : n <= 9223372036854775807) (A : Option Addr) (c : Nat) (hx : Rd w 1 A n (s.map bv)) (k : Nat) (hk : k = w.heap.size) :
    Calls Tryz.prog 16 #[.slice A n c, .slice (some ⟨k, 0, none⟩) n n] (w.alloc (.cells xs 5 (n, n + 1))) fun e w' => e = .returned (.bool true) /\ Old w w' := by
  subst hxs
  subst hk
  have ho := (Kp.refl NoX w).alloc (.cells (s.map bv).toArray 5 (n, n + 1))
  exact (same9_any _ A _ n c n s hn (hx.old ho) (rd_new w 5 (n, n + 1) (s.map bv) n (by rw [List.length_map]; exact hn)) hl).mono (fun e w' h => ⟨h.1, ho.trans h.2 (fun _ _ e => e)⟩)
theorem legal_a1 : jq (sb ⟨#[97, 95, 49]⟩) = true := by decide +kernel
theorem legal_in : jq (sb ⟨#[105, 110]⟩) = false := by decide +kernel
theorem right_4 (w : World) (hg : Sg w) : Calls Tryz.prog 22 #[.agg #[.int .i64 4, .string ⟨#[]⟩, .int .i64 0, .int .i64 0, .string ⟨#[]⟩, .slice none 0 0, .slice none 0 0]] w fun e w' => e = .returned (.bool true) /\ Old w w' :=
  right_any w hg ⟨⟨4, ⟨#[]⟩, 0, 0, ⟨#[]⟩, [], []⟩, none, 0, none, 0⟩
theorem right_34 (w : World) (hg : Sg w) : Calls Tryz.prog 22 #[.agg #[.int .i64 34, .string ⟨#[]⟩, .int .i64 0, .int .i64 0, .string ⟨#[]⟩, .slice none 0 0, .slice none 0 0]] w fun e w' => e = .returned (.bool false) /\ Old w w' :=
  right_any w hg ⟨⟨34, ⟨#[]⟩, 0, 0, ⟨#[]⟩, [], []⟩, none, 0, none, 0⟩
theorem small_cells {r : Rdr} (h : Small r) (s : Sl) : (jl r.tree s).toArray = #[.string ⟨#[97]⟩, .int .i64 5, .slice s.aA 0 s.ac, .slice s.gA 0 s.gc, .slice s.mA 1 s.mc, .slice s.pA 0 s.pc, .slice s.nA 4 s.nc, .slice s.oA 4 s.oc] := by
  obtain ⟨m, hm, _⟩ := h.mile
  unfold jl iv
  rw [h.name, h.at_, h.attrs, h.stages, hm, h.steps, h.len, h.ats]
  rfl
theorem small_rows {w : World} {g : Nat} {src : ByteArray} {r : Rdr} {s : Sl} (hs : Small r) (h : St w g src r s) : ∃ b1 o1 b2 o2 b3 o3, s.mA = some ⟨b1, o1, none⟩ /\ w.cell? ⟨b1, o1 + 5, none⟩ = some (.int .i64 3) /\ s.nA = some ⟨b2, o2, none⟩ /\ w.cell? ⟨b2, o2 + 21, none⟩ = some (.int .i64 8) /\ w.cell? ⟨b2, o2 + 10, none⟩ = some (.int .i64 12) /\ s.oA = some ⟨b3, o3, none⟩ /\ w.cell? ⟨b3, o3 + 2, none⟩ = some (.int .i64 40) := by
  obtain ⟨ns, ps, TD⟩ := small_trd hs h
  obtain ⟨ns', ps', R⟩ := h.rows
  obtain ⟨m, hm, hw⟩ := hs.mile
  obtain ⟨b1, o1, hA1, hc1⟩ := vf (C := miC) (fun x => rfl) TD.rM (k := 0) (x := m) (by rw [hm]; rfl) (by rw [hm]; exact Nat.one_pos)
  obtain ⟨n3, hn3, e3⟩ := hs.op3
  obtain ⟨n1, hn1, e1⟩ := hs.vn1
  obtain ⟨x3, b2, o2, _, ex3, hA2, hc2, _, _⟩ := TD.nd.at_ hn3
  obtain ⟨x1, b2', o2', _, ex1, hA2', hc2', _, _⟩ := TD.nd.at_ hn1
  rw [hA2] at hA2'
  injection hA2' with hA2'
  injection hA2' with q1 q2
  subst q1
  subst q2
  obtain ⟨b3, o3, hA3, hc3⟩ := (Rd.of_own R.rO).2 (by rw [hs.ats]; decide)
  have c1 := hc1 5 (iv m.when_) rfl
  have c2 := hc2 0 (iv x3.n.op) rfl
  have c3 := hc2' 3 (iv x1.n.vn) rfl
  have c4 := hc3 2 (iv 40) (by rw [hs.ats]; rfl)
  rw [hw] at c1
  rw [ex3, e3] at c2
  rw [ex1, e1] at c3
  exact ⟨b1, o1, b2, o2, b3, o3, hA1, c1, hA2, c2, c3, hA3, c4⟩
theorem kPrint (W : World) (hg : Sg W) (h8 : 8 <= W.heap.size) {g : Nat} {src : ByteArray} {r : Rdr} {s : Sl} (hs : Small r) (h : St W g src r s) :
    Calls Tryz.prog 14 #[.agg (jl r.tree s).toArray] W fun e W' => ∃ A c, e = .returned (.tuple #[.slice A 49 c, .int .i64 0]) /\ Rd W' 1 A 49 (kP.map bv) /\ Old W W' := by
  obtain ⟨ns, ps, TD⟩ := small_trd hs h
  have hp := hs.prints
  unfold printN at hp
  split at hp
  · rename_i hfit
    refine (print_yes W hg h8 r.tree s ns ps TD (prt_small hg h8 hs TD) hfit kP hp (by decide)).mono ?_
    rintro e W' ⟨A, c, he, hown, hk⟩
    exact ⟨A, c, he, Rd.of_own hown, old_of (Kp.refl NoX W) hk⟩
  · cases hp
theorem known_any (w : World) (hg : Sg w) (h8 : 8 <= w.heap.size) : Calls Tryz.prog 12 #[] w fun e w' => e = .returned (.bool true) /\ Old w w' := by
  obtain ⟨r, hs, hP⟩ := kParse w hg h8
  have HP := jJ0 hP
  have Hg := jJ0 hg
  have H8 := jJ0 h8
  have HS := jJ0 hs
  have HPB := jJ0 (fun W (hO : Old w W) => kParseB W (hg.old hO) (Nat.le_trans h8 hO.size))
  have HFn := jJ0 (fun W (hO : Old w W) => kFinish W (hg.old hO) (Nat.le_trans h8 hO.size))
  have HSP := jJ0 (fun W A c (hx : Rd W 1 A 49 (kP.map bv)) k (hk : k = W.heap.size) => kSame W kP #[.int .u8 116, .int .u8 121, .int .u8 112, .int .u8 101, .int .u8 32, .int .u8 97, .int .u8 32, .int .u8 123, .int .u8 10, .int .u8 109, .int .u8 105, .int .u8 108, .int .u8 101, .int .u8 115, .int .u8 116, .int .u8 111, .int .u8 110, .int .u8 101, .int .u8 32, .int .u8 109, .int .u8 32, .int .u8 114, .int .u8 101, .int .u8 97, .int .u8 99, .int .u8 104, .int .u8 101, .int .u8 100, .int .u8 32, .int .u8 119, .int .u8 104, .int .u8 101, .int .u8 110, .int .u8 32, .int .u8 110, .int .u8 111, .int .u8 116, .int .u8 32, .int .u8 98, .int .u8 32, .int .u8 61, .int .u8 32, .int .u8 49, .int .u8 50, .int .u8 32, .int .u8 59, .int .u8 10, .int .u8 125, .int .u8 10] rfl 49 rfl (by decide) A c hx k hk)
  have HSE := jJ0 (fun W A c (hx : Rd W 1 A 8 (kE.map bv)) k (hk : k = W.heap.size) => kSame W kE #[.int .u8 97, .int .u8 103, .int .u8 101, .int .u8 9, .int .u8 97, .int .u8 123, .int .u8 125, .int .u8 125] rfl 8 rfl (by decide) A c hx k hk)
  have HL1 := jJ0 (fun W (hO : Old w W) => kJ W (hg.old hO) ⟨#[97, 95, 49]⟩)
  have HL2 := jJ0 (fun W (hO : Old w W) => kJ W (hg.old hO) ⟨#[105, 110]⟩)
  rw [legal_a1] at HL1
  rw [legal_in] at HL2
  have HR4 := jJ0 (fun W (hO : Old w W) => right_4 W (hg.old hO))
  have HR34 := jJ0 (fun W (hO : Old w W) => right_34 W (hg.old hO))
  have hc0 := fun (W : World) => (show (convert 33 33 (.slice (some ⟨W.heap.size, 0, none⟩) 48 48)).run Tryz.prog (W.alloc (.cells #[.int .u8 116, .int .u8 121, .int .u8 112, .int .u8 101, .int .u8 32, .int .u8 97, .int .u8 32, .int .u8 123, .int .u8 32, .int .u8 109, .int .u8 105, .int .u8 108, .int .u8 101, .int .u8 115, .int .u8 116, .int .u8 111, .int .u8 110, .int .u8 101, .int .u8 32, .int .u8 109, .int .u8 32, .int .u8 114, .int .u8 101, .int .u8 97, .int .u8 99, .int .u8 104, .int .u8 101, .int .u8 100, .int .u8 32, .int .u8 119, .int .u8 104, .int .u8 101, .int .u8 110, .int .u8 32, .int .u8 110, .int .u8 111, .int .u8 116, .int .u8 32, .int .u8 98, .int .u8 32, .int .u8 61, .int .u8 32, .int .u8 49, .int .u8 50, .int .u8 32, .int .u8 59, .int .u8 32, .int .u8 125] 5)) = .ok (.slice (some ⟨W.heap.size, 0, none⟩) 48 48) (W.alloc (.cells #[.int .u8 116, .int .u8 121, .int .u8 112, .int .u8 101, .int .u8 32, .int .u8 97, .int .u8 32, .int .u8 123, .int .u8 32, .int .u8 109, .int .u8 105, .int .u8 108, .int .u8 101, .int .u8 115, .int .u8 116, .int .u8 111, .int .u8 110, .int .u8 101, .int .u8 32, .int .u8 109, .int .u8 32, .int .u8 114, .int .u8 101, .int .u8 97, .int .u8 99, .int .u8 104, .int .u8 101, .int .u8 100, .int .u8 32, .int .u8 119, .int .u8 104, .int .u8 101, .int .u8 110, .int .u8 32, .int .u8 110, .int .u8 111, .int .u8 116, .int .u8 32, .int .u8 98, .int .u8 32, .int .u8 61, .int .u8 32, .int .u8 49, .int .u8 50, .int .u8 32, .int .u8 59, .int .u8 32, .int .u8 125] 5 (48, 48 + 1))) from Lib.run_convert_bytes_const W 33 5 _ _ _ Tryz.underlying33 Tryz.underlying5)
  have hc1 := fun (W : World) => (show (convert 33 33 (.slice (some ⟨W.heap.size, 0, none⟩) 49 49)).run Tryz.prog (W.alloc (.cells #[.int .u8 116, .int .u8 121, .int .u8 112, .int .u8 101, .int .u8 32, .int .u8 97, .int .u8 32, .int .u8 123, .int .u8 10, .int .u8 109, .int .u8 105, .int .u8 108, .int .u8 101, .int .u8 115, .int .u8 116, .int .u8 111, .int .u8 110, .int .u8 101, .int .u8 32, .int .u8 109, .int .u8 32, .int .u8 114, .int .u8 101, .int .u8 97, .int .u8 99, .int .u8 104, .int .u8 101, .int .u8 100, .int .u8 32, .int .u8 119, .int .u8 104, .int .u8 101, .int .u8 110, .int .u8 32, .int .u8 110, .int .u8 111, .int .u8 116, .int .u8 32, .int .u8 98, .int .u8 32, .int .u8 61, .int .u8 32, .int .u8 49, .int .u8 50, .int .u8 32, .int .u8 59, .int .u8 10, .int .u8 125, .int .u8 10] 5)) = .ok (.slice (some ⟨W.heap.size, 0, none⟩) 49 49) (W.alloc (.cells #[.int .u8 116, .int .u8 121, .int .u8 112, .int .u8 101, .int .u8 32, .int .u8 97, .int .u8 32, .int .u8 123, .int .u8 10, .int .u8 109, .int .u8 105, .int .u8 108, .int .u8 101, .int .u8 115, .int .u8 116, .int .u8 111, .int .u8 110, .int .u8 101, .int .u8 32, .int .u8 109, .int .u8 32, .int .u8 114, .int .u8 101, .int .u8 97, .int .u8 99, .int .u8 104, .int .u8 101, .int .u8 100, .int .u8 32, .int .u8 119, .int .u8 104, .int .u8 101, .int .u8 110, .int .u8 32, .int .u8 110, .int .u8 111, .int .u8 116, .int .u8 32, .int .u8 98, .int .u8 32, .int .u8 61, .int .u8 32, .int .u8 49, .int .u8 50, .int .u8 32, .int .u8 59, .int .u8 10, .int .u8 125, .int .u8 10] 5 (49, 49 + 1))) from Lib.run_convert_bytes_const W 33 5 _ _ _ Tryz.underlying33 Tryz.underlying5)
  have hc2 := fun (W : World) => (show (convert 33 33 (.slice (some ⟨W.heap.size, 0, none⟩) 21 21)).run Tryz.prog (W.alloc (.cells #[.int .u8 116, .int .u8 121, .int .u8 112, .int .u8 101, .int .u8 32, .int .u8 105, .int .u8 110, .int .u8 32, .int .u8 123, .int .u8 32, .int .u8 115, .int .u8 116, .int .u8 97, .int .u8 103, .int .u8 101, .int .u8 32, .int .u8 115, .int .u8 116, .int .u8 97, .int .u8 103, .int .u8 101] 5)) = .ok (.slice (some ⟨W.heap.size, 0, none⟩) 21 21) (W.alloc (.cells #[.int .u8 116, .int .u8 121, .int .u8 112, .int .u8 101, .int .u8 32, .int .u8 105, .int .u8 110, .int .u8 32, .int .u8 123, .int .u8 32, .int .u8 115, .int .u8 116, .int .u8 97, .int .u8 103, .int .u8 101, .int .u8 32, .int .u8 115, .int .u8 116, .int .u8 97, .int .u8 103, .int .u8 101] 5 (21, 21 + 1))) from Lib.run_convert_bytes_const W 33 5 _ _ _ Tryz.underlying33 Tryz.underlying5)
  have hc3 := fun (W : World) => (show (convert 33 33 (.slice (some ⟨W.heap.size, 0, none⟩) 11 11)).run Tryz.prog (W.alloc (.cells #[.int .u8 116, .int .u8 121, .int .u8 112, .int .u8 101, .int .u8 32, .int .u8 97, .int .u8 32, .int .u8 123, .int .u8 32, .int .u8 115, .int .u8 116] 5)) = .ok (.slice (some ⟨W.heap.size, 0, none⟩) 11 11) (W.alloc (.cells #[.int .u8 116, .int .u8 121, .int .u8 112, .int .u8 101, .int .u8 32, .int .u8 97, .int .u8 32, .int .u8 123, .int .u8 32, .int .u8 115, .int .u8 116] 5 (11, 11 + 1))) from Lib.run_convert_bytes_const W 33 5 _ _ _ Tryz.underlying33 Tryz.underlying5)
  have hc4 := fun (W : World) => (show (convert 33 33 (.slice (some ⟨W.heap.size, 0, none⟩) 8 8)).run Tryz.prog (W.alloc (.cells #[.int .u8 97, .int .u8 103, .int .u8 101, .int .u8 9, .int .u8 97, .int .u8 123, .int .u8 125, .int .u8 125] 5)) = .ok (.slice (some ⟨W.heap.size, 0, none⟩) 8 8) (W.alloc (.cells #[.int .u8 97, .int .u8 103, .int .u8 101, .int .u8 9, .int .u8 97, .int .u8 123, .int .u8 125, .int .u8 125] 5 (8, 8 + 1))) from Lib.run_convert_bytes_const W 33 5 _ _ _ Tryz.underlying33 Tryz.underlying5)
  clear hP hg h8 hs
  go_enter Tryz.func12, Tryz.ntmps12
  go_wp2_with (first | (go_at_call 22; refine (HR34.out _ HO7.out).mono ?_; rintro e w8 ⟨rfl, ho⟩; have HO8 := jJ0 (HO7.out.trans ho (fun _ _ e => e)); clear ho) | (go_at_call 22; refine (HR4.out _ HO6.out).mono ?_; rintro e w7 ⟨rfl, ho⟩; have HO7 := jJ0 (HO6.out.trans ho (fun _ _ e => e)); clear ho) | (go_at_call 20; refine (HL2.out _ HO6.out).mono ?_; rintro e wl ⟨rfl, rfl⟩) | (go_at_call 20; refine (HL1.out _ HO6.out).mono ?_; rintro e wl ⟨rfl, rfl⟩) | (go_at_call 16; refine (HSE.out _ _ _ HX5.out _ rfl).mono ?_; rintro e w6 ⟨rfl, ho⟩; have HO6 := jJ0 (HO5.out.trans ho (fun _ _ e => e)); clear ho) | (go_at_call 27; refine (HFn.out _ HO4.out).mono ?_; rintro e w5 ⟨A5, c5, rfl, hx, ho⟩; have HX5 := jJ0 hx; have HO5 := jJ0 (HO4.out.trans ho (fun _ _ e => e)); clear hx ho) | (go_at_call 26; refine (HPB.out _ HO3.out).mono ?_; rintro e w4 ⟨rfl, ho⟩; have HO4 := jJ0 ((HO3.out.alloc _).trans ho (fun _ _ e => e)); clear ho; unfold iv) | (go_at_call 16; refine (HSP.out _ _ _ HX2.out _ rfl).mono ?_; rintro e w3 ⟨rfl, ho⟩; have HO3 := jJ0 (HO2.out.trans ho (fun _ _ e => e)); clear ho) | (go_at_call 14; refine (HPr.out _).mono ?_; rintro e w2 ⟨A2, c2, rfl, hx, ho⟩; have HX2 := jJ0 hx; have HO2 := jJ0 ((HO1.out.alloc _).trans ho (fun _ _ e => e)); clear hx ho) | (go_at_call 26; refine HP.out.mono ?_; rintro e w1 ⟨g, s, rfl, hSt, ho, _⟩; have HO1 := jJ0 (((Kp.refl NoX w).alloc _).trans ho (fun _ _ e => e) : Old w w1); have HPr := jJ0 (fun o => kPrint (w1.alloc o) (Hg.out.old (HO1.out.alloc o)) (Nat.le_trans H8.out (HO1.out.alloc o).size) HS.out (hSt.old ((Kp.refl NoX w1).alloc o))); have hcl := small_cells HS.out s; rw [hcl]; obtain ⟨b1, o1, b2, o2, b3, o3, hA1, k1, hA2, k2, k3, hA3, k4⟩ := small_rows HS.out hSt; rw [hA1, hA2, hA3]; simp only [hcl, hA1, hA2, hA3] at HPr; have K1 := fun o => Lib.cell?_alloc_marked o k1; have K2 := fun o => Lib.cell?_alloc_marked o k2; have K3 := fun o => Lib.cell?_alloc_marked o k3; have K4 := fun o => Lib.cell?_alloc_marked o k4; unfold iv; clear hSt ho k1 k2 k3 k4) | fail)
  go_ret
  exact ⟨rfl, HO8.out⟩
def finB (l : List UInt8) : List UInt8 := (vO l).getD []
def finK (l : List UInt8) : Bool := (vO l).isSome
def FinW (w : World) (l : List UInt8) (e : Ending) (w' : World) : Prop := ∃ A c, e = .returned (.tuple #[.slice A (finB l).length c, .bool (finK l)]) /\ Rd w' 1 A (finB l).length ((finB l).map bv) /\ (finB l).length <= 9223372036854775807 /\ Old w w'
theorem own_max {w : World} {base : Nat} {T : TypeId} {A : Option Addr} {n c : Nat} {xs : List Value} (h : w.ownsRow base T 1 (.slice A n c) n xs) : n <= 9223372036854775807 := by
  rcases h.2 with ⟨_, h0⟩ | ⟨g, cap, cur, _, _, _, h1, h2, _⟩
  · omega
  · have : maxLen = 9223372036854775807 := by decide
    omega
theorem fin9_any (w : World) (hg : Sg w) (h8 : 8 <= w.heap.size) (A : Option Addr) (n c : Nat) (l : List UInt8) (hr : Rd w 1 A n (l.map bv)) : Calls Tryz.prog 27 #[.slice A n c] w (FinW w l) := by
  refine (finish_any w hg h8 A n c l hr).mono ?_
  intro e w' h
  unfold FinW finB finK
  unfold FinT at h
  cases hf : vO l with
  | none =>
    rw [hf] at h
    exact ⟨none, 0, h.1, Rd.none_, by decide, h.2⟩
  | some r =>
    rw [hf] at h
    obtain ⟨A, c, he, hown, ho⟩ := h
    exact ⟨A, c, he, Rd.of_own hown, own_max hown, ho⟩
def parE (l : List UInt8) : Nat := if l.length <= 60000 then (match parsesN l with | none => 0 | some _ => 90) else 6
def parAt (l : List UInt8) : Nat := if l.length <= 60000 then (parsesN l).getD 0 else 0
theorem par_long {l : List UInt8} (h : ¬ l.length <= 60000) : parE l = 6 /\ parAt l = 0 /\ finK l = false /\ finB l = [] := by
  unfold parE parAt finK finB vO
  rw [if_neg h, if_neg h, if_neg h]
  exact ⟨rfl, rfl, rfl, rfl⟩
theorem acc_fin {b : Bs} (h : accB b) : finS b = [] := by
  obtain ⟨st, md⟩ := b
  obtain ⟨h1, h2⟩ := h
  simp only at h1
  subst h1
  rcases h2 with h2 | h2
  · simp only at h2; subst h2; rfl
  · simp only at h2; subst h2; rfl
theorem inv_of {l : List UInt8} {b : Bs} (h : runB yK l 0 = .ok b) : InvB b := run_inv l yK b 0 start_inv h
theorem fin_nil {b : Bs} (h : InvB b) (h0 : finS b = []) : accB b := by
  obtain ⟨b', h1, h2⟩ := fin_done h
  rw [h0, runB] at h1
  injection h1 with h1
  rw [h1]
  exact h2
theorem whole_of {p : List UInt8} {b : Bs} (hp : p.length <= 60000) (h : runB yK p 0 = .ok b) : finK p = true /\ (finB p = [] -> accB b) /\ ((p ++ finB p).length <= 60000 -> parE (p ++ finB p) = 0) := by
  obtain ⟨m, hm, hr⟩ := begun_of h
  have hI := inv_of h
  have hf : finB p = finS b := by
    unfold finB vO
    rw [if_pos hp, hm]
    exact hr.fin_
  refine ⟨?_, fun e => fin_nil hI (by rw [<- hf]; exact e), fun hl => ?_⟩
  · unfold finK vO
    rw [if_pos hp, hm]
    rfl
  · obtain ⟨b', h1, h2⟩ := fin_done hI
    rw [hf] at hl ⊢
    have hrun : runB yK (p ++ finS b) 0 = .ok b' := by
      rw [runB_app, h]
      exact runB_at _ _ _ 0 _ h1
    obtain ⟨m2, hm2, hr2⟩ := begun_of hrun
    unfold parE parsesN
    rw [if_pos hl, hm2]
    simp only
    rw [if_pos (hr2.acc.2 h2)]
theorem well_lt : ∀ {st : List Nat}, wellB st = true -> ∀ n ∈ st, n < 85
  | [], _, n, hn => by cases hn
  | x :: l, h, n, hn => by
    rw [wellB, Bool.and_eq_true, Bool.and_eq_true] at h
    rcases List.mem_cons.1 hn with rfl | hn
    · have := of_decide_eq_true h.1.1
      omega
    · exact well_lt h.2 n hn
theorem with_len {st : List Nat} (h : ∀ n ∈ st, n < 85) {t : Nat} (ht : t < 58) (hm : mayN t st = true) : (jR t st).length <= st.length + 12 := takeN_len t ht st _ _ h hm (kl ht hm)
theorem tryN_len {st : List Nat} (h : ∀ n ∈ st, n < 85) {t : Nat} (ht : t < 58) {best more : List UInt8} {K : Nat} (hb : best.length <= K) (hm : more.length + 12 * (st.length + 12) <= K) : (tryN st best t more).length <= K := by
  unfold tryN
  cases hmay : mayN t st with
  | false => rw [if_neg (by decide)]; exact hb
  | true =>
    rw [if_pos rfl]
    simp only
    have h1 := with_len h ht hmay
    have h2 := (ke (jR t st)).1
    split
    · rw [List.length_append]; omega
    · exact hb
theorem tries_len {st : List Nat} (h : ∀ n ∈ st, n < 85) (w : List UInt8) {K : Nat} (hK : 9 + 12 * (st.length + 12) <= K) : ∀ (l : List (List UInt8)) (i : Nat) (best : List UInt8), i + l.length <= 35 -> (∀ r ∈ l, r.length <= 9) -> best.length <= K -> (kS st w l i best).length <= K
  | [], i, best, _, _, hb => hb
  | r :: l, i, best, hi, hr, hb => by
    rw [List.length_cons] at hi
    rw [kS]
    refine tries_len h w hK l (i + 1) _ (by omega) (fun x hx => hr x (List.mem_cons_of_mem _ hx)) ?_
    split
    · refine tryN_len h (by omega) hb ?_
      have := hr r List.mem_cons_self
      rw [List.length_drop]
      omega
    · exact hb
theorem wordEnd_len {st : List Nat} (h : ∀ n ∈ st, n < 85) (w : List UInt8) : (kR st w).length <= 12 * st.length + 200 := by
  have h1 := tries_len h w (K := 12 * st.length + 200) (by omega) resL 0 [] (by decide) (by decide) (Nat.zero_le _)
  unfold kR
  simp only
  split
  · exact tryN_len h (by decide) h1 (by simp only [List.length_nil]; omega)
  split
  · exact tryN_len h (by decide) h1 (by simp only [List.length_nil]; omega)
  split
  · exact tryN_len h (by decide) h1 (by simp only [List.length_cons, List.length_nil]; omega)
  · exact h1
theorem Rel.inv {src : List UInt8} {m : Mc} {b : Bs} (hI : InvB b) (h : Rel src m b) : Inv m.stack := by
  cases h with
  | btw h => exact hI.st
  | com h => exact hI.st
  | wrd h1 h2 h3 => exact hI.st
  | one h1 h2 h3 h4 h5 => rw [h4]; exact hI.st.take (ja _) h3.2
  | two h1 h2 h3 h4 => exact hI.st
  | txt h1 h2 h3 h4 => exact hI.st
theorem fin_len {src : List UInt8} {m : Mc} (hb : kG src = .ok m) : (vF src m).length <= 144 * src.length + 500 := by
  obtain ⟨b, h1, h2⟩ := begun_ok hb
  have h85 := well_lt (h2.inv (inv_of h1)).well
  have hlen := begun_len hb
  have hr := ke m.stack
  have hw := fun t (ht : t < 58) (hm : mayN t m.stack = true) => with_len h85 ht hm
  have hr2 := fun t => (ke (jR t m.stack)).2
  obtain ⟨hp, hk2, hk3, hk4⟩ := begun_fin hb
  unfold vF
  split
  · simp only
    split
    · exact Nat.zero_le _
    · rw [List.length_cons]; omega
  split
  · have := wordEnd_len h85 (src.drop m.from_)
    omega
  split
  · rename_i h3
    have h4 := hk3 h3
    have h5 := hw _ (ja _) h4.2.2
    have h6 := hr2 (jS (src.drop m.from_ ++ [61]))
    rw [List.length_cons]
    omega
  have h3 : 4 <= m.fin -> mayN 3 m.stack = true := by
    cases h2 with
    | btw h => intro e; omega
    | com h => intro e; omega
    | wrd h1 h2 h3 => intro e; omega
    | one h1 h2 h3 h4 h5 => intro e; omega
    | two h1 h2 h3 h4 => intro e; omega
    | txt h1 h2 h3 h4 => exact fun _ => h4
  have h6 := hr2 3
  split
  · have := hw 3 (by decide) (h3 (by omega))
    simp only [List.length_cons]; omega
  split
  · have := hw 3 (by decide) (h3 (by omega))
    simp only [List.length_cons]; omega
  split
  · have := hw 3 (by decide) (h3 (by omega))
    simp only [List.length_cons]; omega
  split
  · have := hw 3 (by decide) (h3 (by omega))
    simp only [List.length_cons]; omega
  · omega
theorem finB_len (l : List UInt8) : (finB l).length <= 10000000 := by
  unfold finB vO
  split
  · cases hb : kG l with
    | error k => exact Nat.zero_le _
    | ok m =>
      have := fin_len hb
      show (vF l m).length <= _
      omega
  · exact Nat.zero_le _
end Go.Proofs.YtmmjcbbogokmfaaGreatDoor

import Derived.Test.YtmmjcbbogokmfaaGreatDoorMf01
import Derived.Test.YtmmjcbbogokmfaaGreatDoorMf27
import Derived.Test.YtmmjcbbogokmfaaGreatDoorMf45
import Derived.Test.YtmmjcbbogokmfaaGreatDoorMf46
import Derived.Test.YtmmjcbbogokmfaaGreatDoorMf47
import Derived.Lib.SlBytesConst
set_option maxRecDepth 100000
set_option maxHeartbeats 25600000
namespace Go.Proofs.YtmmjcbbogokmfaaGreatDoor
open Go.RowKit
def FinT (w : World) (o : Option (List UInt8)) (e : Ending) (w' : World) : Prop :=
  match o with
  | none => e = .returned (.tuple #[.slice none 0 0, .bool false]) /\ Old w w'
  | some l => ∃ A c, e = .returned (.tuple #[.slice A l.length c, .bool true]) /\ w'.ownsRow w.heap.size 5 1 (.slice A l.length c) l.length (l.map bv) /\ Old w w'
theorem finish_any (w : World) (hg : Sg w) (h8 : 8 <= w.heap.size) (A : Option Addr) (n c : Nat) (l : List UInt8) (hr : Rd w 1 A n (l.map bv)) :
    Calls Tryz.prog 27 #[.slice A n c] w (FinT w (vV l)) := by
  have hn : l.length = n := by simpa using hr.1
  unfold vV
  by_cases hs : l.length <= 60000
  · rw [if_pos hs]
    have hcv := vr (P := Tryz.prog) (w := w) Tryz.underlying33 Tryz.underlying5 Tryz.underlying9 A n c l hr
    have hB := begun_any w hg ⟨l.toArray⟩ (by rw [<- jB, vq]; exact hs) h8
    rw [vq] at hB
    have HF := jJ0 (fun m (hm : jq l = .ok m) => And.intro (begun_fin hm) (begun_len hm))
    have b1 : ¬ (60000 : Int) < (n : Int) := by omega
    have Hg := jJ0 hg
    have Hsx := jJ0 (show sb (⟨l.toArray⟩ : ByteArray) = l from vq l)
    have Hs := jJ0 hs
    clear hg hs hr
    generalize hX : jq l = X at *
    generalize (⟨l.toArray⟩ : ByteArray) = src at *
    cases X with
    | error k =>
      have HB := jJ0 hB
      clear hB hX HF
      simp only
      go_enter Tryz.func27, Tryz.ntmps27
      go_wp2_with (go_at_call 76; refine HB.out.mono ?_; rintro e w1 ⟨p, rfl, ho⟩; have HO := jJ0 ho; clear ho)
      go_ret2
      exact ⟨rfl, HO.out⟩
    | ok m =>
      have HB := jJ0 hB
      have hk := (HF.out m rfl).1
      have hml := (HF.out m rfl).2
      rw [<- Hsx.out] at hk
      have HN := jJ0 (fun W g r A c (hM : Mac W g r src m A c) (hO : Old w W) => finished_any W (Hg.out.old hO) g r src m A c hM (by have := Hs.out; omega) (by rw [<- jB, Hsx.out]; have := Hs.out; omega) hk)
      rw [Hsx.out] at HN
      clear hB hX HF hk hml
      simp only
      generalize kM l m = R at *
      go_enter Tryz.func27, Tryz.ntmps27
      go_wp2_with (first | (go_at_call 76; refine HB.out.mono ?_; rintro e w1 ⟨g, r, A1, c1, rfl, hM, ho, _, _⟩; have HO := jJ0 ho; have HM := jJ0 hM; clear ho hM) | (go_at_call 79; refine (HN.out _ _ _ _ _ HM.out HO.out).mono ?_; rintro e w2 ⟨p, rfl, hp, ho, hlen⟩; have HO2 := jJ0 (HO.out.old ho); have HP := jJ0 hp; clear ho hp) | (go_at_call 80; refine (rbytes_any _ p R HP.out (by omega)).mono ?_; rintro e w3 ⟨A3, c3, rfl, hown, ho⟩; have HO3 := jJ0 (HO2.out.old ho); have HOwn := jJ0 (own_low hown HO2.out.size); clear ho hown))
      go_ret2
      exact ⟨A3, c3, rfl, HOwn.out, HO3.out⟩
  · rw [if_neg hs]
    have b1 : (60000 : Int) < (n : Int) := by omega
    clear hs hg hr
    go_enter Tryz.func27, Tryz.ntmps27
    go_wp2
    go_ret2
    exact ⟨rfl, Kp.refl _ _⟩
theorem rd_new (w : World) (T : TypeId) (fr : Nat × Nat) (xs : List Value) (n : Nat) (hn : xs.length = n) : Rd (w.alloc (.cells xs.toArray T fr)) 1 (some ⟨w.heap.size, 0, none⟩) n xs :=
  ⟨by rw [hn, Nat.mul_one], fun _ => ⟨w.heap.size, 0, rfl, fun j u hu => by rw [Nat.zero_add, World.cell?_alloc_mark, List.getElem?_toArray]; exact hu⟩⟩
theorem same9_any (w : World) (A B : Option Addr) (n c d : Nat) (l : List UInt8) (hn : l.length = n) (hx : Rd w 1 A n (l.map bv)) (hy : Rd w 1 B n (l.map bv)) (hl : n <= 9223372036854775807) :
    Calls Tryz.prog 16 #[.slice A n c, .slice B n d] w fun e w' => e = .returned (.bool true) /\ Old w w' := by
  subst hn
  have H := jJ0 (sameB w A B c d l hx hy hl)
  clear hx hy hl
  go_enter Tryz.func16, Tryz.ntmps16
  go_wp2_with (first | (go_at_call 61; refine H.out.mono ?_; rintro e w1 ⟨rfl, ho⟩; have HO := jJ0 ho; clear ho) | fail)
  go_ret
  exact ⟨rfl, HO.out⟩
theorem kT_v : kT.map bv = [Value.int .u8 116, Value.int .u8 121, Value.int .u8 112, Value.int .u8 101, Value.int .u8 32, Value.int .u8 97, Value.int .u8 32, Value.int .u8 123, Value.int .u8 32, Value.int .u8 109, Value.int .u8 105, Value.int .u8 108, Value.int .u8 101, Value.int .u8 115, Value.int .u8 116, Value.int .u8 111, Value.int .u8 110, Value.int .u8 101, Value.int .u8 32, Value.int .u8 109, Value.int .u8 32, Value.int .u8 114, Value.int .u8 101, Value.int .u8 97, Value.int .u8 99, Value.int .u8 104, Value.int .u8 101, Value.int .u8 100, Value.int .u8 32, Value.int .u8 119, Value.int .u8 104, Value.int .u8 101, Value.int .u8 110, Value.int .u8 32, Value.int .u8 110, Value.int .u8 111, Value.int .u8 116, Value.int .u8 32, Value.int .u8 98, Value.int .u8 32, Value.int .u8 61, Value.int .u8 32, Value.int .u8 49, Value.int .u8 50, Value.int .u8 32, Value.int .u8 59, Value.int .u8 32, Value.int .u8 125] := rfl
theorem kP_v : kP.map bv = [Value.int .u8 116, Value.int .u8 121, Value.int .u8 112, Value.int .u8 101, Value.int .u8 32, Value.int .u8 97, Value.int .u8 32, Value.int .u8 123, Value.int .u8 10, Value.int .u8 109, Value.int .u8 105, Value.int .u8 108, Value.int .u8 101, Value.int .u8 115, Value.int .u8 116, Value.int .u8 111, Value.int .u8 110, Value.int .u8 101, Value.int .u8 32, Value.int .u8 109, Value.int .u8 32, Value.int .u8 114, Value.int .u8 101, Value.int .u8 97, Value.int .u8 99, Value.int .u8 104, Value.int .u8 101, Value.int .u8 100, Value.int .u8 32, Value.int .u8 119, Value.int .u8 104, Value.int .u8 101, Value.int .u8 110, Value.int .u8 32, Value.int .u8 110, Value.int .u8 111, Value.int .u8 116, Value.int .u8 32, Value.int .u8 98, Value.int .u8 32, Value.int .u8 61, Value.int .u8 32, Value.int .u8 49, Value.int .u8 50, Value.int .u8 32, Value.int .u8 59, Value.int .u8 10, Value.int .u8 125, Value.int .u8 10] := rfl
theorem kB_v : kB.map bv = [Value.int .u8 116, Value.int .u8 121, Value.int .u8 112, Value.int .u8 101, Value.int .u8 32, Value.int .u8 105, Value.int .u8 110, Value.int .u8 32, Value.int .u8 123, Value.int .u8 32, Value.int .u8 115, Value.int .u8 116, Value.int .u8 97, Value.int .u8 103, Value.int .u8 101, Value.int .u8 32, Value.int .u8 115, Value.int .u8 116, Value.int .u8 97, Value.int .u8 103, Value.int .u8 101] := rfl
theorem kF_v : kF.map bv = [Value.int .u8 116, Value.int .u8 121, Value.int .u8 112, Value.int .u8 101, Value.int .u8 32, Value.int .u8 97, Value.int .u8 32, Value.int .u8 123, Value.int .u8 32, Value.int .u8 115, Value.int .u8 116] := rfl
theorem kE_v : kE.map bv = [Value.int .u8 97, Value.int .u8 103, Value.int .u8 101, Value.int .u8 9, Value.int .u8 97, Value.int .u8 123, Value.int .u8 125, Value.int .u8 125] := rfl
theorem old_of {w W W1 : World} (h : Old w W) (hk : Kp (fromB W.heap.size) W W1) : Old w W1 := h.trans (hk.mono (fun b hb e => by have : W.heap.size <= b := e; omega)) (fun _ _ e => e)
theorem kParse (w : World) (hg : Sg w) (h8 : 8 <= w.heap.size) : ∃ r, Small r /\ Calls Tryz.prog 26 #[.slice (some ⟨w.heap.size, 0, none⟩) 48 48] (w.alloc (.cells #[.int .u8 116, .int .u8 121, .int .u8 112, .int .u8 101, .int .u8 32, .int .u8 97, .int .u8 32, .int .u8 123, .int .u8 32, .int .u8 109, .int .u8 105, .int .u8 108, .int .u8 101, .int .u8 115, .int .u8 116, .int .u8 111, .int .u8 110, .int .u8 101, .int .u8 32, .int .u8 109, .int .u8 32, .int .u8 114, .int .u8 101, .int .u8 97, .int .u8 99, .int .u8 104, .int .u8 101, .int .u8 100, .int .u8 32, .int .u8 119, .int .u8 104, .int .u8 101, .int .u8 110, .int .u8 32, .int .u8 110, .int .u8 111, .int .u8 116, .int .u8 32, .int .u8 98, .int .u8 32, .int .u8 61, .int .u8 32, .int .u8 49, .int .u8 50, .int .u8 32, .int .u8 59, .int .u8 32, .int .u8 125] 5 (48, 48 + 1))) (ParOk (w.alloc (.cells #[.int .u8 116, .int .u8 121, .int .u8 112, .int .u8 101, .int .u8 32, .int .u8 97, .int .u8 32, .int .u8 123, .int .u8 32, .int .u8 109, .int .u8 105, .int .u8 108, .int .u8 101, .int .u8 115, .int .u8 116, .int .u8 111, .int .u8 110, .int .u8 101, .int .u8 32, .int .u8 109, .int .u8 32, .int .u8 114, .int .u8 101, .int .u8 97, .int .u8 99, .int .u8 104, .int .u8 101, .int .u8 100, .int .u8 32, .int .u8 119, .int .u8 104, .int .u8 101, .int .u8 110, .int .u8 32, .int .u8 110, .int .u8 111, .int .u8 116, .int .u8 32, .int .u8 98, .int .u8 32, .int .u8 61, .int .u8 32, .int .u8 49, .int .u8 50, .int .u8 32, .int .u8 59, .int .u8 32, .int .u8 125] 5 (48, 48 + 1))) ⟨kT.toArray⟩ r) := by
  obtain ⟨m, hb, hm⟩ := kT_ok
  obtain ⟨r, hr⟩ := Option.isSome_iff_exists.1 kT_some
  have ho := (Kp.refl NoX w).alloc (.cells #[.int .u8 116, .int .u8 121, .int .u8 112, .int .u8 101, .int .u8 32, .int .u8 97, .int .u8 32, .int .u8 123, .int .u8 32, .int .u8 109, .int .u8 105, .int .u8 108, .int .u8 101, .int .u8 115, .int .u8 116, .int .u8 111, .int .u8 110, .int .u8 101, .int .u8 32, .int .u8 109, .int .u8 32, .int .u8 114, .int .u8 101, .int .u8 97, .int .u8 99, .int .u8 104, .int .u8 101, .int .u8 100, .int .u8 32, .int .u8 119, .int .u8 104, .int .u8 101, .int .u8 110, .int .u8 32, .int .u8 110, .int .u8 111, .int .u8 116, .int .u8 32, .int .u8 98, .int .u8 32, .int .u8 61, .int .u8 32, .int .u8 49, .int .u8 50, .int .u8 32, .int .u8 59, .int .u8 32, .int .u8 125] 5 (48, 48 + 1))
  exact ⟨r, small_of hr, parse_ok _ (hg.old ho) (Nat.le_trans h8 ho.size) _ _ _ kT (rd_new w 5 (48, 48 + 1) (kT.map bv) 48 rfl) (by decide) m hb hm 100 r hr⟩
theorem kParseB (w : World) (hg : Sg w) (h8 : 8 <= w.heap.size) : Calls Tryz.prog 26 #[.slice (some ⟨w.heap.size, 0, none⟩) 21 21] (w.alloc (.cells #[.int .u8 116, .int .u8 121, .int .u8 112, .int .u8 101, .int .u8 32, .int .u8 105, .int .u8 110, .int .u8 32, .int .u8 123, .int .u8 32, .int .u8 115, .int .u8 116, .int .u8 97, .int .u8 103, .int .u8 101, .int .u8 32, .int .u8 115, .int .u8 116, .int .u8 97, .int .u8 103, .int .u8 101] 5 (21, 21 + 1))) (ParBad (w.alloc (.cells #[.int .u8 116, .int .u8 121, .int .u8 112, .int .u8 101, .int .u8 32, .int .u8 105, .int .u8 110, .int .u8 32, .int .u8 123, .int .u8 32, .int .u8 115, .int .u8 116, .int .u8 97, .int .u8 103, .int .u8 101, .int .u8 32, .int .u8 115, .int .u8 116, .int .u8 97, .int .u8 103, .int .u8 101] 5 (21, 21 + 1))) 7 90) := by
  have ho := (Kp.refl NoX w).alloc (.cells #[.int .u8 116, .int .u8 121, .int .u8 112, .int .u8 101, .int .u8 32, .int .u8 105, .int .u8 110, .int .u8 32, .int .u8 123, .int .u8 32, .int .u8 115, .int .u8 116, .int .u8 97, .int .u8 103, .int .u8 101, .int .u8 32, .int .u8 115, .int .u8 116, .int .u8 97, .int .u8 103, .int .u8 101] 5 (21, 21 + 1))
  exact parse_bad _ (hg.old ho) (Nat.le_trans h8 ho.size) _ _ _ kB (rd_new w 5 (21, 21 + 1) (kB.map bv) 21 rfl) (by decide) 7 kB_bad
theorem kFinish (w : World) (hg : Sg w) (h8 : 8 <= w.heap.size) : Calls Tryz.prog 27 #[.slice (some ⟨w.heap.size, 0, none⟩) 11 11] (w.alloc (.cells #[.int .u8 116, .int .u8 121, .int .u8 112, .int .u8 101, .int .u8 32, .int .u8 97, .int .u8 32, .int .u8 123, .int .u8 32, .int .u8 115, .int .u8 116] 5 (11, 11 + 1))) fun e w' => ∃ A c, e = .returned (.tuple #[.slice A 8 c, .bool true]) /\ Rd w' 1 A 8 (kE.map bv) /\ Old w w' := by
  have ho := (Kp.refl NoX w).alloc (.cells #[.int .u8 116, .int .u8 121, .int .u8 112, .int .u8 101, .int .u8 32, .int .u8 97, .int .u8 32, .int .u8 123, .int .u8 32, .int .u8 115, .int .u8 116] 5 (11, 11 + 1))
  have h := finish_any _ (hg.old ho) (Nat.le_trans h8 ho.size) _ 11 11 kF (rd_new w 5 (11, 11 + 1) (kF.map bv) 11 rfl)
  rw [kF_run] at h
  refine h.mono ?_
  rintro e w' ⟨A, c, he, hown, ho2⟩
  exact ⟨A, c, he, Rd.of_own hown, ho.trans ho2 (fun _ _ e => e)⟩
theorem kSame (w : World) (s : List UInt8) (xs : Array Value) (hxs : xs = (s.map bv).toArray) (n : Nat) (hn : s.length = n) (hl : n <= 9223372036854775807) (A : Option Addr) (c : Nat) (hx : Rd w 1 A n (s.map bv)) (k : Nat) (hk : k = w.heap.size) :
    Calls Tryz.prog 16 #[.slice A n c, .slice (some ⟨k, 0, none⟩) n n] (w.alloc (.cells xs 5 (n, n + 1))) fun e w' => e = .returned (.bool true) /\ Old w w' := by
  subst hxs
  subst hk
  have ho := (Kp.refl NoX w).alloc (.cells (s.map bv).toArray 5 (n, n + 1))
  exact (same9_any _ A _ n c n s hn (hx.old ho) (rd_new w 5 (n, n + 1) (s.map bv) n (by rw [List.length_map]; exact hn)) hl).mono (fun e w' h => ⟨h.1, ho.trans h.2 (fun _ _ e => e)⟩)
theorem legal_a1 : jv (sb ⟨#[97, 95, 49]⟩) = true := by decide +kernel
theorem legal_in : jv (sb ⟨#[105, 110]⟩) = false := by decide +kernel
theorem right_4 (w : World) (hg : Sg w) : Calls Tryz.prog 22 #[.agg #[.int .i64 4, .string ⟨#[]⟩, .int .i64 0, .int .i64 0, .string ⟨#[]⟩, .slice none 0 0, .slice none 0 0]] w fun e w' => e = .returned (.bool true) /\ Old w w' :=
  right_any w hg ⟨⟨4, ⟨#[]⟩, 0, 0, ⟨#[]⟩, [], []⟩, none, 0, none, 0⟩
theorem right_34 (w : World) (hg : Sg w) : Calls Tryz.prog 22 #[.agg #[.int .i64 34, .string ⟨#[]⟩, .int .i64 0, .int .i64 0, .string ⟨#[]⟩, .slice none 0 0, .slice none 0 0]] w fun e w' => e = .returned (.bool false) /\ Old w w' :=
  right_any w hg ⟨⟨34, ⟨#[]⟩, 0, 0, ⟨#[]⟩, [], []⟩, none, 0, none, 0⟩
theorem small_cells {r : Rdr} (h : Small r) (s : Sl) : (ji r.tree s).toArray = #[.string ⟨#[97]⟩, .int .i64 5, .slice s.aA 0 s.ac, .slice s.gA 0 s.gc, .slice s.mA 1 s.mc, .slice s.pA 0 s.pc, .slice s.nA 4 s.nc, .slice s.oA 4 s.oc] := by
  obtain ⟨m, hm, _⟩ := h.mile
  unfold ji iv
  rw [h.name, h.at_, h.attrs, h.stages, hm, h.steps, h.len, h.ats]
  rfl
theorem small_rows {w : World} {g : Nat} {src : ByteArray} {r : Rdr} {s : Sl} (hs : Small r) (h : St w g src r s) : ∃ b1 o1 b2 o2 b3 o3, s.mA = some ⟨b1, o1, none⟩ /\ w.cell? ⟨b1, o1 + 5, none⟩ = some (.int .i64 3) /\ s.nA = some ⟨b2, o2, none⟩ /\ w.cell? ⟨b2, o2 + 21, none⟩ = some (.int .i64 8) /\ w.cell? ⟨b2, o2 + 10, none⟩ = some (.int .i64 12) /\ s.oA = some ⟨b3, o3, none⟩ /\ w.cell? ⟨b3, o3 + 2, none⟩ = some (.int .i64 40) := by
  obtain ⟨ns, ps, TD⟩ := small_trd hs h
  obtain ⟨ns', ps', R⟩ := h.rows
  obtain ⟨m, hm, hw⟩ := hs.mile
  obtain ⟨b1, o1, hA1, hc1⟩ := vY (C := miC) (fun x => rfl) TD.rM (k := 0) (x := m) (by rw [hm]; rfl) (by rw [hm]; exact Nat.one_pos)
  obtain ⟨n3, hn3, e3⟩ := hs.op3
  obtain ⟨n1, hn1, e1⟩ := hs.vn1
  obtain ⟨x3, b2, o2, _, ex3, hA2, hc2, _, _⟩ := TD.nd.at_ hn3
  obtain ⟨x1, b2', o2', _, ex1, hA2', hc2', _, _⟩ := TD.nd.at_ hn1
  rw [hA2] at hA2'
  injection hA2' with hA2'
  injection hA2' with q1 q2
  subst q1
  subst q2
  obtain ⟨b3, o3, hA3, hc3⟩ := (Rd.of_own R.rO).2 (by rw [hs.ats]; decide)
  have c1 := hc1 5 (iv m.when_) rfl
  have c2 := hc2 0 (iv x3.n.op) rfl
  have c3 := hc2' 3 (iv x1.n.vn) rfl
  have c4 := hc3 2 (iv 40) (by rw [hs.ats]; rfl)
  rw [hw] at c1
  rw [ex3, e3] at c2
  rw [ex1, e1] at c3
  exact ⟨b1, o1, b2, o2, b3, o3, hA1, c1, hA2, c2, c3, hA3, c4⟩
theorem kPrint (W : World) (hg : Sg W) (h8 : 8 <= W.heap.size) {g : Nat} {src : ByteArray} {r : Rdr} {s : Sl} (hs : Small r) (h : St W g src r s) :
    Calls Tryz.prog 14 #[.agg (ji r.tree s).toArray] W fun e W' => ∃ A c, e = .returned (.tuple #[.slice A 49 c, .int .i64 0]) /\ Rd W' 1 A 49 (kP.map bv) /\ Old W W' := by
  obtain ⟨ns, ps, TD⟩ := small_trd hs h
  have hp := hs.prints
  unfold printN at hp
  split at hp
  · rename_i hfit
    refine (print_yes W hg h8 r.tree s ns ps TD (prt_small hg h8 hs TD) hfit kP hp (by decide)).mono ?_
    rintro e W' ⟨A, c, he, hown, hk⟩
    exact ⟨A, c, he, Rd.of_own hown, old_of (Kp.refl NoX W) hk⟩
  · cases hp
theorem known_any (w : World) (hg : Sg w) (h8 : 8 <= w.heap.size) : Calls Tryz.prog 12 #[] w fun e w' => e = .returned (.bool true) /\ Old w w' := by
  obtain ⟨r, hs, hP⟩ := kParse w hg h8
  have HP := jJ0 hP
  have Hg := jJ0 hg
  have H8 := jJ0 h8
  have HS := jJ0 hs
  have HPB := jJ0 (fun W (hO : Old w W) => kParseB W (hg.old hO) (Nat.le_trans h8 hO.size))
  have HFn := jJ0 (fun W (hO : Old w W) => kFinish W (hg.old hO) (Nat.le_trans h8 hO.size))
  have HSP := jJ0 (fun W A c (hx : Rd W 1 A 49 (kP.map bv)) k (hk : k = W.heap.size) => kSame W kP #[.int .u8 116, .int .u8 121, .int .u8 112, .int .u8 101, .int .u8 32, .int .u8 97, .int .u8 32, .int .u8 123, .int .u8 10, .int .u8 109, .int .u8 105, .int .u8 108, .int .u8 101, .int .u8 115, .int .u8 116, .int .u8 111, .int .u8 110, .int .u8 101, .int .u8 32, .int .u8 109, .int .u8 32, .int .u8 114, .int .u8 101, .int .u8 97, .int .u8 99, .int .u8 104, .int .u8 101, .int .u8 100, .int .u8 32, .int .u8 119, .int .u8 104, .int .u8 101, .int .u8 110, .int .u8 32, .int .u8 110, .int .u8 111, .int .u8 116, .int .u8 32, .int .u8 98, .int .u8 32, .int .u8 61, .int .u8 32, .int .u8 49, .int .u8 50, .int .u8 32, .int .u8 59, .int .u8 10, .int .u8 125, .int .u8 10] rfl 49 rfl (by decide) A c hx k hk)
  have HSE := jJ0 (fun W A c (hx : Rd W 1 A 8 (kE.map bv)) k (hk : k = W.heap.size) => kSame W kE #[.int .u8 97, .int .u8 103, .int .u8 101, .int .u8 9, .int .u8 97, .int .u8 123, .int .u8 125, .int .u8 125] rfl 8 rfl (by decide) A c hx k hk)
  have HL1 := jJ0 (fun W (hO : Old w W) => kC W (hg.old hO) ⟨#[97, 95, 49]⟩)
  have HL2 := jJ0 (fun W (hO : Old w W) => kC W (hg.old hO) ⟨#[105, 110]⟩)
  rw [legal_a1] at HL1
  rw [legal_in] at HL2
  have HR4 := jJ0 (fun W (hO : Old w W) => right_4 W (hg.old hO))
  have HR34 := jJ0 (fun W (hO : Old w W) => right_34 W (hg.old hO))
  have hc0 := fun (W : World) => (show (convert 33 33 (.slice (some ⟨W.heap.size, 0, none⟩) 48 48)).run Tryz.prog (W.alloc (.cells #[.int .u8 116, .int .u8 121, .int .u8 112, .int .u8 101, .int .u8 32, .int .u8 97, .int .u8 32, .int .u8 123, .int .u8 32, .int .u8 109, .int .u8 105, .int .u8 108, .int .u8 101, .int .u8 115, .int .u8 116, .int .u8 111, .int .u8 110, .int .u8 101, .int .u8 32, .int .u8 109, .int .u8 32, .int .u8 114, .int .u8 101, .int .u8 97, .int .u8 99, .int .u8 104, .int .u8 101, .int .u8 100, .int .u8 32, .int .u8 119, .int .u8 104, .int .u8 101, .int .u8 110, .int .u8 32, .int .u8 110, .int .u8 111, .int .u8 116, .int .u8 32, .int .u8 98, .int .u8 32, .int .u8 61, .int .u8 32, .int .u8 49, .int .u8 50, .int .u8 32, .int .u8 59, .int .u8 32, .int .u8 125] 5)) = .ok (.slice (some ⟨W.heap.size, 0, none⟩) 48 48) (W.alloc (.cells #[.int .u8 116, .int .u8 121, .int .u8 112, .int .u8 101, .int .u8 32, .int .u8 97, .int .u8 32, .int .u8 123, .int .u8 32, .int .u8 109, .int .u8 105, .int .u8 108, .int .u8 101, .int .u8 115, .int .u8 116, .int .u8 111, .int .u8 110, .int .u8 101, .int .u8 32, .int .u8 109, .int .u8 32, .int .u8 114, .int .u8 101, .int .u8 97, .int .u8 99, .int .u8 104, .int .u8 101, .int .u8 100, .int .u8 32, .int .u8 119, .int .u8 104, .int .u8 101, .int .u8 110, .int .u8 32, .int .u8 110, .int .u8 111, .int .u8 116, .int .u8 32, .int .u8 98, .int .u8 32, .int .u8 61, .int .u8 32, .int .u8 49, .int .u8 50, .int .u8 32, .int .u8 59, .int .u8 32, .int .u8 125] 5 (48, 48 + 1))) from Lib.run_convert_bytes_const W 33 5 _ _ _ Tryz.underlying33 Tryz.underlying5)
  have hc1 := fun (W : World) => (show (convert 33 33 (.slice (some ⟨W.heap.size, 0, none⟩) 49 49)).run Tryz.prog (W.alloc (.cells #[.int .u8 116, .int .u8 121, .int .u8 112, .int .u8 101, .int .u8 32, .int .u8 97, .int .u8 32, .int .u8 123, .int .u8 10, .int .u8 109, .int .u8 105, .int .u8 108, .int .u8 101, .int .u8 115, .int .u8 116, .int .u8 111, .int .u8 110, .int .u8 101, .int .u8 32, .int .u8 109, .int .u8 32, .int .u8 114, .int .u8 101, .int .u8 97, .int .u8 99, .int .u8 104, .int .u8 101, .int .u8 100, .int .u8 32, .int .u8 119, .int .u8 104, .int .u8 101, .int .u8 110, .int .u8 32, .int .u8 110, .int .u8 111, .int .u8 116, .int .u8 32, .int .u8 98, .int .u8 32, .int .u8 61, .int .u8 32, .int .u8 49, .int .u8 50, .int .u8 32, .int .u8 59, .int .u8 10, .int .u8 125, .int .u8 10] 5)) = .ok (.slice (some ⟨W.heap.size, 0, none⟩) 49 49) (W.alloc (.cells #[.int .u8 116, .int .u8 121, .int .u8 112, .int .u8 101, .int .u8 32, .int .u8 97, .int .u8 32, .int .u8 123, .int .u8 10, .int .u8 109, .int .u8 105, .int .u8 108, .int .u8 101, .int .u8 115, .int .u8 116, .int .u8 111, .int .u8 110, .int .u8 101, .int .u8 32, .int .u8 109, .int .u8 32, .int .u8 114, .int .u8 101, .int .u8 97, .int .u8 99, .int .u8 104, .int .u8 101, .int .u8 100, .int .u8 32, .int .u8 119, .int .u8 104, .int .u8 101, .int .u8 110, .int .u8 32, .int .u8 110, .int .u8 111, .int .u8 116, .int .u8 32, .int .u8 98, .int .u8 32, .int .u8 61, .int .u8 32, .int .u8 49, .int .u8 50, .int .u8 32, .int .u8 59, .int .u8 10, .int .u8 125, .int .u8 10] 5 (49, 49 + 1))) from Lib.run_convert_bytes_const W 33 5 _ _ _ Tryz.underlying33 Tryz.underlying5)
  have hc2 := fun (W : World) => (show (convert 33 33 (.slice (some ⟨W.heap.size, 0, none⟩) 21 21)).run Tryz.prog (W.alloc (.cells #[.int .u8 116, .int .u8 121, .int .u8 112, .int .u8 101, .int .u8 32, .int .u8 105, .int .u8 110, .int .u8 32, .int .u8 123, .int .u8 32, .int .u8 115, .int .u8 116, .int .u8 97, .int .u8 103, .int .u8 101, .int .u8 32, .int .u8 115, .int .u8 116, .int .u8 97, .int .u8 103, .int .u8 101] 5)) = .ok (.slice (some ⟨W.heap.size, 0, none⟩) 21 21) (W.alloc (.cells #[.int .u8 116, .int .u8 121, .int .u8 112, .int .u8 101, .int .u8 32, .int .u8 105, .int .u8 110, .int .u8 32, .int .u8 123, .int .u8 32, .int .u8 115, .int .u8 116, .int .u8 97, .int .u8 103, .int .u8 101, .int .u8 32, .int .u8 115, .int .u8 116, .int .u8 97, .int .u8 103, .int .u8 101] 5 (21, 21 + 1))) from Lib.run_convert_bytes_const W 33 5 _ _ _ Tryz.underlying33 Tryz.underlying5)
  have hc3 := fun (W : World) => (show (convert 33 33 (.slice (some ⟨W.heap.size, 0, none⟩) 11 11)).run Tryz.prog (W.alloc (.cells #[.int .u8 116, .int .u8 121, .int .u8 112, .int .u8 101, .int .u8 32, .int .u8 97, .int .u8 32, .int .u8 123, .int .u8 32, .int .u8 115, .int .u8 116] 5)) = .ok (.slice (some ⟨W.heap.size, 0, none⟩) 11 11) (W.alloc (.cells #[.int .u8 116, .int .u8 121, .int .u8 112, .int .u8 101, .int .u8 32, .int .u8 97, .int .u8 32, .int .u8 123, .int .u8 32, .int .u8 115, .int .u8 116] 5 (11, 11 + 1))) from Lib.run_convert_bytes_const W 33 5 _ _ _ Tryz.underlying33 Tryz.underlying5)
  have hc4 := fun (W : World) => (show (convert 33 33 (.slice (some ⟨W.heap.size, 0, none⟩) 8 8)).run Tryz.prog (W.alloc (.cells #[.int .u8 97, .int .u8 103, .int .u8 101, .int .u8 9, .int .u8 97, .int .u8 123, .int .u8 125, .int .u8 125] 5)) = .ok (.slice (some ⟨W.heap.size, 0, none⟩) 8 8) (W.alloc (.cells #[.int .u8 97, .int .u8 103, .int .u8 101, .int .u8 9, .int .u8 97, .int .u8 123, .int .u8 125, .int .u8 125] 5 (8, 8 + 1))) from Lib.run_convert_bytes_const W 33 5 _ _ _ Tryz.underlying33 Tryz.underlying5)
  clear hP hg h8 hs
  go_enter Tryz.func12, Tryz.ntmps12
  go_wp2_with (first | (go_at_call 22; refine (HR34.out _ HO7.out).mono ?_; rintro e w8 ⟨rfl, ho⟩; have HO8 := jJ0 (HO7.out.trans ho (fun _ _ e => e)); clear ho) | (go_at_call 22; refine (HR4.out _ HO6.out).mono ?_; rintro e w7 ⟨rfl, ho⟩; have HO7 := jJ0 (HO6.out.trans ho (fun _ _ e => e)); clear ho) | (go_at_call 20; refine (HL2.out _ HO6.out).mono ?_; rintro e wl ⟨rfl, rfl⟩) | (go_at_call 20; refine (HL1.out _ HO6.out).mono ?_; rintro e wl ⟨rfl, rfl⟩) | (go_at_call 16; refine (HSE.out _ _ _ HX5.out _ rfl).mono ?_; rintro e w6 ⟨rfl, ho⟩; have HO6 := jJ0 (HO5.out.trans ho (fun _ _ e => e)); clear ho) | (go_at_call 27; refine (HFn.out _ HO4.out).mono ?_; rintro e w5 ⟨A5, c5, rfl, hx, ho⟩; have HX5 := jJ0 hx; have HO5 := jJ0 (HO4.out.trans ho (fun _ _ e => e)); clear hx ho) | (go_at_call 26; refine (HPB.out _ HO3.out).mono ?_; rintro e w4 ⟨rfl, ho⟩; have HO4 := jJ0 ((HO3.out.alloc _).trans ho (fun _ _ e => e)); clear ho; unfold iv) | (go_at_call 16; refine (HSP.out _ _ _ HX2.out _ rfl).mono ?_; rintro e w3 ⟨rfl, ho⟩; have HO3 := jJ0 (HO2.out.trans ho (fun _ _ e => e)); clear ho) | (go_at_call 14; refine (HPr.out _).mono ?_; rintro e w2 ⟨A2, c2, rfl, hx, ho⟩; have HX2 := jJ0 hx; have HO2 := jJ0 ((HO1.out.alloc _).trans ho (fun _ _ e => e)); clear hx ho) | (go_at_call 26; refine HP.out.mono ?_; rintro e w1 ⟨g, s, rfl, hSt, ho, _⟩; have HO1 := jJ0 (((Kp.refl NoX w).alloc _).trans ho (fun _ _ e => e) : Old w w1); have HPr := jJ0 (fun o => kPrint (w1.alloc o) (Hg.out.old (HO1.out.alloc o)) (Nat.le_trans H8.out (HO1.out.alloc o).size) HS.out (hSt.old ((Kp.refl NoX w1).alloc o))); have hcl := small_cells HS.out s; rw [hcl]; obtain ⟨b1, o1, b2, o2, b3, o3, hA1, k1, hA2, k2, k3, hA3, k4⟩ := small_rows HS.out hSt; rw [hA1, hA2, hA3]; simp only [hcl, hA1, hA2, hA3] at HPr; have K1 := fun o => Lib.cell?_alloc_marked o k1; have K2 := fun o => Lib.cell?_alloc_marked o k2; have K3 := fun o => Lib.cell?_alloc_marked o k3; have K4 := fun o => Lib.cell?_alloc_marked o k4; unfold iv; clear hSt ho k1 k2 k3 k4) | fail)
  go_ret
  exact ⟨rfl, HO8.out⟩
def finB (l : List UInt8) : List UInt8 := (vV l).getD []
def finK (l : List UInt8) : Bool := (vV l).isSome
def FinW (w : World) (l : List UInt8) (e : Ending) (w' : World) : Prop := ∃ A c, e = .returned (.tuple #[.slice A (finB l).length c, .bool (finK l)]) /\ Rd w' 1 A (finB l).length ((finB l).map bv) /\ (finB l).length <= 9223372036854775807 /\ Old w w'
theorem own_max {w : World} {base : Nat} {T : TypeId} {A : Option Addr} {n c : Nat} {xs : List Value} (h : w.ownsRow base T 1 (.slice A n c) n xs) : n <= 9223372036854775807 := by
  rcases h.2 with ⟨_, h0⟩ | ⟨g, cap, cur, _, _, _, h1, h2, _⟩
  · omega
  · have : maxLen = 9223372036854775807 := by decide
    omega
theorem fin9_any (w : World) (hg : Sg w) (h8 : 8 <= w.heap.size) (A : Option Addr) (n c : Nat) (l : List UInt8) (hr : Rd w 1 A n (l.map bv)) : Calls Tryz.prog 27 #[.slice A n c] w (FinW w l) := by
  refine (finish_any w hg h8 A n c l hr).mono ?_
  intro e w' h
  unfold FinW finB finK
  unfold FinT at h
  cases hf : vV l with
  | none =>
    rw [hf] at h
    exact ⟨none, 0, h.1, Rd.none_, by decide, h.2⟩
  | some r =>
    rw [hf] at h
    obtain ⟨A, c, he, hown, ho⟩ := h
    exact ⟨A, c, he, Rd.of_own hown, own_max hown, ho⟩
theorem beq_self_bool (b : Bool) : (b == b) = true := by cases b <;> rfl
theorem ended_any (w : World) (hg : Sg w) (h8 : 8 <= w.heap.size) (g : Nat) (B : Option Addr) (d : Nat) (l : List UInt8) (hb : Blk w g 5 (kU (l.map bv) (.int .u8 219)).toArray) (hr : Rd w 1 B l.length (l.map bv)) (hl : l.length <= 100000000) :
    Calls Tryz.prog 42 #[.slice (some ⟨g, 0, none⟩) (l.length + 80) (l.length + 80), .slice B l.length d] w fun e w' => e = .returned (.bool true) /\ Old w w' := by
  obtain ⟨i0, hi, hz0, hz1, hz2⟩ := info_parts Tryz.infoB
  have hpre := roomV_rd hb
  rw [List.length_map] at hpre
  have hsl := fun W => cut_h (P := Tryz.prog) Tryz.elemB Tryz.sizeEB (some ⟨g, 0, none⟩) (l.length + 80) (l.length + 80) l.length .i64 (l.length : Int) rfl (by omega) W
  have HF := jJ0 (fun W (hO : Old w W) => fin9_any W (hg.old hO) (Nat.le_trans h8 hO.size) (some ⟨g, 0, none⟩) l.length (l.length + 80) l (hpre.old hO))
  have HC := jJ0 (fun W (hO : Old w W) A c (hx : Rd W 1 A l.length (l.map bv)) => fin9_any W (hg.old hO) (Nat.le_trans h8 hO.size) A l.length c l hx)
  have HI := jJ0 (fun W (hO : Old w W) => intactB W g B d l (hb.old hO) (hr.old hO) (by omega))
  have HSm := jJ0 (fun W A c A2 c2 (hx : Rd W 1 A (finB l).length ((finB l).map bv)) (hy : Rd W 1 A2 (finB l).length ((finB l).map bv)) (hn : (finB l).length <= 9223372036854775807) => same9_any W A A2 _ c c2 (finB l) rfl hx hy hn)
  have Hr := jJ0 hr
  have Hone := jJ0 (vQ l)
  have J63 := jJ0 (show 0 + l.length <= maxLen by unfold maxLen; omega)
  have J47 := jJ0 (show (0 + l.length) * 1 <= 140737488355328 by omega)
  have hbq := beq_self_bool (finK l)
  clear hg h8 hb hr hpre hl
  unfold FinW at HF HC
  generalize finB l = R at *
  generalize finK l = ok at *
  go_enter Tryz.func42, Tryz.ntmps42
  go_wp2_with (first | (go_at_call 112; refine (HI.out _ HO6.out).mono ?_; rintro e w7 ⟨rfl, ho⟩; have HO7 := jJ0 (HO6.out.trans ho (fun _ _ e => e)); clear ho) | (go_at_call 16; refine (HSm.out _ _ _ _ _ (HX1.out.old O15.out) (HX3.out.old O35.out) HN.out).mono ?_; rintro e w6 ⟨rfl, ho⟩; have HO6 := jJ0 (HO5.out.trans ho (fun _ _ e => e)); clear ho) | (go_at_call 16; refine (HSm.out _ _ _ _ _ (HX1.out.old O14.out) (HX2.out.old O24.out) HN.out).mono ?_; rintro e w5 ⟨rfl, ho⟩; have HO5 := jJ0 (HO4.out.trans ho (fun _ _ e => e)); have O15 := jJ0 (O14.out.trans ho (fun _ _ e => e)); have O35 := jJ0 (ho : Old w4 w5); clear ho) | (go_at_call 27; refine (HF.out _ HO3.out).mono ?_; rintro e w4 ⟨A4, c4, rfl, hx, _, ho⟩; have HX3 := jJ0 hx; have HO4 := jJ0 (HO3.out.trans ho (fun _ _ e => e)); have O14 := jJ0 (O13.out.trans ho (fun _ _ e => e)); have O24 := jJ0 (ho : Old w3 w4); clear hx ho) | (go_at_call 27; refine (HC.out _ HOA.out _ _ (Rd.of_own HOwn.out)).mono ?_; rintro e w3 ⟨A3, c3, rfl, hx, _, ho⟩; have HX2 := jJ0 hx; have HO3 := jJ0 (HOA.out.trans ho (fun _ _ e => e)); have O13 := jJ0 (O1A.out.trans ho (fun _ _ e => e)); clear hx ho) | (at_builtin; refine jF _ rfl (.const (.slice none 0 0)) (.tmp 24) 33 rfl w2.heap.size 5 i0 (.int .u8 0) 1 1 Tryz.underlying33 hi hz0 hz1 hz2 rfl (by decide) (.slice none 0 0) 0 [] rfl (World.ownsRow_nil _ _ _ _) B l.length d (l.map bv) rfl (Hr.out.old HO2.out) Hone.out J63.out J47.out (Nat.le_refl _) ?_; intro Ac cc wa hown hgrow hat; rw [Nat.zero_add, List.nil_append] at hown; rw [Nat.zero_add]; have hoa : Old w2 wa := Kp.grown (Kp.refl _ _) hgrow (fun _ e _ => by cases e); have HOwn := jJ0 hown; have HOA := jJ0 (HO2.out.trans hoa (fun _ _ e => e)); have O1A := jJ0 (O12.out.trans hoa (fun _ _ e => e)); clear hown hgrow hat hoa) | (go_at_call 112; refine (HI.out _ HO1.out).mono ?_; rintro e w2 ⟨rfl, ho⟩; have HO2 := jJ0 (HO1.out.trans ho (fun _ _ e => e)); have O12 := jJ0 (ho : Old w1 w2); clear ho) | (go_at_call 27; refine (HF.out _ (Kp.refl _ _)).mono ?_; rintro e w1 ⟨A1, c1, rfl, hx, hn, ho⟩; have HX1 := jJ0 hx; have HN := jJ0 hn; have HO1 := jJ0 ho; clear hx ho hn) | fail)
  go_ret
  exact ⟨rfl, HO7.out⟩
end Go.Proofs.YtmmjcbbogokmfaaGreatDoor

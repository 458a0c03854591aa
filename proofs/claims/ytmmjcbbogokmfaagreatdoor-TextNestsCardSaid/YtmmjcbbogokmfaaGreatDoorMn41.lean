import Derived.Test.YtmmjcbbogokmfaaGreatDoorMn22
import Derived.Test.YtmmjcbbogokmfaaGreatDoorMn38
import Derived.Test.YtmmjcbbogokmfaaGreatDoorMn39
import Derived.Test.YtmmjcbbogokmfaaGreatDoorMn40
import Derived.Lib.SlBytesConst
import Derived.Maps.AppendAt
import Derived.Lib.AppendStr
/- Contract of text.Finish. -/
namespace Go.Proofs.YtmmjcbbogokmfaaGreatDoor
open Go.RowKit

/-- what Finish tells -/
def FinT (w : World) (o : Option (List UInt8)) (e : Ending) (w' : World) : Prop :=
  match o with
  | none => e = .returned (.tuple #[.slice none 0 0, .bool false]) ∧ Old w w'
  | some l => ∃ A c, e = .returned (.tuple #[.slice A l.length c, .bool true]) ∧ w'.ownsRow w.heap.size 5 1 (.slice A l.length c) l.length (l.map bv) ∧ Old w w'
set_option maxRecDepth 100000 in
set_option maxHeartbeats 1600000 in
theorem finish_any (w : World) (hg : Sg w) (h8 : 8 ≤ w.heap.size) (A : Option Addr) (n c : Nat) (l : List UInt8) (hr : Rd w 1 A n (l.map bv)) :
    Calls Tryz.prog 27 #[.slice A n c] w (FinT w (finishN l)) := by
  have hn : l.length = n := by simpa using hr.1
  unfold finishN
  by_cases hs : l.length ≤ 60000
  · rw [if_pos hs]
    have hcv := run_conv_bs (P := Tryz.prog) (w := w) Tryz.underlying33 Tryz.underlying5 Tryz.underlying9 A n c l hr
    have hB := begun_any w hg ⟨l.toArray⟩ (by rw [← sb_length, sb_mk]; exact hs) h8
    rw [sb_mk] at hB
    have HF := Lib.hid (fun m (hm : begunN l = .ok m) => And.intro (begun_fin hm) (begun_len hm))
    have b1 : ¬ (60000 : Int) < (n : Int) := by omega
    have Hg := Lib.hid hg
    have Hsx := Lib.hid (show sb (⟨l.toArray⟩ : ByteArray) = l from sb_mk l)
    have Hs := Lib.hid hs
    clear hg hs hr
    generalize hX : begunN l = X at *
    generalize (⟨l.toArray⟩ : ByteArray) = src at *
    cases X with
    | error k =>
      have HB := Lib.hid hB
      clear hB hX HF
      simp only
      go_enter Tryz.func27, Tryz.ntmps27
      go_wp2_with (go_at_call 76; refine HB.out.mono ?_; rintro e w1 ⟨p, rfl, ho⟩; have HO := Lib.hid ho; clear ho)
      go_ret2
      exact ⟨rfl, HO.out⟩
    | ok m =>
      have HB := Lib.hid hB
      have hk := (HF.out m rfl).1
      have hml := (HF.out m rfl).2
      rw [← Hsx.out] at hk
      have HN := Lib.hid (fun W g r A c (hM : Mac W g r src m A c) (hO : Old w W) => finished_any W (Hg.out.old hO) g r src m A c hM (by have := Hs.out; omega) (by rw [← sb_length, Hsx.out]; have := Hs.out; omega) hk)
      rw [Hsx.out] at HN
      clear hB hX HF hk hml
      simp only
      generalize finishedN l m = R at *
      go_enter Tryz.func27, Tryz.ntmps27
      go_wp2_with (first | (go_at_call 76; refine HB.out.mono ?_; rintro e w1 ⟨g, r, A1, c1, rfl, hM, ho, _, _⟩; have HO := Lib.hid ho; have HM := Lib.hid hM; clear ho hM) | (go_at_call 79; refine (HN.out _ _ _ _ _ HM.out HO.out).mono ?_; rintro e w2 ⟨p, rfl, hp, ho, hlen⟩; have HO2 := Lib.hid (HO.out.old ho); have HP := Lib.hid hp; clear ho hp) | (go_at_call 80; refine (rbytes_any _ p R HP.out (by omega)).mono ?_; rintro e w3 ⟨A3, c3, rfl, hown, ho⟩; have HO3 := Lib.hid (HO2.out.old ho); have HOwn := Lib.hid (own_low hown HO2.out.size); clear ho hown))
      go_ret2
      exact ⟨A3, c3, rfl, HOwn.out, HO3.out⟩
  · rw [if_neg hs]
    have b1 : (60000 : Int) < (n : Int) := by omega
    clear hs hg hr
    go_enter Tryz.func27, Tryz.ntmps27
    go_wp2
    go_ret2
    exact ⟨rfl, Kp.refl _ _⟩
end Go.Proofs.YtmmjcbbogokmfaaGreatDoor

/- Contract of docketlaw9.known: the closed example holds. -/
namespace Go.Proofs.YtmmjcbbogokmfaaGreatDoor
open Go.RowKit

theorem rd_new (w : World) (T : TypeId) (fr : Nat × Nat) (xs : List Value) (n : Nat) (hn : xs.length = n) : Rd (w.alloc (.cells xs.toArray T fr)) 1 (some ⟨w.heap.size, 0, none⟩) n xs :=
  ⟨by rw [hn, Nat.mul_one], fun _ => ⟨w.heap.size, 0, rfl, fun j u hu => by rw [Nat.zero_add, World.cell?_alloc_mark, List.getElem?_toArray]; exact hu⟩⟩
theorem same9_any (w : World) (A B : Option Addr) (n c d : Nat) (l : List UInt8) (hn : l.length = n) (hx : Rd w 1 A n (l.map bv)) (hy : Rd w 1 B n (l.map bv)) (hl : n ≤ 9223372036854775807) :
    Calls Tryz.prog 16 #[.slice A n c, .slice B n d] w fun e w' => e = .returned (.bool true) ∧ Old w w' := by
  subst hn
  have H := Lib.hid (sameB w A B c d l hx hy hl)
  clear hx hy hl
  go_enter Tryz.func16, Tryz.ntmps16
  go_wp2_with (first | (go_at_call 61; refine H.out.mono ?_; rintro e w1 ⟨rfl, ho⟩; have HO := Lib.hid ho; clear ho) | fail)
  go_ret
  exact ⟨rfl, HO.out⟩
theorem kT_v : kT.map bv = [Value.int .u8 116, Value.int .u8 121, Value.int .u8 112, Value.int .u8 101, Value.int .u8 32, Value.int .u8 97, Value.int .u8 32, Value.int .u8 123, Value.int .u8 32, Value.int .u8 109, Value.int .u8 105, Value.int .u8 108, Value.int .u8 101, Value.int .u8 115, Value.int .u8 116, Value.int .u8 111, Value.int .u8 110, Value.int .u8 101, Value.int .u8 32, Value.int .u8 109, Value.int .u8 32, Value.int .u8 114, Value.int .u8 101, Value.int .u8 97, Value.int .u8 99, Value.int .u8 104, Value.int .u8 101, Value.int .u8 100, Value.int .u8 32, Value.int .u8 119, Value.int .u8 104, Value.int .u8 101, Value.int .u8 110, Value.int .u8 32, Value.int .u8 110, Value.int .u8 111, Value.int .u8 116, Value.int .u8 32, Value.int .u8 98, Value.int .u8 32, Value.int .u8 61, Value.int .u8 32, Value.int .u8 49, Value.int .u8 50, Value.int .u8 32, Value.int .u8 59, Value.int .u8 32, Value.int .u8 125] := rfl
theorem kP_v : kP.map bv = [Value.int .u8 116, Value.int .u8 121, Value.int .u8 112, Value.int .u8 101, Value.int .u8 32, Value.int .u8 97, Value.int .u8 32, Value.int .u8 123, Value.int .u8 10, Value.int .u8 109, Value.int .u8 105, Value.int .u8 108, Value.int .u8 101, Value.int .u8 115, Value.int .u8 116, Value.int .u8 111, Value.int .u8 110, Value.int .u8 101, Value.int .u8 32, Value.int .u8 109, Value.int .u8 32, Value.int .u8 114, Value.int .u8 101, Value.int .u8 97, Value.int .u8 99, Value.int .u8 104, Value.int .u8 101, Value.int .u8 100, Value.int .u8 32, Value.int .u8 119, Value.int .u8 104, Value.int .u8 101, Value.int .u8 110, Value.int .u8 32, Value.int .u8 110, Value.int .u8 111, Value.int .u8 116, Value.int .u8 32, Value.int .u8 98, Value.int .u8 32, Value.int .u8 61, Value.int .u8 32, Value.int .u8 49, Value.int .u8 50, Value.int .u8 32, Value.int .u8 59, Value.int .u8 10, Value.int .u8 125, Value.int .u8 10] := rfl
theorem kB_v : kB.map bv = [Value.int .u8 116, Value.int .u8 121, Value.int .u8 112, Value.int .u8 101, Value.int .u8 32, Value.int .u8 105, Value.int .u8 110, Value.int .u8 32, Value.int .u8 123, Value.int .u8 32, Value.int .u8 115, Value.int .u8 116, Value.int .u8 97, Value.int .u8 103, Value.int .u8 101, Value.int .u8 32, Value.int .u8 115, Value.int .u8 116, Value.int .u8 97, Value.int .u8 103, Value.int .u8 101] := rfl
theorem kF_v : kF.map bv = [Value.int .u8 116, Value.int .u8 121, Value.int .u8 112, Value.int .u8 101, Value.int .u8 32, Value.int .u8 97, Value.int .u8 32, Value.int .u8 123, Value.int .u8 32, Value.int .u8 115, Value.int .u8 116] := rfl
theorem kE_v : kE.map bv = [Value.int .u8 97, Value.int .u8 103, Value.int .u8 101, Value.int .u8 9, Value.int .u8 97, Value.int .u8 123, Value.int .u8 125, Value.int .u8 125] := rfl
theorem old_of {w W W1 : World} (h : Old w W) (hk : Kp (fromB W.heap.size) W W1) : Old w W1 := h.trans (hk.mono (fun b hb e => by have : W.heap.size ≤ b := e; omega)) (fun _ _ e => e)
theorem kParse (w : World) (hg : Sg w) (h8 : 8 ≤ w.heap.size) : ∃ r, Small r ∧ Calls Tryz.prog 26 #[.slice (some ⟨w.heap.size, 0, none⟩) 48 48] (w.alloc (.cells #[.int .u8 116, .int .u8 121, .int .u8 112, .int .u8 101, .int .u8 32, .int .u8 97, .int .u8 32, .int .u8 123, .int .u8 32, .int .u8 109, .int .u8 105, .int .u8 108, .int .u8 101, .int .u8 115, .int .u8 116, .int .u8 111, .int .u8 110, .int .u8 101, .int .u8 32, .int .u8 109, .int .u8 32, .int .u8 114, .int .u8 101, .int .u8 97, .int .u8 99, .int .u8 104, .int .u8 101, .int .u8 100, .int .u8 32, .int .u8 119, .int .u8 104, .int .u8 101, .int .u8 110, .int .u8 32, .int .u8 110, .int .u8 111, .int .u8 116, .int .u8 32, .int .u8 98, .int .u8 32, .int .u8 61, .int .u8 32, .int .u8 49, .int .u8 50, .int .u8 32, .int .u8 59, .int .u8 32, .int .u8 125] 5 (48, 48 + 1))) (ParOk (w.alloc (.cells #[.int .u8 116, .int .u8 121, .int .u8 112, .int .u8 101, .int .u8 32, .int .u8 97, .int .u8 32, .int .u8 123, .int .u8 32, .int .u8 109, .int .u8 105, .int .u8 108, .int .u8 101, .int .u8 115, .int .u8 116, .int .u8 111, .int .u8 110, .int .u8 101, .int .u8 32, .int .u8 109, .int .u8 32, .int .u8 114, .int .u8 101, .int .u8 97, .int .u8 99, .int .u8 104, .int .u8 101, .int .u8 100, .int .u8 32, .int .u8 119, .int .u8 104, .int .u8 101, .int .u8 110, .int .u8 32, .int .u8 110, .int .u8 111, .int .u8 116, .int .u8 32, .int .u8 98, .int .u8 32, .int .u8 61, .int .u8 32, .int .u8 49, .int .u8 50, .int .u8 32, .int .u8 59, .int .u8 32, .int .u8 125] 5 (48, 48 + 1))) ⟨kT.toArray⟩ r) := by
  obtain ⟨m, hb, hm⟩ := kT_ok
  obtain ⟨r, hr⟩ := Option.isSome_iff_exists.1 kT_some
  have ho := (Kp.refl NoX w).alloc (.cells #[.int .u8 116, .int .u8 121, .int .u8 112, .int .u8 101, .int .u8 32, .int .u8 97, .int .u8 32, .int .u8 123, .int .u8 32, .int .u8 109, .int .u8 105, .int .u8 108, .int .u8 101, .int .u8 115, .int .u8 116, .int .u8 111, .int .u8 110, .int .u8 101, .int .u8 32, .int .u8 109, .int .u8 32, .int .u8 114, .int .u8 101, .int .u8 97, .int .u8 99, .int .u8 104, .int .u8 101, .int .u8 100, .int .u8 32, .int .u8 119, .int .u8 104, .int .u8 101, .int .u8 110, .int .u8 32, .int .u8 110, .int .u8 111, .int .u8 116, .int .u8 32, .int .u8 98, .int .u8 32, .int .u8 61, .int .u8 32, .int .u8 49, .int .u8 50, .int .u8 32, .int .u8 59, .int .u8 32, .int .u8 125] 5 (48, 48 + 1))
  exact ⟨r, small_of hr, parse_ok _ (hg.old ho) (Nat.le_trans h8 ho.size) _ _ _ kT (rd_new w 5 (48, 48 + 1) (kT.map bv) 48 rfl) (by decide) m hb hm 100 r hr⟩
theorem kParseB (w : World) (hg : Sg w) (h8 : 8 ≤ w.heap.size) : Calls Tryz.prog 26 #[.slice (some ⟨w.heap.size, 0, none⟩) 21 21] (w.alloc (.cells #[.int .u8 116, .int .u8 121, .int .u8 112, .int .u8 101, .int .u8 32, .int .u8 105, .int .u8 110, .int .u8 32, .int .u8 123, .int .u8 32, .int .u8 115, .int .u8 116, .int .u8 97, .int .u8 103, .int .u8 101, .int .u8 32, .int .u8 115, .int .u8 116, .int .u8 97, .int .u8 103, .int .u8 101] 5 (21, 21 + 1))) (ParBad (w.alloc (.cells #[.int .u8 116, .int .u8 121, .int .u8 112, .int .u8 101, .int .u8 32, .int .u8 105, .int .u8 110, .int .u8 32, .int .u8 123, .int .u8 32, .int .u8 115, .int .u8 116, .int .u8 97, .int .u8 103, .int .u8 101, .int .u8 32, .int .u8 115, .int .u8 116, .int .u8 97, .int .u8 103, .int .u8 101] 5 (21, 21 + 1))) 7 90) := by
  have ho := (Kp.refl NoX w).alloc (.cells #[.int .u8 116, .int .u8 121, .int .u8 112, .int .u8 101, .int .u8 32, .int .u8 105, .int .u8 110, .int .u8 32, .int .u8 123, .int .u8 32, .int .u8 115, .int .u8 116, .int .u8 97, .int .u8 103, .int .u8 101, .int .u8 32, .int .u8 115, .int .u8 116, .int .u8 97, .int .u8 103, .int .u8 101] 5 (21, 21 + 1))
  exact parse_bad _ (hg.old ho) (Nat.le_trans h8 ho.size) _ _ _ kB (rd_new w 5 (21, 21 + 1) (kB.map bv) 21 rfl) (by decide) 7 kB_bad
theorem kFinish (w : World) (hg : Sg w) (h8 : 8 ≤ w.heap.size) : Calls Tryz.prog 27 #[.slice (some ⟨w.heap.size, 0, none⟩) 11 11] (w.alloc (.cells #[.int .u8 116, .int .u8 121, .int .u8 112, .int .u8 101, .int .u8 32, .int .u8 97, .int .u8 32, .int .u8 123, .int .u8 32, .int .u8 115, .int .u8 116] 5 (11, 11 + 1))) fun e w' => ∃ A c, e = .returned (.tuple #[.slice A 8 c, .bool true]) ∧ Rd w' 1 A 8 (kE.map bv) ∧ Old w w' := by
  have ho := (Kp.refl NoX w).alloc (.cells #[.int .u8 116, .int .u8 121, .int .u8 112, .int .u8 101, .int .u8 32, .int .u8 97, .int .u8 32, .int .u8 123, .int .u8 32, .int .u8 115, .int .u8 116] 5 (11, 11 + 1))
  have h := finish_any _ (hg.old ho) (Nat.le_trans h8 ho.size) _ 11 11 kF (rd_new w 5 (11, 11 + 1) (kF.map bv) 11 rfl)
  rw [kF_run] at h
  refine h.mono ?_
  rintro e w' ⟨A, c, he, hown, ho2⟩
  exact ⟨A, c, he, Rd.of_own hown, ho.trans ho2 (fun _ _ e => e)⟩
theorem kSame (w : World) (s : List UInt8) (xs : Array Value) (hxs : xs = (s.map bv).toArray) (n : Nat) (hn : s.length = n) (hl : n ≤ 9223372036854775807) (A : Option Addr) (c : Nat) (hx : Rd w 1 A n (s.map bv)) (k : Nat) (hk : k = w.heap.size) :
    Calls Tryz.prog 16 #[.slice A n c, .slice (some ⟨k, 0, none⟩) n n] (w.alloc (.cells xs 5 (n, n + 1))) fun e w' => e = .returned (.bool true) ∧ Old w w' := by
  subst hxs
  subst hk
  have ho := (Kp.refl NoX w).alloc (.cells (s.map bv).toArray 5 (n, n + 1))
  exact (same9_any _ A _ n c n s hn (hx.old ho) (rd_new w 5 (n, n + 1) (s.map bv) n (by rw [List.length_map]; exact hn)) hl).mono (fun e w' h => ⟨h.1, ho.trans h.2 (fun _ _ e => e)⟩)
theorem legal_a1 : legalB (sb ⟨#[97, 95, 49]⟩) = true := by decide +kernel
theorem legal_in : legalB (sb ⟨#[105, 110]⟩) = false := by decide +kernel
theorem right_4 (w : World) (hg : Sg w) : Calls Tryz.prog 22 #[.agg #[.int .i64 4, .string ⟨#[]⟩, .int .i64 0, .int .i64 0, .string ⟨#[]⟩, .slice none 0 0, .slice none 0 0]] w fun e w' => e = .returned (.bool true) ∧ Old w w' :=
  right_any w hg ⟨⟨4, ⟨#[]⟩, 0, 0, ⟨#[]⟩, [], []⟩, none, 0, none, 0⟩
theorem right_34 (w : World) (hg : Sg w) : Calls Tryz.prog 22 #[.agg #[.int .i64 34, .string ⟨#[]⟩, .int .i64 0, .int .i64 0, .string ⟨#[]⟩, .slice none 0 0, .slice none 0 0]] w fun e w' => e = .returned (.bool false) ∧ Old w w' :=
  right_any w hg ⟨⟨34, ⟨#[]⟩, 0, 0, ⟨#[]⟩, [], []⟩, none, 0, none, 0⟩
theorem small_cells {r : Rdr} (h : Small r) (s : Sl) : (treeC r.tree s).toArray = #[.string ⟨#[97]⟩, .int .i64 5, .slice s.aA 0 s.ac, .slice s.gA 0 s.gc, .slice s.mA 1 s.mc, .slice s.pA 0 s.pc, .slice s.nA 4 s.nc, .slice s.oA 4 s.oc] := by
  obtain ⟨m, hm, _⟩ := h.mile
  unfold treeC iv
  rw [h.name, h.at_, h.attrs, h.stages, hm, h.steps, h.len, h.ats]
  rfl
theorem small_rows {w : World} {g : Nat} {src : ByteArray} {r : Rdr} {s : Sl} (hs : Small r) (h : St w g src r s) : ∃ b1 o1 b2 o2 b3 o3, s.mA = some ⟨b1, o1, none⟩ ∧ w.cell? ⟨b1, o1 + 5, none⟩ = some (.int .i64 3) ∧ s.nA = some ⟨b2, o2, none⟩ ∧ w.cell? ⟨b2, o2 + 21, none⟩ = some (.int .i64 8) ∧ w.cell? ⟨b2, o2 + 10, none⟩ = some (.int .i64 12) ∧ s.oA = some ⟨b3, o3, none⟩ ∧ w.cell? ⟨b3, o3 + 2, none⟩ = some (.int .i64 40) := by
  obtain ⟨ns, ps, TD⟩ := small_trd hs h
  obtain ⟨ns', ps', R⟩ := h.rows
  obtain ⟨m, hm, hw⟩ := hs.mile
  obtain ⟨b1, o1, hA1, hc1⟩ := rec_cell (C := miC) (fun x => rfl) TD.rM (k := 0) (x := m) (by rw [hm]; rfl) (by rw [hm]; exact Nat.one_pos)
  obtain ⟨n3, hn3, e3⟩ := hs.op3
  obtain ⟨n1, hn1, e1⟩ := hs.vn1
  obtain ⟨x3, b2, o2, _, ex3, hA2, hc2, _, _⟩ := TD.nd.at_ hn3
  obtain ⟨x1, b2', o2', _, ex1, hA2', hc2', _, _⟩ := TD.nd.at_ hn1
  rw [hA2] at hA2'
  injection hA2' with hA2'
  injection hA2' with q1 q2
  subst q1
  subst q2
  obtain ⟨b3, o3, hA3, hc3⟩ := (Rd.of_own R.rO).2 (by rw [hs.ats]; decide)
  have c1 := hc1 5 (iv m.when_) rfl
  have c2 := hc2 0 (iv x3.n.op) rfl
  have c3 := hc2' 3 (iv x1.n.vn) rfl
  have c4 := hc3 2 (iv 40) (by rw [hs.ats]; rfl)
  rw [hw] at c1
  rw [ex3, e3] at c2
  rw [ex1, e1] at c3
  exact ⟨b1, o1, b2, o2, b3, o3, hA1, c1, hA2, c2, c3, hA3, c4⟩
theorem kPrint (W : World) (hg : Sg W) (h8 : 8 ≤ W.heap.size) {g : Nat} {src : ByteArray} {r : Rdr} {s : Sl} (hs : Small r) (h : St W g src r s) :
    Calls Tryz.prog 14 #[.agg (treeC r.tree s).toArray] W fun e W' => ∃ A c, e = .returned (.tuple #[.slice A 49 c, .int .i64 0]) ∧ Rd W' 1 A 49 (kP.map bv) ∧ Old W W' := by
  obtain ⟨ns, ps, TD⟩ := small_trd hs h
  have hp := hs.prints
  unfold printN at hp
  split at hp
  · rename_i hfit
    refine (print_yes W hg h8 r.tree s ns ps TD (prt_small hg h8 hs TD) hfit kP hp (by decide)).mono ?_
    rintro e W' ⟨A, c, he, hown, hk⟩
    exact ⟨A, c, he, Rd.of_own hown, old_of (Kp.refl NoX W) hk⟩
  · cases hp
set_option maxRecDepth 100000 in
set_option maxHeartbeats 12800000 in
theorem known_any (w : World) (hg : Sg w) (h8 : 8 ≤ w.heap.size) : Calls Tryz.prog 12 #[] w fun e w' => e = .returned (.bool true) ∧ Old w w' := by
  obtain ⟨r, hs, hP⟩ := kParse w hg h8
  have HP := Lib.hid hP
  have Hg := Lib.hid hg
  have H8 := Lib.hid h8
  have HS := Lib.hid hs
  have HPB := Lib.hid (fun W (hO : Old w W) => kParseB W (hg.old hO) (Nat.le_trans h8 hO.size))
  have HFn := Lib.hid (fun W (hO : Old w W) => kFinish W (hg.old hO) (Nat.le_trans h8 hO.size))
  have HSP := Lib.hid (fun W A c (hx : Rd W 1 A 49 (kP.map bv)) k (hk : k = W.heap.size) => kSame W kP #[.int .u8 116, .int .u8 121, .int .u8 112, .int .u8 101, .int .u8 32, .int .u8 97, .int .u8 32, .int .u8 123, .int .u8 10, .int .u8 109, .int .u8 105, .int .u8 108, .int .u8 101, .int .u8 115, .int .u8 116, .int .u8 111, .int .u8 110, .int .u8 101, .int .u8 32, .int .u8 109, .int .u8 32, .int .u8 114, .int .u8 101, .int .u8 97, .int .u8 99, .int .u8 104, .int .u8 101, .int .u8 100, .int .u8 32, .int .u8 119, .int .u8 104, .int .u8 101, .int .u8 110, .int .u8 32, .int .u8 110, .int .u8 111, .int .u8 116, .int .u8 32, .int .u8 98, .int .u8 32, .int .u8 61, .int .u8 32, .int .u8 49, .int .u8 50, .int .u8 32, .int .u8 59, .int .u8 10, .int .u8 125, .int .u8 10] rfl 49 rfl (by decide) A c hx k hk)
  have HSE := Lib.hid (fun W A c (hx : Rd W 1 A 8 (kE.map bv)) k (hk : k = W.heap.size) => kSame W kE #[.int .u8 97, .int .u8 103, .int .u8 101, .int .u8 9, .int .u8 97, .int .u8 123, .int .u8 125, .int .u8 125] rfl 8 rfl (by decide) A c hx k hk)
  have HL1 := Lib.hid (fun W (hO : Old w W) => legal_any9 W (hg.old hO) ⟨#[97, 95, 49]⟩)
  have HL2 := Lib.hid (fun W (hO : Old w W) => legal_any9 W (hg.old hO) ⟨#[105, 110]⟩)
  rw [legal_a1] at HL1
  rw [legal_in] at HL2
  have HR4 := Lib.hid (fun W (hO : Old w W) => right_4 W (hg.old hO))
  have HR34 := Lib.hid (fun W (hO : Old w W) => right_34 W (hg.old hO))
  have hc0 := fun (W : World) => (show (convert 33 33 (.slice (some ⟨W.heap.size, 0, none⟩) 48 48)).run Tryz.prog (W.alloc (.cells #[.int .u8 116, .int .u8 121, .int .u8 112, .int .u8 101, .int .u8 32, .int .u8 97, .int .u8 32, .int .u8 123, .int .u8 32, .int .u8 109, .int .u8 105, .int .u8 108, .int .u8 101, .int .u8 115, .int .u8 116, .int .u8 111, .int .u8 110, .int .u8 101, .int .u8 32, .int .u8 109, .int .u8 32, .int .u8 114, .int .u8 101, .int .u8 97, .int .u8 99, .int .u8 104, .int .u8 101, .int .u8 100, .int .u8 32, .int .u8 119, .int .u8 104, .int .u8 101, .int .u8 110, .int .u8 32, .int .u8 110, .int .u8 111, .int .u8 116, .int .u8 32, .int .u8 98, .int .u8 32, .int .u8 61, .int .u8 32, .int .u8 49, .int .u8 50, .int .u8 32, .int .u8 59, .int .u8 32, .int .u8 125] 5)) = .ok (.slice (some ⟨W.heap.size, 0, none⟩) 48 48) (W.alloc (.cells #[.int .u8 116, .int .u8 121, .int .u8 112, .int .u8 101, .int .u8 32, .int .u8 97, .int .u8 32, .int .u8 123, .int .u8 32, .int .u8 109, .int .u8 105, .int .u8 108, .int .u8 101, .int .u8 115, .int .u8 116, .int .u8 111, .int .u8 110, .int .u8 101, .int .u8 32, .int .u8 109, .int .u8 32, .int .u8 114, .int .u8 101, .int .u8 97, .int .u8 99, .int .u8 104, .int .u8 101, .int .u8 100, .int .u8 32, .int .u8 119, .int .u8 104, .int .u8 101, .int .u8 110, .int .u8 32, .int .u8 110, .int .u8 111, .int .u8 116, .int .u8 32, .int .u8 98, .int .u8 32, .int .u8 61, .int .u8 32, .int .u8 49, .int .u8 50, .int .u8 32, .int .u8 59, .int .u8 32, .int .u8 125] 5 (48, 48 + 1))) from Lib.run_convert_bytes_const W 33 5 _ _ _ Tryz.underlying33 Tryz.underlying5)
  have hc1 := fun (W : World) => (show (convert 33 33 (.slice (some ⟨W.heap.size, 0, none⟩) 49 49)).run Tryz.prog (W.alloc (.cells #[.int .u8 116, .int .u8 121, .int .u8 112, .int .u8 101, .int .u8 32, .int .u8 97, .int .u8 32, .int .u8 123, .int .u8 10, .int .u8 109, .int .u8 105, .int .u8 108, .int .u8 101, .int .u8 115, .int .u8 116, .int .u8 111, .int .u8 110, .int .u8 101, .int .u8 32, .int .u8 109, .int .u8 32, .int .u8 114, .int .u8 101, .int .u8 97, .int .u8 99, .int .u8 104, .int .u8 101, .int .u8 100, .int .u8 32, .int .u8 119, .int .u8 104, .int .u8 101, .int .u8 110, .int .u8 32, .int .u8 110, .int .u8 111, .int .u8 116, .int .u8 32, .int .u8 98, .int .u8 32, .int .u8 61, .int .u8 32, .int .u8 49, .int .u8 50, .int .u8 32, .int .u8 59, .int .u8 10, .int .u8 125, .int .u8 10] 5)) = .ok (.slice (some ⟨W.heap.size, 0, none⟩) 49 49) (W.alloc (.cells #[.int .u8 116, .int .u8 121, .int .u8 112, .int .u8 101, .int .u8 32, .int .u8 97, .int .u8 32, .int .u8 123, .int .u8 10, .int .u8 109, .int .u8 105, .int .u8 108, .int .u8 101, .int .u8 115, .int .u8 116, .int .u8 111, .int .u8 110, .int .u8 101, .int .u8 32, .int .u8 109, .int .u8 32, .int .u8 114, .int .u8 101, .int .u8 97, .int .u8 99, .int .u8 104, .int .u8 101, .int .u8 100, .int .u8 32, .int .u8 119, .int .u8 104, .int .u8 101, .int .u8 110, .int .u8 32, .int .u8 110, .int .u8 111, .int .u8 116, .int .u8 32, .int .u8 98, .int .u8 32, .int .u8 61, .int .u8 32, .int .u8 49, .int .u8 50, .int .u8 32, .int .u8 59, .int .u8 10, .int .u8 125, .int .u8 10] 5 (49, 49 + 1))) from Lib.run_convert_bytes_const W 33 5 _ _ _ Tryz.underlying33 Tryz.underlying5)
  have hc2 := fun (W : World) => (show (convert 33 33 (.slice (some ⟨W.heap.size, 0, none⟩) 21 21)).run Tryz.prog (W.alloc (.cells #[.int .u8 116, .int .u8 121, .int .u8 112, .int .u8 101, .int .u8 32, .int .u8 105, .int .u8 110, .int .u8 32, .int .u8 123, .int .u8 32, .int .u8 115, .int .u8 116, .int .u8 97, .int .u8 103, .int .u8 101, .int .u8 32, .int .u8 115, .int .u8 116, .int .u8 97, .int .u8 103, .int .u8 101] 5)) = .ok (.slice (some ⟨W.heap.size, 0, none⟩) 21 21) (W.alloc (.cells #[.int .u8 116, .int .u8 121, .int .u8 112, .int .u8 101, .int .u8 32, .int .u8 105, .int .u8 110, .int .u8 32, .int .u8 123, .int .u8 32, .int .u8 115, .int .u8 116, .int .u8 97, .int .u8 103, .int .u8 101, .int .u8 32, .int .u8 115, .int .u8 116, .int .u8 97, .int .u8 103, .int .u8 101] 5 (21, 21 + 1))) from Lib.run_convert_bytes_const W 33 5 _ _ _ Tryz.underlying33 Tryz.underlying5)
  have hc3 := fun (W : World) => (show (convert 33 33 (.slice (some ⟨W.heap.size, 0, none⟩) 11 11)).run Tryz.prog (W.alloc (.cells #[.int .u8 116, .int .u8 121, .int .u8 112, .int .u8 101, .int .u8 32, .int .u8 97, .int .u8 32, .int .u8 123, .int .u8 32, .int .u8 115, .int .u8 116] 5)) = .ok (.slice (some ⟨W.heap.size, 0, none⟩) 11 11) (W.alloc (.cells #[.int .u8 116, .int .u8 121, .int .u8 112, .int .u8 101, .int .u8 32, .int .u8 97, .int .u8 32, .int .u8 123, .int .u8 32, .int .u8 115, .int .u8 116] 5 (11, 11 + 1))) from Lib.run_convert_bytes_const W 33 5 _ _ _ Tryz.underlying33 Tryz.underlying5)
  have hc4 := fun (W : World) => (show (convert 33 33 (.slice (some ⟨W.heap.size, 0, none⟩) 8 8)).run Tryz.prog (W.alloc (.cells #[.int .u8 97, .int .u8 103, .int .u8 101, .int .u8 9, .int .u8 97, .int .u8 123, .int .u8 125, .int .u8 125] 5)) = .ok (.slice (some ⟨W.heap.size, 0, none⟩) 8 8) (W.alloc (.cells #[.int .u8 97, .int .u8 103, .int .u8 101, .int .u8 9, .int .u8 97, .int .u8 123, .int .u8 125, .int .u8 125] 5 (8, 8 + 1))) from Lib.run_convert_bytes_const W 33 5 _ _ _ Tryz.underlying33 Tryz.underlying5)
  clear hP hg h8 hs
  go_enter Tryz.func12, Tryz.ntmps12
  go_wp2_with (first | (go_at_call 22; refine (HR34.out _ HO7.out).mono ?_; rintro e w8 ⟨rfl, ho⟩; have HO8 := Lib.hid (HO7.out.trans ho (fun _ _ e => e)); clear ho) | (go_at_call 22; refine (HR4.out _ HO6.out).mono ?_; rintro e w7 ⟨rfl, ho⟩; have HO7 := Lib.hid (HO6.out.trans ho (fun _ _ e => e)); clear ho) | (go_at_call 20; refine (HL2.out _ HO6.out).mono ?_; rintro e wl ⟨rfl, rfl⟩) | (go_at_call 20; refine (HL1.out _ HO6.out).mono ?_; rintro e wl ⟨rfl, rfl⟩) | (go_at_call 16; refine (HSE.out _ _ _ HX5.out _ rfl).mono ?_; rintro e w6 ⟨rfl, ho⟩; have HO6 := Lib.hid (HO5.out.trans ho (fun _ _ e => e)); clear ho) | (go_at_call 27; refine (HFn.out _ HO4.out).mono ?_; rintro e w5 ⟨A5, c5, rfl, hx, ho⟩; have HX5 := Lib.hid hx; have HO5 := Lib.hid (HO4.out.trans ho (fun _ _ e => e)); clear hx ho) | (go_at_call 26; refine (HPB.out _ HO3.out).mono ?_; rintro e w4 ⟨rfl, ho⟩; have HO4 := Lib.hid ((HO3.out.alloc _).trans ho (fun _ _ e => e)); clear ho; unfold iv) | (go_at_call 16; refine (HSP.out _ _ _ HX2.out _ rfl).mono ?_; rintro e w3 ⟨rfl, ho⟩; have HO3 := Lib.hid (HO2.out.trans ho (fun _ _ e => e)); clear ho) | (go_at_call 14; refine (HPr.out _).mono ?_; rintro e w2 ⟨A2, c2, rfl, hx, ho⟩; have HX2 := Lib.hid hx; have HO2 := Lib.hid ((HO1.out.alloc _).trans ho (fun _ _ e => e)); clear hx ho) | (go_at_call 26; refine HP.out.mono ?_; rintro e w1 ⟨g, s, rfl, hSt, ho, _⟩; have HO1 := Lib.hid (((Kp.refl NoX w).alloc _).trans ho (fun _ _ e => e) : Old w w1); have HPr := Lib.hid (fun o => kPrint (w1.alloc o) (Hg.out.old (HO1.out.alloc o)) (Nat.le_trans H8.out (HO1.out.alloc o).size) HS.out (hSt.old ((Kp.refl NoX w1).alloc o))); have hcl := small_cells HS.out s; rw [hcl]; obtain ⟨b1, o1, b2, o2, b3, o3, hA1, k1, hA2, k2, k3, hA3, k4⟩ := small_rows HS.out hSt; rw [hA1, hA2, hA3]; simp only [hcl, hA1, hA2, hA3] at HPr; have K1 := fun o => Lib.cell?_alloc_marked o k1; have K2 := fun o => Lib.cell?_alloc_marked o k2; have K3 := fun o => Lib.cell?_alloc_marked o k3; have K4 := fun o => Lib.cell?_alloc_marked o k4; unfold iv; clear hSt ho k1 k2 k3 k4) | fail)
  go_ret
  exact ⟨rfl, HO8.out⟩
end Go.Proofs.YtmmjcbbogokmfaaGreatDoor

/- append behind a row that is full (a literal's row, which is marked). -/
namespace Go.Proofs.YtmmjcbbogokmfaaGreatDoor
open Go.RowKit

section
variable {P : Program} (w : World)
theorem full_grown (base : Nat) (hbase : base ≤ w.heap.size) (e : TypeId) (z : Value) (hz1 : z.cells.size = 1) (n m : Nat) (xs news : List Value) (hx : xs.length = n) (hn : news.length = m) (h63 : n + m ≤ maxLen) :
    (w.drew.alloc (.cells (xs.toArray ++ news.toArray ++ Builtin.zeroCells z.cells (grownCap w (n + m) n e - (n + m))) e)).ownsRow base e 1 (.slice (some ⟨w.heap.size, 0, none⟩) (n + m) (grownCap w (n + m) n e)) (n + m) (xs ++ news) ∧
    Old w (w.drew.alloc (.cells (xs.toArray ++ news.toArray ++ Builtin.zeroCells z.cells (grownCap w (n + m) n e - (n + m))) e)) := by
  have hlen : (xs ++ news).length = (n + m) * 1 := by rw [List.length_append, hx, hn, Nat.mul_one]
  have hge := grownCap_ge w (n + m) n e
  have hcm : grownCap w (n + m) n e ≤ maxLen := grownCap_le_maxLen w (n + m) n e h63
  refine ⟨⟨hlen, .inr ⟨w.heap.size, _, _, rfl, hbase, heap_alloc_new w.drew _, hge, hcm, ?_, ?_⟩⟩, ((Kp.refl NoX w).drew).alloc _⟩
  · simp only [Array.size_append, List.size_toArray, size_zeroCells, hz1, hx, hn]
    omega
  · simp only [Array.toList_append, List.append_assoc]
    rw [← List.append_assoc, ← hlen]
    exact List.take_left
theorem rd_addr {b : Addr} {n : Nat} {xs : List Value} (hr : Rd w 1 (some b) n xs) : ∀ j u, xs[j]? = some u → w.cell? (b.add j) = some u := by
  intro j u hu
  rcases Nat.eq_zero_or_pos n with h0 | h0
  · have : xs = [] := List.eq_nil_of_length_eq_zero (by rw [hr.1, h0])
    subst this
    simp at hu
  · obtain ⟨b', o, h, hc⟩ := hr.2 h0
    injection h with h
    subst h
    rw [Addr.add_lit]
    exact hc j u hu
theorem wpList_full_str {ops : Array Oper} {rest : List Oper} {o : Oper} {a : Act} {Q : Exit → Act → World → Prop} (hgd : o.guard = none) (sl x : Operand) (t u : TypeId)
    (ho : o.op = .call { callee := .builtin .append, args := #[sl, x], argTypes := #[t, u] })
    (base : Nat) (e : TypeId) (i : TypeInfo) (ht : P.underlying t = some (.slice e)) (hu : P.underlying u = some .string) (hi : P.info? e = some i) (hz : i.zero = some (.int .u8 0))
    (hsize : i.size = 1) (hby : i.bytes = 1) (b : Addr) (n : Nat) (xs : List Value) (hs : a.eval sl = .slice (some b) n n) (hr : Rd w 1 (some b) n xs) (s : ByteArray) (hx : a.eval x = .string s) (hpos : 0 < s.size)
    (h63 : n + s.size ≤ maxLen) (hbytes : n + s.size ≤ 140737488355328) (hbase : base ≤ w.heap.size)
    (h : ∀ A' c' w', w'.ownsRow base e 1 (.slice A' (n + s.size) c') (n + s.size) (xs ++ (sb s).map bv) → Old w w' → wpList P ops Q rest (a.put o.dst (.slice A' (n + s.size) c')) w') : wpList P ops Q (o :: rest) a w := by
  refine wpList_plain hgd fun K hK => ?_
  have hxl : xs.length = n := by rw [hr.1, Nat.mul_one]
  have hrun := Lib.run_append_grow_string (P := P) w t u o.type e i (.int .u8 0) ht hu hi hz b n n xs (by rw [hsize, Nat.mul_one]; exact hxl) (rd_addr w hr) s (by omega) (by simp only [maxLen] at h63; omega) (by rw [hby]; exact growslice_fits (by omega) (by omega))
  have hg := full_grown w base hbase e (.int .u8 0) rfl n s.size xs (Lib.strCells s) hxl (Lib.strCells_length s) h63
  unfold Oper.wp execOp
  simp only [ho, resolve, invoke, builtin, Sem.run_bind, Sem.run_pure, Result.andThen_ok, List.map_toArray, List.map_cons, List.map_nil, hs, hx, hrun]
  exact hK _ _ (h _ _ _ hg.1 hg.2)
theorem wpList_full_any {ops : Array Oper} {rest : List Oper} {o : Oper} {a : Act} {Q : Exit → Act → World → Prop} (hgd : o.guard = none) (sl x : Operand) (t : TypeId)
    (ho : o.op = .call { callee := .builtin .append, args := #[sl, x], argTypes := #[t, t] })
    (base : Nat) (e : TypeId) (i : TypeInfo) (ht : P.underlying t = some (.slice e)) (hi : P.info? e = some i) (hz : i.zero = some (.int .u8 0))
    (hsize : i.size = 1) (hby : i.bytes = 1) (b : Addr) (n : Nat) (xs : List Value) (hs : a.eval sl = .slice (some b) n n) (hr : Rd w 1 (some b) n xs) (ad : Addr) (m c : Nat) (news : List Value) (hx : a.eval x = .slice (some ad) m c) (hn : Rd w 1 (some ad) m news) (hpos : 0 < m)
    (h63 : n + m ≤ maxLen) (hbytes : n + m ≤ 140737488355328) (hbase : base ≤ w.heap.size)
    (h : ∀ A' c' w', w'.ownsRow base e 1 (.slice A' (n + m) c') (n + m) (xs ++ news) → Old w w' → wpList P ops Q rest (a.put o.dst (.slice A' (n + m) c')) w') : wpList P ops Q (o :: rest) a w := by
  refine wpList_plain hgd fun K hK => ?_
  have hxl : xs.length = n := by rw [hr.1, Nat.mul_one]
  have hnl : news.length = m := by rw [hn.1, Nat.mul_one]
  have hrun := run_append_grow (P := P) w t o.type e i (.int .u8 0) ht hi hz b n n xs (by rw [hsize, Nat.mul_one]; exact hxl) (rd_addr w hr) ad m c news (by rw [hsize, Nat.mul_one]; exact hnl) (rd_addr w hn) (by omega) (by simp only [maxLen] at h63; omega) (by rw [hby]; exact growslice_fits (by omega) (by omega))
  have hg := full_grown w base hbase e (.int .u8 0) rfl n m xs news hxl hnl h63
  unfold Oper.wp execOp
  simp only [ho, resolve, invoke, builtin, Sem.run_bind, Sem.run_pure, Result.andThen_ok, List.map_toArray, List.map_cons, List.map_nil, hs, hx, hrun]
  exact hK _ _ (h _ _ _ hg.1 hg.2)
end
end Go.Proofs.YtmmjcbbogokmfaaGreatDoor

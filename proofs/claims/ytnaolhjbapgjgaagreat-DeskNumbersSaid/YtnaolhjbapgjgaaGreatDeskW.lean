/- Contracts of desk.text, desk.number. -/
import Derived.Test.YtnaolhjbapgjgaaGreatPutVal
namespace Go.Proofs.YtnaolhjbapgjgaaGreat
open Go.RowKit

/-- texts one behind the other, each behind its length in four bytes -/
def lps4 (l : List ByteArray) : List UInt8 := (l.map fun s => lp 4 (sb s)).flatten
theorem lps4_take_succ (l : List ByteArray) (k : Nat) (h : k < l.length) : lps4 (l.take (k + 1)) = lps4 (l.take k) ++ lp 4 (sb (l.getD k ByteArray.empty)) := by
  have e : l.getD k ByteArray.empty = l[k] := by simp [List.getD, List.getElem?_eq_getElem h]
  rw [e, List.take_succ_eq_append_getElem h]
  unfold lps4
  rw [List.map_append, List.flatten_append]
  congr 1
  simp
theorem lps4_length_le (l : List ByteArray) (m : Nat) : ∀ k, k ≤ l.length → (∀ j, j < k → (l.getD j ByteArray.empty).size ≤ m) → (lps4 (l.take k)).length ≤ k * (m + 4) := by
  intro k
  induction k with
  | zero => intro _ _; simp [lps4]
  | succ k ih =>
    intro hk h
    have h1 := ih (by omega) (fun j hj => h j (by omega))
    have h2 := h k (by omega)
    rw [lps4_take_succ l k (by omega), List.length_append, lp_length, sb_length, Nat.add_mul]
    omega

set_option maxRecDepth 100000 in
set_option maxHeartbeats 1600000 in
/-- text: k texts have been laid down; all of them, if it says true -/
def TextPost (w : World) (g : Nat) (r : Option Nat) (bs : List UInt8) (l : List ByteArray) (e : Ending) (w' : World) : Prop :=
  ∃ k, k ≤ l.length ∧ e = .returned (.bool (decide (k = l.length))) ∧ (∀ j, j < k → (l.getD j ByteArray.empty).size ≤ 4194304) ∧ (k < l.length → 4194304 < (l.getD k ByteArray.empty).size) ∧ WStep w g r w' (bs ++ lps4 (l.take k))

set_option maxRecDepth 100000 in
set_option maxHeartbeats 1600000 in
theorem dtext_any (w : World) (g : Nat) (r : Option Nat) (bs : List UInt8) (A : Option Addr) (c : Nat) (l : List ByteArray) (hW : Wr w g r bs) (hl : bs.length ≤ 700000000000)
    (hrd : Rd w 1 A l.length (l.map sv)) (hav : Av (WX g r) l.length A) (hn : l.length ≤ 1000) (hbig : ∀ k, k < l.length → (l.getD k ByteArray.empty).size ≤ 2147483647) :
    Calls Tryz.prog 21 #[.pointer (some ⟨g, 0, none⟩), .slice A l.length c] w (TextPost w g r bs l) := by
  have Hl := Lib.hid hl
  have Hbig := Lib.hid hbig
  clear hl hbig
  go_enter Tryz.func21, Tryz.ntmps21
  go_wp2
  go_loopw [9] (fun i wr => ∃ k : Nat, k ≤ l.length ∧ i = .int .i64 k ∧ (∀ j, j < k → (l.getD j ByteArray.empty).size ≤ 4194304) ∧ WStep w g r wr (bs ++ lps4 (l.take k))) (fun i _ => l.length - (intOf i).toNat)
  case atStart => exact ⟨0, by omega, rfl, fun j hj => by omega, by simpa [lps4] using hW.step⟩
  case round =>
    obtain ⟨k, hk, rfl, hsm, hst⟩ := hrel
    have hcl := lps4_length_le l 4194304 k hk hsm
    have Hsm := Lib.hid hsm
    clear hsm
    by_cases hlt : k < l.length
    · obtain ⟨r', hWr, hkp, hfr⟩ := hst
      obtain ⟨b, o, rfl, hy⟩ := (hrd.kp hkp hav).text (k := k) hlt
      have hcl : (bs ++ lps4 (l.take k)).length ≤ 800000000000 := by
        have := Hl.out
        rw [List.length_append]
        omega
      have hby := Hbig.out k hlt
      have Hfin := Lib.hid (show bs ++ lps4 (l.take (k + 1)) = (bs ++ lps4 (l.take k)) ++ lp 4 (sb (l.getD k ByteArray.empty)) by
        rw [lps4_take_succ l k hlt]; simp)
      generalize hyy : l.getD k ByteArray.empty = y at hy hby Hfin
      generalize hcc : bs ++ lps4 (l.take k) = cs at hWr hcl Hfin
      have Hyy := Lib.hid hyy
      have Hcc := Lib.hid hcc
      have Hcl := Lib.hid hcl
      clear hcl hyy hcc
      have b5 : (k : Int) ≤ 1000 := by omega
      go_wp2_with (first | (with_reducible refine at_conv 9 22 ?_; refine wpList_conv_sb _ Tryz.underlying9 Tryz.underlying22 Tryz.underlying5 y rfl ?_; intro A1 c1 w1 hrd1 ho1 hav1) | fail)
      have hW1 := hWr.old ho1
      have hav2 : Av (WX g r') y.size A1 := fun hn ad e hx => by
        have h1 := hav1 hn ad e
        exact wx_new hWr (by omega) hx
      by_cases hsz : y.size ≤ 4194304
      · refine (bytes_ok _ g r' cs A1 y.size _ (sb y) _ hW1 (Nat.le_trans Hcl.out (by decide)) hrd1 hav2 (by omega) (by omega)).mono ?_
        rintro e w2 ⟨rfl, hst⟩
        have Hst := Lib.hid (WStep.trans hkp hfr (WStep.trans (ho1.mono (Y := WX g r') (fun _ _ f => f.elim)) (.inl rfl) hst))
        clear hst
        go_wp2
        go_roundw
        case rel =>
          refine ⟨k + 1, by omega, by go_num, fun j hj => ?_, by rw [Hfin.out]; exact Hst.out⟩
          by_cases e : j = k
          · subst e; rw [Hyy.out]; exact hsz
          · exact Hsm.out j (by omega)
        case measure => simp [intOf]; omega
      · refine (bytes_long _ g A1 y.size _ _ (by omega) (by omega)).mono ?_
        rintro e w2 ⟨rfl, rfl⟩
        go_wp2
        go_ret
        refine ⟨k, hk, ret_eq (bool_eq (by simp; omega)), Hsm.out, fun _ => by rw [Hyy.out]; omega, ?_⟩
        rw [Hcc.out]
        exact WStep.trans hkp hfr (WStep.trans (ho1.mono (Y := WX g r') (fun _ _ f => f.elim)) (.inl rfl) hW1.step)
    · obtain rfl : k = l.length := by omega
      go_wp2
      go_ret
      exact ⟨l.length, hk, ret_eq (bool_eq (by simp)), Hsm.out, fun h => absurd h (by omega), hst⟩
end Go.Proofs.YtnaolhjbapgjgaaGreat

/- Contract of (*octet.Writer).Raw. -/
import Derived.Test.YtnaolhjbapgjgaaGreatOctW
namespace Go.Proofs.YtnaolhjbapgjgaaGreat
open Go.RowKit

/-- bytes where they stand -/
structure Part where
  A : Option Addr
  l : List UInt8
  c : Nat
def Part.sl (p : Part) : Value := .slice p.A p.l.length p.c
def parts (ps : List Part) : List UInt8 := ps.flatMap Part.l
theorem parts_take_succ (l : List Part) (k : Nat) (h : k < l.length) : parts (l.take (k + 1)) = parts (l.take k) ++ l[k].l := by
  rw [parts, List.take_succ_eq_append_getElem h, List.flatMap_append, List.flatMap_singleton]
  rfl
theorem parts_take_le (l : List Part) (k : Nat) : (parts (l.take k)).length ≤ (parts l).length := by
  have : parts l = parts (l.take k) ++ parts (l.drop k) := by
    rw [parts, parts, parts, ← List.flatMap_append, List.take_append_drop]
  rw [this, List.length_append]
  omega
theorem Rd.part {w : World} {A : Option Addr} {n : Nat} {l : List Part} (h : Rd w 1 A n (l.map Part.sl)) {k : Nat} (hk : k < n) (hl : k < l.length) : ∃ b o, A = some ⟨b, o, none⟩ ∧ w.cell? ⟨b, o + k, none⟩ = some (l[k].sl) := by
  obtain ⟨b, o, u, rfl, hx, hc⟩ := h.at_ hk
  refine ⟨b, o, rfl, ?_⟩
  rw [hc]
  rw [List.getElem?_map, List.getElem?_eq_getElem hl] at hx
  simpa using hx.symm

set_option maxRecDepth 100000 in
set_option maxHeartbeats 1600000 in
theorem wraw_any (w : World) (g : Nat) (r : Option Nat) (bs : List UInt8) (A : Option Addr) (n c : Nat) (ps : List Part) (hn : ps.length = n) (hW : Wr w g r bs) (hl : bs.length + (parts ps).length ≤ 1000000000000)
    (hrd : Rd w 1 A n (ps.map Part.sl)) (hav : Av (WX g r) n A) (hle : n ≤ 1000000)
    (hps : ∀ p ∈ ps, Rd w 1 p.A p.l.length (p.l.map bv) ∧ Av (WX g r) p.l.length p.A) :
    Calls Tryz.prog 114 #[.pointer (some ⟨g, 0, none⟩), .slice A n c] w fun e w' => e = .returned (.tuple #[]) ∧ WStep w g r w' (bs ++ parts ps) := by
  have Hl := Lib.hid hl
  have Hps := Lib.hid hps
  have Hn := Lib.hid hn
  clear hl hps hn
  obtain ⟨i0, hi, hz0, hz1, hz2⟩ := info_parts Tryz.infoByte
  go_enter Tryz.func114, Tryz.ntmps114
  go_wp2
  go_loopw [8] (fun i wr => ∃ k : Nat, k ≤ n ∧ i = .int .i64 k ∧ WStep w g r wr (bs ++ parts (ps.take k))) (fun i _ => n - (intOf i).toNat)
  case atStart => exact ⟨0, by omega, rfl, by simpa [parts] using hW.step⟩
  case round =>
    obtain ⟨k, hk, rfl, hst⟩ := hrel
    by_cases hlt : k < n
    · obtain ⟨r', ⟨A1, c1, hb, ho, hr1⟩, hkp, hfr⟩ := hst
      have hkl : k < ps.length := by have := Hn.out; omega
      obtain ⟨b, o, rfl, hy⟩ := (hrd.kp hkp hav).part (k := k) hlt hkl
      have hp := Hps.out ps[k] (List.getElem_mem hkl)
      have hrp := hp.1.kp hkp hp.2
      have hcl : (bs ++ parts (ps.take k)).length + ps[k].l.length ≤ 1000000000000 := by
        have h1 := Hl.out
        have h2 := parts_take_le ps (k + 1)
        rw [parts_take_succ ps k hkl] at h2
        rw [List.length_append] at h2 ⊢
        omega
      have Hfin := Lib.hid (show bs ++ parts (ps.take (k + 1)) = (bs ++ parts (ps.take k)) ++ ps[k].l by
        rw [parts_take_succ ps k hkl]; simp)
      generalize ps[k] = p at *
      obtain ⟨pA, l, pc⟩ := p
      simp only [Part.sl] at *
      generalize hcc : bs ++ parts (ps.take k) = cs at *
      have Hr1 := Lib.hid hr1
      clear hr1 hp
      have hc := hb.cell 0
      have hz := hb.frozen 0
      have hltb := hb.lt
      simp only [List.getElem?_toArray, List.getElem?_cons_zero] at hc
      have H63 := Lib.hid (show cs.length + l.length ≤ maxLen by unfold maxLen; omega)
      have H47 := Lib.hid (show (cs.length + l.length) * 1 ≤ 140737488355328 by omega)
      have hne : some g ≠ (Value.slice A1 cs.length c1).ownBlock := by
        have := own_blk_ne ho hb (by decide)
        exact fun h => this h.symm
      clear hcl
      have b5 : (k : Int) ≤ 1000000 := by omega
      go_wp2_with (at_builtin; refine wpList_append_any _ rfl (.tmp 16) (.tmp 17) 22 rfl 0 5 i0 (.int .u8 0) 1 1 Tryz.underlying22 hi hz0 hz1 hz2 rfl (by decide) (.slice A1 cs.length c1) cs.length (cs.map bv) rfl ho pA l.length pc (l.map bv) rfl hrp (one_bytes _) H63.out H47.out (Nat.zero_le _) ?_; intro A' c' w2 hown hgrow hat; have hc1 := hgrow.cell (a := ⟨g, 0, none⟩) hc hne; have hz1 : w2.frozen? ⟨g, 0, none⟩ = false := (World.frozen?_of_block (hgrow.block g hltb hne)).trans hz)
      have Hst := Lib.hid (WStep.trans hkp (Hr1.out ▸ hfr) (Wr.put hb ho (Kp.refl _ _) (news := l) rfl rfl hown hgrow hat))
      clear hown hgrow hat hb ho
      go_wp2
      go_roundw
      case rel => exact ⟨k + 1, by omega, by go_num, by rw [Hfin.out]; exact Hst.out⟩
      case measure => simp [intOf]; omega
    · obtain rfl : k = n := by omega
      go_wp2
      go_end0
      refine ⟨rfl, ?_⟩
      rw [List.take_of_length_le (by rw [Hn.out]; omega)] at hst
      exact hst
end Go.Proofs.YtnaolhjbapgjgaaGreat

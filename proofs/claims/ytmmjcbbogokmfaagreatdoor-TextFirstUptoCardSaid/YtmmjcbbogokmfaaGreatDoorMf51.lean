import Derived.Test.YtmmjcbbogokmfaaGreatDoorMf01
import Derived.Test.YtmmjcbbogokmfaaGreatDoorMf09
import Derived.Test.YtmmjcbbogokmfaaGreatDoorMf13
import Derived.Test.YtmmjcbbogokmfaaGreatDoorMf19
import Derived.Test.YtmmjcbbogokmfaaGreatDoorRows
import Derived.Deep.Slices
import Derived.OpenShut
import Derived.SliceStrings
import Derived.Lib.LaidTab
import Derived.LaidLaws
import Derived.ChangeSame
set_option maxRecDepth 100000
set_option maxHeartbeats 25600000
namespace Go.Proofs.YtmmjcbbogokmfaaGreatDoor
open Go.RowKit Go.ChangeShapes
section
variable {H : Type}
theorem bulk_pos (d : DataW H) : 1 <= Rows.uptoBulk d := by
  cases d with
  | lit l => cases l <;> simp [Rows.uptoBulk]
  | nil => simp [Rows.uptoBulk]
  | ptr d => simp [Rows.uptoBulk]
  | slice elems spare => simp [Rows.uptoBulk]
  | agg parts => simp [Rows.uptoBulk]
  | iface t d => simp [Rows.uptoBulk]
  | map entries => simp [Rows.uptoBulk]
  | held h => simp [Rows.uptoBulk]
theorem bulk_part {d : DataW H} {l : List (DataW H)} (h : d ∈ l) : Rows.uptoBulk d <= Rows.uptoBulkAll l := by
  induction l with
  | nil => cases h
  | cons x r ih =>
    simp only [Rows.uptoBulkAll]
    cases List.mem_cons.1 h with
    | inl e => subst e; omega
    | inr e => have := ih e; omega
theorem bulk_len (l : List (DataW H)) : l.length <= Rows.uptoBulkAll l := by
  induction l with
  | nil => simp [Rows.uptoBulkAll]
  | cons x r ih => have := bulk_pos x; simp only [Rows.uptoBulkAll, List.length_cons]; omega
variable {enc : TypeId × Value -> H} {w : World} {fuel : Nat} {cs : List Value} {x : DataW H × List MemPlace}
abbrev Tr (enc : TypeId × Value -> H) (w : World) (fuel : Nat) (t : TypeId) (cs : List Value) (x : DataW H × List MemPlace) : Prop := DataW.trod enc Tryz.prog w 0 (fun _ => true) true fuel t cs = some x
theorem open_fields {t : TypeId} {fs : Array Field} (ht : Tryz.prog.underlying t = some (.struct fs)) (h : Tr enc w fuel t cs x) :
    cs.length = Tryz.prog.cellsOf t /\ ∀ (i : Nat) (ft : TypeId) (o : Nat), (fs[i]?).map (fun f => (f.type, f.offset)) = some (ft, o) -> ∃ n y, Tr enc w n ft ((cs.drop o).take (Tryz.prog.cellsOf ft)) y /\ Rows.uptoBulk y.1 + 1 <= Rows.uptoBulk x.1 := by
  obtain ⟨xs, n, _, rfl, hl, hlen, hf⟩ := DataW.trod_struct ht h
  refine ⟨hl, fun i ft o hi => ?_⟩
  obtain ⟨f, hif, e⟩ := Option.map_eq_some_iff.1 hi
  injection e with e1 e2
  subst e1 e2
  have hlt : i < xs.length := by rw [hlen]; exact (Array.getElem?_eq_some_iff.1 hif).1
  have h1 := hf i f hif
  rw [List.getElem?_eq_getElem hlt] at h1
  refine ⟨n, xs[i], h1, ?_⟩
  have := bulk_part (List.mem_map_of_mem (f := fun y : DataW H × List MemPlace => y.1) (List.getElem_mem hlt))
  simp only [Rows.uptoBulk]
  omega
theorem open_i64 {t : TypeId} (ht : Tryz.prog.underlying t = some (.int .i64)) (h : Tr enc w fuel t cs x) : ∃ n : Int, cs = [.int .i64 n] /\ -9223372036854775808 <= n /\ n <= 9223372036854775807 := by
  obtain ⟨n, rfl, _, hw⟩ := DataW.trod_int ht h
  refine ⟨n, rfl, ?_⟩
  simpa [Lit.wf, IntKind.min, IntKind.max, IntKind.signed, IntKind.bits] using hw
theorem open_text (h : Tr enc w fuel 9 cs x) : ∃ s : ByteArray, cs = [.string s] /\ s.size + 1 <= Rows.uptoBulk x.1 := by
  obtain ⟨s, rfl, rfl, hw⟩ := DataW.trod_string Tryz.underlying9 h
  refine ⟨s, rfl, ?_⟩
  have e : s.data.toList.length = s.size := by rw [Array.length_toList]; rfl
  simp only [Rows.uptoBulk]
  omega
theorem byte_of {n : Int} (h : (Lit.int .u8 n).wf = true) : ((UInt8.ofNat n.toNat).toNat : Int) = n := by
  have h1 : 0 <= n /\ n <= 255 := by simpa [Lit.wf, IntKind.min, IntKind.max, IntKind.signed, IntKind.bits] using h
  rw [UInt8.toNat_ofNat']
  omega
theorem open_bytes (h : Tr enc w fuel 33 cs x) : ∃ A c, ∃ l : List UInt8, cs = [.slice A l.length c] /\ Rd w 1 A l.length (l.map bv) /\ l.length <= c /\ l.length + 1 <= Rows.uptoBulk x.1 := by
  rcases open_ints Tryz.underlying33 Tryz.underlying5 (by kernel_rfl) h with ⟨rfl, rfl⟩ | ⟨a, len, cap, zs, rfl, _, hlc, _, hzl, rfl, hcell, hwf⟩
  · exact ⟨none, 0, [], rfl, Rd.none_, Nat.le_refl _, by simp [Rows.uptoBulk]⟩
  · simp only [if_true] at hzl
    have hl : ((zs.take len).map fun z => UInt8.ofNat z.toNat).length = len := by simp; omega
    refine ⟨some a, cap, (zs.take len).map fun z => UInt8.ofNat z.toNat, by rw [hl], ?_, by omega, ?_⟩
    · rw [hl]
      refine Rd.of_add (by rw [List.length_map, hl, Nat.mul_one]) (by decide) (fun j u hu => ?_)
      have hj : j < len := by
        have := (List.getElem?_eq_some_iff.1 hu).1
        rw [List.length_map, hl] at this
        exact this
      have hjz : j < zs.length := by omega
      rw [hcell j hjz]
      rw [List.getElem?_map, List.getElem?_map, List.getElem?_take, if_pos hj, List.getElem?_eq_getElem hjz] at hu
      simp only [Option.map_some, Option.some.injEq] at hu
      rw [<- hu]
      simp only [bv, byte_of (hwf _ (List.getElem_mem hjz)), List.getD, List.getElem?_eq_getElem hjz, Option.getD_some]
    · have := bulk_len (lits (H := H) .u8 (zs.take len))
      rw [hl]
      simp only [Rows.uptoBulk]
      simp only [lits, List.length_map, List.length_take] at this
      simp only [lits]
      omega
theorem open_texts (h : Tr enc w fuel 42 cs x) : ∃ A c, ∃ l : List ByteArray, cs = [.slice A l.length c] /\ Rd w 1 A l.length (l.map sv) /\ l.length <= c /\ l.length + 1 <= Rows.uptoBulk x.1 /\ ∀ s ∈ l, s.size + 1 <= Rows.uptoBulk x.1 := by
  rcases open_strings Tryz.underlying42 Tryz.underlying9 (by kernel_rfl) h with ⟨rfl, rfl⟩ | ⟨a, len, cap, ss, rfl, _, hlc, _, hzl, rfl, hcell, _⟩
  · exact ⟨none, 0, [], rfl, Rd.none_, Nat.le_refl _, by simp [Rows.uptoBulk], fun s hs => by cases hs⟩
  · simp only [if_true] at hzl
    have hl : (ss.take len).length = len := by simp; omega
    refine ⟨some a, cap, ss.take len, by rw [hl], ?_, by omega, ?_, fun s hs => ?_⟩
    · rw [hl]
      refine Rd.of_add (by rw [List.length_map, hl, Nat.mul_one]) (by decide) (fun j u hu => ?_)
      have hj : j < len := by
        have := (List.getElem?_eq_some_iff.1 hu).1
        rw [List.length_map, hl] at this
        exact this
      have hjz : j < ss.length := by omega
      rw [hcell j hjz]
      rw [List.getElem?_map, List.getElem?_take, if_pos hj, List.getElem?_eq_getElem hjz] at hu
      simp only [Option.map_some, Option.some.injEq] at hu
      rw [<- hu]
      simp only [sv, List.getD, List.getElem?_eq_getElem hjz, Option.getD_some]
    · have := bulk_len (strs (H := H) (ss.take len))
      rw [hl]
      simp only [Rows.uptoBulk]
      simp only [strs, List.length_map, List.length_take] at this
      simp only [strs]
      omega
    · have h1 := bulk_part (List.mem_map_of_mem (f := fun s => DataW.lit (H := H) (.string s.data.toList)) hs)
      have e : s.data.toList.length = s.size := by rw [Array.length_toList]; rfl
      simp only [Rows.uptoBulk] at h1
      simp only [Rows.uptoBulk, strs]
      omega
theorem open_nums (h : Tr enc w fuel 27 cs x) : ∃ A c, ∃ l : List Int, cs = [.slice A l.length c] /\ Rd w 1 A l.length (l.map iv) /\ l.length <= c /\ l.length + 1 <= Rows.uptoBulk x.1 := by
  rcases open_ints Tryz.underlying27 Tryz.underlying3 (by kernel_rfl) h with ⟨rfl, rfl⟩ | ⟨a, len, cap, zs, rfl, _, hlc, _, hzl, rfl, hcell, hwf⟩
  · exact ⟨none, 0, [], rfl, Rd.none_, Nat.le_refl _, by simp [Rows.uptoBulk]⟩
  · simp only [if_true] at hzl
    have hl : (zs.take len).length = len := by simp; omega
    refine ⟨some a, cap, zs.take len, by rw [hl], ?_, by omega, ?_⟩
    · rw [hl]
      refine Rd.of_add (by rw [List.length_map, hl, Nat.mul_one]) (by decide) (fun j u hu => ?_)
      have hj : j < len := by
        have := (List.getElem?_eq_some_iff.1 hu).1
        rw [List.length_map, hl] at this
        exact this
      have hjz : j < zs.length := by omega
      rw [hcell j hjz]
      rw [List.getElem?_map, List.getElem?_take, if_pos hj, List.getElem?_eq_getElem hjz] at hu
      simp only [Option.map_some, Option.some.injEq] at hu
      rw [<- hu]
      simp only [iv, List.getD, List.getElem?_eq_getElem hjz, Option.getD_some]
    · have := bulk_len (lits (H := H) .i64 (zs.take len))
      rw [hl]
      simp only [Rows.uptoBulk]
      simp only [lits, List.length_map, List.length_take] at this
      simp only [lits]
      omega
end
open Go.RowKit
theorem rletter_any (w : World) (c : UInt8) : Calls Tryz.prog 131 #[bv c] w fun e w' => e = .returned (.bool (letC c)) /\ w = w' := by
  have Hy := jJ0 (show letC c = decide (97 <= c.toNat /\ c.toNat <= 122) from rfl)
  have h8 := c.toNat_lt
  generalize letC c = R at *
  unfold bv
  generalize c.toNat = k at *
  go_enter Tryz.func131, Tryz.ntmps131
  go_wp2
  all_goals (go_ret; refine ⟨?_, rfl⟩; rw [Hy.out]; refine retb ?_; simp <;> omega)
theorem rdigit_any (w : World) (c : UInt8) : Calls Tryz.prog 159 #[bv c] w fun e w' => e = .returned (.bool (digC c)) /\ w = w' := by
  have Hy := jJ0 (show digC c = decide (48 <= c.toNat /\ c.toNat <= 57) from rfl)
  have h8 := c.toNat_lt
  generalize digC c = R at *
  unfold bv
  generalize c.toNat = k at *
  go_enter Tryz.func159, Tryz.ntmps159
  go_wp2
  all_goals (go_ret; refine ⟨?_, rfl⟩; rw [Hy.out]; refine retb ?_; simp <;> omega)
theorem rwordByte_any (w : World) (c : UInt8) : Calls Tryz.prog 132 #[bv c] w fun e w' => e = .returned (.bool (jH c)) /\ w = w' := by
  have Hy := jJ0 (show jH c = (letC c || digC c || decide (c.toNat = 95)) from rfl)
  have H1 := jJ0 (rletter_any w c)
  have H2 := jJ0 (rdigit_any w c)
  have h8 := c.toNat_lt
  generalize letC c = L at *
  generalize digC c = D at *
  generalize jH c = R at *
  unfold bv at *
  generalize c.toNat = k at *
  go_enter Tryz.func132, Tryz.ntmps132
  go_wp2_with fail
  refine H1.out.mono ?_
  rintro e w1 ⟨rfl, rfl⟩
  cases L
  · go_wp2_with fail
    refine H2.out.mono ?_
    rintro e w1 ⟨rfl, rfl⟩
    cases D
    · go_wp2
      all_goals (go_ret; refine ⟨?_, rfl⟩; rw [Hy.out]; refine retb ?_; simp <;> omega)
    · go_wp2
      all_goals (go_ret; refine ⟨?_, rfl⟩; rw [Hy.out]; rfl)
  · go_wp2
    all_goals (go_ret; refine ⟨?_, rfl⟩; rw [Hy.out]; rfl)
theorem rnameSoFar_any (w : World) (s : ByteArray) : Calls Tryz.prog 71 #[.string s] w fun e w' => e = .returned (.bool (jN (sb s))) /\ w = w' := by
  have HL := jJ0 (show jN (sb s) = (decide (0 < s.size /\ s.size <= 64) && letC ((sb s).headD 0) && (sb s).all jH) by unfold jN; rw [jB])
  generalize jN (sb s) = R at *
  by_cases h0 : s.size = 0
  · have Hno := jJ0 (show R = false by rw [HL.out, decide_eq_false (by omega)]; rfl)
    have b0 : ((s.size : Int) == 0) = true := by rw [h0]; rfl
    have Hz := jJ0 h0
    clear h0
    go_enter Tryz.func71, Tryz.ntmps71
    go_wp2
    go_ret
    exact ⟨by rw [Hno.out]; rfl, rfl⟩
  · have b0 : ((s.size : Int) == 0) = false := beq_eq_false_iff_ne.2 (by omega)
    by_cases h1 : s.size <= 64
    · have b1 : ¬ (64 : Int) < (s.size : Int) := by omega
      have hp : 0 < s.size := by omega
      have hpI : (0 : Int) < (s.size : Int) := by omega
      have Hc := jJ0 (show R = (letC s[0] && (sb s).all jH) by rw [HL.out, decide_eq_true (by omega), sb_head s hp]; rfl)
      have H0 := jJ0 (rletter_any w s[0])
      unfold bv at H0
      clear HL
      generalize hl : letC s[0] = L at *
      clear hl
      cases L
      · have Hno := jJ0 (show R = false by rw [Hc.out]; rfl)
        go_enter Tryz.func71, Tryz.ntmps71
        go_wp2_with (go_at_call 131; refine H0.out.mono ?_; rintro e w1 ⟨rfl, rfl⟩)
        go_ret
        exact ⟨by rw [Hno.out]; rfl, rfl⟩
      · have Hc := jJ0 (show R = (sb s).all jH by rw [Hc.out]; rfl)
        have h1i : (s.size : Int) <= 64 := by omega
        go_enter Tryz.func71, Tryz.ntmps71
        go_wp2_with (go_at_call 131; refine H0.out.mono ?_; rintro e w1 ⟨rfl, rfl⟩)
        clear H0
        go_loop [3] (fun i => ∃ k : Nat, k <= s.size /\ i = .int .i64 k /\ ((sb s).take k).all jH = true) (fun i => s.size - (intOf i).toNat)
        case atStart => exact ⟨0, Nat.zero_le _, rfl, rfl⟩
        case round =>
          obtain ⟨k, hk, rfl, hgood⟩ := hrel
          by_cases hlt : k < s.size
          · have Hgood := jJ0 (show ((sb s).take (k + 1)).all jH = jH s[k] by rw [sb_take_succ s k hlt, List.all_append, hgood]; simp)
            have Hno := jJ0 (show jH s[k] = false -> R = false from fun h => by
              rw [Hc.out, <- Bool.not_eq_true, List.all_eq_true]
              intro h'
              have := h' s[k] (sb_mem s k hlt)
              rw [h] at this
              cases this)
            have b2 : (0 : Int) <= (k : Int) := by omega
            have b3 : (k : Int) < (s.size : Int) := by omega
            have b4 : (k : Int).toNat = k := by omega
            have Hw := jJ0 (rwordByte_any w s[k])
            unfold bv at Hw
            clear hgood
            generalize hw : jH s[k] = W at *
            clear hw
            cases W
            · have Hn := jJ0 (Hno.out rfl)
              go_wp2_with (go_at_call 132; refine Hw.out.mono ?_; rintro e w1 ⟨rfl, rfl⟩)
              go_ret
              exact ⟨by rw [Hn.out]; rfl, rfl⟩
            · go_wp2_with (go_at_call 132; refine Hw.out.mono ?_; rintro e w1 ⟨rfl, rfl⟩)
              exact ⟨⟨k + 1, by omega, by go_num, Hgood.out⟩, by simp [intOf]; omega⟩
          · obtain rfl : k = s.size := by omega
            have Hy := jJ0 (show R = true by rw [Hc.out, <- hgood, <- jB, List.take_length])
            clear hgood
            go_wp2
            go_ret
            exact ⟨by rw [Hy.out]; rfl, rfl⟩
    · have b1 : (64 : Int) < (s.size : Int) := by omega
      have Hno := jJ0 (show R = false by rw [HL.out, decide_eq_false (by omega)]; rfl)
      clear HL h0 h1
      go_enter Tryz.func71, Tryz.ntmps71
      go_wp2
      go_ret
      exact ⟨by rw [Hno.out]; rfl, rfl⟩
def resR : List (List UInt8) := [[116, 121, 112, 101], [97, 116, 116, 114, 105, 98, 117, 116, 101], [115, 116, 97, 103, 101], [109, 105, 108, 101, 115, 116, 111, 110, 101], [115, 116, 101, 112], [105, 110], [111, 112, 101, 110, 115], [99, 108, 111, 115, 101, 115], [114, 101, 97, 99, 104, 101, 100], [119, 104, 101, 110], [114, 101, 111, 112, 101, 110], [105, 110, 116], [98, 111, 111, 108], [116, 101, 120, 116], [116, 105, 109, 101], [115, 101, 116], [111, 112, 116, 105, 111, 110, 97, 108], [105, 102], [116, 104, 101, 110], [101, 108, 115, 101], [111, 114], [97, 110, 100], [110, 111, 116], [116, 114, 117, 101], [102, 97, 108, 115, 101], [110, 111, 116, 104, 105, 110, 103], [104, 97, 115], [115, 105, 122, 101], [106, 111, 105, 110], [111, 112, 101, 110], [99, 108, 111, 99, 107], [115, 116, 101, 112, 115], [109, 105, 110], [109, 97, 120], [100, 101, 102, 97, 117, 108, 116]]
theorem idx_none (w : List UInt8) : ∀ (l : List (List UInt8)) (k : Nat), 0 < k -> (jm k w l = 0 ↔ w ∉ l)
  | [], k, _ => by rw [jm]; simp
  | x :: l, k, hk => by
    rw [jm]
    by_cases e : x = w
    · rw [if_pos e]
      simp [e]
      omega
    · rw [if_neg e, idx_none w l (k + 1) (by omega)]
      rw [List.mem_cons]
      exact ⟨fun h h2 => h2.elim (fun e2 => e e2.symm) h, fun h h2 => h (.inr h2)⟩
theorem res_same (w : List UInt8) : w ∈ resR ↔ w ∈ resL := by
  have h1 : ∀ x ∈ resR, x ∈ resL := by decide +kernel
  have h2 : ∀ x ∈ resL, x ∈ resR := by decide +kernel
  exact ⟨h1 w, h2 w⟩
theorem word_res (w : List UInt8) : kc w = 0 ↔ w ∉ resR := by
  rw [res_same, <- idx_none w resL 23 (by decide)]
  rfl
def SgR (w : World) : Prop := w.rangeAt 1 0 (wvs resR)
theorem SgR.kp {X : Nat -> Prop} {w w' : World} (h : SgR w) (hk : Kp X w w') (h1 : ¬ X 1) : SgR w' := rangeAt_kp h hk h1
theorem SgR.old {w w' : World} (h : SgR w) (hk : Old w w') : SgR w' := h.kp hk (fun f => f)
theorem resR_len : resR.length = 35 := rfl
theorem take_not {w : List UInt8} {l : List (List UInt8)} {k : Nat} (hk : k < l.length) (h : w ∉ l.take k) (hn : l[k] ≠ w) : w ∉ l.take (k + 1) := by
  rw [List.take_succ_eq_append_getElem hk, List.mem_append]
  rintro (e | e)
  · exact h e
  · rw [List.mem_singleton] at e
    exact hn e.symm
theorem risReserved_any (w : World) (hg : SgR w) (s : ByteArray) : Calls Tryz.prog 72 #[.string s] w fun e w' => e = .returned (.bool (decide (kc (sb s) ≠ 0))) /\ w = w' := by
  have Hr := jJ0 hg
  have Hy := jJ0 (word_res (sb s))
  have Hx := jJ0 (fun j (hj : j < 35) => wvs_at resR j hj)
  clear hg
  generalize kc (sb s) = n at *
  have Hall := jJ0 (show resR.take 35 = resR from rfl)
  have Hget := jJ0 (fun (j : Nat) (hj : j < 35) (e : resR[j]'hj = sb s) => (show sb s ∈ resR from e ▸ List.getElem_mem _))
  have Htk := jJ0 (fun (j : Nat) (hj : j < 35) => take_not (w := sb s) (l := resR) (k := j) hj)
  have Hnil := jJ0 (show sb s ∉ resR.take 0 from by simp)
  unfold SgR at Hr
  obtain ⟨R, hR0⟩ : ∃ R, decide (n ≠ 0) = R := ⟨_, rfl⟩
  rw [hR0]
  have HR0 := jJ0 hR0
  clear hR0
  go_enter Tryz.func72, Tryz.ntmps72
  go_wp2_with fail
  go_loop [3] (fun i => ∃ j : Nat, j <= 35 /\ i = .int .i64 j /\ sb s ∉ resR.take j) (fun i => 35 - (intOf i).toNat)
  case atStart => exact ⟨0, by omega, rfl, Hnil.out⟩
  case round =>
    obtain ⟨j, hj, rfl, hR⟩ := hrel
    by_cases hlt : j < 35
    · have hc : w.cell? ⟨1, j, none⟩ = some (.string ⟨(resR[j]'hlt).toArray⟩) := by
        have := Hr.out j _ (Hx.out j hlt)
        rwa [Nat.zero_add] at this
      have hget := Hget.out j hlt
      have htk := Htk.out j hlt hR
      generalize resR[j]'hlt = rw at *
      have b1 : (j : Int) < 35 := by omega
      have b2 : (0 : Int) <= (j : Int) := by omega
      have b3 : (j : Int).toNat = j := by omega
      by_cases he : rw = sb s
      · have hin := hget he
        rw [mk_eq.2 he] at hc
        have HN := jJ0 (show R = true from HR0.out.symm.trans <| decide_eq_true (fun e => Hy.out.1 e hin))
        clear he hin hget htk hR
        go_wp2
        go_ret
        exact ⟨by rw [HN.out]; rfl, rfl⟩
      · have hne : ¬ (⟨rw.toArray⟩ : ByteArray) = s := fun h => he (mk_eq.1 h)
        have HT := jJ0 (htk he)
        clear he hget htk hR
        generalize (⟨rw.toArray⟩ : ByteArray) = x at *
        have hne2 : (x.toList == s.toList) = false := beq_eq_false_iff_ne.2 (fun h => hne (bytes_same h))
        clear hne
        go_wp2
        exact ⟨⟨j + 1, by omega, by go_num, HT.out⟩, by simp [intOf]; omega⟩
    · obtain rfl : j = 35 := by omega
      rw [Hall.out] at hR
      have HN := jJ0 (show R = false from HR0.out.symm.trans <| decide_eq_false (fun e => e (Hy.out.2 hR)))
      clear hR
      go_wp2
      go_ret
      exact ⟨by rw [HN.out]; rfl, rfl⟩
theorem rlegal_any (w : World) (hg : SgR w) (s : ByteArray) : Calls Tryz.prog 21 #[.string s] w fun e w' => e = .returned (.bool (jv (sb s))) /\ w = w' := by
  have Hy := jJ0 (show jv (sb s) = (jN (sb s) && decide (kc (sb s) = 0)) from rfl)
  have H := jJ0 (rnameSoFar_any w s)
  have H2 := jJ0 (risReserved_any w hg s)
  generalize kc (sb s) = n at *
  generalize jN (sb s) = a at *
  generalize jv (sb s) = R at *
  clear hg
  cases a
  · have Hn := jJ0 (show R = false by rw [Hy.out]; rfl)
    go_enter Tryz.func21, Tryz.ntmps21
    go_wp2_with (go_at_call 71; refine H.out.mono ?_; rintro e w1 ⟨rfl, rfl⟩)
    go_ret
    exact ⟨by rw [Hn.out]; rfl, rfl⟩
  · have Hn := jJ0 (show R = !(decide (n ≠ 0)) by rw [Hy.out]; simp)
    generalize decide (n ≠ 0) = b at *
    go_enter Tryz.func21, Tryz.ntmps21
    go_wp2_with (first | (go_at_call 71; refine H.out.mono ?_; rintro e w1 ⟨rfl, rfl⟩) | (go_at_call 72; refine H2.out.mono ?_; rintro e w1 ⟨rfl, rfl⟩))
    all_goals (go_ret; exact ⟨by rw [Hn.out]; rfl, rfl⟩)
def kidsR (op : Int) : Int := if op < 1 \/ 34 <= op then -2 else if op = 6 then -1 else if op = 23 then 3 else if op = 7 \/ op = 8 \/ op = 27 then 1 else if op <= 5 \/ op = 24 \/ op = 25 \/ op = 26 \/ op = 29 \/ op = 30 then 0 else 2
theorem rkids_any (w : World) (op : Int) : Calls Tryz.prog 73 #[.int .i64 op] w fun e w' => e = .returned (.int .i64 (kidsR op)) /\ w = w' := by
  by_cases h1 : op < 1
  · rw [show kidsR op = -2 by unfold kidsR; rw [if_pos (.inl h1)]]
    go_enter Tryz.func73, Tryz.ntmps73
    go_wp2
    go_ret
    exact ⟨rfl, rfl⟩
  by_cases h2 : 34 <= op
  · rw [show kidsR op = -2 by unfold kidsR; rw [if_pos (.inr h2)]]
    go_enter Tryz.func73, Tryz.ntmps73
    go_wp2
    go_ret
    exact ⟨rfl, rfl⟩
  have h3 : op = 1 \/ op = 2 \/ op = 3 \/ op = 4 \/ op = 5 \/ op = 6 \/ op = 7 \/ op = 8 \/ op = 9 \/ op = 10 \/ op = 11 \/ op = 12 \/ op = 13 \/ op = 14 \/ op = 15 \/ op = 16 \/ op = 17 \/ op = 18 \/ op = 19 \/ op = 20 \/ op = 21 \/ op = 22 \/ op = 23 \/ op = 24 \/ op = 25 \/ op = 26 \/ op = 27 \/ op = 28 \/ op = 29 \/ op = 30 \/ op = 31 \/ op = 32 \/ op = 33 := by omega
  clear h1 h2
  rcases h3 with rfl | rfl | rfl | rfl | rfl | rfl | rfl | rfl | rfl | rfl | rfl | rfl | rfl | rfl | rfl | rfl | rfl | rfl | rfl | rfl | rfl | rfl | rfl | rfl | rfl | rfl | rfl | rfl | rfl | rfl | rfl | rfl | rfl
  all_goals
    go_enter Tryz.func73, Tryz.ntmps73
    go_wp2
    go_ret
    exact ⟨rfl, rfl⟩
theorem laid_reads {P : Program} {w : World} : ∀ {l : List (String × DataW Unit)} {ps : List MemPlace}, DataW.LaidVars P w l ps -> ∀ n d, (n, d) ∈ l -> ∃ g t cs fuel p, P.globalNamed n = some g /\ (P.globals[g]?).map (·.type) = some t /\ w.var? P n = some cs /\ DataW.trod (fun _ => ()) P w 0 (fun _ => true) false fuel t cs.toList = some (d, p)
  | [], _, _, _, _, hm => by cases hm
  | (n', d') :: r, ps, h, n, d, hm => by
    obtain ⟨g, t, cs, fuel, p, q, h1, h2, h3, h4, h5, _⟩ := h
    rcases List.mem_cons.1 hm with e | e
    · cases e
      exact ⟨g, t, cs, fuel, p, h1, h2, h3, h4⟩
    · exact laid_reads h5 n d e
theorem cells_of_texts {H : Type} {enc : TypeId × Value -> H} {P : Program} {w : World} {base : Nat} {sp : Nat -> Bool} {held : Bool} {fuel : Nat} {t e : TypeId} {n : Nat} {cs : List Value} {ts : List (List UInt8)} {p : List MemPlace}
    (ht : P.underlying t = some (.array n e)) (he : P.underlying e = some .string) (hce : P.cellsOf e = 1) (hct : P.cellsOf t = n)
    (h : DataW.trod enc P w base sp held fuel t cs = some (.agg (ts.map fun s => .lit (.string s)), p)) : cs = wvs ts := by
  cases fuel with
  | zero => simp [DataW.trod] at h
  | succ fuel =>
    simp only [DataW.trod, ht, hce, hct, Nat.mul_one] at h
    split at h
    · rename_i hl
      obtain ⟨xs, hm, hx⟩ := Option.map_eq_some_iff.1 h
      have hxs : xs.map (·.1) = ts.map fun s => (DataW.lit (.string s) : DataW H) := by
        have := congrArg Prod.fst hx
        simpa using this
      have hxl : xs.length = n := by simpa using Lib.mapM_length hm
      have hzl : ts.length = n := by
        have := congrArg List.length hxs
        simp at this
        omega
      unfold wvs
      apply List.ext_getElem?
      intro i
      by_cases hi : i < n
      · obtain ⟨b, hb, hf⟩ := Lib.mapM_at hm i i (by simp [hi])
        obtain ⟨s, hc, rfl, _⟩ := DataW.trod_string he hf
        have h1 : cs[i]? = some (.string s) := by
          have := congrArg (·[0]?) hc
          simpa [List.getElem?_take, List.getElem?_drop] using this
        have h2 : (xs.map (·.1))[i]? = some (DataW.lit (.string s.data.toList) : DataW H) := by simp [hb]
        rw [hxs] at h2
        simp only [List.getElem?_map, Option.map_eq_some_iff, DataW.lit.injEq, Lit.string.injEq] at h2
        obtain ⟨s', hs', e'⟩ := h2
        rw [h1, List.getElem?_map, hs', e']
        rfl
      · rw [List.getElem?_eq_none (by omega), List.getElem?_eq_none (by simp; omega)]
    · cases h
theorem Tryz.gRes : Tryz.prog.globalNamed "docket/text.reserved" = some 0 := by kernel_rfl
theorem Tryz.gResR : Tryz.prog.globalNamed "docket/docketref9.reserved" = some 1 := by kernel_rfl
theorem Tryz.gSig : Tryz.prog.globalNamed "docket/text.signs" = some 2 := by kernel_rfl
theorem Tryz.gBru : Tryz.prog.globalNamed "math/bits.deBruijn64tab" = some 7 := by kernel_rfl
theorem Tryz.gResT : (Tryz.prog.globals[0]?).map (·.type) = some 205 := by kernel_rfl
theorem Tryz.gResRT : (Tryz.prog.globals[1]?).map (·.type) = some 205 := by kernel_rfl
theorem Tryz.gSigT : (Tryz.prog.globals[2]?).map (·.type) = some 252 := by kernel_rfl
theorem Tryz.cells35 : Tryz.prog.cellsOf 205 = 35 := by kernel_rfl
theorem Tryz.cells19 : Tryz.prog.cellsOf 252 = 19 := by kernel_rfl
theorem Tryz.cellsStr : Tryz.prog.cellsOf 9 = 1 := by kernel_rfl
theorem texts_laid {W : World} {l : List (String × DataW Unit)} {n : String} {g m : Nat} {T : TypeId} {ts : List (List UInt8)} (h : laidMet Tryz.prog l W) (hm : (n, .agg (ts.map fun s => .lit (.string s))) ∈ l) (hg : Tryz.prog.globalNamed n = some g) (hT : (Tryz.prog.globals[g]?).map (·.type) = some T) (hu : Tryz.prog.underlying T = some (.array m 9)) (hc : Tryz.prog.cellsOf T = m) : W.rangeAt g 0 (wvs ts) := by
  obtain ⟨ps, hv, _⟩ := h
  obtain ⟨g', t', cs, fuel, p, h1, h2, h3, h4⟩ := laid_reads hv n _ hm
  obtain rfl := Option.some.inj (hg.symm.trans h1)
  obtain rfl := Option.some.inj (hT.symm.trans h2)
  have e := cells_of_texts hu Tryz.underlying9 Tryz.cellsStr hc h4
  intro j v hj
  rw [Nat.zero_add, World.var?_cell hg h3 j, <- Array.getElem?_toList, e]
  exact hj
theorem sg_laid {W : World} {l : List (String × DataW Unit)} (h : laidMet Tryz.prog l W) (h1 : ("docket/text.reserved", Rows.laid_docket_text_reserved) ∈ l) (h2 : ("docket/text.signs", Rows.laid_docket_text_signs) ∈ l) (h3 : ("math/bits.deBruijn64tab", Rows.laid_math_bits_deBruijn64tab) ∈ l) : Sg W /\ 8 <= W.heap.size := by
  refine ⟨⟨texts_laid (ts := resL) h h1 Tryz.gRes Tryz.gResT Tryz.underlying205 Tryz.cells35, texts_laid (ts := signL) h h2 Tryz.gSig Tryz.gSigT Tryz.underlying252 Tryz.cells19⟩, ?_⟩
  obtain ⟨ps, hv, _⟩ := h
  obtain ⟨g', t', cs, fuel, p, e1, e2, e3, e4⟩ := laid_reads hv _ _ h3
  have hlt : 7 < W.heap.size := by
    unfold World.var? at e3
    rw [Tryz.gBru] at e3
    rcases Nat.lt_or_ge 7 W.heap.size with hl | hl
    · exact hl
    · simp [Array.getElem?_eq_none hl] at e3
  exact hlt
theorem sgR_laid {W : World} {l : List (String × DataW Unit)} (h : laidMet Tryz.prog l W) (h1 : ("docket/docketref9.reserved", Rows.laid_docket_docketref9_reserved) ∈ l) : SgR W := texts_laid (ts := resR) h h1 Tryz.gResR Tryz.gResRT Tryz.underlying205 Tryz.cells35
noncomputable def low : Nat := (World.holding Tryz.prog default ⟨#[], #[], []⟩).heap.size
def pow10 : List Int := [1, 10, 100, 1000, 10000, 100000, 1000000, 10000000, 100000000, 1000000000, 10000000000, 100000000000, 1000000000000, 10000000000000, 100000000000000, 1000000000000000, 10000000000000000, 100000000000000000, 1000000000000000000, 10000000000000000000]
def bru32 : List Int := [0, 1, 28, 2, 29, 14, 24, 3, 30, 22, 20, 15, 25, 17, 4, 8, 31, 27, 13, 23, 21, 19, 16, 7, 26, 12, 18, 6, 11, 5, 10, 9]
def bru64 : List Int := [0, 1, 56, 2, 57, 49, 28, 3, 61, 58, 42, 50, 38, 29, 17, 4, 62, 47, 59, 36, 45, 43, 51, 22, 53, 39, 33, 30, 24, 18, 12, 5, 63, 55, 48, 27, 60, 41, 37, 16, 46, 35, 44, 21, 52, 32, 23, 11, 54, 26, 40, 15, 34, 20, 31, 10, 25, 14, 19, 9, 13, 8, 7, 6]
noncomputable def laidWorld (os : Os) : World :=
  let w0 := World.holding Tryz.prog os ⟨#[.cells #[.string ⟨#[105, 110, 118, 97, 108, 105, 100, 32, 115, 121, 110, 116, 97, 120]⟩] 320, .cells #[.string ⟨#[118, 97, 108, 117, 101, 32, 111, 117, 116, 32, 111, 102, 32, 114, 97, 110, 103, 101]⟩] 320], #[], []⟩
  let put (h : Array Obj) (g : Nat) (cs : Array Value) : Array Obj := h.modify g fun
    | .cells _ t frozen => .cells cs t frozen
    | o => o
  let h0 := put w0.heap 0 (wvs resL).toArray
  let h1 := put h0 1 (wvs resR).toArray
  let h2 := put h1 2 (wvs signL).toArray
  let h3 := put h2 3 (pow10.map fun z => Value.int .u64 z).toArray
  let h4 := put h3 4 #[.iface 318 (.pointer (some ⟨low, 0, none⟩))]
  let h5 := put h4 5 #[.iface 318 (.pointer (some ⟨low + 1, 0, none⟩))]
  let h6 := put h5 6 (bru32.map fun z => Value.int .u8 z).toArray
  let h7 := put h6 7 (bru64.map fun z => Value.int .u8 z).toArray
  { w0 with heap := h7 }
open Go.RowKit Go.ChangeShapes Go.WideShapes
theorem Old.kept {W W' : World} (h : Old W W') (may : MemPlace -> Prop) : W.keptBut W' may := by
  refine World.keptBut_mono (may := fun _ => False) (fun _ f => f.elim) (World.keptBut_none_iff.2 ⟨h.os, h.output, fun i hi => ?_⟩)
  exact h.block i hi (fun f => f)
section
variable {H : Type} {enc : TypeId × Value -> H} {P : Program}
theorem post_of_old {f : Func} {s : ChangeSpec} {apart fresh handsOn again : Bool} {W W' : World} {args : Array Value} {v : Value} {ds gs : List (DataW H)} {before pa pv : List MemPlace}
    (hW : DataW.Whole enc P f.params.toList s.vars apart W args.toList ds gs before)
    (hres : ∀ (b : Nat) (sp : Nat -> Bool) (hd : Bool), DataW.TrodAll enc P W' b sp hd f.resultTypes.toList (v.resultList f.resultTypes.size) (s.fn H (ds ++ gs)).results [])
    (hargs : ∀ sp : Nat -> Bool, (∀ p ∈ before, sp p.block = true) -> DataW.TrodAll enc P W' 0 sp true f.params.toList args.toList (s.fn H (ds ++ gs)).args pa)
    (hvars : ∀ sp : Nat -> Bool, (∀ p ∈ before, sp p.block = true) -> DataW.TrodVars enc P W' sp s.vars (s.fn H (ds ++ gs)).vars pv)
    (hps : before = pa ++ pv) (ho : Old W W')
    (hok : ∀ (j : Nat) (t : TypeId) (r : Value), f.resultTypes[j]? = some t -> (v.resultList f.resultTypes.size)[j]? = some r -> Value.okWide P W' .any 0 t r) :
    s.post enc P f apart fresh handsOn again W args v W' := by
  have hold : ∀ p ∈ before, (fun b => decide (b < W.heap.size)) p.block = true := fun p hp => by simpa using hW.lt p hp
  refine ⟨ds, gs, before, [], pa, pv, hW, hres _ _ _, hargs _ hold, hvars _ hold, World.keptBut_mono (fun p hp => ⟨hp, ?_⟩) (Old.kept ho (· ∈ before)), fun _ => ?_⟩
  · rw [hps, List.mem_append] at hp
    exact Or.inr hp
  · have hlt := hW.lt
    obtain ⟨_, _, _, _, _, hz, hn⟩ := hW
    refine ⟨hok, _, _, ([] ++ pa) ++ pv, ⟨[] ++ pa, pv, trodAll_append (hargs _ (fun _ _ => rfl)) (hres _ _ _), hvars _ (fun _ _ => rfl), rfl, ?_, ?_⟩, ?_⟩
    · intro b off hp
      have hm : MemPlace.cell b off ∈ before := by rw [hps]; simpa using hp
      rw [World.frozen?_of_block (ho.block b (hlt _ hm) (fun f => f))]
      exact hz b off hm
    · intro ha
      have := hn ha
      rw [hps] at this
      simpa using this
    · intro p hp _
      rw [hps]
      simpa using hp
end
end Go.Proofs.YtmmjcbbogokmfaaGreatDoor

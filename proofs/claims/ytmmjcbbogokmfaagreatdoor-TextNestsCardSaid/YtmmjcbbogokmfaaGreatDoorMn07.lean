import Derived.Test.YtmmjcbbogokmfaaGreatDoorMn01
import Derived.Test.YtmmjcbbogokmfaaGreatDoorMn06
/- Contracts of the language's words: startsInteger, named, proper. -/
namespace Go.Proofs.YtmmjcbbogokmfaaGreatDoor
open Go.RowKit

theorem sb_at (s : ByteArray) (k : Nat) (h : k < s.size) : (sb s)[k]? = some s[k] := by
  have h' : k < (sb s).length := by rw [sb_length]; exact h
  rw [List.getElem?_eq_getElem h']
  rfl
theorem sb_extract (x : ByteArray) (a b : Nat) : sb (x.extract a b) = ((sb x).drop a).take (b - a) := by
  have h := ByteArray.extract_mk (sb x) a b
  rw [mk_sb] at h
  rw [h]
  rfl
theorem leB_eq : ∀ (a b : List UInt8), (Op.bytesLess a b || a == b) = leB a b
  | [], [] => rfl
  | [], y :: b => rfl
  | x :: a, [] => rfl
  | x :: a, y :: b => by
    have ih := leB_eq a b
    rw [leB, ← ih]
    have hn : (x < y) ↔ x.toNat < y.toNat := Iff.rfl
    have he : (x = y) ↔ x.toNat = y.toNat := ⟨fun h => by rw [h], fun h => UInt8.toNat_inj.1 h⟩
    rw [show Op.bytesLess (x :: a) (y :: b) = (decide (x < y) || (x == y && Op.bytesLess a b)) from rfl]
    by_cases h1 : x.toNat < y.toNat
    · simp [hn, h1]
    · by_cases h2 : y.toNat < x.toNat
      · have h3 : ¬ x = y := fun e => by rw [he] at e; omega
        simp [hn, h1, h2, h3]
      · have h3 : x = y := he.2 (by omega)
        subst h3
        simp
theorem dropZ_on (x : ByteArray) (h : 1 < x.size) (h0 : x[0].toNat = 48) : dropZ (sb x) = dropZ (sb (x.extract 1 x.size)) := by
  rw [sb_extract, List.take_of_length_le (by rw [List.length_drop, sb_length]; omega)]
  have h1 := sb_at x 0 (by omega)
  have h2 := sb_length x
  cases e : sb x with
  | nil => rw [e] at h2; simp at h2; omega
  | cons a l =>
    cases l with
    | nil => rw [e] at h2; simp at h2; omega
    | cons b l =>
      rw [e] at h1
      simp only [List.getElem?_cons_zero, Option.some.injEq] at h1
      have : a = 48 := UInt8.toNat_inj.1 (by rw [h1, h0]; rfl)
      rw [dropZ, if_pos this, List.drop_succ_cons, List.drop_zero]
theorem dropZ_off (x : ByteArray) (h : ∀ h : 1 < x.size, x[0].toNat ≠ 48) : dropZ (sb x) = sb x := by
  have h2 := sb_length x
  cases e : sb x with
  | nil => rfl
  | cons a l =>
    cases l with
    | nil => rfl
    | cons b l =>
      rw [e] at h2
      simp only [List.length_cons] at h2
      have h1 := sb_at x 0 (by omega)
      rw [e] at h1
      simp only [List.getElem?_cons_zero, Option.some.injEq] at h1
      rw [dropZ, if_neg (fun ha => h (by omega) (by rw [← h1, ha]; rfl))]
set_option maxRecDepth 100000 in
set_option maxHeartbeats 800000 in
theorem startsInt_any (w : World) (s : ByteArray) (hs : s.size ≤ 1000000) : Calls Tryz.prog 226 #[.string s] w fun e w' => e = .returned (.bool (startsIntB (sb s))) ∧ w = w' := by
  have HL := Lib.hid (show startsIntB (sb s) = ((sb s).all digC && (decide ((dropZ (sb s)).length < 19) || (decide ((dropZ (sb s)).length = 19) && leB (dropZ (sb s)) greatest))) from rfl)
  generalize startsIntB (sb s) = R at *
  go_enter Tryz.func226, Tryz.ntmps226
  go_wp2
  go_loop [6] (fun i => ∃ k : Nat, k ≤ s.size ∧ i = .int .i64 k ∧ ((sb s).take k).all digC = true) (fun i => s.size - (intOf i).toNat)
  case atStart => exact ⟨0, Nat.zero_le _, rfl, rfl⟩
  case round =>
    obtain ⟨k, hk, rfl, hgood⟩ := hrel
    by_cases hlt : k < s.size
    · have Hgood := Lib.hid (show ((sb s).take (k + 1)).all digC = digC s[k] by rw [sb_take_succ s k hlt, List.all_append, hgood]; simp)
      have Hno := Lib.hid (show digC s[k] = false → R = false from fun h => by
        rw [HL.out]
        have : (sb s).all digC = false := by
          rw [← Bool.not_eq_true, List.all_eq_true]
          intro h'
          have := h' s[k] (sb_mem s k hlt)
          rw [h] at this
          cases this
        rw [this]; rfl)
      have b2 : (0 : Int) ≤ (k : Int) := by omega
      have b3 : (k : Int) < (s.size : Int) := by omega
      have b4 : (k : Int).toNat = k := by omega
      have b5 : IntKind.i64.wrap ((k : Int) + 1) = (k : Int) + 1 := IntWalk.i64_in _ (by omega)
      have Hw := Lib.hid (digit_any w s[k])
      unfold bv at Hw
      clear hgood
      generalize hw : digC s[k] = W at *
      clear hw
      cases W
      · have Hn := Lib.hid (Hno.out rfl)
        go_wp2_with (go_at_call 158; refine Hw.out.mono ?_; rintro e w1 ⟨rfl, rfl⟩)
        go_ret
        exact ⟨by rw [Hn.out]; rfl, rfl⟩
      · go_wp2_with (go_at_call 158; refine Hw.out.mono ?_; rintro e w1 ⟨rfl, rfl⟩)
        exact ⟨⟨k + 1, by omega, by go_num, Hgood.out⟩, by simp [intOf]; omega⟩
    · obtain rfl : k = s.size := by omega
      have Hy := Lib.hid (show R = (decide ((dropZ (sb s)).length < 19) || (decide ((dropZ (sb s)).length = 19) && leB (dropZ (sb s)) greatest)) by
        rw [HL.out, show (sb s).all digC = true by rw [← hgood, ← sb_length, List.take_length]]; rfl)
      clear hgood HL hk hlt hs
      go_wp2
      go_loop [0] (fun v => ∃ x : ByteArray, v = .string x ∧ dropZ (sb s) = dropZ (sb x)) (fun v => match v with | .string x => x.size | _ => 0)
      case atStart => exact ⟨s, rfl, rfl⟩
      case round =>
        obtain ⟨x, rfl, hx⟩ := hrel
        by_cases hc : ∃ h : 1 < x.size, x[0].toNat = 48
        · obtain ⟨h1, h48⟩ := hc
          have b1 : (1 : Int) < (x.size : Int) := by omega
          have b0 : (0 : Int) < (x.size : Int) := by omega
          have c1 : (1 : Int) ≤ (x.size : Int) := by omega
          have h0 : 0 < x.size := by omega
          have Hx := Lib.hid (hx.trans (dropZ_on x h1 h48))
          have hb : (((x[0]'h0).toNat : Int) == 48) = true := by rw [h48]; rfl
          have Hsz := Lib.hid (show (x.extract 1 x.size).size < x.size by rw [← sb_length, sb_extract, List.length_take, List.length_drop, sb_length]; omega)
          clear hx h48
          go_wp2
          exact ⟨⟨_, rfl, Hx.out⟩, Hsz.out⟩
        · have hz := dropZ_off x (fun h1 h2 => hc ⟨h1, h2⟩)
          have Hfin := Lib.hid (show R = (decide (x.size < 19) || (decide (x.size = 19) && (Op.bytesLess x.toList greatest || x.toList == greatest))) by
            rw [Hy.out, hx, hz, sb_length, leB_eq, ByteArray.toList_eq]; rfl)
          unfold greatest at Hfin
          have Hc := Lib.hid hc
          clear hx hz Hy hc
          by_cases h1 : 1 < x.size
          · have b1 : (1 : Int) < (x.size : Int) := by omega
            have h0 : 0 < x.size := by omega
            have b0 : (0 : Int) < (x.size : Int) := by omega
            have hb : (((x[0]'h0).toNat : Int) == 48) = false := beq_eq_false_iff_ne.2 (fun e => Hc.out ⟨h1, by omega⟩)
            by_cases h2 : x.size < 19
            · have b2 : (x.size : Int) < 19 := by omega
              have Hf := Lib.hid (show R = true by rw [Hfin.out, decide_eq_true h2]; rfl)
              clear Hfin
              go_wp2
              go_ret
              exact ⟨by rw [Hf.out]; rfl, rfl⟩
            · have b2 : ¬ (x.size : Int) < 19 := by omega
              by_cases h3 : x.size = 19
              · have b3 : ((x.size : Int) == 19) = true := by rw [h3]; rfl
                have Hf := Lib.hid (show R = (Op.bytesLess x.toList [57, 50, 50, 51, 51, 55, 50, 48, 51, 54, 56, 53, 52, 55, 55, 53, 56, 48, 55] || x.toList == [57, 50, 50, 51, 51, 55, 50, 48, 51, 54, 56, 53, 52, 55, 55, 53, 56, 48, 55]) by rw [Hfin.out, decide_eq_false h2, decide_eq_true h3]; rfl)
                clear Hfin h3
                go_wp2
                go_ret
                exact ⟨by rw [Hf.out]; rfl, rfl⟩
              · have b3 : ((x.size : Int) == 19) = false := beq_eq_false_iff_ne.2 (by omega)
                have Hf := Lib.hid (show R = false by rw [Hfin.out, decide_eq_false h2, decide_eq_false h3]; rfl)
                clear Hfin
                go_wp2
                go_ret
                exact ⟨by rw [Hf.out]; rfl, rfl⟩
          · have b1 : ¬ (1 : Int) < (x.size : Int) := by omega
            have b2 : (x.size : Int) < 19 := by omega
            have Hf := Lib.hid (show R = true by rw [Hfin.out, decide_eq_true (by omega)]; rfl)
            clear Hfin
            go_wp2
            go_ret
            exact ⟨by rw [Hf.out]; rfl, rfl⟩
set_option maxRecDepth 100000 in
theorem named_any9 (w : World) (hg : Sg w) (s : ByteArray) (h0 : 0 < s.size) : Calls Tryz.prog 164 #[.string s] w fun e w' => e = .returned (.int .u8 (namedN (sb s) : Nat)) ∧ w = w' := by
  have Hy := Lib.hid (show namedN (sb s) = if digC s[0] = true then 2 else if wordN (sb s) = 0 then 1 else wordN (sb s) by unfold namedN; rw [sb_head s h0])
  have H := Lib.hid (digit_any w s[0])
  have H2 := Lib.hid (word_any9 w hg s)
  have b0 : (0 : Int) < (s.size : Int) := by omega
  unfold bv at H
  clear hg
  generalize namedN (sb s) = R at *
  generalize wordN (sb s) = n at *
  generalize hd : digC s[0] = d at *
  clear hd
  cases d
  · by_cases hn : n = 0
    · have b1 : ((n : Int) != 0) = false := by rw [hn]; rfl
      have Hf := Lib.hid (show R = 1 by rw [Hy.out, if_neg (by decide), if_pos hn])
      clear hn
      go_enter Tryz.func164, Tryz.ntmps164
      go_wp2_with (first | (go_at_call 158; refine H.out.mono ?_; rintro e w1 ⟨rfl, rfl⟩) | (go_at_call 130; refine H2.out.mono ?_; rintro e w1 ⟨rfl, rfl⟩))
      go_ret
      exact ⟨by rw [Hf.out]; rfl, rfl⟩
    · have b1 : ((n : Int) != 0) = true := bne_iff_ne.2 (by omega)
      have Hf := Lib.hid (show R = n by rw [Hy.out, if_neg (by decide), if_neg hn])
      clear hn
      go_enter Tryz.func164, Tryz.ntmps164
      go_wp2_with (first | (go_at_call 158; refine H.out.mono ?_; rintro e w1 ⟨rfl, rfl⟩) | (go_at_call 130; refine H2.out.mono ?_; rintro e w1 ⟨rfl, rfl⟩))
      go_ret
      exact ⟨by rw [Hf.out]; rfl, rfl⟩
  · have Hf := Lib.hid (show R = 2 by rw [Hy.out, if_pos rfl])
    go_enter Tryz.func164, Tryz.ntmps164
    go_wp2_with (first | (go_at_call 158; refine H.out.mono ?_; rintro e w1 ⟨rfl, rfl⟩) | fail)
    go_ret
    exact ⟨by rw [Hf.out]; rfl, rfl⟩
set_option maxRecDepth 100000 in
set_option maxHeartbeats 800000 in
theorem proper_any (w : World) (hg : Sg w) (s : ByteArray) (h0 : 0 < s.size) (hs : s.size ≤ 1000000) : Calls Tryz.prog 198 #[.string s] w fun e w' => e = .returned (.bool (properB (sb s))) ∧ w = w' := by
  have Hy := Lib.hid (show properB (sb s) = ((digC s[0] && startsIntB (sb s)) || decide (wordN (sb s) ≠ 0) || legalB (sb s)) by unfold properB; rw [sb_head s h0])
  have H := Lib.hid (digit_any w s[0])
  have H2 := Lib.hid (word_any9 w hg s)
  have H3 := Lib.hid (startsInt_any w s hs)
  have H4 := Lib.hid (legal_any9 w hg s)
  have b0 : (0 : Int) < (s.size : Int) := by omega
  unfold bv at H
  clear hg
  generalize properB (sb s) = R at *
  generalize wordN (sb s) = n at *
  generalize legalB (sb s) = l at *
  generalize startsIntB (sb s) = i at *
  generalize hd : digC s[0] = d at *
  clear hd
  by_cases hn : n = 0
  · have b1 : ((n : Int) != 0) = false := by rw [hn]; rfl
    have Hf := Lib.hid (show R = ((d && i) || l) by rw [Hy.out, hn]; simp)
    clear hn Hy
    cases d <;> cases i <;>
    · go_enter Tryz.func198, Tryz.ntmps198
      go_wp2_with (first | (go_at_call 158; refine H.out.mono ?_; rintro e w1 ⟨rfl, rfl⟩) | (go_at_call 130; refine H2.out.mono ?_; rintro e w1 ⟨rfl, rfl⟩) | (go_at_call 226; refine H3.out.mono ?_; rintro e w1 ⟨rfl, rfl⟩) | (go_at_call 20; refine H4.out.mono ?_; rintro e w1 ⟨rfl, rfl⟩))
      go_ret
      exact ⟨by rw [Hf.out]; rfl, rfl⟩
  · have b1 : ((n : Int) != 0) = true := bne_iff_ne.2 (by omega)
    have Hf := Lib.hid (show R = true by rw [Hy.out, decide_eq_true hn]; simp)
    clear hn Hy
    cases d <;> cases i <;>
    · go_enter Tryz.func198, Tryz.ntmps198
      go_wp2_with (first | (go_at_call 158; refine H.out.mono ?_; rintro e w1 ⟨rfl, rfl⟩) | (go_at_call 130; refine H2.out.mono ?_; rintro e w1 ⟨rfl, rfl⟩) | (go_at_call 226; refine H3.out.mono ?_; rintro e w1 ⟨rfl, rfl⟩) | (go_at_call 20; refine H4.out.mono ?_; rintro e w1 ⟨rfl, rfl⟩))
      go_ret
      exact ⟨by rw [Hf.out]; rfl, rfl⟩
end Go.Proofs.YtmmjcbbogokmfaaGreatDoor

/- Contract of the machine's comment; what a step of the machine is. -/
namespace Go.Proofs.YtmmjcbbogokmfaaGreatDoor
open Go.RowKit

/-- the machine's place -/
def atOf (g : Nat) (w : World) : Nat := (intOf ((w.cell? ⟨g, 1, none⟩).getD undef)).toNat
section
variable {w w1 w2 : World} {g : Nat} {r : Option Nat} {src : ByteArray} {m : Mc} {A : Option Addr} {c : Nat}
theorem Mac.atOf (h : Mac w g r src m A c) : atOf g w = m.at_ := by
  unfold Go.Proofs.YtmmjcbbogokmfaaGreatDoor.atOf
  rw [h.c1]
  simp [intOf]
theorem Mac.drewN (h : Mac w g r src m A c) (n : Nat) : Mac (w.drewN n) g r src m A c := h.old ((Kp.refl _ _).drewN n)
end
theorem tw_lt (p : UInt8 → Bool) : ∀ (l : List UInt8) (k : Nat), k < (l.takeWhile p).length → ∃ c, l[k]? = some c ∧ p c = true
  | [], k, h => by simp at h
  | a :: l, k, h => by
    rw [List.takeWhile_cons] at h
    split at h
    · rename_i hp
      cases k with
      | zero => exact ⟨a, rfl, hp⟩
      | succ k =>
        rw [List.length_cons] at h
        exact tw_lt p l k (by omega)
    · simp at h
theorem tw_end (p : UInt8 → Bool) : ∀ (l : List UInt8), (l.takeWhile p).length < l.length → ∃ c, l[(l.takeWhile p).length]? = some c ∧ p c = false
  | [], h => by simp at h
  | a :: l, h => by
    rw [List.takeWhile_cons] at h ⊢
    split at h
    · rename_i hp
      rw [if_pos hp]
      rw [List.length_cons, List.length_cons] at h
      obtain ⟨c, h1, h2⟩ := tw_end p l (by omega)
      exact ⟨c, by rw [List.length_cons, List.getElem?_cons_succ]; exact h1, h2⟩
    · rename_i hp
      rw [if_neg hp]
      exact ⟨a, rfl, by simpa using hp⟩
theorem drop_at (s : ByteArray) (a k : Nat) (c : UInt8) (h : ((sb s).drop a)[k]? = some c) : ∃ hlt : a + k < s.size, s[a + k] = c := by
  rw [List.getElem?_drop] at h
  obtain ⟨h1, h2⟩ := List.getElem?_eq_some_iff.1 h
  rw [sb_length] at h1
  exact ⟨h1, h2⟩
set_option maxRecDepth 100000 in
set_option maxHeartbeats 1600000 in
theorem comment_any (w : World) (g : Nat) (r : Option Nat) (src : ByteArray) (m : Mc) (A : Option Addr) (c : Nat) (h : Mac w g r src m A c) (hs : src.size ≤ 1000000) (ha : m.at_ ≤ src.size) :
    Calls Tryz.prog 160 #[.pointer (some ⟨g, 0, none⟩)] w fun e w' => e = .returned (.tuple #[]) ∧ ∃ m', commentN m ((sb src).drop m.at_) = .ok m' ∧ MStep w g r w' src m' := by
  have hl : ((sb src).drop m.at_).length = src.size - m.at_ := by rw [List.length_drop, sb_length]
  have hT := tw_lt (fun c => !lfC c) ((sb src).drop m.at_)
  have hE := tw_end (fun c => !lfC c) ((sb src).drop m.at_)
  have hTl : (((sb src).drop m.at_).takeWhile (fun c => !lfC c)).length ≤ src.size - m.at_ := by rw [← hl]; exact takeWhile_le _ _
  have Hres := Lib.hid (show commentN m ((sb src).drop m.at_) = .ok (if (((sb src).drop m.at_).takeWhile (fun c => !lfC c)).length = src.size - m.at_ then { m with at_ := src.size, fin := 1 } else { m with at_ := m.at_ + (((sb src).drop m.at_).takeWhile (fun c => !lfC c)).length }) by
    unfold commentN
    rw [hl, show m.at_ + (src.size - m.at_) = src.size by omega])
  generalize hTT : (((sb src).drop m.at_).takeWhile (fun c => !lfC c)).length = T at *
  clear hTT
  generalize commentN m ((sb src).drop m.at_) = R at *
  have HT := Lib.hid (fun k (hk : k < T) => drop_at src m.at_ k _ (hT k hk).choose_spec.1)
  have HT2 := Lib.hid (fun k (hk : k < T) => (hT k hk).choose_spec.2)
  have HE := Lib.hid hE
  have Hl := Lib.hid hl
  have H0 := Lib.hid h
  clear hE hl h
  go_enter Tryz.func160, Tryz.ntmps160
  go_wp2
  go_loopw [] (fun wr => ∃ k A c r', k ≤ T ∧ Mac wr g r' src { m with at_ := m.at_ + k } A c ∧ Kp (MX g r) w wr ∧ MFr w r r') (fun wr => src.size - atOf g wr)
  case atStart => exact ⟨0, A, c, r, Nat.zero_le _, H0.out, Kp.refl _ _, .inl rfl⟩
  case round =>
    obtain ⟨k, A, c, r', hk, hM, hkp, hfr⟩ := hrel
    have Hme := Lib.hid hM.atOf
    have hc0 := hM.c0
    have hc1 := hM.c1
    have hc3 := hM.c3
    have hz1 := hM.z 1
    have hz3 := hM.z 3
    simp only at hc0 hc1 hc3
    by_cases hlt : k < T
    · obtain ⟨hin, hch⟩ := HT.out k hlt
      have hlf := HT2.out k hlt
      rw [← hch] at hlf
      clear hch
      have b5 : ((src[m.at_ + k].toNat : Int) != 10) = true := bne_iff_ne.2 (fun e => by
        have : lfC src[m.at_ + k] = true := decide_eq_true (by omega)
        rw [this] at hlf; cases hlf)
      clear hlf hT HT HT2 HE
      have Hset := Lib.hid (fun n => (hM.drewN n).setAt (m.at_ + (k + 1)))
      have Hkp := Lib.hid hkp
      have Hfr := Lib.hid hfr
      clear hM hkp hfr
      generalize hp : m.at_ + k = p at *
      have b1 : (p : Int) < (src.size : Int) := by omega
      have b2 : (0 : Int) ≤ (p : Int) := by omega
      have b3 : (p : Int).toNat = p := by omega
      have b4 : IntKind.i64.wrap ((p : Int) + 1) = (p : Int) + 1 := IntWalk.i64_in _ (by omega)
      go_wp2
      go_quiet (fail)
      go_wp2
      obtain ⟨hM, hk2⟩ := Hset.out nq
      rw [show ((m.at_ + (k + 1) : Nat) : Int) = (p : Int) + 1 by omega] at hM hk2
      exact ⟨⟨k + 1, A, c, r', by omega, hM, (Hkp.out.drewN nq).trans hk2 (MX.trans Hfr.out), Hfr.out⟩, by rw [hM.atOf, Hme.out]; simp only; omega⟩
    · obtain rfl : k = T := by omega
      have hkT := Hres.out
      clear hT HT HT2
      by_cases hend : k = src.size - m.at_
      · rw [if_pos hend] at hkT
        have HR := Lib.hid hkT
        have Hset := Lib.hid (fun n => (hM.drewN n).setFin 1)
        have Hkp := Lib.hid hkp
        have Hfr := Lib.hid hfr
        clear hM hkp hfr Hres hkT HE
        have hp : m.at_ + k = src.size := by omega
        rw [hp] at hc1
        have b1 : ¬ (src.size : Int) < (src.size : Int) := by omega
        have b2 : ((src.size : Int) == (src.size : Int)) = true := by simp
        have Hp := Lib.hid hp
        clear hp hend
        go_wp2
        go_quiet (fail)
        go_wp2
        go_quiet (fail)
        go_wp2
        go_end0
        obtain ⟨hM, hk2⟩ := Hset.out _
        refine ⟨rfl, _, HR.out, r', A, c, ?_, (Hkp.out.drewN _).trans hk2 (MX.trans Hfr.out), Hfr.out⟩
        have := Hp.out
        simp only [this] at hM
        exact hM
      · rw [if_neg hend] at hkT
        have HR := Lib.hid hkT
        obtain ⟨ch, h1, h2⟩ := HE.out (by rw [Hl.out]; omega)
        obtain ⟨hin, hch⟩ := drop_at src m.at_ k ch h1
        rw [← hch] at h2
        have b5 : ((src[m.at_ + k].toNat : Int) != 10) = false := by
          have : lfC src[m.at_ + k] = true := by simpa using h2
          have := of_decide_eq_true this
          rw [this]; rfl
        have Hold := Lib.hid (fun n n2 => (hM.drewN n).drewN n2)
        have Hkp := Lib.hid hkp
        have Hfr := Lib.hid hfr
        clear hM hkp hfr Hres hkT HE h1 h2 hch
        generalize hp : m.at_ + k = p at *
        have b1 : (p : Int) < (src.size : Int) := by omega
        have b2 : (0 : Int) ≤ (p : Int) := by omega
        have b3 : (p : Int).toNat = p := by omega
        have b6 : ((p : Int) == (src.size : Int)) = false := beq_eq_false_iff_ne.2 (by omega)
        go_wp2
        go_quiet (fail)
        go_wp2
        go_quiet (fail)
        go_wp2
        go_end0
        exact ⟨rfl, _, HR.out, r', A, c, Hold.out _ _, (Hkp.out.drewN _).drewN _, Hfr.out⟩
end Go.Proofs.YtmmjcbbogokmfaaGreatDoor

/- Contracts of text.behind and of the machine's text. -/
namespace Go.Proofs.YtmmjcbbogokmfaaGreatDoor
open Go.RowKit

/-- the panic that tells a wrong byte -/
def wrongV (k : Nat) : List PanicEntry := [{ v := .iface 215 (.int .i64 (k : Int)), recovered := false }]
/-- what a step of the machine does -/
def MOut (w : World) (g : Nat) (r : Option Nat) (src : ByteArray) (o : Out) (e : Ending) (w' : World) : Prop :=
  match o with
  | .ok m' => e = .returned (.tuple #[]) ∧ MStep w g r w' src m'
  | .error k => e = .panicked (wrongV k) ∧ Kp (MX g r) w w'
/-- where a text stands behind \\ and a byte -/
def behindN (y : Nat) : Option Nat := if y = 120 then some 6 else if y = 34 ∨ y = 92 ∨ y = 110 ∨ y = 116 then some 4 else none
def BehOut (k : Nat) (o : Option Nat) (e : Ending) : Prop := match o with
  | some x => e = .returned (.int .u8 (x : Int))
  | none => e = .panicked (wrongV k)
set_option maxRecDepth 100000 in
theorem behind_any (w : World) (y k : Nat) : Calls Tryz.prog 197 #[.int .u8 (y : Int), .int .i64 (k : Int)] w fun e w' => w = w' ∧ BehOut k (behindN y) e := by
  have Hy := Lib.hid (show behindN y = if y = 120 then some 6 else if y = 34 ∨ y = 92 ∨ y = 110 ∨ y = 116 then some 4 else none from rfl)
  generalize behindN y = R at *
  by_cases h120 : y = 120
  · have Hr := Lib.hid (show R = some 6 by rw [Hy.out, h120]; rfl)
    subst h120
    clear Hy
    go_enter Tryz.func197, Tryz.ntmps197
    go_wp2
    go_ret
    rw [Hr.out]
    exact ⟨rfl, rfl⟩
  by_cases h34 : y = 34
  · have Hr := Lib.hid (show R = some 4 by rw [Hy.out, h34]; rfl)
    subst h34
    clear Hy
    go_enter Tryz.func197, Tryz.ntmps197
    go_wp2
    go_ret
    rw [Hr.out]
    exact ⟨rfl, rfl⟩
  by_cases h92 : y = 92
  · have Hr := Lib.hid (show R = some 4 by rw [Hy.out, h92]; rfl)
    subst h92
    clear Hy
    go_enter Tryz.func197, Tryz.ntmps197
    go_wp2
    go_ret
    rw [Hr.out]
    exact ⟨rfl, rfl⟩
  by_cases h110 : y = 110
  · have Hr := Lib.hid (show R = some 4 by rw [Hy.out, h110]; rfl)
    subst h110
    clear Hy
    go_enter Tryz.func197, Tryz.ntmps197
    go_wp2
    go_ret
    rw [Hr.out]
    exact ⟨rfl, rfl⟩
  by_cases h116 : y = 116
  · have Hr := Lib.hid (show R = some 4 by rw [Hy.out, h116]; rfl)
    subst h116
    clear Hy
    go_enter Tryz.func197, Tryz.ntmps197
    go_wp2
    go_ret
    rw [Hr.out]
    exact ⟨rfl, rfl⟩
  have Hr := Lib.hid (show R = none by rw [Hy.out, if_neg h120, if_neg (by omega)])
  have b120 : ((y : Int) == 120) = false := beq_eq_false_iff_ne.2 (by omega)
  have b34 : ((y : Int) == 34) = false := beq_eq_false_iff_ne.2 (by omega)
  have b92 : ((y : Int) == 92) = false := beq_eq_false_iff_ne.2 (by omega)
  have b110 : ((y : Int) == 110) = false := beq_eq_false_iff_ne.2 (by omega)
  have b116 : ((y : Int) == 116) = false := beq_eq_false_iff_ne.2 (by omega)
  clear Hy h120 h34 h92 h110 h116
  go_enter Tryz.func197, Tryz.ntmps197
  go_wp2
  refine ⟨rfl, rfl, ?_⟩
  rw [Hr.out]
  exact rfl
end Go.Proofs.YtmmjcbbogokmfaaGreatDoor

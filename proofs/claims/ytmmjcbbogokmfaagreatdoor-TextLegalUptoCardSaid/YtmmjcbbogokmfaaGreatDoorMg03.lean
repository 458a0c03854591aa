import Derived.Test.YtmmjcbbogokmfaaGreatDoorMg02
/- Contracts of docketref9's Legal: a name, by the document's own answer. -/
namespace Go.Proofs.YtmmjcbbogokmfaaGreatDoor
open Go.RowKit

theorem rletter_any (w : World) (c : UInt8) : Calls Tryz.prog 131 #[bv c] w fun e w' => e = .returned (.bool (letC c)) ∧ w = w' := by
  have Hy := Lib.hid (show letC c = decide (97 ≤ c.toNat ∧ c.toNat ≤ 122) from rfl)
  have h8 := c.toNat_lt
  generalize letC c = R at *
  unfold bv
  generalize c.toNat = k at *
  go_enter Tryz.func131, Tryz.ntmps131
  go_wp2
  all_goals (go_ret; refine ⟨?_, rfl⟩; rw [Hy.out]; refine retb ?_; simp <;> omega)
theorem rdigit_any (w : World) (c : UInt8) : Calls Tryz.prog 159 #[bv c] w fun e w' => e = .returned (.bool (digC c)) ∧ w = w' := by
  have Hy := Lib.hid (show digC c = decide (48 ≤ c.toNat ∧ c.toNat ≤ 57) from rfl)
  have h8 := c.toNat_lt
  generalize digC c = R at *
  unfold bv
  generalize c.toNat = k at *
  go_enter Tryz.func159, Tryz.ntmps159
  go_wp2
  all_goals (go_ret; refine ⟨?_, rfl⟩; rw [Hy.out]; refine retb ?_; simp <;> omega)
theorem rwordByte_any (w : World) (c : UInt8) : Calls Tryz.prog 132 #[bv c] w fun e w' => e = .returned (.bool (wordC c)) ∧ w = w' := by
  have Hy := Lib.hid (show wordC c = (letC c || digC c || decide (c.toNat = 95)) from rfl)
  have H1 := Lib.hid (rletter_any w c)
  have H2 := Lib.hid (rdigit_any w c)
  have h8 := c.toNat_lt
  generalize letC c = L at *
  generalize digC c = D at *
  generalize wordC c = R at *
  unfold bv at *
  generalize c.toNat = k at *
  go_enter Tryz.func132, Tryz.ntmps132
  go_wp2_with fail
  refine H1.out.mono ?_
  rintro e w1 ⟨rfl, rfl⟩
  cases L
  · go_wp2_with fail
    refine H2.out.mono ?_
    rintro e w1 ⟨rfl, rfl⟩
    cases D
    · go_wp2
      all_goals (go_ret; refine ⟨?_, rfl⟩; rw [Hy.out]; refine retb ?_; simp <;> omega)
    · go_wp2
      all_goals (go_ret; refine ⟨?_, rfl⟩; rw [Hy.out]; rfl)
  · go_wp2
    all_goals (go_ret; refine ⟨?_, rfl⟩; rw [Hy.out]; rfl)
set_option maxRecDepth 100000 in
set_option maxHeartbeats 800000 in
theorem rnameSoFar_any (w : World) (s : ByteArray) : Calls Tryz.prog 71 #[.string s] w fun e w' => e = .returned (.bool (startsNameB (sb s))) ∧ w = w' := by
  have HL := Lib.hid (show startsNameB (sb s) = (decide (0 < s.size ∧ s.size ≤ 64) && letC ((sb s).headD 0) && (sb s).all wordC) by unfold startsNameB; rw [sb_length])
  generalize startsNameB (sb s) = R at *
  by_cases h0 : s.size = 0
  · have Hno := Lib.hid (show R = false by rw [HL.out, decide_eq_false (by omega)]; rfl)
    have b0 : ((s.size : Int) == 0) = true := by rw [h0]; rfl
    have Hz := Lib.hid h0
    clear h0
    go_enter Tryz.func71, Tryz.ntmps71
    go_wp2
    go_ret
    exact ⟨by rw [Hno.out]; rfl, rfl⟩
  · have b0 : ((s.size : Int) == 0) = false := beq_eq_false_iff_ne.2 (by omega)
    by_cases h1 : s.size ≤ 64
    · have b1 : ¬ (64 : Int) < (s.size : Int) := by omega
      have hp : 0 < s.size := by omega
      have hpI : (0 : Int) < (s.size : Int) := by omega
      have Hc := Lib.hid (show R = (letC s[0] && (sb s).all wordC) by rw [HL.out, decide_eq_true (by omega), sb_head s hp]; rfl)
      have H0 := Lib.hid (rletter_any w s[0])
      unfold bv at H0
      clear HL
      generalize hl : letC s[0] = L at *
      clear hl
      cases L
      · have Hno := Lib.hid (show R = false by rw [Hc.out]; rfl)
        go_enter Tryz.func71, Tryz.ntmps71
        go_wp2_with (go_at_call 131; refine H0.out.mono ?_; rintro e w1 ⟨rfl, rfl⟩)
        go_ret
        exact ⟨by rw [Hno.out]; rfl, rfl⟩
      · have Hc := Lib.hid (show R = (sb s).all wordC by rw [Hc.out]; rfl)
        have h1i : (s.size : Int) ≤ 64 := by omega
        go_enter Tryz.func71, Tryz.ntmps71
        go_wp2_with (go_at_call 131; refine H0.out.mono ?_; rintro e w1 ⟨rfl, rfl⟩)
        clear H0
        go_loop [3] (fun i => ∃ k : Nat, k ≤ s.size ∧ i = .int .i64 k ∧ ((sb s).take k).all wordC = true) (fun i => s.size - (intOf i).toNat)
        case atStart => exact ⟨0, Nat.zero_le _, rfl, rfl⟩
        case round =>
          obtain ⟨k, hk, rfl, hgood⟩ := hrel
          by_cases hlt : k < s.size
          · have Hgood := Lib.hid (show ((sb s).take (k + 1)).all wordC = wordC s[k] by rw [sb_take_succ s k hlt, List.all_append, hgood]; simp)
            have Hno := Lib.hid (show wordC s[k] = false → R = false from fun h => by
              rw [Hc.out, ← Bool.not_eq_true, List.all_eq_true]
              intro h'
              have := h' s[k] (sb_mem s k hlt)
              rw [h] at this
              cases this)
            have b2 : (0 : Int) ≤ (k : Int) := by omega
            have b3 : (k : Int) < (s.size : Int) := by omega
            have b4 : (k : Int).toNat = k := by omega
            have Hw := Lib.hid (rwordByte_any w s[k])
            unfold bv at Hw
            clear hgood
            generalize hw : wordC s[k] = W at *
            clear hw
            cases W
            · have Hn := Lib.hid (Hno.out rfl)
              go_wp2_with (go_at_call 132; refine Hw.out.mono ?_; rintro e w1 ⟨rfl, rfl⟩)
              go_ret
              exact ⟨by rw [Hn.out]; rfl, rfl⟩
            · go_wp2_with (go_at_call 132; refine Hw.out.mono ?_; rintro e w1 ⟨rfl, rfl⟩)
              exact ⟨⟨k + 1, by omega, by go_num, Hgood.out⟩, by simp [intOf]; omega⟩
          · obtain rfl : k = s.size := by omega
            have Hy := Lib.hid (show R = true by rw [Hc.out, ← hgood, ← sb_length, List.take_length])
            clear hgood
            go_wp2
            go_ret
            exact ⟨by rw [Hy.out]; rfl, rfl⟩
    · have b1 : (64 : Int) < (s.size : Int) := by omega
      have Hno := Lib.hid (show R = false by rw [HL.out, decide_eq_false (by omega)]; rfl)
      clear HL h0 h1
      go_enter Tryz.func71, Tryz.ntmps71
      go_wp2
      go_ret
      exact ⟨by rw [Hno.out]; rfl, rfl⟩
/-- the document's words, in its order -/
def resR : List (List UInt8) := [[116, 121, 112, 101], [97, 116, 116, 114, 105, 98, 117, 116, 101], [115, 116, 97, 103, 101], [109, 105, 108, 101, 115, 116, 111, 110, 101], [115, 116, 101, 112], [105, 110], [111, 112, 101, 110, 115], [99, 108, 111, 115, 101, 115], [114, 101, 97, 99, 104, 101, 100], [119, 104, 101, 110], [114, 101, 111, 112, 101, 110], [105, 110, 116], [98, 111, 111, 108], [116, 101, 120, 116], [116, 105, 109, 101], [115, 101, 116], [111, 112, 116, 105, 111, 110, 97, 108], [105, 102], [116, 104, 101, 110], [101, 108, 115, 101], [111, 114], [97, 110, 100], [110, 111, 116], [116, 114, 117, 101], [102, 97, 108, 115, 101], [110, 111, 116, 104, 105, 110, 103], [104, 97, 115], [115, 105, 122, 101], [106, 111, 105, 110], [111, 112, 101, 110], [99, 108, 111, 99, 107], [115, 116, 101, 112, 115], [109, 105, 110], [109, 97, 120], [100, 101, 102, 97, 117, 108, 116]]
theorem idx_none (w : List UInt8) : ∀ (l : List (List UInt8)) (k : Nat), 0 < k → (idxFrom k w l = 0 ↔ w ∉ l)
  | [], k, _ => by rw [idxFrom]; simp
  | x :: l, k, hk => by
    rw [idxFrom]
    by_cases e : x = w
    · rw [if_pos e]
      simp [e]
      omega
    · rw [if_neg e, idx_none w l (k + 1) (by omega)]
      rw [List.mem_cons]
      exact ⟨fun h h2 => h2.elim (fun e2 => e e2.symm) h, fun h h2 => h (.inr h2)⟩
theorem res_same (w : List UInt8) : w ∈ resR ↔ w ∈ resL := by
  have h1 : ∀ x ∈ resR, x ∈ resL := by decide +kernel
  have h2 : ∀ x ∈ resL, x ∈ resR := by decide +kernel
  exact ⟨h1 w, h2 w⟩
theorem word_res (w : List UInt8) : wordN w = 0 ↔ w ∉ resR := by
  rw [res_same, ← idx_none w resL 23 (by decide)]
  rfl
/-- the document's words lie in their variable -/
def SgR (w : World) : Prop := w.rangeAt 1 0 (wvs resR)
theorem SgR.kp {X : Nat → Prop} {w w' : World} (h : SgR w) (hk : Kp X w w') (h1 : ¬ X 1) : SgR w' := rangeAt_kp h hk h1
theorem SgR.old {w w' : World} (h : SgR w) (hk : Old w w') : SgR w' := h.kp hk (fun f => f)
theorem resR_len : resR.length = 35 := rfl
theorem take_not {w : List UInt8} {l : List (List UInt8)} {k : Nat} (hk : k < l.length) (h : w ∉ l.take k) (hn : l[k] ≠ w) : w ∉ l.take (k + 1) := by
  rw [List.take_succ_eq_append_getElem hk, List.mem_append]
  rintro (e | e)
  · exact h e
  · rw [List.mem_singleton] at e
    exact hn e.symm
set_option maxRecDepth 100000 in
set_option maxHeartbeats 800000 in
theorem risReserved_any (w : World) (hg : SgR w) (s : ByteArray) : Calls Tryz.prog 72 #[.string s] w fun e w' => e = .returned (.bool (decide (wordN (sb s) ≠ 0))) ∧ w = w' := by
  have Hr := Lib.hid hg
  have Hy := Lib.hid (word_res (sb s))
  have Hx := Lib.hid (fun j (hj : j < 35) => wvs_at resR j hj)
  clear hg
  generalize wordN (sb s) = n at *
  have Hall := Lib.hid (show resR.take 35 = resR from rfl)
  have Hget := Lib.hid (fun (j : Nat) (hj : j < 35) (e : resR[j]'hj = sb s) => (show sb s ∈ resR from e ▸ List.getElem_mem _))
  have Htk := Lib.hid (fun (j : Nat) (hj : j < 35) => take_not (w := sb s) (l := resR) (k := j) hj)
  have Hnil := Lib.hid (show sb s ∉ resR.take 0 from by simp)
  unfold SgR at Hr
  obtain ⟨R, hR0⟩ : ∃ R, decide (n ≠ 0) = R := ⟨_, rfl⟩
  rw [hR0]
  have HR0 := Lib.hid hR0
  clear hR0
  go_enter Tryz.func72, Tryz.ntmps72
  go_wp2_with fail
  go_loop [3] (fun i => ∃ j : Nat, j ≤ 35 ∧ i = .int .i64 j ∧ sb s ∉ resR.take j) (fun i => 35 - (intOf i).toNat)
  case atStart => exact ⟨0, by omega, rfl, Hnil.out⟩
  case round =>
    obtain ⟨j, hj, rfl, hR⟩ := hrel
    by_cases hlt : j < 35
    · have hc : w.cell? ⟨1, j, none⟩ = some (.string ⟨(resR[j]'hlt).toArray⟩) := by
        have := Hr.out j _ (Hx.out j hlt)
        rwa [Nat.zero_add] at this
      have hget := Hget.out j hlt
      have htk := Htk.out j hlt hR
      generalize resR[j]'hlt = rw at *
      have b1 : (j : Int) < 35 := by omega
      have b2 : (0 : Int) ≤ (j : Int) := by omega
      have b3 : (j : Int).toNat = j := by omega
      by_cases he : rw = sb s
      · have hin := hget he
        rw [mk_eq.2 he] at hc
        have HN := Lib.hid (show R = true from HR0.out.symm.trans <| decide_eq_true (fun e => Hy.out.1 e hin))
        clear he hin hget htk hR
        go_wp2
        go_ret
        exact ⟨by rw [HN.out]; rfl, rfl⟩
      · have hne : ¬ (⟨rw.toArray⟩ : ByteArray) = s := fun h => he (mk_eq.1 h)
        have HT := Lib.hid (htk he)
        clear he hget htk hR
        generalize (⟨rw.toArray⟩ : ByteArray) = x at *
        have hne2 : (x.toList == s.toList) = false := beq_eq_false_iff_ne.2 (fun h => hne (bytes_same h))
        clear hne
        go_wp2
        exact ⟨⟨j + 1, by omega, by go_num, HT.out⟩, by simp [intOf]; omega⟩
    · obtain rfl : j = 35 := by omega
      rw [Hall.out] at hR
      have HN := Lib.hid (show R = false from HR0.out.symm.trans <| decide_eq_false (fun e => e (Hy.out.2 hR)))
      clear hR
      go_wp2
      go_ret
      exact ⟨by rw [HN.out]; rfl, rfl⟩
set_option maxRecDepth 100000 in
theorem rlegal_any (w : World) (hg : SgR w) (s : ByteArray) : Calls Tryz.prog 21 #[.string s] w fun e w' => e = .returned (.bool (legalB (sb s))) ∧ w = w' := by
  have Hy := Lib.hid (show legalB (sb s) = (startsNameB (sb s) && decide (wordN (sb s) = 0)) from rfl)
  have H := Lib.hid (rnameSoFar_any w s)
  have H2 := Lib.hid (risReserved_any w hg s)
  generalize wordN (sb s) = n at *
  generalize startsNameB (sb s) = a at *
  generalize legalB (sb s) = R at *
  clear hg
  cases a
  · have Hn := Lib.hid (show R = false by rw [Hy.out]; rfl)
    go_enter Tryz.func21, Tryz.ntmps21
    go_wp2_with (go_at_call 71; refine H.out.mono ?_; rintro e w1 ⟨rfl, rfl⟩)
    go_ret
    exact ⟨by rw [Hn.out]; rfl, rfl⟩
  · have Hn := Lib.hid (show R = !(decide (n ≠ 0)) by rw [Hy.out]; simp)
    generalize decide (n ≠ 0) = b at *
    go_enter Tryz.func21, Tryz.ntmps21
    go_wp2_with (first | (go_at_call 71; refine H.out.mono ?_; rintro e w1 ⟨rfl, rfl⟩) | (go_at_call 72; refine H2.out.mono ?_; rintro e w1 ⟨rfl, rfl⟩))
    all_goals (go_ret; exact ⟨by rw [Hn.out]; rfl, rfl⟩)
/-- how many parts a node has, by the document -/
def kidsR (op : Int) : Int := if op < 1 ∨ 34 ≤ op then -2 else if op = 6 then -1 else if op = 23 then 3 else if op = 7 ∨ op = 8 ∨ op = 27 then 1 else if op ≤ 5 ∨ op = 24 ∨ op = 25 ∨ op = 26 ∨ op = 29 ∨ op = 30 then 0 else 2
set_option maxHeartbeats 6400000 in
theorem rkids_any (w : World) (op : Int) : Calls Tryz.prog 73 #[.int .i64 op] w fun e w' => e = .returned (.int .i64 (kidsR op)) ∧ w = w' := by
  by_cases h1 : op < 1
  · rw [show kidsR op = -2 by unfold kidsR; rw [if_pos (.inl h1)]]
    go_enter Tryz.func73, Tryz.ntmps73
    go_wp2
    go_ret
    exact ⟨rfl, rfl⟩
  by_cases h2 : 34 ≤ op
  · rw [show kidsR op = -2 by unfold kidsR; rw [if_pos (.inr h2)]]
    go_enter Tryz.func73, Tryz.ntmps73
    go_wp2
    go_ret
    exact ⟨rfl, rfl⟩
  have h3 : op = 1 ∨ op = 2 ∨ op = 3 ∨ op = 4 ∨ op = 5 ∨ op = 6 ∨ op = 7 ∨ op = 8 ∨ op = 9 ∨ op = 10 ∨ op = 11 ∨ op = 12 ∨ op = 13 ∨ op = 14 ∨ op = 15 ∨ op = 16 ∨ op = 17 ∨ op = 18 ∨ op = 19 ∨ op = 20 ∨ op = 21 ∨ op = 22 ∨ op = 23 ∨ op = 24 ∨ op = 25 ∨ op = 26 ∨ op = 27 ∨ op = 28 ∨ op = 29 ∨ op = 30 ∨ op = 31 ∨ op = 32 ∨ op = 33 := by omega
  clear h1 h2
  rcases h3 with rfl | rfl | rfl | rfl | rfl | rfl | rfl | rfl | rfl | rfl | rfl | rfl | rfl | rfl | rfl | rfl | rfl | rfl | rfl | rfl | rfl | rfl | rfl | rfl | rfl | rfl | rfl | rfl | rfl | rfl | rfl | rfl | rfl
  all_goals
    go_enter Tryz.func73, Tryz.ntmps73
    go_wp2
    go_ret
    exact ⟨rfl, rfl⟩
end Go.Proofs.YtmmjcbbogokmfaaGreatDoor

/- The machine over bytes, plain: texts, words, signs; run. -/
namespace Go.Proofs.YtmmjcbbogokmfaaGreatDoor

/-- where a text stands behind its bytes -/
inductive TxR where
  | wrong (k : Nat)
  | shut (k : Nat)
  | ends (e : Nat)
def hexC (c : UInt8) : Bool := digC c || decide (97 ≤ c.toNat ∧ c.toNat ≤ 102)
def textGo : List UInt8 → Nat → Nat → TxR
  | [], _, e => .ends e
  | c :: l, k, e =>
    if e = 4 then
      (if c.toNat = 34 then .shut (k + 1) else if c.toNat = 92 then textGo l (k + 1) 5 else if c.toNat < 32 ∨ 126 < c.toNat then .wrong k else textGo l (k + 1) 4)
    else if e = 5 then
      (if c.toNat = 120 then textGo l (k + 1) 6 else if c.toNat = 34 ∨ c.toNat = 92 ∨ c.toNat = 110 ∨ c.toNat = 116 then textGo l (k + 1) 4 else .wrong k)
    else (if hexC c = false then .wrong k else textGo l (k + 1) (if e = 7 then 4 else e + 1))
/-- the words that may come next -/
def wordsN (st : List Nat) : List (List UInt8) → Nat → List (List UInt8)
  | [], _ => []
  | r :: l, i => if mayN (23 + i) st = true then r :: wordsN st l (i + 1) else wordsN st l (i + 1)
/-- may what is asked for begin with this run? -/
def fitsB (name int : Bool) (ws : List (List UInt8)) (w : List UInt8) : Bool := (name && startsNameB w) || (int && startsIntB w) || ws.any (fun r => w.isPrefixOf r)
/-- through a word's bytes: the first wrong place; none: all of it fits, to the end of all bytes -/
def spellGo (name int : Bool) (ws : List (List UInt8)) : List UInt8 → List UInt8 → Nat → Option Nat
  | _, [], _ => none
  | w, c :: l, k => if wordC c = false then some k else if fitsB name int ws (w ++ [c]) = true then spellGo name int ws (w ++ [c]) l (k + 1) else some k
def namedN (w : List UInt8) : Nat := if digC (w.headD 0) = true then 2 else if wordN w = 0 then 1 else wordN w
def properB (w : List UInt8) : Bool := (digC (w.headD 0) && startsIntB w) || decide (wordN w ≠ 0) || legalB w
def lfC (c : UInt8) : Bool := decide (c.toNat = 10)
def blankC (c : UInt8) : Bool := decide (c.toNat = 32 ∨ c.toNat = 9 ∨ c.toNat = 10 ∨ c.toNat = 13)
/-- one step: what the machine becomes, or the first wrong byte -/
abbrev Out := Except Nat Mc
def taken (t : Nat) (m : Mc) (k : Nat) : Out := match takeN t (m.stack.length + 100) m.stack with
  | some s => .ok { m with at_ := k, stack := s }
  | none => .error 1000000
def commentN (m : Mc) (l : List UInt8) : Out :=
  let r := l.takeWhile (fun c => !lfC c)
  .ok (if r.length = l.length then { m with at_ := m.at_ + l.length, fin := 1 } else { m with at_ := m.at_ + r.length })
def spellN (m : Mc) (l : List UInt8) : Out :=
  match spellGo (mayN 1 m.stack) (mayN 2 m.stack) (wordsN m.stack resL 0) [] l m.at_ with
  | some k => .error k
  | none => .ok { m with at_ := m.at_ + l.length, fin := 2 }
def wordStep (m : Mc) (l : List UInt8) : Out :=
  let w := l.takeWhile wordC
  let m1 := { m with from_ := m.at_ }
  if w.length < l.length ∧ properB w = true ∧ mayN (namedN w) m.stack = true then taken (namedN w) m1 (m.at_ + w.length) else spellN m1 l
def textStep (m : Mc) (l : List UInt8) : Out :=
  if mayN 3 m.stack = false then .error m.at_
  else match textGo (l.drop 1) (m.at_ + 1) 4 with
    | .wrong k => .error k
    | .shut k => taken 3 { m with from_ := m.at_, fin := 0 } k
    | .ends e => .ok { m with from_ := m.at_, at_ := m.at_ + l.length, fin := e }
def signStep (m : Mc) (c : UInt8) (l : List UInt8) : Out :=
  let one := signN [c]
  let two := signN [c, 61]
  let m1 := { m with from_ := m.at_ }
  if one ≠ 0 ∧ mayN one m.stack = true then
    (if two ≠ 0 ∧ mayN two m.stack = true ∧ l.headD 0 = 61 then taken two m1 (m.at_ + 2) else taken one m1 (m.at_ + 1))
  else if two = 0 ∨ mayN two m.stack = false then .error m.at_
  else if l = [] then .ok { m1 with at_ := m.at_ + 1, fin := 3 }
  else if l.headD 0 ≠ 61 then .error (m.at_ + 1)
  else taken two m1 (m.at_ + 2)
/-- one step at the bytes l (not empty) that stand from the machine's place on -/
def stepN (m : Mc) : List UInt8 → Out
  | [] => .ok m
  | c :: l =>
    if blankC c = true then .ok { m with at_ := m.at_ + 1 }
    else if c.toNat = 35 then commentN m (c :: l)
    else if c.toNat = 34 then textStep m (c :: l)
    else if wordC c = true then wordStep m (c :: l)
    else signStep m c l
/-- all bytes gone through -/
def runN (src : List UInt8) : Nat → Mc → Out
  | 0, m => .ok m
  | f + 1, m => if src.length ≤ m.at_ then .ok m else match stepN m (src.drop m.at_) with
    | .error k => .error k
    | .ok m' => runN src f m'
def startM : Mc := ⟨0, [23, 1, 4, 58, 5], 0, 0⟩
def begunN (src : List UInt8) : Out := runN src (src.length + 1) startM
/-- are these bytes a type's text? if not: the first wrong byte -/
def parsesN (src : List UInt8) : Option Nat := match begunN src with
  | .error k => some k
  | .ok m => if m.stack = [] then none else some src.length
end Go.Proofs.YtmmjcbbogokmfaaGreatDoor

/- What is wanting, plain: the shortest ends, Finish. -/
namespace Go.Proofs.YtmmjcbbogokmfaaGreatDoor

/-- is x ahead of y, of rows as long? -/
def ltB : List UInt8 → List UInt8 → Bool
  | a :: x, b :: y => if a = b then ltB x y else decide (a.toNat < b.toNat)
  | _, _ => false
def aheadB (x y : List UInt8) : Bool := if x.length = y.length then ltB x y else decide (x.length < y.length)
def lessB (x y : List UInt8) : List UInt8 := if aheadB y x = true then y else x
def spelledN (s : Nat) : List UInt8 :=
  if s = 1 then [97] else if s = 2 then [48] else if s = 3 then [34, 34] else if s < 23 then signL.getD (s - 4) [] else resL.getD (s - 23) []
def wordedB (s : Nat) : Bool := decide (s ≤ 2 ∨ 23 ≤ s)
/-- the ends with a symbol ahead of them (behind a word's byte, behind another) -/
def beforeN (n : Nat) (e : List UInt8 × List UInt8) : List UInt8 × List UInt8 :=
  if emptyN n = true then e
  else if n = 60 then (9 :: (spelledN 34 ++ e.1), spelledN 34 ++ e.1)
  else if 58 ≤ n then (lessB (9 :: 48 :: e.1) (34 :: 34 :: e.2), lessB (48 :: e.1) (34 :: 34 :: e.2))
  else if wordedB n = true then (9 :: (spelledN n ++ e.1), spelledN n ++ e.1)
  else (spelledN n ++ e.2, spelledN n ++ e.2)
/-- the stack's top is its head -/
def restN (st : List Nat) : List UInt8 × List UInt8 := st.foldr beforeN ([], [])
def withN (t : Nat) (st : List Nat) : List Nat := (takeN t (st.length + 100) st).getD []
def tryN (st : List Nat) (best : List UInt8) (t : Nat) (more : List UInt8) : List UInt8 :=
  if mayN t st = true then
    (let r := more ++ (restN (withN t st)).1
     if best = [] ∨ aheadB r best = true then r else best)
  else best
def triesN (st : List Nat) (w : List UInt8) : List (List UInt8) → Nat → List UInt8 → List UInt8
  | [], _, best => best
  | r :: l, i, best => triesN st w l (i + 1) (if w.isPrefixOf r = true then tryN st best (23 + i) (r.drop w.length) else best)
def wordEnd (st : List Nat) (w : List UInt8) : List UInt8 :=
  let best := triesN st w resL 0 []
  if digC (w.headD 0) = true then tryN st best 2 []
  else if legalB w = true then tryN st best 1 []
  else if w.length < 64 ∧ startsNameB w = true then tryN st best 1 [48]
  else best
def finishedN (src : List UInt8) (m : Mc) : List UInt8 :=
  if m.fin = 1 then (let e := (restN m.stack).2; if e = [] then [] else 10 :: e)
  else if m.fin = 2 then wordEnd m.stack (src.drop m.from_)
  else if m.fin = 3 then 61 :: (restN (withN (signN (src.drop m.from_ ++ [61])) m.stack)).2
  else if m.fin = 4 then 34 :: (restN (withN 3 m.stack)).2
  else if m.fin = 5 then 34 :: 34 :: (restN (withN 3 m.stack)).2
  else if m.fin = 6 then 48 :: 48 :: 34 :: (restN (withN 3 m.stack)).2
  else if m.fin = 7 then 48 :: 34 :: (restN (withN 3 m.stack)).2
  else (restN m.stack).2
def finishN (src : List UInt8) : Option (List UInt8) := if src.length ≤ 60000 then (match begunN src with
  | .error _ => none
  | .ok m => some (finishedN src m)) else none
end Go.Proofs.YtmmjcbbogokmfaaGreatDoor

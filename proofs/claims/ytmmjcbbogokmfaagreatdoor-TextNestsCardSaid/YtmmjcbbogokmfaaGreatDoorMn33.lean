import Derived.Test.YtmmjcbbogokmfaaGreatDoorMn04
import Derived.Test.YtmmjcbbogokmfaaGreatDoorMn11
import Derived.Test.YtmmjcbbogokmfaaGreatDoorMn32
/- Contract of the reader's read. -/
namespace Go.Proofs.YtmmjcbbogokmfaaGreatDoor
open Go.RowKit

theorem nextN_tree {src : List UInt8} {r r1 : Rdr} (t : Tre) (h : nextN src r = some r1) : nextN src { r with tree := t } = some { r1 with tree := t } := by
  unfold nextN at h ⊢
  simp only at h ⊢
  split at h
  · rename_i h1
    rw [if_pos h1]
    injection h with h
    rw [← h]
  · rename_i h1
    rw [if_neg h1]
    obtain ⟨x, hx, e⟩ := Option.map_eq_some_iff.1 h
    rw [hx, ← e]
    rfl
theorem St.setName {w : World} {g : Nat} {src : ByteArray} {r : Rdr} {s : Sl} (h : St w g src r s) (x : ByteArray) (y : Int) :
    St ((w.setCell ⟨g, 5, none⟩ (.string x)).setCell ⟨g, 6, none⟩ (.int .i64 y)) g src { r with tree := { r.tree with name := x, at_ := y } } s ∧ Fr g s s w ((w.setCell ⟨g, 5, none⟩ (.string x)).setCell ⟨g, 6, none⟩ (.int .i64 y)) := by
  obtain ⟨ns, ps, hR⟩ := h.rows
  have hk : Kp (GX g) w ((w.setCell ⟨g, 5, none⟩ (.string x)).setCell ⟨g, 6, none⟩ (.int .i64 y)) := ((Kp.refl (GX g) w).setCell (p := ⟨g, 5, none⟩) (fun _ => rfl) _).setCell (p := ⟨g, 6, none⟩) (fun _ => rfl) _
  have hR2 := hR.keep h.box hk
  have hb := (Blk.setL h.box 5 (.string x)).setL 6 (.int .i64 y)
  refine ⟨⟨h.sgf (Fr.of_g s hk), h.g8, h.small, hb, ⟨ns, ps, hR2.rA, hR2.rG, hR2.rM, hR2.rP, hR2.rN, hR2.rO, hR2.pe, hR2.ne, hR2.po, hR2.no⟩, h.from_, h.at_, h.t58, fun b hz => Nat.lt_of_lt_of_le (h.zlt b hz) hk.size, h.z8, h.zno⟩, Fr.of_g s hk⟩
/-- declarations are read -/
def DeRel (src : ByteArray) (w : World) (g : Nat) (s : Sl) (rr : Rdr) (F n : Nat) (W : World) : Prop := n ≤ F ∧ ∃ r' s', St W g src r' s' ∧ Fr g s s' w W ∧ declsN (sb src) n r' = some rr
set_option maxRecDepth 100000 in
set_option maxHeartbeats 3200000 in
theorem read_any (w : World) (g : Nat) (src : ByteArray) (f : Nat) (r' : Rdr) (s : Sl) (h : St w g src ⟨0, 0, 0, 0, Tre.none_⟩ s) (hk : readN (sb src) f = some r') :
    Calls Tryz.prog 78 #[.pointer (some ⟨g, 0, none⟩)] w (Ex w g src s r' (.tuple #[])) := by
  unfold readN at hk
  obtain ⟨r1, hn1, hk⟩ := Option.bind_eq_some_iff.1 hk
  obtain ⟨r2, hn2, hk⟩ := Option.bind_eq_some_iff.1 hk
  obtain ⟨⟨nm, at_, r3⟩, hm, hk⟩ := Option.bind_eq_some_iff.1 hk
  obtain ⟨r4, hn4, hk⟩ := Option.bind_eq_some_iff.1 hk
  have hn5 := nextN_tree { r3.tree with name := nm, at_ := at_ } hn4
  have e43 : r4.tree = r3.tree := by
    have hn4' := hn4
    unfold nextN at hn4'
    simp only at hn4'
    split at hn4'
    · injection hn4' with e; rw [← e]
    · obtain ⟨x, _, e⟩ := Option.map_eq_some_iff.1 hn4'; rw [← e]
  have HS := Lib.hid h
  have N1 := Lib.hid hn1
  have N2 := Lib.hid hn2
  have NM := Lib.hid hm
  have N4 := Lib.hid hn5
  simp only at hk
  rw [e43] at hk
  have DE := Lib.hid hk
  clear h hn1 hn2 hm hn4 hn5 hk e43
  go_enter Tryz.func78, Tryz.ntmps78
  go_wp2_with (first | (go_at_call 135; first | (refine (next_st _ g src _ _ _ H4.out.1 N4.out).mono ?_; rintro e w4 ⟨rfl, hX⟩; have H5 := Lib.hid hX; clear hX) | (refine (next_st _ g src _ _ _ H1.out.1 N2.out).mono ?_; rintro e w2 ⟨rfl, hX⟩; have H2 := Lib.hid hX; clear hX) | (refine (next_st _ g src _ _ _ HS.out N1.out).mono ?_; rintro e w1 ⟨rfl, hX⟩; have H1 := Lib.hid hX; clear hX)) | (go_at_call 136; refine (name_any _ g src _ _ _ _ _ H2.out.1 NM.out).mono ?_; rintro e w3 ⟨rfl, hX⟩; have c5 := Blk.at_ hX.1.box 5 rfl; have z5 := hX.1.box.z 5; have c6 := Blk.at_ hX.1.box 6 rfl; have z6 := hX.1.box.z 6; have H4 := Lib.hid (hX.1.setName nm at_); have H3 := Lib.hid hX.2; clear hX; unfold iv) | fail)
  have D0 := Lib.hid (show DeRel src w g s r' f f w4 from ⟨Nat.le_refl _, _, s, H5.out.1, (((H1.out.2.trans H2.out.2).trans H3.out).trans H4.out.2).trans H5.out.2, DE.out⟩)
  clear H1 H2 H3 H4 H5 c5 z5 c6 z6 DE
  go_loopw [] (fun wr => ∃ n, DeRel src w g s r' f n wr) (fun wr => least (fun n => DeRel src w g s r' f n wr))
  case atStart => exact ⟨_, D0.out⟩
  case round =>
    clear D0
    obtain ⟨n, ⟨hn, rr, s', hst, hfr, hex⟩, hmin⟩ := least_of hrel
    have hc3 := hst.box.c3
    have Hst := Lib.hid hst
    have Hfr := Lib.hid hfr
    have Hmin := Lib.hid hmin
    cases n with
    | zero => exact absurd hex (by simp [declsN])
    | succ m =>
      rw [declsN] at hex
      by_cases h24 : rr.t = 24
      · rw [if_pos h24] at hex
        obtain ⟨q, hq, hex⟩ := Option.bind_eq_some_iff.1 hex
        have AQ := Lib.hid (attribute_any wr g src m rr q s' hst hq)
        have EX := Lib.hid hex
        rw [h24] at hc3
        clear hst hfr hmin hrel hex hq h24
        go_wp2_with (first | (go_at_call 137; refine AQ.out.mono ?_; rintro e w5 ⟨rfl, s5, hX⟩; have H5 := Lib.hid hX; clear hX) | fail)
        have HL : DeRel src w g s r' f m w5 := ⟨by omega, q, s5, H5.out.1, Hfr.out.trans H5.out.2, EX.out⟩
        exact ⟨⟨m, HL⟩, by rw [Hmin.out]; exact least_lt HL (Nat.lt_succ_self m)⟩
      rw [if_neg h24] at hex
      by_cases h25 : rr.t = 25
      · rw [if_pos h25] at hex
        obtain ⟨q, hq, hex⟩ := Option.bind_eq_some_iff.1 hex
        have AQ := Lib.hid (stage_any wr g src m rr q s' hst hq)
        have EX := Lib.hid hex
        rw [h25] at hc3
        clear hst hfr hmin hrel hex hq h25
        go_wp2_with (first | (go_at_call 138; refine AQ.out.mono ?_; rintro e w5 ⟨rfl, s5, hX⟩; have H5 := Lib.hid hX; clear hX) | fail)
        have HL : DeRel src w g s r' f m w5 := ⟨by omega, q, s5, H5.out.1, Hfr.out.trans H5.out.2, EX.out⟩
        exact ⟨⟨m, HL⟩, by rw [Hmin.out]; exact least_lt HL (Nat.lt_succ_self m)⟩
      rw [if_neg h25] at hex
      by_cases h26 : rr.t = 26
      · rw [if_pos h26] at hex
        obtain ⟨q, hq, hex⟩ := Option.bind_eq_some_iff.1 hex
        have AQ := Lib.hid (milestone_any wr g src m rr q s' hst hq)
        have EX := Lib.hid hex
        rw [h26] at hc3
        clear hst hfr hmin hrel hex hq h26
        go_wp2_with (first | (go_at_call 139; refine AQ.out.mono ?_; rintro e w5 ⟨rfl, s5, hX⟩; have H5 := Lib.hid hX; clear hX) | fail)
        have HL : DeRel src w g s r' f m w5 := ⟨by omega, q, s5, H5.out.1, Hfr.out.trans H5.out.2, EX.out⟩
        exact ⟨⟨m, HL⟩, by rw [Hmin.out]; exact least_lt HL (Nat.lt_succ_self m)⟩
      rw [if_neg h26] at hex
      by_cases h27 : rr.t = 27
      · rw [if_pos h27] at hex
        obtain ⟨q, hq, hex⟩ := Option.bind_eq_some_iff.1 hex
        have AQ := Lib.hid (step_any wr g src m rr q s' hst hq)
        have EX := Lib.hid hex
        rw [h27] at hc3
        clear hst hfr hmin hrel hex hq h27
        go_wp2_with (first | (go_at_call 140; refine AQ.out.mono ?_; rintro e w5 ⟨rfl, s5, hX⟩; have H5 := Lib.hid hX; clear hX) | fail)
        have HL : DeRel src w g s r' f m w5 := ⟨by omega, q, s5, H5.out.1, Hfr.out.trans H5.out.2, EX.out⟩
        exact ⟨⟨m, HL⟩, by rw [Hmin.out]; exact least_lt HL (Nat.lt_succ_self m)⟩
      rw [if_neg h27] at hex
      injection hex with hex
      subst hex
      have e24 : ((rr.t : Int) == 24) = false := beq_eq_false_iff_ne.2 (by omega)
      have e25 : ((rr.t : Int) == 25) = false := beq_eq_false_iff_ne.2 (by omega)
      have e26 : ((rr.t : Int) == 26) = false := beq_eq_false_iff_ne.2 (by omega)
      have e27 : ((rr.t : Int) == 27) = false := beq_eq_false_iff_ne.2 (by omega)
      clear hst hfr hmin hrel h24 h25 h26 h27
      go_wp2
      go_end0
      exact ⟨rfl, s', Hst.out, Hfr.out⟩
end Go.Proofs.YtmmjcbbogokmfaaGreatDoor

/- How many symbols the machine's stack holds, plain. -/
namespace Go.Proofs.YtmmjcbbogokmfaaGreatDoor

theorem takeN_uniq {t f g : Nat} {l k k' : List Nat} (h : takeN t f l = some k) (h' : takeN t g l = some k') : k = k' := by
  have h1 := takeN_fuel t f (max f g) l k (by omega) h
  have h2 := takeN_fuel t g (max f g) l k' (by omega) h'
  rw [h1] at h2
  exact Option.some.inj h2
def growsLen (n t : Nat) : Bool := !beginsN n t || (match takeN t 30 [n] with | some k => decide (k.length ≤ 12) | none => true)
theorem growsLen_all : ∀ n : Fin 85, ∀ t : Fin 58, growsLen n.val t.val = true := by decide +kernel
/-- few symbols more -/
theorem takeN_len (t : Nat) (ht : t < 58) : ∀ (st : List Nat) (f : Nat) (k : List Nat), (∀ n ∈ st, n < 85) → mayN t st = true → takeN t f st = some k → k.length ≤ st.length + 12
  | [], f, k, _, h, _ => by cases h
  | n :: l, f, k, h5, h, hk => by
    rw [mayN] at h
    split at h
    · rename_i hb
      obtain ⟨k0, hk0⟩ := grows_eq n t ht hb
      have h1 := takeN_more t 30 [n] k0 l hk0
      obtain rfl := takeN_uniq hk h1
      have h2 := growsLen_all ⟨n, h5 n List.mem_cons_self⟩ ⟨t, ht⟩
      simp only [growsLen, hb, Bool.not_true, Bool.false_or, hk0] at h2
      have h3 := of_decide_eq_true h2
      rw [List.length_append, List.length_cons]
      omega
    · rename_i hb
      split at h
      · rename_i he
        cases f with
        | zero => cases hk
        | succ f =>
          rw [takeN] at hk
          have hge := empty_ge n he
          rw [if_neg (by omega), skip_rule n t (by simpa using hb), List.nil_append] at hk
          have := takeN_len t ht l f k (fun x hx => h5 x (List.mem_cons_of_mem _ hx)) h hk
          rw [List.length_cons]
          omega
      · cases h
theorem taken_len {t : Nat} (ht : t < 58) {m m' : Mc} {a k f : Nat} {fin : Nat} (h5 : ∀ n ∈ m.stack, n < 85) (hm : mayN t m.stack = true) (h : taken t { at_ := a, stack := m.stack, fin := fin, from_ := f } k = .ok m') : m'.stack.length ≤ m.stack.length + 12 := by
  unfold taken at h
  split at h
  · rename_i s hs
    injection h with h
    rw [← h]
    exact takeN_len t ht m.stack _ s h5 hm hs
  · cases h
end Go.Proofs.YtmmjcbbogokmfaaGreatDoor

/- Contract of the machine's run. -/
namespace Go.Proofs.YtmmjcbbogokmfaaGreatDoor
open Go.RowKit

theorem stepN_len {m m' : Mc} {c : UInt8} {l : List UInt8} (h5 : ∀ n ∈ m.stack, n < 85) (h : stepN m (c :: l) = .ok m') : m'.stack.length ≤ m.stack.length + 12 := by
  rw [stepN] at h
  split at h
  · injection h with h
    rw [← h]
    exact Nat.le_add_right _ _
  · split at h
    · unfold commentN at h
      simp only at h
      injection h with h
      split at h <;> (rw [← h]; exact Nat.le_add_right _ _)
    · split at h
      · unfold textStep at h
        split at h
        · cases h
        · rename_i hm
          split at h
          · cases h
          · exact taken_len (by decide) h5 (by simpa using hm) h
          · injection h with h
            rw [← h]
            exact Nat.le_add_right _ _
      · split at h
        · unfold wordStep at h
          simp only at h
          split at h
          · rename_i hc
            exact taken_len (namedN_lt _) h5 hc.2.2 h
          · unfold spellN at h
            split at h
            · cases h
            · injection h with h
              rw [← h]
              exact Nat.le_add_right _ _
        · unfold signStep at h
          simp only at h
          split at h
          · rename_i hc
            split at h
            · rename_i hh
              exact taken_len (signN_lt _) h5 hh.2.1 h
            · exact taken_len (signN_lt _) h5 hc.2 h
          · split at h
            · cases h
            · rename_i hn
              split at h
              · injection h with h
                rw [← h]
                exact Nat.le_add_right _ _
              · split at h
                · cases h
                · refine taken_len (signN_lt _) h5 ?_ h
                  rw [not_or] at hn
                  simpa using hn.2
theorem sb_ne (s : ByteArray) (a : Nat) (h : a < s.size) : ¬ (sb s).length ≤ a := by rw [sb_length]; omega
/-- while the machine runs -/
structure RunSt (w : World) (g : Nat) (r : Option Nat) (src : ByteArray) (X : Out) (f : Nat) (m : Mc) (wr : World) (A : Option Addr) (c : Nat) (r' : Option Nat) : Prop where
  go : X = runN (sb src) f m
  fuel : src.size + 1 ≤ f + m.at_
  le : m.at_ ≤ src.size
  len : m.stack.length ≤ 5 + 12 * m.at_
  mac : Mac wr g r' src m A c
  kp : Kp (MX g r) w wr
  fr : MFr w r r'
theorem RunSt.next {w wr w' : World} {g : Nat} {r r' : Option Nat} {src : ByteArray} {X : Out} {f : Nat} {m m' : Mc} {A : Option Addr} {c : Nat} (h : RunSt w g r src X f m wr A c r') (hlt : m.at_ < src.size)
    (hs : stepN m ((sb src).drop m.at_) = .ok m') (hst : MStep wr g r' w' src m') :
    (∃ f m' A c r', RunSt w g r src X f m' w' A c r') ∧ src.size - atOf g w' < src.size - atOf g wr := by
  obtain ⟨r2, A2, c2, hM, hk, hf⟩ := hst
  have hgo := h.go
  have hfu := h.fuel
  obtain ⟨f', rfl⟩ : ∃ f', f = f' + 1 := ⟨f - 1, by omega⟩
  rw [runN, if_neg (sb_ne src m.at_ hlt), hs] at hgo
  have hs' := hs
  rw [sb_drop src m.at_ hlt] at hs
  have h1 := stepN_on hs
  have h2 := stepN_len h.mac.sym hs
  have h3 := h.len
  rw [← sb_drop src m.at_ hlt, List.length_drop, sb_length] at h1
  refine ⟨⟨f', m', A2, c2, r2, hgo, by omega, by omega, by omega, hM, h.kp.trans hk (MX.trans h.fr), h.fr.trans h.kp.size hf⟩, ?_⟩
  rw [hM.atOf, h.mac.atOf]
  omega
theorem RunSt.wrong {w wr w' : World} {g : Nat} {r r' : Option Nat} {src : ByteArray} {X : Out} {f k : Nat} {m : Mc} {A : Option Addr} {c : Nat} (h : RunSt w g r src X f m wr A c r') (hlt : m.at_ < src.size)
    (hs : stepN m ((sb src).drop m.at_) = .error k) (hk : Kp (MX g r') wr w') : X = .error k ∧ Kp (MX g r) w w' := by
  have hgo := h.go
  have hfu := h.fuel
  obtain ⟨f', rfl⟩ : ∃ f', f = f' + 1 := ⟨f - 1, by omega⟩
  rw [runN, if_neg (sb_ne src m.at_ hlt), hs] at hgo
  exact ⟨hgo, h.kp.trans hk (MX.trans h.fr)⟩
set_option maxRecDepth 100000 in
set_option maxHeartbeats 3200000 in
theorem run_any (w : World) (hg : Sg w) (g : Nat) (r : Option Nat) (src : ByteArray) (A : Option Addr) (c : Nat) (h : Mac w g r src startM A c) (hs : src.size ≤ 60000) :
    Calls Tryz.prog 134 #[.pointer (some ⟨g, 0, none⟩)] w (MOut w g r src (begunN (sb src))) := by
  have H0 := Lib.hid (show RunSt w g r src (begunN (sb src)) (src.size + 1) startM w A c r from ⟨by rw [begunN, sb_length], Nat.le_refl _, Nat.zero_le _, by decide, h, Kp.refl _ _, .inl rfl⟩)
  have HG := Lib.hid (fun W (hk : Kp (MX g r) w W) => hg.mx h hk)
  clear hg h
  generalize begunN (sb src) = X at *
  go_enter Tryz.func134, Tryz.ntmps134
  go_wp2
  go_loopw [] (fun wr => ∃ f m A c r', RunSt w g r src X f m wr A c r') (fun wr => src.size - atOf g wr)
  case atStart => exact ⟨_, _, _, _, _, H0.out⟩
  case round =>
    clear H0
    obtain ⟨f, m, A, c, r', hSt⟩ := hrel
    have hc0 := hSt.mac.c0
    have hc1 := hSt.mac.c1
    have hz1 := hSt.mac.z 1
    have hlen : m.stack.length ≤ 1000000 := by have := hSt.len; have := hSt.le; omega
    by_cases hlt : m.at_ < src.size
    · have HSt := Lib.hid hSt
      have HGr := Lib.hid (HG.out wr hSt.kp)
      have a1 : (m.at_ : Int) < (src.size : Int) := by omega
      have a2 : (0 : Int) ≤ (m.at_ : Int) := by omega
      have a3 : (m.at_ : Int).toNat = m.at_ := by omega
      have a4 : IntKind.i64.wrap ((m.at_ : Int) + 1) = (m.at_ : Int) + 1 := IntWalk.i64_in _ (by omega)
      have hstep : stepN m ((sb src).drop m.at_) = if blankC src[m.at_] = true then .ok { m with at_ := m.at_ + 1 } else if src[m.at_].toNat = 35 then commentN m ((sb src).drop m.at_) else if src[m.at_].toNat = 34 then textStep m ((sb src).drop m.at_)
          else if wordC src[m.at_] = true then wordStep m ((sb src).drop m.at_) else signStep m src[m.at_] ((sb src).drop (m.at_ + 1)) := by
        rw [sb_drop src m.at_ hlt, stepN]
      by_cases hb : blankC src[m.at_] = true
      · rw [if_pos hb] at hstep
        have hb' := of_decide_eq_true hb
        have Hn := Lib.hid (fun W (hO : Old wr W) => by
          obtain ⟨m1, k1⟩ := (hSt.mac.old hO).setAt (m.at_ + 1)
          rw [show ((m.at_ + 1 : Nat) : Int) = (m.at_ : Int) + 1 by omega] at m1 k1
          exact hSt.next (w' := W.setCell ⟨g, 1, none⟩ (.int .i64 ((m.at_ : Int) + 1))) hlt hstep ⟨r', A, c, m1, (hO.mx).trans k1 (fun _ _ h => h), .inl rfl⟩)
        clear hstep hSt hb
        rcases hb' with hb' | hb' | hb' | hb'
        all_goals
          have d1 : ((src[m.at_].toNat : Int) == 32) = decide (src[m.at_].toNat = 32) := by rw [hb']; rfl
          have d2 : ((src[m.at_].toNat : Int) == 9) = decide (src[m.at_].toNat = 9) := by rw [hb']; rfl
          have d3 : ((src[m.at_].toNat : Int) == 10) = decide (src[m.at_].toNat = 10) := by rw [hb']; rfl
          have d4 : ((src[m.at_].toNat : Int) == 13) = decide (src[m.at_].toNat = 13) := by rw [hb']; rfl
          simp only [hb'] at d1 d2 d3 d4
          go_wp2
          go_quiet (fail)
          go_wp2
          go_quiet (fail)
          go_wp2
          exact Hn.out _ (by first | exact Kp.refl _ _ | exact (Kp.refl _ _).drewN _ | exact ((Kp.refl _ _).drewN _).drewN _)
      · rw [if_neg hb] at hstep
        have d1 : ((src[m.at_].toNat : Int) == 32) = false := beq_eq_false_iff_ne.2 (fun e => hb (decide_eq_true (by omega)))
        have d2 : ((src[m.at_].toNat : Int) == 9) = false := beq_eq_false_iff_ne.2 (fun e => hb (decide_eq_true (by omega)))
        have d3 : ((src[m.at_].toNat : Int) == 10) = false := beq_eq_false_iff_ne.2 (fun e => hb (decide_eq_true (by omega)))
        have d4 : ((src[m.at_].toNat : Int) == 13) = false := beq_eq_false_iff_ne.2 (fun e => hb (decide_eq_true (by omega)))
        clear hb
        by_cases h35 : src[m.at_].toNat = 35
        · rw [if_pos h35] at hstep
          have d5 : ((src[m.at_].toNat : Int) == 35) = true := by rw [h35]; rfl
          have HC := Lib.hid (fun W (hO : Old wr W) => comment_any W g r' src m A c (hSt.mac.old hO) (by omega) (by omega))
          have HN := Lib.hid (fun W (hO : Old wr W) w' m' (hm : commentN m ((sb src).drop m.at_) = .ok m') (hX : MStep W g r' w' src m') => hSt.next (w' := w') hlt (hstep.trans hm) (MStep.trans hO.mx (.inl rfl) hX))
          clear hstep hSt h35
          go_wp2
          go_quiet (fail)
          go_wp2
          go_quiet (fail)
          go_wp2_with (go_at_call 160; refine (HC.out _ (by first | exact Kp.refl _ _ | exact (Kp.refl _ _).drewN _ | exact ((Kp.refl _ _).drewN _).drewN _)).mono ?_; rintro e w1 ⟨rfl, m', hm, hX⟩)
          exact HN.out _ (by first | exact Kp.refl _ _ | exact (Kp.refl _ _).drewN _ | exact ((Kp.refl _ _).drewN _).drewN _) _ _ hm hX
        · rw [if_neg h35] at hstep
          have d5 : ((src[m.at_].toNat : Int) == 35) = false := beq_eq_false_iff_ne.2 (by omega)
          clear h35
          by_cases h34 : src[m.at_].toNat = 34
          · rw [if_pos h34] at hstep
            have d6 : ((src[m.at_].toNat : Int) == 34) = true := by rw [h34]; rfl
            clear h34
            have HC := Lib.hid (fun W (hO : Old wr W) => text_any W g r' src m A c (hSt.mac.old hO) (by omega) hlt hlen)
            generalize hSP : textStep m ((sb src).drop m.at_) = SP at *
            cases SP with
            | ok m' =>
              have HN := Lib.hid (fun W (hO : Old wr W) w' (hX : MStep W g r' w' src m') => hSt.next (w' := w') hlt hstep (MStep.trans hO.mx (.inl rfl) hX))
              clear hstep hSt hSP
              go_wp2
              go_quiet (fail)
              go_wp2
              go_quiet (fail)
              go_wp2_with (go_at_call 161; refine (HC.out _ (by first | exact Kp.refl _ _ | exact (Kp.refl _ _).drewN _ | exact ((Kp.refl _ _).drewN _).drewN _)).mono ?_; rintro e w1 ⟨rfl, hX⟩)
              exact HN.out _ (by first | exact Kp.refl _ _ | exact (Kp.refl _ _).drewN _ | exact ((Kp.refl _ _).drewN _).drewN _) _ hX
            | error k =>
              have HN := Lib.hid (fun W (hO : Old wr W) w' (hX : Kp (MX g r') W w') => hSt.wrong (w' := w') hlt hstep ((hO.mx).trans hX (fun _ _ h => h)))
              clear hstep hSt hSP
              go_wp2
              go_quiet (fail)
              go_wp2
              go_quiet (fail)
              go_wp2_with (go_at_call 161; refine (HC.out _ (by first | exact Kp.refl _ _ | exact (Kp.refl _ _).drewN _ | exact ((Kp.refl _ _).drewN _).drewN _)).mono ?_; rintro e w1 ⟨rfl, hX⟩)
              refine ⟨rfl, ?_⟩
              obtain ⟨h1, h2⟩ := HN.out _ (by first | exact Kp.refl _ _ | exact (Kp.refl _ _).drewN _ | exact ((Kp.refl _ _).drewN _).drewN _) _ hX
              rw [h1]
              exact ⟨rfl, h2⟩
          · rw [if_neg h34] at hstep
            have d6 : ((src[m.at_].toNat : Int) == 34) = false := beq_eq_false_iff_ne.2 (by omega)
            clear h34
            have Hw := Lib.hid (fun W => ofWord_any W src[m.at_])
            unfold bv at Hw
            by_cases hw : wordC src[m.at_] = true
            · rw [if_pos hw] at hstep
              rw [hw] at Hw
              have HC := Lib.hid (fun W (hO : Old wr W) => word_step W (HGr.out.old hO) g r' src m A c (hSt.mac.old hO) (by omega) hlt hw hlen)
              clear hw
              generalize hSP : wordStep m ((sb src).drop m.at_) = SP at *
              cases SP with
              | ok m' =>
                have HN := Lib.hid (fun W (hO : Old wr W) w' (hX : MStep W g r' w' src m') => hSt.next (w' := w') hlt hstep (MStep.trans hO.mx (.inl rfl) hX))
                clear hstep hSt hSP
                go_wp2
                go_quiet (fail)
                go_wp2
                go_quiet (fail)
                go_wp2_with (first | (go_at_call 129; refine (Hw.out _).mono ?_; rintro e w1 ⟨rfl, rfl⟩) | (go_at_call 162; refine (HC.out _ (by first | exact Kp.refl _ _ | exact (Kp.refl _ _).drewN _ | exact ((Kp.refl _ _).drewN _).drewN _)).mono ?_; rintro e w1 ⟨rfl, hX⟩))
                exact HN.out _ (by first | exact Kp.refl _ _ | exact (Kp.refl _ _).drewN _ | exact ((Kp.refl _ _).drewN _).drewN _) _ hX
              | error k =>
                have HN := Lib.hid (fun W (hO : Old wr W) w' (hX : Kp (MX g r') W w') => hSt.wrong (w' := w') hlt hstep ((hO.mx).trans hX (fun _ _ h => h)))
                clear hstep hSt hSP
                go_wp2
                go_quiet (fail)
                go_wp2
                go_quiet (fail)
                go_wp2_with (first | (go_at_call 129; refine (Hw.out _).mono ?_; rintro e w1 ⟨rfl, rfl⟩) | (go_at_call 162; refine (HC.out _ (by first | exact Kp.refl _ _ | exact (Kp.refl _ _).drewN _ | exact ((Kp.refl _ _).drewN _).drewN _)).mono ?_; rintro e w1 ⟨rfl, hX⟩))
                refine ⟨rfl, ?_⟩
                obtain ⟨h1, h2⟩ := HN.out _ (by first | exact Kp.refl _ _ | exact (Kp.refl _ _).drewN _ | exact ((Kp.refl _ _).drewN _).drewN _) _ hX
                rw [h1]
                exact ⟨rfl, h2⟩
            · rw [if_neg hw] at hstep
              rw [Bool.not_eq_true] at hw
              rw [hw] at Hw
              have HC := Lib.hid (fun W (hO : Old wr W) => sign_any W (HGr.out.old hO) g r' src m A c (hSt.mac.old hO) (by omega) hlt hlen)
              clear hw
              generalize hSP : signStep m src[m.at_] ((sb src).drop (m.at_ + 1)) = SP at *
              cases SP with
              | ok m' =>
                have HN := Lib.hid (fun W (hO : Old wr W) w' (hX : MStep W g r' w' src m') => hSt.next (w' := w') hlt hstep (MStep.trans hO.mx (.inl rfl) hX))
                clear hstep hSt hSP
                go_wp2
                go_quiet (fail)
                go_wp2
                go_quiet (fail)
                go_wp2_with (first | (go_at_call 129; refine (Hw.out _).mono ?_; rintro e w1 ⟨rfl, rfl⟩) | (go_at_call 163; refine (HC.out _ (by first | exact Kp.refl _ _ | exact (Kp.refl _ _).drewN _ | exact ((Kp.refl _ _).drewN _).drewN _)).mono ?_; rintro e w1 ⟨rfl, hX⟩))
                exact HN.out _ (by first | exact Kp.refl _ _ | exact (Kp.refl _ _).drewN _ | exact ((Kp.refl _ _).drewN _).drewN _) _ hX
              | error k =>
                have HN := Lib.hid (fun W (hO : Old wr W) w' (hX : Kp (MX g r') W w') => hSt.wrong (w' := w') hlt hstep ((hO.mx).trans hX (fun _ _ h => h)))
                clear hstep hSt hSP
                go_wp2
                go_quiet (fail)
                go_wp2
                go_quiet (fail)
                go_wp2_with (first | (go_at_call 129; refine (Hw.out _).mono ?_; rintro e w1 ⟨rfl, rfl⟩) | (go_at_call 163; refine (HC.out _ (by first | exact Kp.refl _ _ | exact (Kp.refl _ _).drewN _ | exact ((Kp.refl _ _).drewN _).drewN _)).mono ?_; rintro e w1 ⟨rfl, hX⟩))
                refine ⟨rfl, ?_⟩
                obtain ⟨h1, h2⟩ := HN.out _ (by first | exact Kp.refl _ _ | exact (Kp.refl _ _).drewN _ | exact ((Kp.refl _ _).drewN _).drewN _) _ hX
                rw [h1]
                exact ⟨rfl, h2⟩
    · have hge : src.size ≤ m.at_ := by omega
      have hgo := hSt.go
      have hfu := hSt.fuel
      have hle := hSt.le
      obtain ⟨f', rfl⟩ : ∃ f', f = f' + 1 := ⟨f - 1, by omega⟩
      rw [runN, if_pos (by rw [sb_length]; exact hge)] at hgo
      have HR := Lib.hid hgo
      have a1 : ¬ (m.at_ : Int) < (src.size : Int) := by omega
      have Hs := Lib.hid (fun n => (⟨r', A, c, hSt.mac.drewN n, hSt.kp.drewN n, hSt.fr⟩ : MStep w g r (wr.drewN n) src m))
      clear hSt hgo hlt
      go_wp2
      go_quiet (fail)
      go_wp2
      go_end0
      rw [HR.out]
      exact ⟨rfl, Hs.out _⟩
end Go.Proofs.YtmmjcbbogokmfaaGreatDoor

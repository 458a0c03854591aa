import Derived.Test.YtnaolhjbapgjgaaMg04
import Derived.Test.YtnaolhjbapgjgaaMg05
import Derived.Test.YtnaolhjbapgjgaaMg07
import Derived.Test.YtnaolhjbapgjgaaMg08
/- Contracts of octet's Reader: Text, Texts. -/
namespace Go.Proofs.Ytnaolhjbapgjgaa
open Go.RowKit

theorem textAt_le (bs : List UInt8) (most : Int) (p : Nat) (hp : p ≤ bs.length) : (textAt bs most p).2.1 ≤ bs.length := by
  unfold textAt
  split
  · exact hp
  · split
    · simp only; omega
    · split
      · simp only; omega
      · simp only; omega

/-- a text is taken -/
def textN (bs : List UInt8) (most : Int) (s : Rs) : List UInt8 × Rs :=
  if s.why ≠ 0 then ([], s)
  else if (textAt bs most s.at_).2.2 ≠ 0 then ([], ⟨s.at_, (textAt bs most s.at_).2.2⟩)
  else ((textAt bs most s.at_).1, ⟨(textAt bs most s.at_).2.1, 0⟩)

set_option maxRecDepth 100000 in
set_option maxHeartbeats 1600000 in
theorem rtext_any (w : World) (g : Nat) (bs : List UInt8) (most : Int) (s : Rs) (h : Rr w g bs s) (hm : 0 ≤ most) :
    Calls Try.prog 74 #[.pointer (some ⟨g, 0, none⟩), .int .i64 most] w fun e w' => e = .returned (.string ⟨(textN bs most s).1.toArray⟩) ∧ Rr w' g bs (textN bs most s).2 ∧ Kp (RX g) w w' := by
  obtain ⟨p, y⟩ := s
  have hfit := h.fits
  have c1 := h.atc
  have c2 := h.why
  have z1 := h.zer 1
  simp only at *
  by_cases hy : y = 0
  case neg =>
    rw [show textN bs most ⟨p, y⟩ = ([], ⟨p, y⟩) by simp [textN, hy]]
    have hy' : (y != 0) = true := by simpa using hy
    go_enter Try.func74, Try.ntmps74
    go_wp2
    go_ret
    exact ⟨rfl, h, Kp.refl _ _⟩
  subst hy
  have hle := textAt_le bs most p hfit.1
  have HB := Lib.hid (show textN bs most ⟨p, 0⟩ = if (textAt bs most p).2.2 ≠ 0 then ([], ⟨p, (textAt bs most p).2.2⟩) else ((textAt bs most p).1, ⟨(textAt bs most p).2.1, 0⟩) by
    simp only [textN]; rw [if_neg (by simp)])
  generalize textN bs most ⟨p, 0⟩ = BN at HB ⊢
  have Hh := Lib.hid (rtextat_any w g bs most p ⟨p, 0⟩ h hm hfit.1)
  generalize textAt bs most p = T at HB Hh hle
  obtain ⟨l, to, er⟩ := T
  simp only at HB Hh hle
  by_cases he : er = 0
  · subst he
    rw [if_neg (by simp)] at HB
    rw [HB.out]
    have Hset := Lib.hid (h.setAt to hle)
    go_enter Try.func74, Try.ntmps74
    go_wp2_with fail
    refine Hh.out.mono ?_
    rintro e w' ⟨rfl, rfl⟩
    go_wp2
    go_ret
    exact ⟨rfl, Hset.out, (Kp.refl (RX g) w).setCell (p := ⟨g, 1, none⟩) (fun _ => rfl) _⟩
  · rw [if_pos he] at HB
    rw [HB.out]
    have he' : (er != 0) = true := by simpa using he
    go_enter Try.func74, Try.ntmps74
    go_wp2_with fail
    refine Hh.out.mono ?_
    rintro e w' ⟨rfl, rfl⟩
    go_wp2_with fail
    refine (refuse_any w g bs ⟨p, 0⟩ er h rfl).mono ?_
    rintro e w1 ⟨rfl, hr1, hk1⟩
    go_wp2
    go_ret
    exact ⟨rfl, hr1, hk1⟩

/-- the refusal of the next of texts that rise -/
def textsE (acc : List ByteArray) (T : List UInt8 × Nat × Int) : Int :=
  if T.2.2 = 0 ∧ acc ≠ [] ∧ blt (acc.getD (acc.length - 1) ByteArray.empty) ⟨T.1.toArray⟩ = false then 8 else T.2.2
/-- texts that rise, one behind the other: the refusal, or they and the place behind them -/
def textsGo (bs : List UInt8) (each : Int) : Nat → Nat → List ByteArray → Int × List ByteArray × Nat
  | 0, p, acc => (0, acc, p)
  | k + 1, p, acc => if textsE acc (textAt bs each p) ≠ 0 then (textsE acc (textAt bs each p), [], 0) else textsGo bs each k (textAt bs each p).2.1 (acc ++ [⟨(textAt bs each p).1.toArray⟩])
def textsN (bs : List UInt8) (most each : Int) (s : Rs) : List ByteArray × Rs :=
  if s.why ≠ 0 then ([], s)
  else if bs.length < s.at_ + 2 then ([], ⟨s.at_, 8⟩)
  else if min most 65535 < (ofBe ((bs.drop s.at_).take 2) : Int) then ([], ⟨s.at_, 7⟩)
  else if (textsGo bs each (ofBe ((bs.drop s.at_).take 2)) (s.at_ + 2) []).1 ≠ 0 then ([], ⟨s.at_, (textsGo bs each (ofBe ((bs.drop s.at_).take 2)) (s.at_ + 2) []).1⟩)
  else ((textsGo bs each (ofBe ((bs.drop s.at_).take 2)) (s.at_ + 2) []).2.1, ⟨(textsGo bs each (ofBe ((bs.drop s.at_).take 2)) (s.at_ + 2) []).2.2, 0⟩)

/-- texts in new memory are told, the Reader has gone on -/
def TookT (w : World) (g : Nat) (bs : List UInt8) (l : List ByteArray) (s : Rs) (e : Ending) (w' : World) : Prop :=
  ∃ A c, e = .returned (.slice A l.length c) ∧ Rd w' 1 A l.length (l.map sv) ∧ Av (fun k => k < w.heap.size) l.length A ∧ l.length ≤ c ∧ Rr w' g bs s ∧ Kp (RX g) w w'
theorem TookT.none_ {w w' : World} {g : Nat} {bs : List UInt8} {s : Rs} (h : Rr w' g bs s) (hk : Kp (RX g) w w') : TookT w g bs [] s (.returned (.slice none 0 0)) w' :=
  ⟨none, 0, rfl, Rd.none_, fun h => absurd h (by simp), Nat.le_refl _, h, hk⟩
theorem own_cap {w : World} {base : Nat} {e : TypeId} {size : Nat} {A : Option Addr} {n c : Nat} {xs : List Value} (h : w.ownsRow base e size (.slice A n c) n xs) : n ≤ c := by
  rcases h.2 with ⟨e, h0⟩ | ⟨g, cap, cur, e, _, _, hnc, _⟩
  · omega
  · injection e with e1 e2 e3; omega
theorem own_av {w : World} {base : Nat} {e : TypeId} {size : Nat} {A : Option Addr} {n c : Nat} {xs : List Value} (h : w.ownsRow base e size (.slice A n c) n xs) : Av (fun k => k < base) n A := by
  intro _ ad ea hlt
  have := h.lt ad.block (by rw [ownBlock_slice, ea]; rfl)
  omega

theorem textsGo_err (bs : List UInt8) (each : Int) (k p : Nat) (acc : List ByteArray) {l : List UInt8} {to : Nat} {er : Int} (h : textAt bs each p = (l, to, er)) (he : er ≠ 0) : textsGo bs each (k + 1) p acc = (er, [], 0) := by
  have e : textsE acc (textAt bs each p) = er := by rw [h, textsE, if_neg (fun hh => he hh.1)]
  rw [textsGo, e, if_pos he]
theorem textsGo_falls (bs : List UInt8) (each : Int) (k p : Nat) (acc : List ByteArray) {l : List UInt8} {to : Nat} (h : textAt bs each p = (l, to, 0)) (ha : acc ≠ []) (hb : blt (acc.getD (acc.length - 1) ByteArray.empty) ⟨l.toArray⟩ = false) : textsGo bs each (k + 1) p acc = (8, [], 0) := by
  have e : textsE acc (textAt bs each p) = 8 := by rw [h, textsE, if_pos ⟨rfl, ha, hb⟩]
  rw [textsGo, e, if_pos (by decide)]
theorem textsGo_on (bs : List UInt8) (each : Int) (k p : Nat) (acc : List ByteArray) {l : List UInt8} {to : Nat} (h : textAt bs each p = (l, to, 0)) (hb : acc = [] ∨ blt (acc.getD (acc.length - 1) ByteArray.empty) ⟨l.toArray⟩ = true) : textsGo bs each (k + 1) p acc = textsGo bs each k to (acc ++ [⟨l.toArray⟩]) := by
  have e : textsE acc (textAt bs each p) = 0 := by
    rw [h, textsE, if_neg]
    rintro ⟨_, h1, h2⟩
    rcases hb with hb | hb
    · exact h1 hb
    · rw [hb] at h2; cases h2
  rw [textsGo, e, if_neg (by simp), h]
theorem map_sv_snoc (acc : List ByteArray) (x : ByteArray) : acc.map sv ++ [.string x] = (acc ++ [x]).map sv := by simp [sv]

theorem Try.infoText : (Try.prog.info? 9).map (fun i => (i.zero, i.size, i.bytes)) = some (some (.string ByteArray.empty), 1, 16) := by kernel_rfl

set_option maxRecDepth 100000 in
set_option maxHeartbeats 3200000 in
theorem rtexts_any (w : World) (g : Nat) (bs : List UInt8) (most each : Int) (s : Rs) (h : Rr w g bs s) (hm : 0 ≤ most) (he : 0 ≤ each) :
    Calls Try.prog 75 #[.pointer (some ⟨g, 0, none⟩), .int .i64 most, .int .i64 each] w (TookT w g bs (textsN bs most each s).1 (textsN bs most each s).2) := by
  obtain ⟨p, y⟩ := s
  have hfit := h.fits
  have c1 := h.atc
  have c2 := h.why
  have z1 := h.zer 1
  have hlt := h.lt
  simp only at *
  by_cases hy : y = 0
  case neg =>
    rw [show textsN bs most each ⟨p, y⟩ = ([], ⟨p, y⟩) by simp [textsN, hy]]
    have hy' : (y != 0) = true := by simpa using hy
    go_enter Try.func75, Try.ntmps75
    go_wp2
    go_ret
    exact TookT.none_ h (Kp.refl _ _)
  subst hy
  by_cases h2 : bs.length < p + 2
  · rw [show textsN bs most each ⟨p, 0⟩ = ([], ⟨p, 8⟩) by simp only [textsN]; rw [if_neg (by simp), if_pos h2]]
    go_enter Try.func75, Try.ntmps75
    go_wp2_with fail
    refine (ahead16_no w g bs ⟨p, 0⟩ p h hfit.1 h2).mono ?_
    rintro e w' ⟨rfl, rfl⟩
    go_wp2_with fail
    refine (refuse_any w g bs ⟨p, 0⟩ 8 h rfl).mono ?_
    rintro e w1 ⟨rfl, hr1, hk1⟩
    go_wp2
    go_ret
    exact TookT.none_ hr1 hk1
  have hN := ofBe_take_lt (bs.drop p) 2
  have HB := Lib.hid (show textsN bs most each ⟨p, 0⟩ = if min most 65535 < (ofBe ((bs.drop p).take 2) : Int) then ([], ⟨p, 7⟩) else if (textsGo bs each (ofBe ((bs.drop p).take 2)) (p + 2) []).1 ≠ 0 then ([], ⟨p, (textsGo bs each (ofBe ((bs.drop p).take 2)) (p + 2) []).1⟩) else ((textsGo bs each (ofBe ((bs.drop p).take 2)) (p + 2) []).2.1, ⟨(textsGo bs each (ofBe ((bs.drop p).take 2)) (p + 2) []).2.2, 0⟩) by
    simp only [textsN]; rw [if_neg (by simp), if_neg h2])
  generalize textsN bs most each ⟨p, 0⟩ = BN at HB ⊢
  have Hh := Lib.hid (ahead16_yes w g bs ⟨p, 0⟩ p h (by omega))
  generalize ofBe ((bs.drop p).take 2) = n at HB hN Hh
  have hN' : (n : Int) ≤ 65535 := by omega
  by_cases hmost : min most 65535 < (n : Int)
  · rw [if_pos hmost] at HB
    rw [HB.out]
    go_enter Try.func75, Try.ntmps75
    go_wp2_with fail
    refine Hh.out.mono ?_
    rintro e w' ⟨rfl, rfl⟩
    go_wp2_with fail
    refine (bound_any _ _ _ hm).mono ?_
    rintro e w' ⟨rfl, rfl⟩
    go_wp2_with fail
    refine (refuse_any w g bs ⟨p, 0⟩ 7 h rfl).mono ?_
    rintro e w1 ⟨rfl, hr1, hk1⟩
    go_wp2
    go_ret
    exact TookT.none_ hr1 hk1
  rw [if_neg hmost] at HB
  have H2 := Lib.hid h2
  obtain ⟨i0, hi, hz0, hz1, hz2⟩ := info_parts Try.infoText
  go_enter Try.func75, Try.ntmps75
  go_wp2_with fail
  refine Hh.out.mono ?_
  rintro e w' ⟨rfl, rfl⟩
  go_wp2_with fail
  refine (bound_any _ _ _ hm).mono ?_
  rintro e w' ⟨rfl, rfl⟩
  go_wp2_with fail
  clear h2
  go_loopw [42, 10, 8] (fun i l q wr => ∃ (k : Nat) (acc : List ByteArray) (A : Option Addr) (c t : Nat), k ≤ n ∧ i = .int .i64 k ∧ acc.length = k ∧ l = .slice A k c ∧ wr.ownsRow w.heap.size 9 1 (.slice A k c) k (acc.map sv) ∧ q = .int .i64 t ∧ t ≤ bs.length ∧ textsGo bs each n (p + 2) [] = textsGo bs each (n - k) t acc ∧ Old w wr) (fun i _ _ _ => n - (intOf i).toNat)
  case atStart => exact ⟨0, [], none, 0, p + 2, by omega, rfl, rfl, rfl, World.ownsRow_nil _ _ _ _, by go_num, by have := H2.out; omega, rfl, Kp.refl _ _⟩
  case round =>
    obtain ⟨k, acc, A, c, t, hk, rfl, hacc, rfl, hown, rfl, ht, hgo, ho⟩ := hrel
    have hR := h.old ho
    have HR := Lib.hid hR
    have hto := textAt_le bs each t ht
    have Hh2 := Lib.hid (rtextat_any wr g bs each t ⟨p, 0⟩ hR he ht)
    have hrd := Rd.of_own hown
    have Hgo := Lib.hid hgo
    have Ho := Lib.hid ho
    clear hgo hR
    by_cases hlt2 : k < n
    · obtain ⟨m, hm⟩ : ∃ m, n - k = m + 1 := ⟨n - k - 1, by omega⟩
      rw [hm] at Hgo
      generalize hT : textAt bs each t = T at Hh2 hto
      obtain ⟨l, to, er⟩ := T
      simp only at Hh2 hto
      by_cases her : er = 0
      case neg =>
        rw [textsGo_err bs each m t acc hT her] at Hgo
        have hB := HB.out
        rw [Hgo.out, if_pos her] at hB
        have HBB := Lib.hid hB
        have her' : (er != 0) = true := by simpa using her
        have her2 : (er == 0) = false := beq_eq_false_iff_ne.2 her
        clear hB hT hm her
        go_wp2_with fail
        refine Hh2.out.mono ?_
        rintro e w' ⟨rfl, rfl⟩
        go_wp2_with fail
        refine (refuse_any _ g bs ⟨p, 0⟩ er HR.out rfl).mono ?_
        rintro e w1 ⟨rfl, hr1, hk1⟩
        have Hr1 := Lib.hid hr1
        have Hk1 := Lib.hid ((Ho.out.mono (Y := RX g) (fun _ _ f => f.elim)).trans hk1 (fun _ _ h => h))
        clear hr1 hk1
        go_wp2
        go_ret
        rw [HBB.out]
        exact TookT.none_ Hr1.out Hk1.out
      subst her
      have Hm := Lib.hid hm
      have HT := Lib.hid hT
      clear hm hT
      have H63 := Lib.hid (show k + 1 ≤ maxLen by unfold maxLen; omega)
      have H47 := Lib.hid (show (k + 1) * 16 ≤ 140737488355328 by omega)
      have hkk : (k : Int) ≤ 65535 := by omega
      rcases Nat.eq_zero_or_pos k with h0 | hpos
      · subst h0
        have hnil : acc = [] := List.eq_nil_of_length_eq_zero hacc
        subst hnil
        have Hon := Lib.hid (textsGo_on bs each m t [] HT.out (.inl rfl))
        simp only [List.length_nil, List.map_nil] at *
        go_wp2_with fail
        refine Hh2.out.mono ?_
        rintro e w' ⟨rfl, rfl⟩
        go_wp2_with (at_builtin; refine wpList_append_any _ rfl (.tmp 74) (.tmp 76) 23 rfl w.heap.size 9 i0 (.string ByteArray.empty) 1 16 Try.underlying23 hi hz0 hz1 hz2 rfl (by decide) (.slice A 0 c) 0 [] rfl (hown.alloc _) _ 1 1 _ rfl (Rd.one_new _ _ _) (one_value _ rfl) H63.out H47.out (Nat.le_trans Ho.out.size (by simp)) ?_; intro A' c' w2 hown2 hgrow hat)
        have Hown2 := Lib.hid hown2
        have Ho2 := Lib.hid (((Ho.out.alloc _).grown hgrow (fun k e => by
          rcases hown.2 with ⟨e', _⟩ | ⟨g', _, _, e', hge, _⟩
          · rw [e'] at e; simp [Value.ownBlock] at e
          · rw [e'] at e; simp [Value.ownBlock] at e; omega)))
        clear hown2 hgrow hat hown hrd
        go_wp2
        go_roundw
        case rel =>
          refine ⟨1, [⟨l.toArray⟩], A', c', to, by omega, rfl, rfl, rfl, ?_, rfl, hto, ?_, Ho2.out⟩
          · simpa [sv] using Hown2.out
          · rw [Hgo.out, Hon.out, show n - 1 = m by have := Hm.out; omega]; rfl
        case measure => simp [intOf]; omega
      · obtain ⟨b, o, hAe, hlast⟩ := hrd.text (k := k - 1) (by omega)
        subst hAe
        have hne : acc ≠ [] := by rintro rfl; simp at hacc; omega
        have hgl : acc.getD (acc.length - 1) ByteArray.empty = acc.getD (k - 1) ByteArray.empty := by rw [hacc]
        generalize hz : acc.getD (k - 1) ByteArray.empty = z at hlast hgl
        have b1 : (0 : Int) ≤ (k : Int) - 1 := by omega
        have b2 : (k : Int) - 1 < (k : Int) := by omega
        have b3 : ((k : Int) - 1).toNat = k - 1 := by omega
        have b4 : (0 : Int) < (k : Int) := by omega
        cases hlx : Op.bytesLess z.toList l
        · have Hf := Lib.hid (textsGo_falls bs each m t acc HT.out hne (by rw [hgl]; simpa [blt] using hlx))
          have hB := HB.out
          rw [Hgo.out, Hf.out, if_pos (by decide)] at hB
          have HBB := Lib.hid hB
          clear hB hgl hz hacc hne
          go_wp2_with fail
          refine Hh2.out.mono ?_
          rintro e w' ⟨rfl, rfl⟩
          go_wp2_with fail
          refine (refuse_any _ g bs ⟨p, 0⟩ 8 HR.out rfl).mono ?_
          rintro e w1 ⟨rfl, hr1, hk1⟩
          have Hr1 := Lib.hid hr1
          have Hk1 := Lib.hid ((Ho.out.mono (Y := RX g) (fun _ _ f => f.elim)).trans hk1 (fun _ _ h => h))
          clear hr1 hk1
          go_wp2
          go_ret
          rw [HBB.out]
          exact TookT.none_ Hr1.out Hk1.out
        · have Hon := Lib.hid (textsGo_on bs each m t acc HT.out (.inr (by rw [hgl]; simpa [blt] using hlx)))
          have Hacc := Lib.hid hacc
          clear hgl hz hacc hne
          go_wp2_with fail
          refine Hh2.out.mono ?_
          rintro e w' ⟨rfl, rfl⟩
          go_wp2_with (at_builtin; refine wpList_append_any _ rfl (.tmp 74) (.tmp 76) 23 rfl w.heap.size 9 i0 (.string ByteArray.empty) 1 16 Try.underlying23 hi hz0 hz1 hz2 rfl (by decide) (.slice (some ⟨b, o, none⟩) k c) k (acc.map sv) rfl (hown.alloc _) _ 1 1 _ rfl (Rd.one_new _ _ _) (one_value _ rfl) H63.out H47.out (Nat.le_trans Ho.out.size (by simp)) ?_; intro A' c' w2 hown2 hgrow hat)
          have Hown2 := Lib.hid hown2
          have Ho2 := Lib.hid (((Ho.out.alloc _).grown hgrow (fun k e => by
            have := hown.lt k e
            omega)))
          clear hown2 hgrow hat hown hrd
          go_wp2
          go_roundw
          case rel =>
            refine ⟨k + 1, acc ++ [⟨l.toArray⟩], A', c', to, by omega, by go_num, by rw [List.length_append, Hacc.out]; rfl, rfl, ?_, rfl, hto, ?_, Ho2.out⟩
            · rw [← map_sv_snoc]; exact Hown2.out
            · rw [Hgo.out, Hon.out, show n - (k + 1) = m by have := Hm.out; omega]
          case measure => simp [intOf]; omega
    · obtain rfl : k = n := by omega
      have hB : BN = (acc, ⟨t, 0⟩) := by
        have := HB.out
        rw [Hgo.out, Nat.sub_self] at this
        simpa [textsGo] using this
      have HBB := Lib.hid hB
      have Hset := Lib.hid (HR.out.setAt t ht)
      have Hown := Lib.hid hown
      have Hacc := Lib.hid hacc
      have z1r := HR.out.zer 1
      have c1r := HR.out.atc
      simp only at c1r
      clear hB hown hacc
      go_wp2
      go_ret
      rw [HBB.out]
      have hk2 : Kp (RX g) w (wr.setCell ⟨g, 1, none⟩ (.int .i64 t)) := (Ho.out.mono (Y := RX g) (fun _ _ f => f.elim)).setCell (p := ⟨g, 1, none⟩) (fun _ => rfl) _
      refine ⟨A, c, ret_eq (by rw [Hacc.out]; rfl), ?_, ?_, ?_, Hset.out, hk2⟩
      · rw [Hacc.out]
        refine (Rd.of_own Hown.out).kp ((Kp.refl (RX g) wr).setCell (p := ⟨g, 1, none⟩) (fun _ => rfl) _) ?_
        intro hn ad ea hx
        have := own_av Hown.out hn ad ea
        have h2 : ad.block = g := hx
        omega
      · rw [Hacc.out]; exact own_av Hown.out
      · rw [Hacc.out]; exact own_cap Hown.out
end Go.Proofs.Ytnaolhjbapgjgaa

/- Contracts of docketref1.least, TakeNumber, TakeFlag, TakeRaw, sized, TakeText. -/
namespace Go.Proofs.Ytnaolhjbapgjgaa
open Go.RowKit

set_option maxHeartbeats 400000 in
theorem least_any (w : World) (m o : Int) (hm : 0 ≤ m) (ho : m ≤ o) : Calls Try.prog 88 #[.int .i64 m, .int .i64 o] w fun e w' => e = .returned (.int .i64 m) ∧ w = w' := by
  have h1 : ¬ m < 0 := by omega
  by_cases h2 : m < o
  · go_enter Try.func88, Try.ntmps88
    go_wp2
    go_ret
    exact ⟨rfl, rfl⟩
  · obtain rfl : m = o := by omega
    go_enter Try.func88, Try.ntmps88
    go_wp2
    go_ret
    exact ⟨rfl, rfl⟩

theorem Rd.byte {w : World} {A : Option Addr} {n : Nat} {l : List UInt8} (h : Rd w 1 A n (l.map bv)) {k : Nat} (hk : k < n) : ∃ b o, A = some ⟨b, o, none⟩ ∧ w.cell? ⟨b, o + k, none⟩ = some (.int .u8 ((l.getD k 0).toNat : Int)) := by
  obtain ⟨b, o, u, rfl, hx, hc⟩ := h.at_ hk
  refine ⟨b, o, rfl, ?_⟩
  rw [hc]
  rw [List.getElem?_map] at hx
  obtain ⟨b, hb, rfl⟩ := Option.map_eq_some_iff.1 hx
  simp [bv, List.getD, hb]

set_option maxRecDepth 100000 in
set_option maxHeartbeats 800000 in
theorem rtn_no (w : World) (A : Option Addr) (c n k : Nat) (h : n < k) :
    Calls Try.prog 78 #[.slice A n c, .int .i64 (k : Int)] w fun e w' => e = .returned (.tuple #[.int .u64 0, .int .i64 0, .int .i64 8]) ∧ w = w' := by
  have h1 : (n : Int) < (k : Int) := by omega
  go_enter Try.func78, Try.ntmps78
  go_wp2
  go_ret3
  exact ⟨rfl, rfl⟩
set_option maxRecDepth 100000 in
set_option maxHeartbeats 800000 in
theorem rtn_ok (w : World) (A : Option Addr) (c n k : Nat) (b : List UInt8) (hr : Rd w 1 A n (b.map bv)) (hn : n = b.length) (h : k ≤ n) (hk : k ≤ 8) :
    Calls Try.prog 78 #[.slice A n c, .int .i64 (k : Int)] w fun e w' => e = .returned (.tuple #[.int .u64 (ofBe (b.take k) : Int), .int .i64 (k : Int), .int .i64 0]) ∧ w = w' := by
  have h1 : ¬ (n : Int) < (k : Int) := by omega
  have Hn := Lib.hid hn
  clear hn
  go_enter Try.func78, Try.ntmps78
  go_wp2
  go_loop [7, 8] (fun nn i => ∃ j : Nat, j ≤ k ∧ i = .int .i64 j ∧ nn = .int .u64 (ofBe (b.take j) : Int)) (fun _ i => k - (intOf i).toNat)
  case atStart => exact ⟨0, by omega, rfl, rfl⟩
  case round =>
    obtain ⟨j, hj, rfl, rfl⟩ := hrel
    by_cases hlt : j < k
    · obtain ⟨bb, o, rfl, hc⟩ := hr.byte (k := j) (by omega)
      have hs : ofBe (b.take (j + 1)) = ofBe (b.take j) * 256 + (b.getD j 0).toNat := by
        have := ofBe_take_succ b 0 j (by have := Hn.out; omega)
        simpa using this
      have hsl := ofBe_take_lt b j
      have hsp : (256 : Nat) ^ j ≤ 256 ^ 7 := Nat.pow_le_pow_right (by decide) (by omega)
      have hbl := (b.getD j 0).toNat_lt
      have Hs := Lib.hid hs
      clear hs
      generalize (b.getD j 0).toNat = y at *
      generalize ofBe (b.take j) = x at *
      have hx7 : x < 72057594037927936 := by omega
      have e1 : IntKind.u64.wrap ((x : Int) * 256) = (x : Int) * 256 := IntWalk.u64_in _ (by omega)
      have e2 : IntKind.u64.wrap ((x : Int) * 256 + (y : Int)) = (x : Int) * 256 + (y : Int) := IntWalk.u64_in _ (by omega)
      have e3 : IntKind.u64.wrap (y : Int) = (y : Int) := IntWalk.u64_in _ (by omega)
      clear hsl hsp
      have b1 : (j : Int) < (n : Int) := by omega
      have b2 : (j : Int) ≤ 8 := by omega
      go_wp2
      go_round
      case rel => exact ⟨j + 1, by omega, by go_num, by rw [Hs.out]; simp⟩
      case measure => simp [intOf]; omega
    · obtain rfl : j = k := by omega
      go_wp2
      go_ret3
      exact ⟨rfl, rfl⟩

/-- what taking bytes off the front tells: bytes in new memory, how many were gone over, the refusal -/
def SizedPost (w : World) (T : List UInt8 × Nat × Int) (e : Ending) (w' : World) : Prop :=
  ∃ A c n, e = .returned (.tuple #[.slice A T.1.length c, .int .i64 n, .int .i64 T.2.2]) ∧ (T.2.2 = 0 → n = (T.2.1 : Int)) ∧ Rd w' 1 A T.1.length (T.1.map bv) ∧ Old w w'

set_option maxRecDepth 100000 in
set_option maxHeartbeats 800000 in
theorem rraw_no (w : World) (A : Option Addr) (c n k : Nat) (h : n < k) (hk : k ≤ 100000000000) :
    Calls Try.prog 89 #[.slice A n c, .int .i64 (k : Int)] w fun e w' => e = .returned (.tuple #[.slice none 0 0, .int .i64 0, .int .i64 8]) ∧ w = w' := by
  have h1 : (n : Int) < (k : Int) := by omega
  have h2 : ¬ (k : Int) < 0 := by omega
  go_enter Try.func89, Try.ntmps89
  go_wp2
  go_ret3
  exact ⟨rfl, rfl⟩
set_option maxRecDepth 100000 in
set_option maxHeartbeats 800000 in
theorem rraw_ok (w : World) (A : Option Addr) (c n k : Nat) (b : List UInt8) (hr : Rd w 1 A n (b.map bv)) (hn : n = b.length) (hc : n ≤ c) (h : k ≤ n) (hk : n ≤ 100000000000) :
    Calls Try.prog 89 #[.slice A n c, .int .i64 (k : Int)] w (SizedPost w (b.take k, k, 0)) := by
  subst hn
  obtain ⟨i0, hi, hz0, hz1, hz2⟩ := info_parts Try.infoByte
  have h1 : ¬ (b.length : Int) < (k : Int) := by omega
  have h2 : ¬ (k : Int) < 0 := by omega
  have hsl := fun W => cut_h (P := Try.prog) Try.elemBytes Try.sizeBytes A b.length c k .i64 (k : Int) rfl (by omega) W
  have hr2 := hr.take_ (k := k) h
  rw [Nat.mul_one, ← List.map_take] at hr2
  have hlk : (b.take k).length = k := by rw [List.length_take]; omega
  have Hlk := Lib.hid hlk
  have H63 := Lib.hid (show 0 + k ≤ maxLen by unfold maxLen; omega)
  have H47 := Lib.hid (show (0 + k) * 1 ≤ 140737488355328 by omega)
  clear hlk
  unfold SizedPost
  simp only [Hlk.out]
  generalize b.take k = l at *
  go_enter Try.func89, Try.ntmps89
  go_wp2_with (at_builtin; refine wpList_append_any _ rfl (.const (.slice none 0 0)) (.tmp 17) 27 rfl w.heap.size 5 i0 (.int .u8 0) 1 1 Try.underlying27 hi hz0 hz1 hz2 rfl (by decide) (.slice none 0 0) 0 [] rfl (World.ownsRow_nil _ _ _ _) A k c (l.map bv) rfl hr2 (one_bytes _) H63.out H47.out (Nat.le_refl _) ?_; intro A' c' w1 hown hgrow hat)
  go_ret3
  rw [Nat.zero_add, List.nil_append] at hown
  exact ⟨A', c', k, rfl, by simp, Rd.of_own hown, (Kp.refl NoX w).grown hgrow (fun k e => by simp [Value.ownBlock] at e)⟩

theorem textAt_short (b : List UInt8) (m : Int) (h : b.length < 2) : textAt b m 0 = ([], 0, 8) := by simp [textAt, h]
theorem textAt_0 (b : List UInt8) (m : Int) (h : ¬ b.length < 2) (hm : m ≤ 65535) : textAt b m 0 = if m < (ofBe (b.take 2) : Int) then ([], 2, 6) else if b.length < 2 + ofBe (b.take 2) then ([], 2, 8) else ((b.drop 2).take (ofBe (b.take 2)), 2 + ofBe (b.take 2), 0) := by
  have : min m 65535 = m := by omega
  simp [textAt, h, this]
set_option maxRecDepth 100000 in
set_option maxHeartbeats 1600000 in
theorem rsized_any (w : World) (A : Option Addr) (c n : Nat) (m : Int) (b : List UInt8) (hr : Rd w 1 A n (b.map bv)) (hn : n = b.length) (hc : n ≤ c) (hk : n ≤ 100000000000) (hm : 0 ≤ m) (hm2 : m ≤ 65535) :
    Calls Try.prog 87 #[.slice A n c, .int .i64 2, .int .i64 m] w (SizedPost w (textAt b m 0)) := by
  subst hn
  by_cases h2 : b.length < 2
  · rw [textAt_short b m h2]
    have Hno := Lib.hid (rtn_no w A c b.length 2 (by omega))
    go_enter Try.func87, Try.ntmps87
    go_wp2_with fail
    refine Hno.out.mono ?_
    rintro e w1 ⟨rfl, rfl⟩
    go_wp2
    go_ret3
    exact ⟨none, 0, 0, rfl, (fun h => by cases h), Rd.none_, Kp.refl _ _⟩
  · rw [textAt_0 b m h2 hm2]
    have Hok := Lib.hid (rtn_ok w A c b.length 2 b hr rfl (by omega) (by decide))
    have hx : ofBe (b.take 2) < 65536 := ofBe_take_lt b 2
    have Hraw := Lib.hid (fun (k : Nat) (A' : Option Addr) (c' : Nat) (hr' : Rd w 1 A' (b.length - 2) ((b.drop 2).map bv)) (hc' : b.length - 2 ≤ c') (h : k ≤ b.length - 2) => rraw_ok w A' c' (b.length - 2) k (b.drop 2) hr' (by rw [List.length_drop]) hc' h (by omega))
    have hcut := hr.cut (k := 2) (cap := c) (by omega) hc
    rw [Nat.mul_one, ← List.map_drop] at hcut
    have hsl := fun W => cut_l (P := Try.prog) Try.elemBytes Try.sizeBytes A b.length c 2 .i64 2 rfl (by omega) W
    rw [Nat.mul_one] at hsl
    generalize (if c = 2 then A else A.map (·.add 2)) = AA at hcut hsl
    generalize ofBe (b.take 2) = x at *
    have em : IntKind.u64.wrap m = m := IntWalk.u64_in _ (by omega)
    have ex : IntKind.i64.wrap (x : Int) = (x : Int) := IntWalk.i64_in _ (by omega)
    have ex2 : wrap64 (x : Int) = (x : Int) := by unfold wrap64; omega
    by_cases h6 : m < (x : Int)
    · rw [if_pos h6]
      clear hcut hsl
      go_enter Try.func87, Try.ntmps87
      go_wp2_with fail
      refine Hok.out.mono ?_
      rintro e w1 ⟨rfl, rfl⟩
      go_wp2
      go_ret3
      exact ⟨none, 0, 0, rfl, (fun h => by cases h), Rd.none_, Kp.refl _ _⟩
    · rw [if_neg h6]
      by_cases h8 : b.length < 2 + x
      · rw [if_pos h8]
        have Hno := Lib.hid (fun (A' : Option Addr) (c' : Nat) => rraw_no w A' c' (b.length - 2) x (by omega) (by omega))
        go_enter Try.func87, Try.ntmps87
        go_wp2_with fail
        refine Hok.out.mono ?_
        rintro e w1 ⟨rfl, rfl⟩
        go_wp2_with fail
        refine (Hno.out _ _).mono ?_
        rintro e w1 ⟨rfl, rfl⟩
        go_wp2
        go_ret3
        exact ⟨none, 0, _, rfl, (fun h => by cases h), Rd.none_, Kp.refl _ _⟩
      · rw [if_neg h8]
        have HR := Lib.hid (Hraw.out x AA (c - 2) hcut (by omega) (by omega))
        clear Hraw hcut
        go_enter Try.func87, Try.ntmps87
        go_wp2_with fail
        refine Hok.out.mono ?_
        rintro e w1 ⟨rfl, rfl⟩
        go_wp2_with fail
        refine HR.out.mono ?_
        rintro e w1 ⟨A', c', n', rfl, _, hrd, ho⟩
        have hx3 : IntKind.i64.wrap (2 + (x : Int)) = 2 + (x : Int) := IntWalk.i64_in _ (by omega)
        generalize (b.drop 2).take x = l at *
        go_wp2
        go_ret3
        exact ⟨A', c', 2 + (x : Int), rfl, (fun _ => by simp), hrd, ho⟩
set_option maxRecDepth 100000 in
set_option maxHeartbeats 800000 in
theorem rtt_any (w : World) (A : Option Addr) (c n : Nat) (m : Int) (b : List UInt8) (hr : Rd w 1 A n (b.map bv)) (hn : n = b.length) (hc : n ≤ c) (hk : n ≤ 100000000000) (hm : 0 ≤ m) (hm2 : m ≤ 65535) :
    Calls Try.prog 80 #[.slice A n c, .int .i64 m] w fun e w' => ∃ k : Int, e = .returned (.tuple #[.string ⟨(textAt b m 0).1.toArray⟩, .int .i64 k, .int .i64 (textAt b m 0).2.2]) ∧ ((textAt b m 0).2.2 = 0 → k = ((textAt b m 0).2.1 : Int)) ∧ Old w w' := by
  subst hn
  have HS := Lib.hid (rsized_any w A c b.length m b hr rfl hc hk hm hm2)
  have HL := Lib.hid (least_any w m 65535 hm hm2)
  generalize textAt b m 0 = T at *
  obtain ⟨l, p, y⟩ := T
  unfold SizedPost at HS
  simp only at HS ⊢
  go_enter Try.func80, Try.ntmps80
  go_wp2_with fail
  refine HL.out.mono ?_
  rintro e w1 ⟨rfl, rfl⟩
  go_wp2_with fail
  refine HS.out.mono ?_
  rintro e w1 ⟨A', c', k, rfl, hk', hrd, ho⟩
  have hcv := run_conv_bs (P := Try.prog) w1 Try.underlying27 Try.underlying5 Try.underlying9 A' _ c' _ hrd
  go_wp2
  go_ret3
  exact ⟨k, rfl, hk', ho⟩
end Go.Proofs.Ytnaolhjbapgjgaa

import Derived.Test.YtnaolhjbapgjgaaGreatMg01
import Derived.Test.YtnaolhjbapgjgaaGreatMg02
import Derived.Test.YtnaolhjbapgjgaaGreatMg05
import Derived.Test.YtnaolhjbapgjgaaGreatMg08
import Derived.Test.YtnaolhjbapgjgaaGreatMg09
set_option maxRecDepth 100000
set_option maxHeartbeats 3200000
namespace Go.Proofs.YtnaolhjbapgjgaaGreat
open Go.RowKit
theorem textAt_le (bs : List UInt8) (most : Int) (p : Nat) (hp : p <= bs.length) : (jd bs most p).2.1 <= bs.length := by
  unfold jd
  split
  · exact hp
  · split
    · simp only; omega
    · split
      · simp only; omega
      · simp only; omega
def va (bs : List UInt8) (most : Int) (s : Rs) : List UInt8 × Rs :=
  if s.why ≠ 0 then ([], s)
  else if (jd bs most s.at_).2.2 ≠ 0 then ([], ⟨s.at_, (jd bs most s.at_).2.2⟩)
  else ((jd bs most s.at_).1, ⟨(jd bs most s.at_).2.1, 0⟩)
theorem rtext_any (w : World) (g : Nat) (bs : List UInt8) (most : Int) (s : Rs) (h : Rr w g bs s) (hm : 0 <= most) :
    Calls Tryz.prog 135 #[.pointer (some ⟨g, 0, none⟩), .int .i64 most] w fun e w' => e = .returned (.string ⟨(va bs most s).1.toArray⟩) /\ Rr w' g bs (va bs most s).2 /\ Kp (RX g) w w' := by
  obtain ⟨p, y⟩ := s
  have hfit := h.fits
  have c1 := h.atc
  have c2 := h.why
  have z1 := h.zer 1
  simp only at *
  by_cases hy : y = 0
  case neg =>
    rw [show va bs most ⟨p, y⟩ = ([], ⟨p, y⟩) by simp [va, hy]]
    have hy' : (y != 0) = true := by simpa using hy
    go_enter Tryz.func135, Tryz.ntmps135
    go_wp2
    go_ret
    exact ⟨rfl, h, Kp.refl _ _⟩
  subst hy
  have hle := textAt_le bs most p hfit.1
  have HB := jJ0 (show va bs most ⟨p, 0⟩ = if (jd bs most p).2.2 ≠ 0 then ([], ⟨p, (jd bs most p).2.2⟩) else ((jd bs most p).1, ⟨(jd bs most p).2.1, 0⟩) by
    simp only [va]; rw [if_neg (by simp)])
  generalize va bs most ⟨p, 0⟩ = BN at HB ⊢
  have Hh := jJ0 (rtextat_any w g bs most p ⟨p, 0⟩ h hm hfit.1)
  generalize jd bs most p = T at HB Hh hle
  obtain ⟨l, to0, er⟩ := T
  simp only at HB Hh hle
  by_cases he : er = 0
  · subst he
    rw [if_neg (by simp)] at HB
    rw [HB.out]
    have Hset := jJ0 (h.setAt to0 hle)
    go_enter Tryz.func135, Tryz.ntmps135
    go_wp2_with fail
    refine Hh.out.mono ?_
    rintro e w' ⟨rfl, rfl⟩
    go_wp2
    go_ret
    exact ⟨rfl, Hset.out, (Kp.refl (RX g) w).setCell (p := ⟨g, 1, none⟩) (fun _ => rfl) _⟩
  · rw [if_pos he] at HB
    rw [HB.out]
    have he' : (er != 0) = true := by simpa using he
    go_enter Tryz.func135, Tryz.ntmps135
    go_wp2_with fail
    refine Hh.out.mono ?_
    rintro e w' ⟨rfl, rfl⟩
    go_wp2_with fail
    refine (jp w g bs ⟨p, 0⟩ er h rfl).mono ?_
    rintro e w1 ⟨rfl, hr1, hk1⟩
    go_wp2
    go_ret
    exact ⟨rfl, hr1, hk1⟩
def textsE (acc : List ByteArray) (T : List UInt8 × Nat × Int) : Int :=
  if T.2.2 = 0 /\ acc ≠ [] /\ blt (acc.getD (acc.length - 1) ByteArray.empty) ⟨T.1.toArray⟩ = false then 8 else T.2.2
def jY (bs : List UInt8) (each : Int) : Nat -> Nat -> List ByteArray -> Int × List ByteArray × Nat
  | 0, p, acc => (0, acc, p)
  | k + 1, p, acc => if textsE acc (jd bs each p) ≠ 0 then (textsE acc (jd bs each p), [], 0) else jY bs each k (jd bs each p).2.1 (acc ++ [⟨(jd bs each p).1.toArray⟩])
def kY (bs : List UInt8) (most each : Int) (s : Rs) : List ByteArray × Rs :=
  if s.why ≠ 0 then ([], s)
  else if bs.length < s.at_ + 2 then ([], ⟨s.at_, 8⟩)
  else if min most 65535 < (ofBe ((bs.drop s.at_).take 2) : Int) then ([], ⟨s.at_, 7⟩)
  else if (jY bs each (ofBe ((bs.drop s.at_).take 2)) (s.at_ + 2) []).1 ≠ 0 then ([], ⟨s.at_, (jY bs each (ofBe ((bs.drop s.at_).take 2)) (s.at_ + 2) []).1⟩)
  else ((jY bs each (ofBe ((bs.drop s.at_).take 2)) (s.at_ + 2) []).2.1, ⟨(jY bs each (ofBe ((bs.drop s.at_).take 2)) (s.at_ + 2) []).2.2, 0⟩)
def TookT (w : World) (g : Nat) (bs : List UInt8) (l : List ByteArray) (s : Rs) (e : Ending) (w' : World) : Prop :=
  ∃ A c, e = .returned (.slice A l.length c) /\ Rd w' 1 A l.length (l.map sv) /\ Av (fun k => k < w.heap.size) l.length A /\ l.length <= c /\ Rr w' g bs s /\ Kp (RX g) w w'
theorem TookT.none_ {w w' : World} {g : Nat} {bs : List UInt8} {s : Rs} (h : Rr w' g bs s) (hk : Kp (RX g) w w') : TookT w g bs [] s (.returned (.slice none 0 0)) w' :=
  ⟨none, 0, rfl, Rd.none_, fun h => absurd h (by simp), Nat.le_refl _, h, hk⟩
theorem own_cap {w : World} {base : Nat} {e : TypeId} {size : Nat} {A : Option Addr} {n c : Nat} {xs : List Value} (h : w.ownsRow base e size (.slice A n c) n xs) : n <= c := by
  rcases h.2 with ⟨e, h0⟩ | ⟨g, cap, cur, e, _, _, hnc, _⟩
  · omega
  · injection e with e1 e2 e3; omega
theorem own_av {w : World} {base : Nat} {e : TypeId} {size : Nat} {A : Option Addr} {n c : Nat} {xs : List Value} (h : w.ownsRow base e size (.slice A n c) n xs) : Av (fun k => k < base) n A := by
  intro _ ad ea hlt
  have := h.lt ad.block (by rw [jH, ea]; rfl)
  omega
theorem textsGo_err (bs : List UInt8) (each : Int) (k p : Nat) (acc : List ByteArray) {l : List UInt8} {to0 : Nat} {er : Int} (h : jd bs each p = (l, to0, er)) (he : er ≠ 0) : jY bs each (k + 1) p acc = (er, [], 0) := by
  have e : textsE acc (jd bs each p) = er := by rw [h, textsE, if_neg (fun hh => he hh.1)]
  rw [jY, e, if_pos he]
theorem textsGo_falls (bs : List UInt8) (each : Int) (k p : Nat) (acc : List ByteArray) {l : List UInt8} {to0 : Nat} (h : jd bs each p = (l, to0, 0)) (ha : acc ≠ []) (hb : blt (acc.getD (acc.length - 1) ByteArray.empty) ⟨l.toArray⟩ = false) : jY bs each (k + 1) p acc = (8, [], 0) := by
  have e : textsE acc (jd bs each p) = 8 := by rw [h, textsE, if_pos ⟨rfl, ha, hb⟩]
  rw [jY, e, if_pos (by decide)]
theorem textsGo_on (bs : List UInt8) (each : Int) (k p : Nat) (acc : List ByteArray) {l : List UInt8} {to0 : Nat} (h : jd bs each p = (l, to0, 0)) (hb : acc = [] \/ blt (acc.getD (acc.length - 1) ByteArray.empty) ⟨l.toArray⟩ = true) : jY bs each (k + 1) p acc = jY bs each k to0 (acc ++ [⟨l.toArray⟩]) := by
  have e : textsE acc (jd bs each p) = 0 := by
    rw [h, textsE, if_neg]
    rintro ⟨_, h1, h2⟩
    rcases hb with hb | hb
    · exact h1 hb
    · rw [hb] at h2; cases h2
  rw [jY, e, if_neg (by simp), h]
theorem map_sv_snoc (acc : List ByteArray) (x : ByteArray) : acc.map sv ++ [.string x] = (acc ++ [x]).map sv := by simp [sv]
theorem Tryz.infoText : (Tryz.prog.info? 9).map (fun i => (i.zero, i.size, i.bytes)) = some (some (.string ByteArray.empty), 1, 16) := by kernel_rfl
theorem rtexts_any (w : World) (g : Nat) (bs : List UInt8) (most each : Int) (s : Rs) (h : Rr w g bs s) (hm : 0 <= most) (he : 0 <= each) :
    Calls Tryz.prog 136 #[.pointer (some ⟨g, 0, none⟩), .int .i64 most, .int .i64 each] w (TookT w g bs (kY bs most each s).1 (kY bs most each s).2) := by
  obtain ⟨p, y⟩ := s
  have hfit := h.fits
  have c1 := h.atc
  have c2 := h.why
  have z1 := h.zer 1
  have hlt := h.lt
  simp only at *
  by_cases hy : y = 0
  case neg =>
    rw [show kY bs most each ⟨p, y⟩ = ([], ⟨p, y⟩) by simp [kY, hy]]
    have hy' : (y != 0) = true := by simpa using hy
    go_enter Tryz.func136, Tryz.ntmps136
    go_wp2
    go_ret
    exact TookT.none_ h (Kp.refl _ _)
  subst hy
  by_cases h2 : bs.length < p + 2
  · rw [show kY bs most each ⟨p, 0⟩ = ([], ⟨p, 8⟩) by simp only [kY]; rw [if_neg (by simp), if_pos h2]]
    go_enter Tryz.func136, Tryz.ntmps136
    go_wp2_with fail
    refine (ahead16_no w g bs ⟨p, 0⟩ p h hfit.1 h2).mono ?_
    rintro e w' ⟨rfl, rfl⟩
    go_wp2_with fail
    refine (jp w g bs ⟨p, 0⟩ 8 h rfl).mono ?_
    rintro e w1 ⟨rfl, hr1, hk1⟩
    go_wp2
    go_ret
    exact TookT.none_ hr1 hk1
  have hN := jt (bs.drop p) 2
  have HB := jJ0 (show kY bs most each ⟨p, 0⟩ = if min most 65535 < (ofBe ((bs.drop p).take 2) : Int) then ([], ⟨p, 7⟩) else if (jY bs each (ofBe ((bs.drop p).take 2)) (p + 2) []).1 ≠ 0 then ([], ⟨p, (jY bs each (ofBe ((bs.drop p).take 2)) (p + 2) []).1⟩) else ((jY bs each (ofBe ((bs.drop p).take 2)) (p + 2) []).2.1, ⟨(jY bs each (ofBe ((bs.drop p).take 2)) (p + 2) []).2.2, 0⟩) by
    simp only [kY]; rw [if_neg (by simp), if_neg h2])
  generalize kY bs most each ⟨p, 0⟩ = BN at HB ⊢
  have Hh := jJ0 (ahead16_yes w g bs ⟨p, 0⟩ p h (by omega))
  generalize ofBe ((bs.drop p).take 2) = n at HB hN Hh
  have hN' : (n : Int) <= 65535 := by omega
  by_cases hmost : min most 65535 < (n : Int)
  · rw [if_pos hmost] at HB
    rw [HB.out]
    go_enter Tryz.func136, Tryz.ntmps136
    go_wp2_with fail
    refine Hh.out.mono ?_
    rintro e w' ⟨rfl, rfl⟩
    go_wp2_with fail
    refine (kT _ _ _ hm).mono ?_
    rintro e w' ⟨rfl, rfl⟩
    go_wp2_with fail
    refine (jp w g bs ⟨p, 0⟩ 7 h rfl).mono ?_
    rintro e w1 ⟨rfl, hr1, hk1⟩
    go_wp2
    go_ret
    exact TookT.none_ hr1 hk1
  rw [if_neg hmost] at HB
  have H2 := jJ0 h2
  obtain ⟨i0, hi, hz0, hz1, hz2⟩ := info_parts Tryz.infoText
  go_enter Tryz.func136, Tryz.ntmps136
  go_wp2_with fail
  refine Hh.out.mono ?_
  rintro e w' ⟨rfl, rfl⟩
  go_wp2_with fail
  refine (kT _ _ _ hm).mono ?_
  rintro e w' ⟨rfl, rfl⟩
  go_wp2_with fail
  clear h2
  go_loopw [42, 10, 8] (fun i l q wr => ∃ (k : Nat) (acc : List ByteArray) (A : Option Addr) (c t : Nat), k <= n /\ i = .int .i64 k /\ acc.length = k /\ l = .slice A k c /\ wr.ownsRow w.heap.size 9 1 (.slice A k c) k (acc.map sv) /\ q = .int .i64 t /\ t <= bs.length /\ jY bs each n (p + 2) [] = jY bs each (n - k) t acc /\ Old w wr) (fun i _ _ _ => n - (intOf i).toNat)
  case atStart => exact ⟨0, [], none, 0, p + 2, by omega, rfl, rfl, rfl, World.ownsRow_nil _ _ _ _, by go_num, by have := H2.out; omega, rfl, Kp.refl _ _⟩
  case round =>
    obtain ⟨k, acc, A, c, t, hk, rfl, hacc, rfl, hown, rfl, ht, hgo, ho⟩ := hrel
    have hR := h.old ho
    have HR := jJ0 hR
    have hto := textAt_le bs each t ht
    have Hh2 := jJ0 (rtextat_any wr g bs each t ⟨p, 0⟩ hR he ht)
    have hrd := Rd.of_own hown
    have Hgo := jJ0 hgo
    have Ho := jJ0 ho
    clear hgo hR
    by_cases hlt2 : k < n
    · obtain ⟨m, hm⟩ : ∃ m, n - k = m + 1 := ⟨n - k - 1, by omega⟩
      rw [hm] at Hgo
      generalize hT : jd bs each t = T at Hh2 hto
      obtain ⟨l, to0, er⟩ := T
      simp only at Hh2 hto
      by_cases her : er = 0
      case neg =>
        rw [textsGo_err bs each m t acc hT her] at Hgo
        have hB := HB.out
        rw [Hgo.out, if_pos her] at hB
        have HBB := jJ0 hB
        have her' : (er != 0) = true := by simpa using her
        have her2 : (er == 0) = false := beq_eq_false_iff_ne.2 her
        clear hB hT hm her
        go_wp2_with fail
        refine Hh2.out.mono ?_
        rintro e w' ⟨rfl, rfl⟩
        go_wp2_with fail
        refine (jp _ g bs ⟨p, 0⟩ er HR.out rfl).mono ?_
        rintro e w1 ⟨rfl, hr1, hk1⟩
        have Hr1 := jJ0 hr1
        have Hk1 := jJ0 ((Ho.out.mono (Y := RX g) (fun _ _ f => f.elim)).trans hk1 (fun _ _ h => h))
        clear hr1 hk1
        go_wp2
        go_ret
        rw [HBB.out]
        exact TookT.none_ Hr1.out Hk1.out
      subst her
      have Hm := jJ0 hm
      have HT := jJ0 hT
      clear hm hT
      have H63 := jJ0 (show k + 1 <= maxLen by unfold maxLen; omega)
      have H47 := jJ0 (show (k + 1) * 16 <= 140737488355328 by omega)
      have hkk : (k : Int) <= 65535 := by omega
      rcases Nat.eq_zero_or_pos k with h0 | hpos
      · subst h0
        have hnil : acc = [] := List.eq_nil_of_length_eq_zero hacc
        subst hnil
        have Hon := jJ0 (textsGo_on bs each m t [] HT.out (.inl rfl))
        simp only [List.length_nil, List.map_nil] at *
        go_wp2_with fail
        refine Hh2.out.mono ?_
        rintro e w' ⟨rfl, rfl⟩
        go_wp2_with (at_builtin; refine jO _ rfl (.tmp 74) (.tmp 76) 27 rfl w.heap.size 9 i0 (.string ByteArray.empty) 1 16 Tryz.underlying27 hi hz0 hz1 hz2 rfl (by decide) (.slice A 0 c) 0 [] rfl (hown.alloc _) _ 1 1 _ rfl (Rd.one_new _ _ _) (kz _ rfl) H63.out H47.out (Nat.le_trans Ho.out.size (by simp)) ?_; intro A' c' w2 hown2 hgrow hat)
        have Hown2 := jJ0 hown2
        have Ho2 := jJ0 (((Ho.out.alloc _).grown hgrow (fun k e => by
          rcases hown.2 with ⟨e', _⟩ | ⟨g', _, _, e', hge, _⟩
          · rw [e'] at e; simp [Value.ownBlock] at e
          · rw [e'] at e; simp [Value.ownBlock] at e; omega)))
        clear hown2 hgrow hat hown hrd
        go_wp2
        go_roundw
        case rel =>
          refine ⟨1, [⟨l.toArray⟩], A', c', to0, by omega, rfl, rfl, rfl, ?_, rfl, hto, ?_, Ho2.out⟩
          · simpa [sv] using Hown2.out
          · rw [Hgo.out, Hon.out, show n - 1 = m by have := Hm.out; omega]; rfl
        case measure => simp [intOf]; omega
      · obtain ⟨b, o, hAe, hlast⟩ := hrd.text (k := k - 1) (by omega)
        subst hAe
        have hne : acc ≠ [] := by rintro rfl; simp at hacc; omega
        have hgl : acc.getD (acc.length - 1) ByteArray.empty = acc.getD (k - 1) ByteArray.empty := by rw [hacc]
        generalize hz : acc.getD (k - 1) ByteArray.empty = z at hlast hgl
        have b1 : (0 : Int) <= (k : Int) - 1 := by omega
        have b2 : (k : Int) - 1 < (k : Int) := by omega
        have b3 : ((k : Int) - 1).toNat = k - 1 := by omega
        have b4 : (0 : Int) < (k : Int) := by omega
        cases hlx : Op.bytesLess z.toList l
        · have Hf := jJ0 (textsGo_falls bs each m t acc HT.out hne (by rw [hgl]; simpa [blt] using hlx))
          have hB := HB.out
          rw [Hgo.out, Hf.out, if_pos (by decide)] at hB
          have HBB := jJ0 hB
          clear hB hgl hz hacc hne
          go_wp2_with fail
          refine Hh2.out.mono ?_
          rintro e w' ⟨rfl, rfl⟩
          go_wp2_with fail
          refine (jp _ g bs ⟨p, 0⟩ 8 HR.out rfl).mono ?_
          rintro e w1 ⟨rfl, hr1, hk1⟩
          have Hr1 := jJ0 hr1
          have Hk1 := jJ0 ((Ho.out.mono (Y := RX g) (fun _ _ f => f.elim)).trans hk1 (fun _ _ h => h))
          clear hr1 hk1
          go_wp2
          go_ret
          rw [HBB.out]
          exact TookT.none_ Hr1.out Hk1.out
        · have Hon := jJ0 (textsGo_on bs each m t acc HT.out (.inr (by rw [hgl]; simpa [blt] using hlx)))
          have Hacc := jJ0 hacc
          clear hgl hz hacc hne
          go_wp2_with fail
          refine Hh2.out.mono ?_
          rintro e w' ⟨rfl, rfl⟩
          go_wp2_with (at_builtin; refine jO _ rfl (.tmp 74) (.tmp 76) 27 rfl w.heap.size 9 i0 (.string ByteArray.empty) 1 16 Tryz.underlying27 hi hz0 hz1 hz2 rfl (by decide) (.slice (some ⟨b, o, none⟩) k c) k (acc.map sv) rfl (hown.alloc _) _ 1 1 _ rfl (Rd.one_new _ _ _) (kz _ rfl) H63.out H47.out (Nat.le_trans Ho.out.size (by simp)) ?_; intro A' c' w2 hown2 hgrow hat)
          have Hown2 := jJ0 hown2
          have Ho2 := jJ0 (((Ho.out.alloc _).grown hgrow (fun k e => by
            have := hown.lt k e
            omega)))
          clear hown2 hgrow hat hown hrd
          go_wp2
          go_roundw
          case rel =>
            refine ⟨k + 1, acc ++ [⟨l.toArray⟩], A', c', to0, by omega, by go_num, by rw [List.length_append, Hacc.out]; rfl, rfl, ?_, rfl, hto, ?_, Ho2.out⟩
            · rw [<- map_sv_snoc]; exact Hown2.out
            · rw [Hgo.out, Hon.out, show n - (k + 1) = m by have := Hm.out; omega]
          case measure => simp [intOf]; omega
    · obtain rfl : k = n := by omega
      have hB : BN = (acc, ⟨t, 0⟩) := by
        have := HB.out
        rw [Hgo.out, Nat.sub_self] at this
        simpa [jY] using this
      have HBB := jJ0 hB
      have Hset := jJ0 (HR.out.setAt t ht)
      have Hown := jJ0 hown
      have Hacc := jJ0 hacc
      have z1r := HR.out.zer 1
      have c1r := HR.out.atc
      simp only at c1r
      clear hB hown hacc
      go_wp2
      go_ret
      rw [HBB.out]
      have hk2 : Kp (RX g) w (wr.setCell ⟨g, 1, none⟩ (.int .i64 t)) := (Ho.out.mono (Y := RX g) (fun _ _ f => f.elim)).setCell (p := ⟨g, 1, none⟩) (fun _ => rfl) _
      refine ⟨A, c, kR (by rw [Hacc.out]; rfl), ?_, ?_, ?_, Hset.out, hk2⟩
      · rw [Hacc.out]
        refine (Rd.of_own Hown.out).kp ((Kp.refl (RX g) wr).setCell (p := ⟨g, 1, none⟩) (fun _ => rfl) _) ?_
        intro hn ad ea hx
        have := own_av Hown.out hn ad ea
        have h2 : ad.block = g := hx
        omega
      · rw [Hacc.out]; exact own_av Hown.out
      · rw [Hacc.out]; exact own_cap Hown.out
def sgnLe (a b : Sgn) : Bool := decide (Lib.compareBytes a.key b.key <= 0)
def sgnLt (a b : Sgn) : Prop := Lib.compareBytes a.key b.key < 0
theorem sgnLe_trans (a b c : Sgn) (h1 : sgnLe a b = true) (h2 : sgnLe b c = true) : sgnLe a c = true := by
  unfold sgnLe at *
  simp only [decide_eq_true_eq] at *
  rcases Int.lt_or_eq_of_le h1 with p | p
  · rcases Int.lt_or_eq_of_le h2 with q | q
    · exact Int.le_of_lt (cmp_trans _ _ _ p q)
    · rw [<- cmp_zero _ _ q]; exact h1
  · rw [cmp_zero _ _ p]; exact h2
theorem sgnLe_total (a b : Sgn) : (sgnLe a b || sgnLe b a) = true := by
  unfold sgnLe
  have := cmp_neg a.key b.key
  rw [Bool.or_eq_true, decide_eq_true_eq, decide_eq_true_eq]
  omega
def sortS (l : List Sgn) : List Sgn := l.mergeSort sgnLe
theorem sortS_perm (l : List Sgn) : (sortS l).Perm l := List.mergeSort_perm l sgnLe
theorem sortS_sorted (l : List Sgn) : (sortS l).Pairwise fun a b => sgnLe a b = true := List.pairwise_mergeSort sgnLe_trans sgnLe_total l
theorem riseK_iff : ∀ l : List Sgn, riseK (l.map (·.key)) = true ↔ l.Pairwise sgnLt := by
  intro l
  constructor
  · intro h
    rw [riseK, List.all_eq_true] at h
    have h1 : ∀ j, (hj : j + 1 < l.length) -> Lib.compareBytes l[j].key l[j + 1].key < 0 := by
      intro j hj
      have := h j (List.mem_range.2 (by rw [List.length_map]; omega))
      rw [getD_key l j (by omega), getD_key l (j + 1) hj] at this
      exact of_decide_eq_true this
    rw [List.pairwise_iff_getElem]
    intro i j hi hj hij
    obtain ⟨d, rfl⟩ : ∃ d, j = i + 1 + d := ⟨j - (i + 1), by omega⟩
    clear hij h
    induction d with
    | zero => exact h1 i hj
    | succ d ih => exact cmp_trans _ _ _ (ih (by omega)) (h1 (i + 1 + d) hj)
  · intro h
    rw [List.pairwise_iff_getElem] at h
    rw [riseK, List.all_eq_true]
    intro j hj
    have hj' := List.mem_range.1 hj
    rw [List.length_map] at hj'
    rw [getD_key l j (by omega), getD_key l (j + 1) (by omega)]
    exact decide_eq_true (h j (j + 1) (by omega) (by omega) (by omega))
theorem yB : ∀ l k : List Sgn, l.Perm k -> l.Pairwise sgnLt -> k.Pairwise (fun a b => sgnLe a b = true) -> l = k
  | [], k, hp, _, _ => by rw [List.nil_perm.1 hp]
  | a :: l, [], hp, _, _ => by simpa using hp.length_eq
  | a :: l, b :: k, hp, h1, h2 => by
    rw [List.pairwise_cons] at h1 h2
    have hb : b ∈ a :: l := hp.mem_iff.2 List.mem_cons_self
    have ha : a ∈ b :: k := hp.mem_iff.1 List.mem_cons_self
    have e : a = b := by
      rcases List.mem_cons.1 hb with e | e
      · exact e.symm
      · rcases List.mem_cons.1 ha with e' | e'
        · exact e'
        · exfalso
          have x := h1.1 b e
          have y := h2.1 a e'
          have z := cmp_neg a.key b.key
          unfold sgnLe at y
          unfold sgnLt at x
          simp only [decide_eq_true_eq] at y
          omega
    subst e
    rw [yB l k hp.cons_inv h1.2 h2.2]
theorem sort_same {l l' : List Sgn} (hp : l'.Perm l) (hs : ∀ i j (hi : i < l'.length) (hj : j < l'.length), i < j -> 0 <= Lib.compareBytes l'[j].key l'[i].key) :
    riseK (l'.map (·.key)) = riseK ((sortS l).map (·.key)) /\ (riseK (l'.map (·.key)) = true -> l' = sortS l) := by
  have hs' : l'.Pairwise fun a b => sgnLe a b = true := by
    rw [List.pairwise_iff_getElem]
    intro i j hi hj hij
    have h1 := hs i j hi hj hij
    have h2 := cmp_neg l'[i].key l'[j].key
    exact decide_eq_true (by omega)
  have hpp := hp.trans (sortS_perm l).symm
  have k1 : riseK (l'.map (·.key)) = true -> l' = sortS l := fun h => yB _ _ hpp ((riseK_iff l').1 h) (sortS_sorted l)
  have k2 : riseK ((sortS l).map (·.key)) = true -> sortS l = l' := fun h => yB _ _ hpp.symm ((riseK_iff _).1 h) hs'
  refine ⟨?_, k1⟩
  rw [Bool.eq_iff_iff]
  exact ⟨fun h => by rw [<- k1 h]; exact h, fun h => by rw [<- k2 h]; exact h⟩
structure MNote where
  head : Hd
  signs : List Sgn
  A : Option Addr
  c : Nat
def MNote.cells (m : MNote) : List Value := m.head.cells ++ [.slice m.A m.signs.length m.c]
structure MNote.Ok (w : World) (X : Nat -> Prop) (m : MNote) : Prop where
  head : m.head.Ok
  rd : Rd w 64 m.A m.signs.length (m.signs.flatMap Sgn.cells)
  av : Av X m.signs.length m.A
  big : m.signs.length <= 1000000000000
def yK (s : Sgn) : List UInt8 := s.key ++ s.tag
def noteB (h : Hd) (l : List Sgn) : Option (List UInt8) :=
  if headOk h = true /\ 1 <= l.length /\ l.length <= 16 /\ riseK ((sortS l).map (·.key)) = true then some (be 1 33 ++ (headB h ++ (be 1 l.length ++ (sortS l).flatMap yK))) else none
def EncP (w : World) (o : Option (List UInt8)) (m : Nat) (e : Ending) (w' : World) : Prop :=
  (∃ l A c, o = some l /\ l.length <= m /\ e = .returned (.tuple #[.slice A l.length c, .int .i64 0]) /\ Rd w' 1 A l.length (l.map bv) /\ Av (fun k => k < w.heap.size) l.length A /\ Old w w') \/
  (∃ er : Int, o = none /\ er ≠ 0 /\ e = .returned (.tuple #[.slice none 0 0, .int .i64 er]) /\ Old w w')
theorem signB_len (l : List Sgn) : (l.flatMap yK).length = l.length * 64 := by
  induction l with
  | nil => rfl
  | cons a l ih => rw [List.flatMap_cons, List.length_append, ih, yK, List.length_append, a.hk, a.ht, List.length_cons]; omega
def zero64 : List Value := [.int .u8 0, .int .u8 0, .int .u8 0, .int .u8 0, .int .u8 0, .int .u8 0, .int .u8 0, .int .u8 0, .int .u8 0, .int .u8 0, .int .u8 0, .int .u8 0, .int .u8 0, .int .u8 0, .int .u8 0, .int .u8 0, .int .u8 0, .int .u8 0, .int .u8 0, .int .u8 0, .int .u8 0, .int .u8 0, .int .u8 0, .int .u8 0, .int .u8 0, .int .u8 0, .int .u8 0, .int .u8 0, .int .u8 0, .int .u8 0, .int .u8 0, .int .u8 0, .int .u8 0, .int .u8 0, .int .u8 0, .int .u8 0, .int .u8 0, .int .u8 0, .int .u8 0, .int .u8 0, .int .u8 0, .int .u8 0, .int .u8 0, .int .u8 0, .int .u8 0, .int .u8 0, .int .u8 0, .int .u8 0, .int .u8 0, .int .u8 0, .int .u8 0, .int .u8 0, .int .u8 0, .int .u8 0, .int .u8 0, .int .u8 0, .int .u8 0, .int .u8 0, .int .u8 0, .int .u8 0, .int .u8 0, .int .u8 0, .int .u8 0, .int .u8 0]
theorem size_setCells (g : Nat) : ∀ (vs : List Value) (w : World) (o : Nat), (w.setCells g o vs).heap.size = w.heap.size
  | [], _, _ => rfl
  | v :: vs, w, o => by
    show ((w.setCell ⟨g, o, none⟩ v).setCells g (o + 1) vs).heap.size = _
    rw [size_setCells g vs]
    simp [World.setCell]
theorem Tryz.sizeHead : (Tryz.prog.info? 45).map (·.size) = some 98 := by kernel_rfl
theorem encnote_any (w : World) (m : MNote) (X : Nat -> Prop) (hok : m.Ok w X) : Calls Tryz.prog 56 #[.agg m.cells.toArray] w (EncP w (noteB m.head m.signs) 2000) := by
  have Hk := jJ0 hok.head
  have Hb := jJ0 (Blk.new w 48 m.cells.toArray)
  have Ho := jJ0 ((Kp.refl NoX w).alloc (.cells m.cells.toArray 48))
  have S0 := jJ0 (show Sub m.cells 0 m.head.cells from by
    have := Sub.mid_ [] m.head.cells [.slice m.A m.signs.length m.c] 0 rfl
    simpa [MNote.cells] using this)
  have s98 : m.cells[98]? = some (.slice m.A m.signs.length m.c) := (Sub.end_ m.head.cells [.slice m.A m.signs.length m.c] 98 hok.head.len) 0 _ rfl
  have S98 := jJ0 s98
  have Hsz := jJ0 (show (Tryz.prog.info? 45).map (·.size) = some m.head.cells.length by rw [hok.head.len]; exact Tryz.sizeHead)
  have Hrd := jJ0 hok.rd
  have Hbig := jJ0 hok.big
  have HN := jJ0 (show noteB m.head m.signs = if headOk m.head = true /\ 1 <= m.signs.length /\ m.signs.length <= 16 /\ riseK ((sortS m.signs).map (·.key)) = true then some (be 1 33 ++ (headB m.head ++ (be 1 m.signs.length ++ (sortS m.signs).flatMap yK))) else none from rfl)
  generalize noteB m.head m.signs = NB at *
  clear s98 hok
  generalize m.cells = cs at *
  have c98 := Hb.out.at_ 98 (by rw [List.getElem?_toArray]; exact S98.out)
  have Hrg := jJ0 (S0.out.range Hb.out)
  have HR := jJ0 (fun W => hright_any W m.head Hk.out)
  go_enter Tryz.func56, Tryz.ntmps56
  go_wp2_with (first | refine Tryz.load_w rfl 45 (.tmp 9) rfl w.heap.size 0 rfl m.head.cells _ Hrg.out Tryz.underlying45 rfl Hsz.out ?_ | fail)
  generalize w.alloc _ = W at *
  refine (HR.out W).mono ?_
  rintro e w1 ⟨rfl, ho1⟩
  have Hb1 := jJ0 (Hb.out.old ho1)
  have Ho1 := jJ0 (Ho.out.old ho1)
  clear ho1 Hb Hrg Ho c98
  have c98 := Hb1.out.at_ 98 (by rw [List.getElem?_toArray]; exact S98.out)
  by_cases hh : headOk m.head = true
  · have hn0 : ((m.signs.length : Int) == 0) = decide (m.signs.length = 0) := by
      rw [Bool.eq_iff_iff]; simp
    rw [hh]
    by_cases h0 : m.signs.length = 0
    · have Hend := jJ0 (show NB = none by rw [HN.out, if_neg (by omega)])
      rw [decide_eq_true h0] at hn0
      have Hh := jJ0 hh
      have H0 := jJ0 h0
      clear hh h0
      go_wp2
      go_ret2
      exact .inr ⟨7, Hend.out, by decide, rfl, Ho1.out⟩
    · rw [decide_eq_false h0] at hn0
      by_cases h16 : m.signs.length <= 16
      · have g16 : ¬ (16 : Int) < (m.signs.length : Int) := by omega
        have Hh := jJ0 hh
        clear hh
        have HRi := jJ0 (rising_any w1 m.A m.c m.signs (Hrd.out.old Ho1.out) (by omega) (by omega))
        go_wp2_with fail
        refine HRi.out.mono ?_
        rintro e w2 ⟨l', gr, cr, hp, hs, rfl, hr2, hgr, ho2⟩
        obtain ⟨hsame, heq⟩ := sort_same hp hs
        have hlen : l'.length = m.signs.length := hp.length_eq
        have Hlen := jJ0 hlen
        have HrO := jJ0 hr2
        have Hb2 := jJ0 (Hb1.out.old ho2)
        have Ho2 := jJ0 (Ho1.out.old ho2)
        have hgb : w.heap.size < w2.heap.size := Hb2.out.lt
        have Hsame := jJ0 hsame
        clear hp hs hr2 ho2 Hb1 Ho1 c98 HRi hsame
        by_cases hri : riseK (l'.map (·.key)) = true
        · have Hl' := jJ0 (heq hri)
          have Hfin := jJ0 (show NB = some (be 1 33 ++ (headB m.head ++ (be 1 l'.length ++ l'.flatMap yK))) by
            rw [HN.out, if_pos ⟨Hh.out, by omega, h16, by rw [<- Hsame.out]; exact hri⟩, <- Hl'.out, Hlen.out])
          rw [hri]
          have hl16 : l'.length <= 16 := by have := Hlen.out; omega
          clear heq hri hlen Hl' Hsame h16 h0 hn0 g16
          go_wp2_with fail
          refine (kq _).mono ?_
          rintro e w3 ⟨rfl, hW3, ho3⟩
          have Hb3 := jJ0 (Hb2.out.old ho3)
          have Hr3 := jJ0 (HrO.out.old ho3)
          have Hav := jJ0 (Av.own HrO.out (by decide) (Nat.le_refl w2.heap.size))
          have Hx := jJ0 (show ¬ WX w2.heap.size none w.heap.size from by
            rintro (e | e)
            · omega
            · cases e)
          have Ho3 := jJ0 (Ho2.out.old ho3)
          have HW3 := jJ0 hW3
          have hg2 : w.heap.size <= w2.heap.size := Ho2.out.size
          have HgO := jJ0 (show w.heap.size <= w2.heap.size from hg2)
          clear hW3 ho3 Hb2 HrO hg2
          generalize w2.heap.size = g at *
          go_wp2_with fail
          refine (jV _ g none [] 33 (by decide) (by decide) HW3.out (by simp)).mono ?_
          rintro e w4 ⟨rfl, hst⟩
          obtain ⟨r4, hW4, f4⟩ := hst.kf
          have F4 := jJ0 f4
          have HW4 := jJ0 hW4
          have Hrg := jJ0 (S0.out.range (f4.blk Hb3.out Hx.out))
          clear hst hW4 f4
          go_wp2_with (first | refine Tryz.load_w rfl 45 (.tmp 35) rfl w.heap.size 0 rfl m.head.cells _ Hrg.out Tryz.underlying45 rfl Hsz.out ?_ | fail)
          refine (hlay_any _ g r4 _ m.head Hk.out HW4.out (by simp [jC])).mono ?_
          rintro e w5 ⟨rfl, hst⟩
          obtain ⟨r5, hW5, f5⟩ := hst.kf
          have F5 := jJ0 (F4.out.trans f5)
          have HW5 := jJ0 hW5
          clear hst hW5 f5 F4 HW4 Hrg
          have e8 : IntKind.u8.wrap (l'.length : Int) = l'.length := IntWalk.u8_in _ (by omega)
          have Hl5 := jJ0 (show ([] ++ be 1 ((33 : Int)).toNat ++ headB m.head).length = 114 by rw [List.length_append, headB_len Hk.out]; rfl)
          go_wp2_with fail
          refine (jV _ g r5 _ (l'.length : Int) (by omega) (by omega) HW5.out (by have := Hl5.out; omega)).mono ?_
          rintro e w6 ⟨rfl, hst⟩
          obtain ⟨r6, hW6, f6⟩ := hst.kf
          rw [Int.toNat_natCast] at hW6
          have Hst6 := jJ0 ((F5.out.trans f6).step hW6)
          generalize hpp : [] ++ be 1 ((33 : Int)).toNat ++ headB m.head ++ be 1 l'.length = pp at *
          have Hpp := jJ0 hpp
          have Hppl := jJ0 (show pp.length = 115 by rw [<- hpp, List.length_append, Hl5.out, jC])
          clear hst hW6 f6 F5 HW5 hpp
          go_wp2
          go_loopw [45] (fun i wr => ∃ k : Nat, k <= l'.length /\ i = .int .i64 k /\ WStep w3 g none wr (pp ++ (l'.take k).flatMap yK)) (fun i _ => l'.length - (intOf i).toNat)
          case atStart => exact ⟨0, by omega, rfl, by simpa using Hst6.out⟩
          case round =>
            obtain ⟨k, hk, rfl, hst⟩ := hrel
            by_cases hlt : k < l'.length
            · obtain ⟨r7, hW7, f7⟩ := hst.kf
              obtain ⟨b, o, hAe, hrg⟩ := (f7.rd Hr3.out Hav.out).elem (f := Sgn.cells) (fun s _ => s.len) rfl hlt
              injection hAe with hAe
              injection hAe with e1 e2
              subst e1 e2
              rw [Nat.zero_add] at hrg
              have Hfk := jJ0 (show pp ++ (l'.take (k + 1)).flatMap yK = (pp ++ (l'.take k).flatMap yK) ++ [l'[k].key, l'[k].tag].flatten by
                rw [kK yK l' k hlt, yK]; simp)
              have Hlk := jJ0 (show (pp ++ (l'.take k).flatMap yK).length <= 2000 by
                rw [List.length_append, signB_len, Hppl.out, List.length_take]
                omega)
              generalize l'[k] = y at *
              generalize pp ++ (l'.take k).flatMap yK = cc at *
              have Hrg := jJ0 hrg
              have Hsy := jJ0 (show (Tryz.prog.info? 165).map (·.size) = some y.cells.length by rw [Sgn.len]; exact Tryz.sizeSign)
              have HbZ := jJ0 (Blk.new wr 165 zero64.toArray)
              have HbS := jJ0 (HbZ.out.setWhole y.cells (by rw [Sgn.len]; rfl))
              have Hoz := jJ0 (show Old wr ((wr.alloc (.cells zero64.toArray 165)).setCells wr.heap.size 0 y.cells) from ((Kp.refl NoX wr).alloc _).trans (Kp.setCells _ _ _ _) (fun b hb e => by omega))
              have Hth := jJ0 (show (wr.alloc (.cells zero64.toArray 165)).there wr.heap.size 0 y.cells.toArray.size from HbZ.out.there 0 _ (by rw [List.size_toArray, Sgn.len]; decide))
              have Hone := jJ0 (all_oneCell_toArray y.one)
              have F7 := jJ0 f7
              have HW7 := jJ0 hW7
              unfold zero64 at HbZ HbS Hoz Hth
              clear hrg f7 hW7 hst
              have b1 : (0 : Int) <= (k : Int) := by omega
              have b2 : (k : Int) < (l'.length : Int) := by omega
              have b3 : (k : Int).toNat = k := by omega
              have b5 : (k : Int) <= 16 := by omega
              go_wp2_with (first | refine Tryz.load_w rfl 165 (.tmp 47) rfl gr (k * 64) rfl y.cells _ Hrg.out Tryz.underlying165 rfl Hsy.out ?_ | refine wpList_store_mid rfl 165 (.tmp 8) (.tmp 48) rfl wr.heap.size 0 y.cells.toArray rfl rfl Hth.out Hsy.out Hone.out ?_ | refine Tryz.load_w rfl 40 (.tmp 50) rfl wr.heap.size 0 rfl (jB y.key) _ (y.s0.range HbS.out) Tryz.underlying40 rfl (by rw [jD, y.hk]; exact Tryz.sizeDigest) ?_ | refine Tryz.load_w rfl 40 (.tmp 52) rfl wr.heap.size 32 rfl (jB y.tag) _ (y.s32.range HbS.out) Tryz.underlying40 rfl (by rw [jD, y.ht]; exact Tryz.sizeDigest) ?_ | refine Tryz.wl_dig2 rfl (.tmp 51) (.tmp 53) rfl y.key y.tag y.hk y.ht rfl rfl ?_ | fail)
              have Hz7 := jJ0 (show ((wr.alloc (.cells zero64.toArray 165)).setCells wr.heap.size 0 y.cells).heap.size = wr.heap.size + 1 by rw [size_setCells]; simp)
              unfold zero64 at Hz7
              generalize (wr.alloc _).setCells _ _ _ = W7 at *
              have hrd0 := Rd.row_new W7 40 32 2 (jB y.key ++ jB y.tag) (by rw [List.length_append, jD, jD, y.hk, y.ht])
              have hav0 := Av.new (n := 2) (HW7.out.old Hoz.out)
              rw [Hz7.out] at hrd0 hav0
              refine (vj _ g r7 cc _ 2 2 [y.key, y.tag] rfl (fun d hd => by
                rcases List.mem_cons.1 hd with rfl | hd
                · exact y.hk
                · rw [List.mem_singleton.1 hd]; exact y.ht) ((HW7.out.old Hoz.out).old ((Kp.refl _ _).alloc _)) (by have := Hlk.out; omega) (by omega) (by simpa using hrd0) hav0).mono ?_
              rintro e w8 ⟨rfl, hst⟩
              obtain ⟨r8, hW8, f8⟩ := hst.kf
              have Hst := jJ0 ((F7.out.trans ((KF.of (Hoz.out.alloc _)).trans f8)).step hW8)
              clear hst hW8 f8 hrd0 hav0 HbZ HbS Hth
              go_wp2
              go_roundw
              case rel => exact ⟨k + 1, by omega, by go_num, by rw [Hfk.out]; exact Hst.out⟩
              case measure => simp [intOf]; omega
            · obtain rfl : k = l'.length := by omega
              rw [List.take_of_length_le (Nat.le_refl _)] at hst
              obtain ⟨r7, hW7, f7⟩ := hst.kf
              have hl7 : (pp ++ l'.flatMap yK).length <= 2000 := by
                rw [List.length_append, signB_len, Hppl.out]
                omega
              have Hq := jJ0 (show pp ++ l'.flatMap yK = be 1 33 ++ (headB m.head ++ (be 1 l'.length ++ l'.flatMap yK)) by
                rw [<- Hpp.out]
                simp only [List.nil_append, List.append_assoc]
                rfl)
              generalize pp ++ l'.flatMap yK = q at *
              have HO := jJ0 (show Old w wr from Ho3.out.trans f7.kp (fun b hb hx => by
                rcases hx with hx | hx
                · have := HgO.out; omega
                · cases hx))
              clear hst f7
              go_wp2_with fail
              refine (kP _ g r7 q hW7 (by omega)).mono ?_
              rintro e w8 ⟨A8, c8, rfl, hown, ho8⟩
              have Hend := jJ0 (show EncP w NB 2000 (.returned (.tuple #[.slice A8 q.length c8, .int .i64 0])) w8 from
                .inl ⟨q, A8, c8, by rw [Hfin.out, Hq.out], hl7, rfl, Rd.of_own hown, fun hn ad e hx => own_av hown hn ad e (Nat.lt_of_lt_of_le hx HO.out.size), HO.out.old ho8⟩)
              clear hown ho8 hl7
              go_wp2
              go_ret2
              exact Hend.out
        · have hri' : riseK (l'.map (·.key)) = false := by simpa using hri
          have Hend := jJ0 (show NB = none by rw [HN.out, if_neg (fun h => by rw [<- Hsame.out, hri'] at h; exact absurd h.2.2.2 (by decide))])
          rw [hri']
          clear hri hri' heq hlen
          go_wp2
          go_ret2
          exact .inr ⟨92, Hend.out, by decide, rfl, Ho2.out⟩
      · have g16 : (16 : Int) < (m.signs.length : Int) := by omega
        have Hend := jJ0 (show NB = none by rw [HN.out, if_neg (by omega)])
        have Hh := jJ0 hh
        clear hh
        go_wp2
        go_ret2
        exact .inr ⟨7, Hend.out, by decide, rfl, Ho1.out⟩
  · have Hend := jJ0 (show NB = none by rw [HN.out, if_neg (fun h => hh h.1)])
    have hh' : headOk m.head = false := by simpa using hh
    rw [hh']
    clear hh hh'
    go_wp2
    go_ret2
    exact .inr ⟨1, Hend.out, by decide, rfl, Ho1.out⟩
structure Part where
  A : Option Addr
  l : List UInt8
  c : Nat
def Part.sl (p : Part) : Value := .slice p.A p.l.length p.c
def yD (ps : List Part) : List UInt8 := ps.flatMap Part.l
theorem parts_take_succ (l : List Part) (k : Nat) (h : k < l.length) : yD (l.take (k + 1)) = yD (l.take k) ++ l[k].l := by
  rw [yD, List.take_succ_eq_append_getElem h, List.flatMap_append, List.flatMap_singleton]
  rfl
theorem parts_take_le (l : List Part) (k : Nat) : (yD (l.take k)).length <= (yD l).length := by
  have : yD l = yD (l.take k) ++ yD (l.drop k) := by
    rw [yD, yD, yD, <- List.flatMap_append, List.take_append_drop]
  rw [this, List.length_append]
  omega
theorem Rd.part {w : World} {A : Option Addr} {n : Nat} {l : List Part} (h : Rd w 1 A n (l.map Part.sl)) {k : Nat} (hk : k < n) (hl : k < l.length) : ∃ b o, A = some ⟨b, o, none⟩ /\ w.cell? ⟨b, o + k, none⟩ = some (l[k].sl) := by
  obtain ⟨b, o, u, rfl, hx, hc⟩ := h.at_ hk
  refine ⟨b, o, rfl, ?_⟩
  rw [hc]
  rw [List.getElem?_map, List.getElem?_eq_getElem hl] at hx
  simpa using hx.symm
theorem wraw_any (w : World) (g : Nat) (r : Option Nat) (bs : List UInt8) (A : Option Addr) (n c : Nat) (ps : List Part) (hn : ps.length = n) (hW : Wr w g r bs) (hl : bs.length + (yD ps).length <= 1000000000000)
    (hrd : Rd w 1 A n (ps.map Part.sl)) (hav : Av (WX g r) n A) (hle : n <= 1000000)
    (hps : ∀ p ∈ ps, Rd w 1 p.A p.l.length (p.l.map bv) /\ Av (WX g r) p.l.length p.A) :
    Calls Tryz.prog 114 #[.pointer (some ⟨g, 0, none⟩), .slice A n c] w fun e w' => e = .returned (.tuple #[]) /\ WStep w g r w' (bs ++ yD ps) := by
  have Hl := jJ0 hl
  have Hps := jJ0 hps
  have Hn := jJ0 hn
  clear hl hps hn
  obtain ⟨i0, hi, hz0, hz1, hz2⟩ := info_parts Tryz.infoByte
  go_enter Tryz.func114, Tryz.ntmps114
  go_wp2
  go_loopw [8] (fun i wr => ∃ k : Nat, k <= n /\ i = .int .i64 k /\ WStep w g r wr (bs ++ yD (ps.take k))) (fun i _ => n - (intOf i).toNat)
  case atStart => exact ⟨0, by omega, rfl, by simpa [yD] using hW.step⟩
  case round =>
    obtain ⟨k, hk, rfl, hst⟩ := hrel
    by_cases hlt : k < n
    · obtain ⟨r', ⟨A1, c1, hb, ho, hr1⟩, hkp, hfr⟩ := hst
      have hkl : k < ps.length := by have := Hn.out; omega
      obtain ⟨b, o, rfl, hy⟩ := (hrd.kp hkp hav).part (k := k) hlt hkl
      have hp := Hps.out ps[k] (List.getElem_mem hkl)
      have hrp := hp.1.kp hkp hp.2
      have hcl : (bs ++ yD (ps.take k)).length + ps[k].l.length <= 1000000000000 := by
        have h1 := Hl.out
        have h2 := parts_take_le ps (k + 1)
        rw [parts_take_succ ps k hkl] at h2
        rw [List.length_append] at h2 ⊢
        omega
      have Hfin := jJ0 (show bs ++ yD (ps.take (k + 1)) = (bs ++ yD (ps.take k)) ++ ps[k].l by
        rw [parts_take_succ ps k hkl]; simp)
      generalize ps[k] = p at *
      obtain ⟨pA, l, pc⟩ := p
      simp only [Part.sl] at *
      generalize hcc : bs ++ yD (ps.take k) = cs at *
      have Hr1 := jJ0 hr1
      clear hr1 hp
      have hc := hb.cell 0
      have hz := hb.frozen 0
      have hltb := hb.lt
      simp only [List.getElem?_toArray, List.getElem?_cons_zero] at hc
      have H63 := jJ0 (show cs.length + l.length <= maxLen by unfold maxLen; omega)
      have H47 := jJ0 (show (cs.length + l.length) * 1 <= 140737488355328 by omega)
      have hne : some g ≠ (Value.slice A1 cs.length c1).ownBlock := by
        have := vF ho hb (by decide)
        exact fun h => this h.symm
      clear hcl
      have b5 : (k : Int) <= 1000000 := by omega
      go_wp2_with (at_builtin; refine jO _ rfl (.tmp 16) (.tmp 17) 22 rfl 0 5 i0 (.int .u8 0) 1 1 Tryz.underlying22 hi hz0 hz1 hz2 rfl (by decide) (.slice A1 cs.length c1) cs.length (cs.map bv) rfl ho pA l.length pc (l.map bv) rfl hrp (jr _) H63.out H47.out (Nat.zero_le _) ?_; intro A' c' w2 hown hgrow hat; have hc1 := hgrow.cell (a := ⟨g, 0, none⟩) hc hne; have hz1 : w2.frozen? ⟨g, 0, none⟩ = false := (World.frozen?_of_block (hgrow.block g hltb hne)).trans hz)
      have Hst := jJ0 (WStep.trans hkp (Hr1.out ▸ hfr) (Wr.put hb ho (Kp.refl _ _) (news := l) rfl rfl hown hgrow hat))
      clear hown hgrow hat hb ho
      go_wp2
      go_roundw
      case rel => exact ⟨k + 1, by omega, by go_num, by rw [Hfin.out]; exact Hst.out⟩
      case measure => simp [intOf]; omega
    · obtain rfl : k = n := by omega
      go_wp2
      go_end0
      refine ⟨rfl, ?_⟩
      rw [List.take_of_length_le (by rw [Hn.out]; omega)] at hst
      exact hst
end Go.Proofs.YtnaolhjbapgjgaaGreat

import Derived.Test.YtnaolhjbapgjgaaGreatMg04
import Derived.Test.YtnaolhjbapgjgaaGreatMg05
import Derived.Test.YtnaolhjbapgjgaaGreatMg07
import Derived.Test.YtnaolhjbapgjgaaGreatMg08
import Derived.Test.YtnaolhjbapgjgaaGreatMg10
import Derived.Shelf.Small.Bits
import Derived.DeepKeys
import Derived.Laws.StructEq
set_option maxRecDepth 100000
set_option maxHeartbeats 3200000
namespace Go.Proofs.YtnaolhjbapgjgaaGreat
open Go.RowKit
theorem kM (w : World) (g : Nat) (r : Option Nat) (bs : List UInt8) (A : Option Addr) (c : Nat) (l : List UInt8) (er : Int) (hW : Wr w g r bs) (hl : bs.length + l.length <= 1000000000000)
    (hrd : Rd w 1 A l.length (l.map bv)) (hav : Av (WX g r) l.length A) :
    Calls Tryz.prog 62 #[.pointer (some ⟨g, 0, none⟩), .slice A l.length c, .int .i64 er] w fun e w' => e = .returned (.bool (decide (er = 0))) /\ WStep w g r w' (bs ++ l) := by
  have Hl := jJ0 hl
  clear hl
  go_enter Tryz.func62, Tryz.ntmps62
  go_wp2_with fail
  have ho := (Kp.refl NoX w).alloc (.cells #[.slice A l.length c] 22)
  refine (wraw_any _ g r bs _ 1 _ [⟨A, l, c⟩] rfl (hW.old ho) (by simpa [yD] using Hl.out) (Rd.arr_new w _ [.slice A l.length c]) (Av.new hW) (by omega) (fun p hp => by
    rw [List.mem_singleton.1 hp]
    exact ⟨hrd.old ho, hav⟩)).mono ?_
  rintro e w1 ⟨rfl, hst⟩
  have Hst := jJ0 (WStep.after ho hst)
  clear hst
  go_wp2
  go_ret
  refine ⟨kR (kr ?_), by simpa [yD] using Hst.out⟩
  by_cases h : er = 0 <;> simp [h]
theorem answered_size (w : World) (g : Nat) (r : Option Nat) (bs : List UInt8) (cs : List Value) (n : Int) (hW : Wr w g r bs) (hl : bs.length <= 900000000) (hn : cs[46]? = some (.int .i64 n)) :
    Calls Tryz.prog 26 #[.pointer (some ⟨g, 0, none⟩), .int .i64 5, .agg cs.toArray] w fun e w' => e = .returned (.bool true) /\ WStep w g r w' (bs ++ nums [n]) := by
  have hb := Blk.new w 63 cs.toArray
  have h46 := hb.at_ 46 (v := .int .i64 n) (by rw [List.getElem?_toArray]; exact hn)
  have ho := (Kp.refl NoX w).alloc (.cells cs.toArray 63)
  have hW1 := hW.old ho
  have hrd := Rd.arr_new (w.alloc (.cells cs.toArray 63)) 3 [.int .i64 n]
  have hav := Av.new (n := 1) hW1
  rw [show (w.alloc (.cells cs.toArray 63)).heap.size = w.heap.size + 1 by simp] at hrd hav
  have ho2 := ho.alloc (.cells #[.int .i64 n] 3)
  have Hrd := jJ0 hrd
  have Hav := jJ0 hav
  have Ho2 := jJ0 ho2
  clear hrd hav ho2 hb hW1 ho hn
  go_enter Tryz.func26, Tryz.ntmps26
  go_wp2_with fail
  refine (kG _ g r bs _ 1 _ [n] rfl (hW.old Ho2.out) (by omega) Hrd.out Hav.out (by omega)).mono ?_
  rintro e w1 ⟨rfl, hst⟩
  have hst := WStep.after Ho2.out hst
  obtain ⟨r1, hW1, hk1, hf1⟩ := hst
  have Hk1 := jJ0 hk1
  clear hk1 Hrd Hav Ho2 h46
  go_wp2_with fail
  refine (kM _ g r1 _ none 0 [] 0 hW1 (by rw [List.length_append, nums_length]; simp; omega) Rd.none_ (fun h => absurd h (by simp))).mono ?_
  rintro e w2 ⟨rfl, hst⟩
  have Hst := jJ0 (WStep.trans Hk1.out hf1 hst)
  clear hst
  go_wp2
  go_ret
  exact ⟨kR (kr (by simp)), by simpa using Hst.out⟩
theorem Tryz.sizeReply : (Tryz.prog.info? 63).map (·.size) = some 256 := by kernel_rfl
theorem kx (w : World) (g : Nat) (r : Option Nat) (bs : List UInt8) (n : Int) (A : Option Addr) (k c : Nat) (ds : List (List UInt8)) (hk : ds.length = k) (hd : Dgs ds) (hW : Wr w g r bs) (hl : bs.length <= 800000000000) (hle : k <= 2147483647)
    (hrd : Rd w 32 A k (ds.flatMap jB)) (hav : Av (WX g r) k A) :
    Calls Tryz.prog 109 #[.pointer (some ⟨g, 0, none⟩), .int .i64 n, .slice A k c] w fun e w' => e = .returned (.tuple #[]) /\ WStep w g r w' (bs ++ (be8 n ++ ds.flatten)) := by
  have Hl := jJ0 hl
  have Hrd := jJ0 hrd
  have Hav := jJ0 hav
  have Hk := jJ0 hk
  have Hd := jJ0 hd
  have hrg := vN n
  clear hl hrd hav hk hd
  go_enter Tryz.func109, Tryz.ntmps109
  go_wp2_with fail
  refine (put64_any _ g r bs _ hrg.1 hrg.2 hW (by have := Hl.out; omega)).mono ?_
  rintro e w1 ⟨rfl, hst⟩
  obtain ⟨r1, hW1, f1⟩ := hst.kf
  rw [IntKind.wrap_u64] at hW1
  have HD := jJ0 (vj w1 g r1 _ A k c ds Hk.out Hd.out hW1 (by have := Hl.out; rw [List.length_append, jC]; omega) (by omega) (f1.rd Hrd.out Hav.out) (f1.av Hrd.out (by decide) Hav.out))
  have F1 := jJ0 f1
  clear hst hW1 f1 hrg
  go_wp2_with fail
  refine HD.out.mono ?_
  rintro e w2 ⟨rfl, hst⟩
  obtain ⟨r2, hW2, f2⟩ := hst.kf
  have Hst := jJ0 (show WStep w g r w2 (bs ++ (be8 n ++ ds.flatten)) from by
    rw [<- List.append_assoc]
    exact (F1.out.trans f2).step hW2)
  clear hst hW2 f2
  go_wp2
  go_end0
  exact ⟨rfl, Hst.out⟩
theorem pname_any (w : World) (g : Nat) (r : Option Nat) (bs : List UInt8) (s : ByteArray) (hW : Wr w g r bs) (hl : bs.length <= 800000000000) (hs : s.size <= 255) :
    Calls Tryz.prog 112 #[.pointer (some ⟨g, 0, none⟩), .string s] w fun e w' => e = .returned (.tuple #[]) /\ WStep w g r w' (bs ++ lp 1 (sb s)) := by
  have Hl := jJ0 hl
  have e8 : IntKind.u8.wrap (s.size : Int) = s.size := IntWalk.u8_in _ (by omega)
  clear hl
  go_enter Tryz.func112, Tryz.ntmps112
  go_wp2_with fail
  refine (jV _ g r bs (s.size : Int) (by omega) (by omega) hW (by have := Hl.out; omega)).mono ?_
  rintro e w1 ⟨rfl, hst⟩
  obtain ⟨r1, hW1, f1⟩ := hst.kf
  rw [Int.toNat_natCast] at hW1
  have F1 := jJ0 f1
  have HW1 := jJ0 hW1
  have Hlt := jJ0 hW1.lt
  clear hst hW1 f1
  go_wp2_with (first | (refine wpList_conv_sb _ Tryz.underlying9 Tryz.underlying22 Tryz.underlying5 s rfl ?_; intro A c w2 hr2 ho2 hav2) | fail)
  have ho := (Kp.refl NoX w2).alloc (.cells #[.slice A s.size c] 22)
  have hrd0 : Rd (w2.alloc (.cells #[.slice A s.size c] 22)) 1 (some ⟨w2.heap.size, 0, none⟩) 1 ([(⟨A, sb s, c⟩ : Part)].map Part.sl) := by
    have := Rd.arr_new w2 22 [.slice A s.size c]
    simpa [Part.sl, jF] using this
  refine (wraw_any _ g r1 _ _ 1 1 [⟨A, sb s, c⟩] rfl ((HW1.out.old ho2).old ho) (by have := Hl.out; simp [yD, jC, jF]; omega) hrd0 (Av.new (HW1.out.old ho2)) (by omega) (fun p hp => by
    rw [List.mem_singleton.1 hp]
    refine ⟨by rw [jF]; exact hr2.old ho, fun hn ad e hx => hav2 (by rw [jF] at hn; exact hn) ad e ?_⟩
    rcases hx with hx | hx
    · have := Hlt.out.1; omega
    · exact Hlt.out.2 _ hx.symm)).mono ?_
  rintro e w3 ⟨rfl, hst⟩
  obtain ⟨r3, hW3, f3⟩ := hst.kf
  have Hst := jJ0 (show WStep w g r w3 (bs ++ lp 1 (sb s)) from by
    have h1 := (F1.out.trans ((KF.of (ho2.old ho)).trans f3)).step hW3
    simpa [yD, lp, jF, List.append_assoc] using h1)
  clear hst hW3 f3 hrd0 ho hr2 ho2 hav2
  go_wp2
  go_end0
  exact ⟨rfl, Hst.out⟩
def betGo (from_ : Nat) : Nat -> Nat -> Nat -> Nat -> Nat × Nat
  | 0, _, low, n => (n, low)
  | f + 1, to_, low, n => if from_ = to_ then (n, low) else if from_ <= low + 2 ^ (Lib.bitLen (to_ - low - 1) - 1) then betGo from_ f (low + 2 ^ (Lib.bitLen (to_ - low - 1) - 1)) low (n + 1) else betGo from_ f to_ (low + 2 ^ (Lib.bitLen (to_ - low - 1) - 1)) (n + 1)
def betEnd (p : Nat × Nat) : Nat := if 0 < p.2 then p.1 + 1 else p.1
def betN (from_ to_ : Int) : Option Nat :=
  if 0 <= from_ /\ from_ <= to_ /\ to_ <= 1099511627776 then if from_ = 0 \/ from_ = to_ then some 0 else some (betEnd (betGo from_.toNat to_.toNat to_.toNat 0 0)) else none
theorem betGo_end (F f T L n : Nat) (h : F = T) : betGo F f T L n = (n, L) := by
  cases f with
  | zero => rfl
  | succ f => rw [betGo, if_pos h]
theorem bitLen_spec : ∀ (n X : Nat), X <= n -> 0 < X -> X < 18446744073709551616 -> 1 <= Lib.bitLen X /\ 2 ^ (Lib.bitLen X - 1) <= X /\ X < 2 ^ (Lib.bitLen X) := by
  intro n
  induction n with
  | zero => intro X h1 h2; omega
  | succ n ih =>
    intro X h1 h2 h3
    have e := Lib.bitLen_half X (by omega) (by omega)
    by_cases h : X = 1
    · subst h
      decide
    · obtain ⟨a, b, c⟩ := ih (X / 2) (by omega) (by omega) (by omega)
      rw [e]
      obtain ⟨k, hk⟩ : ∃ k, Lib.bitLen (X / 2) = k + 1 := ⟨Lib.bitLen (X / 2) - 1, by omega⟩
      rw [hk] at b c ⊢
      simp only [Nat.add_sub_cancel] at b
      rw [show 1 + (k + 1) - 1 = k + 1 by omega, show 1 + (k + 1) = k + 1 + 1 by omega]
      have p1 : (2 : Nat) ^ (k + 1) = 2 ^ k * 2 := Nat.pow_succ _ _
      have p2 : (2 : Nat) ^ (k + 1 + 1) = 2 ^ (k + 1) * 2 := Nat.pow_succ _ _
      omega
theorem pow_le40 (b : Nat) (h : 2 ^ b <= 1099511627776) : b <= 40 := by
  rcases Nat.lt_or_ge b 41 with h' | h'
  · omega
  · exfalso
    have h2 : (2 : Nat) ^ 41 <= 2 ^ b := Nat.pow_le_pow_right (by decide) h'
    have h3 : (2199023255552 : Nat) <= 2 ^ b := by simpa using h2
    omega
theorem bitsLen_any (w : World) (x : Int) (h0 : 0 <= x) (h1 : x <= 18446744073709551615) : Calls Tryz.prog 152 #[.int .u64 x] w fun e w' => e = .returned (.int .i64 (Lib.bitLen x.toNat)) /\ w' = w :=
  Any.bits_Len Tryz.bitsLen x w h0 h1
theorem between_any (w : World) (from_ to_ : Int) : Calls Tryz.prog 110 #[.int .i64 from_, .int .i64 to_] w (BesPost w (betN from_ to_)) := by
  by_cases hok : 0 <= from_ /\ from_ <= to_ /\ to_ <= 1099511627776
  · obtain ⟨h1, h2, h3⟩ := hok
    have g1 : ¬ from_ < 0 := by omega
    have g2 : ¬ to_ < from_ := by omega
    have g3 : ¬ (1099511627776 : Int) < to_ := by omega
    by_cases hz : from_ = 0 \/ from_ = to_
    · have Hb := jJ0 (show betN from_ to_ = some 0 by rw [betN, if_pos ⟨h1, h2, h3⟩, if_pos hz])
      rw [Hb.out]
      by_cases hz0 : from_ = 0
      · have z0 : (from_ == 0) = true := by simpa using hz0
        have Hz := jJ0 hz0
        clear hz0 hz
        go_enter Tryz.func110, Tryz.ntmps110
        go_wp2
        go_ret2
        exact ⟨rfl, rfl⟩
      · have z0 : (from_ == 0) = false := by simpa using hz0
        have z1 : (from_ == to_) = true := by simp; omega
        clear hz0 hz
        go_enter Tryz.func110, Tryz.ntmps110
        go_wp2
        go_ret2
        exact ⟨rfl, rfl⟩
    · have Hb := jJ0 (show betN from_ to_ = some (betEnd (betGo from_.toNat to_.toNat to_.toNat 0 0)) by rw [betN, if_pos ⟨h1, h2, h3⟩, if_neg hz])
      generalize betN from_ to_ = B at *
      have z0 : (from_ == 0) = false := by simp; omega
      have z1 : (from_ == to_) = false := by simp; omega
      obtain ⟨F, rfl⟩ := Int.eq_ofNat_of_zero_le h1
      obtain ⟨T, rfl⟩ := Int.eq_ofNat_of_zero_le (show 0 <= to_ by omega)
      rw [Int.toNat_natCast, Int.toNat_natCast] at Hb
      have hF : 0 < F := by omega
      have hT : F < T := by omega
      clear hz g1 g2
      go_enter Tryz.func110, Tryz.ntmps110
      go_wp2
      go_loop [1, 6, 7, 8] (fun t n l k => ∃ (Tk N L f : Nat), L < F /\ F <= Tk /\ Tk <= 1099511627776 /\ N + (Tk - L) <= 1099511627776 /\ Tk - L <= f /\ t = .int .i64 Tk /\ n = .int .i64 N /\ l = .int .i64 L /\ betGo F T T 0 0 = betGo F f Tk L N) (fun t _ l _ => (intOf t - intOf l).toNat)
      case atStart => exact ⟨T, 0, 0, T, by omega, by omega, by omega, by omega, by omega, rfl, rfl, rfl, rfl⟩
      case round =>
        obtain ⟨Tk, N, L, f, hL, hFT, hTk, hN, hf, rfl, rfl, rfl, hgo⟩ := hrel
        have Hgo := jJ0 hgo
        clear hgo
        by_cases hne : F = Tk
        · subst hne
          have e1 : ((F : Int) - (L : Int) != (F : Int) - (L : Int)) = false := by simp
          have Hend := jJ0 (show B = some (betEnd (N, L)) by rw [Hb.out, Hgo.out, betGo_end F f F L N rfl])
          by_cases hL0 : 0 < L
          · have p0 : (0 : Int) < (L : Int) := by omega
            go_wp2
            go_ret2
            rw [Hend.out, betEnd, if_pos hL0]
            exact ⟨by simp, rfl⟩
          · have p0 : ¬ (0 : Int) < (L : Int) := by omega
            go_wp2
            go_ret2
            rw [Hend.out, betEnd, if_neg hL0]
            exact ⟨rfl, rfl⟩
        · have e1 : ((F : Int) - (L : Int) != (Tk : Int) - (L : Int)) = true := by simp; omega
          obtain ⟨s1, s2, s3⟩ := bitLen_spec (Tk - L - 1) (Tk - L - 1) (Nat.le_refl _) (by omega) (by omega)
          have HB := jJ0 (bitsLen_any w ((Tk : Int) - (L : Int) - 1) (by omega) (by omega))
          rw [show ((Tk : Int) - (L : Int) - 1).toNat = Tk - L - 1 by omega] at HB
          obtain ⟨b, hb⟩ : ∃ b, Lib.bitLen (Tk - L - 1) = b + 1 := ⟨Lib.bitLen (Tk - L - 1) - 1, by omega⟩
          obtain ⟨f', rfl⟩ : ∃ f', f = f' + 1 := ⟨f - 1, by omega⟩
          have Hstep := jJ0 (show betGo F (f' + 1) Tk L N = if F <= L + 2 ^ b then betGo F f' (L + 2 ^ b) L (N + 1) else betGo F f' Tk (L + 2 ^ b) (N + 1) by
            rw [betGo, if_neg hne, hb, Nat.add_sub_cancel])
          rw [hb, Nat.add_sub_cancel] at s2
          rw [hb, Nat.pow_succ] at s3
          have hb40 : b <= 40 := pow_le40 b (Nat.le_trans s2 (by omega))
          have ew := wrap_pow b hb40
          rw [hb, show ((b + 1 : Nat) : Int) = (b : Int) + 1 by omega] at HB
          have S2 := jJ0 s2
          have S3 := jJ0 s3
          clear s1 s2 s3
          have Hp1 := jJ0 (Nat.two_pow_pos b)
          generalize 2 ^ b = P at *
          have hP := Hp1.out
          have hP2 : (P : Int) + (L : Int) + 1 <= (Tk : Int) := by have := S2.out; omega
          have HN := jJ0 hN
          have Hf := jJ0 hf
          have hN' : (N : Int) <= 1099511627776 := by omega
          clear hb hN hf
          by_cases hle : F <= L + P
          · have p1 : (F : Int) <= (L : Int) + (P : Int) := by omega
            go_wp2_with fail
            refine HB.out.mono ?_
            rintro e w' ⟨rfl, rfl⟩
            go_wp2
            go_round
            case rel =>
              have := HN.out
              have := Hf.out
              have := S2.out
              exact ⟨L + P, N + 1, L, f', by omega, by omega, by omega, by omega, by omega, by go_num, by go_num, rfl, by rw [Hgo.out, Hstep.out, if_pos hle]⟩
            case measure => simp [intOf]; omega
          · have p1 : ¬ (F : Int) <= (L : Int) + (P : Int) := by omega
            go_wp2_with fail
            refine HB.out.mono ?_
            rintro e w' ⟨rfl, rfl⟩
            go_wp2
            go_round
            case rel =>
              have := HN.out
              have := Hf.out
              have := S2.out
              exact ⟨Tk, N + 1, L + P, f', by omega, by omega, by omega, by omega, by omega, rfl, by go_num, by go_num, by rw [Hgo.out, Hstep.out, if_neg hle]⟩
            case measure => simp [intOf]; omega
  · have Hb := jJ0 (show betN from_ to_ = none by rw [betN, if_neg hok])
    rw [Hb.out]
    by_cases h1 : from_ < 0
    · go_enter Tryz.func110, Tryz.ntmps110
      go_wp2
      go_ret2
      exact ⟨rfl, rfl⟩
    · by_cases h2 : to_ < from_
      · go_enter Tryz.func110, Tryz.ntmps110
        go_wp2
        go_ret2
        exact ⟨rfl, rfl⟩
      · have h3 : (1099511627776 : Int) < to_ := by omega
        go_enter Tryz.func110, Tryz.ntmps110
        go_wp2
        go_ret2
        exact ⟨rfl, rfl⟩
def wayB (kind : Nat) (o : Option Nat) (a b : Int) (ds : List (List UInt8)) : Option (List UInt8) := if o = some ds.length then some (be 1 kind ++ (be8 a ++ (be8 b ++ ds.flatten))) else none
def incB (a b : Int) (ds : List (List UInt8)) : Option (List UInt8) := wayB 48 (besN a b) a b ds
def conB (a b : Int) (ds : List (List UInt8)) : Option (List UInt8) := wayB 49 (betN a b) a b ds
theorem encinc_any (w : World) (a b : Int) (A : Option Addr) (c : Nat) (ds : List (List UInt8)) (hd : Dgs ds) (hrd : Rd w 32 A ds.length (ds.flatMap jB)) (hbig : ds.length <= 2147483647) :
    Calls Tryz.prog 58 #[.agg #[.int .i64 a, .int .i64 b, .slice A ds.length c]] w (EncP w (incB a b ds) 70000000000) := by
  have Hb := jJ0 (Blk.new w 51 #[.int .i64 a, .int .i64 b, .slice A ds.length c])
  have Ho := jJ0 ((Kp.refl NoX w).alloc (.cells #[.int .i64 a, .int .i64 b, .slice A ds.length c] 51))
  have Hrd := jJ0 hrd
  have Hd := jJ0 hd
  have HI := jJ0 (show incB a b ds = if besN a b = some ds.length then some (be 1 48 ++ (be8 a ++ (be8 b ++ ds.flatten))) else none from rfl)
  generalize incB a b ds = IB at *
  clear hrd hd
  have HB := jJ0 (fun W => beside_any W a b)
  go_enter Tryz.func58, Tryz.ntmps58
  go_wp2_with fail
  generalize w.alloc _ = W at *
  refine (HB.out W).mono ?_
  rintro e w1 ⟨he, rfl⟩
  generalize besN a b = o at *
  have c2 := Hb.out.at_ 2 (v := .slice A ds.length c) rfl
  rcases o with _ | n
  · simp only at he
    subst he
    have Hend := jJ0 (show IB = none by rw [HI.out, if_neg (by simp)])
    go_wp2
    go_ret2
    exact .inr ⟨170, Hend.out, by decide, rfl, Ho.out⟩
  · simp only at he
    subst he
    by_cases hn : n = ds.length
    · subst hn
      have hb : ((ds.length : Int) != (ds.length : Int)) = false := by simp
      have Hfin := jJ0 (show IB = some (be 1 48 ++ (be8 a ++ (be8 b ++ ds.flatten))) by rw [HI.out, if_pos rfl])
      clear HI
      go_wp2_with fail
      refine (kq _).mono ?_
      rintro e w3 ⟨rfl, hW3, ho3⟩
      have Hb3 := jJ0 (Hb.out.old ho3)
      have Hr3 := jJ0 ((Hrd.out.old Ho.out).old ho3)
      have Hav := jJ0 (Av.own (Hrd.out.old Ho.out) (by decide) (Nat.le_refl W.heap.size))
      have hlt := Hb.out.lt
      have Hx := jJ0 (show ¬ WX W.heap.size none w.heap.size from by
        rintro (e | e)
        · omega
        · cases e)
      have Ho3 := jJ0 (Ho.out.old ho3)
      have HW3 := jJ0 hW3
      have HgO := jJ0 (show w.heap.size <= W.heap.size from Ho.out.size)
      clear hW3 ho3 c2 Hb
      generalize W.heap.size = g at *
      go_wp2_with fail
      refine (jV _ g none [] 48 (by decide) (by decide) HW3.out (by simp)).mono ?_
      rintro e w4 ⟨rfl, hst⟩
      obtain ⟨r4, hW4, f4⟩ := hst.kf
      have F4 := jJ0 f4
      have HW4 := jJ0 hW4
      have c0 := (f4.blk Hb3.out Hx.out).at_ 0 (v := .int .i64 a) rfl
      clear hst hW4 f4
      go_wp2_with fail
      refine (kx _ g r4 _ a none 0 0 [] rfl (fun d hd => by cases hd) HW4.out (by simp [jC]) (by omega) Rd.none_ (fun h => absurd h (by simp))).mono ?_
      rintro e w5 ⟨rfl, hst⟩
      obtain ⟨r5, hW5, f5⟩ := hst.kf
      have F5 := jJ0 (F4.out.trans f5)
      have hb5 := F5.out.blk Hb3.out Hx.out
      have c1 := hb5.at_ 1 (v := .int .i64 b) rfl
      have c2 := hb5.at_ 2 (v := .slice A ds.length c) rfl
      have HP := jJ0 (kx w5 g r5 _ b A ds.length c ds rfl Hd.out hW5 (by simp [jC, jG]) hbig (F5.out.rd Hr3.out Hav.out) (F5.out.av Hr3.out (by decide) Hav.out))
      clear hst hW5 f5 F4 HW4 c0 hb5
      go_wp2_with fail
      refine HP.out.mono ?_
      rintro e w6 ⟨rfl, hst⟩
      obtain ⟨r6, hW6, f6⟩ := hst.kf
      have hq : [] ++ be 1 ((48 : Int)).toNat ++ (be8 a ++ ([] : List (List UInt8)).flatten) ++ (be8 b ++ ds.flatten) = be 1 48 ++ (be8 a ++ (be8 b ++ ds.flatten)) := by
        simp
      rw [hq] at hW6
      have hl6 : (be 1 48 ++ (be8 a ++ (be8 b ++ ds.flatten))).length <= 70000000000 := by
        simp only [List.length_append, jC, jG, Hd.out.flat]
        omega
      generalize be 1 48 ++ (be8 a ++ (be8 b ++ ds.flatten)) = q at *
      have HO := jJ0 (show Old w w6 from Ho3.out.trans (F5.out.trans f6).kp (fun b hb hx => by
        rcases hx with hx | hx
        · have := HgO.out; omega
        · cases hx))
      clear hst f6 c1 c2 HP hq
      go_wp2_with fail
      refine (kP _ g r6 q hW6 (by omega)).mono ?_
      rintro e w8 ⟨A8, c8, rfl, hown, ho8⟩
      have Hend := jJ0 (show EncP w IB 70000000000 (.returned (.tuple #[.slice A8 q.length c8, .int .i64 0])) w8 from
        .inl ⟨q, A8, c8, Hfin.out, hl6, rfl, Rd.of_own hown, fun hn ad e hx => own_av hown hn ad e (Nat.lt_of_lt_of_le hx HO.out.size), HO.out.old ho8⟩)
      clear hown ho8 hl6
      go_wp2
      go_ret2
      exact Hend.out
    · have hb : ((n : Int) != (ds.length : Int)) = true := by simp; omega
      have Hend := jJ0 (show IB = none by rw [HI.out, if_neg (by simpa using hn)])
      go_wp2
      go_ret2
      exact .inr ⟨170, Hend.out, by decide, rfl, Ho.out⟩
theorem enccon_any (w : World) (a b : Int) (A : Option Addr) (c : Nat) (ds : List (List UInt8)) (hd : Dgs ds) (hrd : Rd w 32 A ds.length (ds.flatMap jB)) (hbig : ds.length <= 2147483647) :
    Calls Tryz.prog 59 #[.agg #[.int .i64 a, .int .i64 b, .slice A ds.length c]] w (EncP w (conB a b ds) 70000000000) := by
  have Hb := jJ0 (Blk.new w 53 #[.int .i64 a, .int .i64 b, .slice A ds.length c])
  have Ho := jJ0 ((Kp.refl NoX w).alloc (.cells #[.int .i64 a, .int .i64 b, .slice A ds.length c] 53))
  have Hrd := jJ0 hrd
  have Hd := jJ0 hd
  have HI := jJ0 (show conB a b ds = if betN a b = some ds.length then some (be 1 49 ++ (be8 a ++ (be8 b ++ ds.flatten))) else none from rfl)
  generalize conB a b ds = IB at *
  clear hrd hd
  have HB := jJ0 (fun W => between_any W a b)
  go_enter Tryz.func59, Tryz.ntmps59
  go_wp2_with fail
  generalize w.alloc _ = W at *
  refine (HB.out W).mono ?_
  rintro e w1 ⟨he, rfl⟩
  generalize betN a b = o at *
  have c2 := Hb.out.at_ 2 (v := .slice A ds.length c) rfl
  rcases o with _ | n
  · simp only at he
    subst he
    have Hend := jJ0 (show IB = none by rw [HI.out, if_neg (by simp)])
    go_wp2
    go_ret2
    exact .inr ⟨170, Hend.out, by decide, rfl, Ho.out⟩
  · simp only at he
    subst he
    by_cases hn : n = ds.length
    · subst hn
      have hb : ((ds.length : Int) != (ds.length : Int)) = false := by simp
      have Hfin := jJ0 (show IB = some (be 1 49 ++ (be8 a ++ (be8 b ++ ds.flatten))) by rw [HI.out, if_pos rfl])
      clear HI
      go_wp2_with fail
      refine (kq _).mono ?_
      rintro e w3 ⟨rfl, hW3, ho3⟩
      have Hb3 := jJ0 (Hb.out.old ho3)
      have Hr3 := jJ0 ((Hrd.out.old Ho.out).old ho3)
      have Hav := jJ0 (Av.own (Hrd.out.old Ho.out) (by decide) (Nat.le_refl W.heap.size))
      have hlt := Hb.out.lt
      have Hx := jJ0 (show ¬ WX W.heap.size none w.heap.size from by
        rintro (e | e)
        · omega
        · cases e)
      have Ho3 := jJ0 (Ho.out.old ho3)
      have HW3 := jJ0 hW3
      have HgO := jJ0 (show w.heap.size <= W.heap.size from Ho.out.size)
      clear hW3 ho3 c2 Hb
      generalize W.heap.size = g at *
      go_wp2_with fail
      refine (jV _ g none [] 49 (by decide) (by decide) HW3.out (by simp)).mono ?_
      rintro e w4 ⟨rfl, hst⟩
      obtain ⟨r4, hW4, f4⟩ := hst.kf
      have F4 := jJ0 f4
      have HW4 := jJ0 hW4
      have c0 := (f4.blk Hb3.out Hx.out).at_ 0 (v := .int .i64 a) rfl
      clear hst hW4 f4
      go_wp2_with fail
      refine (kx _ g r4 _ a none 0 0 [] rfl (fun d hd => by cases hd) HW4.out (by simp [jC]) (by omega) Rd.none_ (fun h => absurd h (by simp))).mono ?_
      rintro e w5 ⟨rfl, hst⟩
      obtain ⟨r5, hW5, f5⟩ := hst.kf
      have F5 := jJ0 (F4.out.trans f5)
      have hb5 := F5.out.blk Hb3.out Hx.out
      have c1 := hb5.at_ 1 (v := .int .i64 b) rfl
      have c2 := hb5.at_ 2 (v := .slice A ds.length c) rfl
      have HP := jJ0 (kx w5 g r5 _ b A ds.length c ds rfl Hd.out hW5 (by simp [jC, jG]) hbig (F5.out.rd Hr3.out Hav.out) (F5.out.av Hr3.out (by decide) Hav.out))
      clear hst hW5 f5 F4 HW4 c0 hb5
      go_wp2_with fail
      refine HP.out.mono ?_
      rintro e w6 ⟨rfl, hst⟩
      obtain ⟨r6, hW6, f6⟩ := hst.kf
      have hq : [] ++ be 1 ((49 : Int)).toNat ++ (be8 a ++ ([] : List (List UInt8)).flatten) ++ (be8 b ++ ds.flatten) = be 1 49 ++ (be8 a ++ (be8 b ++ ds.flatten)) := by
        simp
      rw [hq] at hW6
      have hl6 : (be 1 49 ++ (be8 a ++ (be8 b ++ ds.flatten))).length <= 70000000000 := by
        simp only [List.length_append, jC, jG, Hd.out.flat]
        omega
      generalize be 1 49 ++ (be8 a ++ (be8 b ++ ds.flatten)) = q at *
      have HO := jJ0 (show Old w w6 from Ho3.out.trans (F5.out.trans f6).kp (fun b hb hx => by
        rcases hx with hx | hx
        · have := HgO.out; omega
        · cases hx))
      clear hst f6 c1 c2 HP hq
      go_wp2_with fail
      refine (kP _ g r6 q hW6 (by omega)).mono ?_
      rintro e w8 ⟨A8, c8, rfl, hown, ho8⟩
      have Hend := jJ0 (show EncP w IB 70000000000 (.returned (.tuple #[.slice A8 q.length c8, .int .i64 0])) w8 from
        .inl ⟨q, A8, c8, Hfin.out, hl6, rfl, Rd.of_own hown, fun hn ad e hx => own_av hown hn ad e (Nat.lt_of_lt_of_le hx HO.out.size), HO.out.old ho8⟩)
      clear hown ho8 hl6
      go_wp2
      go_ret2
      exact Hend.out
    · have hb : ((n : Int) != (ds.length : Int)) = true := by simp; omega
      have Hend := jJ0 (show IB = none by rw [HI.out, if_neg (by simpa using hn)])
      go_wp2
      go_ret2
      exact .inr ⟨170, Hend.out, by decide, rfl, Ho.out⟩
theorem mapM_range {β : Type} (f : Nat -> Option β) (g : Nat -> β) : ∀ n, (∀ i, i < n -> f i = some (g i)) -> (List.range n).mapM f = some ((List.range n).map g)
  | 0, _ => rfl
  | n + 1, h => by
    rw [List.range_succ, List.mapM_append, mapM_range f g n (fun i hi => h i (by omega))]
    simp [h n (by omega)]
def vi (d : List UInt8) : List Lit := d.map fun b => Lit.int .u8 (b.toNat : Int)
theorem vh : ∀ {a b : List UInt8}, vi a = vi b -> a = b
  | [], [], _ => rfl
  | [], _ :: _, h => by simp [vi] at h
  | _ :: _, [], h => by simp [vi] at h
  | x :: a, y :: b, h => by
    simp only [vi, List.map_cons, List.cons.injEq, Lit.int.injEq, true_and] at h
    have e : x = y := by
      apply UInt8.toNat_inj.1
      have := h.1
      omega
    rw [e, vh (a := a) (b := b) h.2]
theorem lit_byte (b : UInt8) : (Lit.int .u8 (b.toNat : Int)).wf = true := by
  have := b.toNat_lt
  simp [Lit.wf, IntKind.min, IntKind.max, IntKind.signed, IntKind.bits]
  omega
theorem Tryz.cellsDigest : Tryz.prog.cellsOf 40 = 32 := by kernel_rfl
theorem Tryz.cellsByte : Tryz.prog.cellsOf 5 = 1 := by kernel_rfl
theorem flat_single {α β : Type} (g : α -> β) : ∀ l : List α, (l.map fun i => [g i]).flatten = l.map g
  | [] => rfl
  | a :: l => by simp [flat_single g l]
theorem by_index (d : List UInt8) (n : Nat) (hd : d.length = n) : (List.range n).map (fun i => d.getD i 0) = d := by
  apply List.ext_getElem
  · simp [hd]
  · intro i h1 h2
    simp [List.getD, h2]
theorem ve (D : Nat) (d : List UInt8) (hd : d.length = 32) : Tryz.prog.keyLits (D + 2) 40 (jB d) = some (vi d) := by
  unfold Program.keyLits
  rw [Tryz.underlying40]
  simp only [jD, hd, Tryz.cellsDigest, Tryz.cellsByte, Nat.mul_one, if_true]
  rw [mapM_range _ (fun i => [Lit.int .u8 ((d.getD i 0).toNat : Int)]) 32 (fun i hi => by
    have h1 : (List.drop i (jB d)).take 1 = [bv (d.getD i 0)] := by
      have hi' : i < (jB d).length := by rw [jD, hd]; exact hi
      rw [List.drop_eq_getElem_cons hi']
      simp [jB, List.getD, show i < d.length by omega]
    rw [h1]
    unfold Program.keyLits
    rw [Tryz.underlying5]
    simp [bv, lit_byte])]
  simp only [Option.map_some, Option.some.injEq]
  rw [flat_single]
  have e := by_index d 32 hd
  unfold vi
  conv => rhs; rw [<- e]
  rw [List.map_map]
  rfl
theorem keyLits_int (D : Nat) (n : Int) (hw : (Lit.int .i64 n).wf = true) : Tryz.prog.keyLits (D + 1) 3 [.int .i64 n] = some [.int .i64 n] := by
  unfold Program.keyLits
  rw [Tryz.underlying3]
  simp [hw]
theorem lit_int (n : Int) (h : -9223372036854775808 <= n /\ n <= 9223372036854775807) : (Lit.int .i64 n).wf = true := by
  simp [Lit.wf, IntKind.min, IntKind.max, IntKind.signed, IntKind.bits]
  omega
theorem Tryz.cellsI : Tryz.prog.cellsOf 3 = 1 := by kernel_rfl
theorem Tryz.cellsEntry : Tryz.prog.cellsOf 55 = 33 := by kernel_rfl
theorem Tryz.cellsHead : Tryz.prog.cellsOf 45 = 98 := by kernel_rfl
theorem drop_pre (a b : List Value) (n : Nat) (h : a.length = n) : (a ++ b).drop n = b := by rw [<- h]; simp
theorem take_pre (a b : List Value) (n : Nat) (h : a.length = n) : (a ++ b).take n = a := by rw [<- h]; simp
theorem keyLits_entry (n : Int) (hn : -9223372036854775808 <= n /\ n <= 9223372036854775807) (d : List UInt8) (hd : d.length = 32) : Tryz.prog.keyLits 3 55 (.int .i64 n :: jB d) = some (.int .i64 n :: vi d) := by
  unfold Program.keyLits
  rw [Tryz.underlying55]
  have h1 := keyLits_int 1 n (lit_int n hn)
  have h2 := ve 0 d hd
  have e : (jB d).take 32 = jB d := List.take_of_length_le (by rw [jD, hd]; omega)
  simp [jD, hd, Tryz.cellsEntry, Tryz.cellsI, Tryz.cellsDigest, h1, h2, e]
theorem eq_run (t : TypeId) (m : Nat) (hm : m <= 10000) (hk : Tryz.prog.keyTypeAt m t = true) (xs ys : List Value) (D D' : Nat) (lx ly : List Lit) (hx : Tryz.prog.keyLits D t xs = some lx) (hy : Tryz.prog.keyLits D' t ys = some ly)
    (fx : (Value.agg xs.toArray).formed Tryz.prog t = true) (fy : (Value.agg ys.toArray).formed Tryz.prog t = true) (w : World) : ∃ r : Bool, (Op.equalIn 10000 t (.agg xs.toArray) (.agg ys.toArray)).run Tryz.prog w = .ok r w /\ (r = true ↔ lx = ly) := by
  have h := run_equalIn_deep (10000 - m) m t hk w D D' (.agg xs.toArray) (.agg ys.toArray) lx ly fx fy hx hy
  rwa [show 10000 - m + m = 10000 by omega] at h
theorem formed_of {t : TypeId} {xs : List Value} {n : Nat} {d : TypeDesc} (hu : Tryz.prog.underlying t = some d) (hd : d.isRow = true) (hn : Tryz.prog.cellsOf t = n) (hl : xs.length = n) : (Value.agg xs.toArray).formed Tryz.prog t = true := by
  unfold Value.formed
  rw [hu]
  cases d <;> simp_all [TypeDesc.isRow]
theorem eq_dig (w : World) (a b : List UInt8) (ha : a.length = 32) (hb : b.length = 32) : (Op.equalIn 10000 40 (.agg (jB a).toArray) (.agg (jB b).toArray)).run Tryz.prog w = .ok (decide (a = b)) w := by
  obtain ⟨r, h1, h2⟩ := eq_run 40 2 (by decide) (by kernel_rfl) (jB a) (jB b) 2 2 _ _ (ve 0 a ha) (ve 0 b hb) (formed_of Tryz.underlying40 rfl Tryz.cellsDigest (by rw [jD, ha])) (formed_of Tryz.underlying40 rfl Tryz.cellsDigest (by rw [jD, hb])) w
  have e : r = decide (a = b) := by
    rw [Bool.eq_iff_iff, h2, decide_eq_true_eq]
    exact ⟨vh, fun h => by rw [h]⟩
  rw [h1, e]
theorem eq_entry (w : World) (n m : Int) (hn : -9223372036854775808 <= n /\ n <= 9223372036854775807) (hm : -9223372036854775808 <= m /\ m <= 9223372036854775807) (a b : List UInt8) (ha : a.length = 32) (hb : b.length = 32) :
    (Op.equalIn 10000 55 (.agg (.int .i64 n :: jB a).toArray) (.agg (.int .i64 m :: jB b).toArray)).run Tryz.prog w = .ok (decide (n = m /\ a = b)) w := by
  obtain ⟨r, h1, h2⟩ := eq_run 55 3 (by decide) (by kernel_rfl) (.int .i64 n :: jB a) (.int .i64 m :: jB b) 3 3 _ _ (keyLits_entry n hn a ha) (keyLits_entry m hm b hb) (formed_of Tryz.underlying55 rfl Tryz.cellsEntry (by rw [List.length_cons, jD, ha])) (formed_of Tryz.underlying55 rfl Tryz.cellsEntry (by rw [List.length_cons, jD, hb])) w
  have e : r = decide (n = m /\ a = b) := by
    rw [Bool.eq_iff_iff, h2, decide_eq_true_eq]
    constructor
    · intro h
      simp only [List.cons.injEq, Lit.int.injEq, true_and] at h
      exact ⟨h.1, vh h.2⟩
    · rintro ⟨rfl, rfl⟩
      rfl
  rw [h1, e]
theorem keyLits_head (h : Hd) (hk : h.Ok) (hs : -9223372036854775808 <= h.size /\ h.size <= 9223372036854775807) (hc : -9223372036854775808 <= h.clock /\ h.clock <= 9223372036854775807) :
    Tryz.prog.keyLits 3 45 h.cells = some (vi h.log ++ (.int .i64 h.size :: (vi h.root ++ (vi h.index ++ [.int .i64 h.clock])))) := by
  unfold Program.keyLits
  rw [Tryz.underlying45]
  have h1 := keyLits_int 1 h.size (lit_int _ hs)
  have h2 := keyLits_int 1 h.clock (lit_int _ hc)
  have d1 := ve 0 h.log hk.log
  have d2 := ve 0 h.root hk.root
  have d3 := ve 0 h.index hk.index
  have e0 : h.cells.length = Tryz.prog.cellsOf 45 := by rw [hk.len, Tryz.cellsHead]
  have e1 : (h.cells.drop 0).take 32 = jB h.log := by rw [List.drop_zero, Hd.cells, take_pre _ _ 32 (by rw [jD, hk.log])]
  have e2 : (h.cells.drop 32).take 1 = [.int .i64 h.size] := by rw [Hd.cells, drop_pre _ _ 32 (by rw [jD, hk.log])]; rfl
  have e3 : (h.cells.drop 33).take 32 = jB h.root := by
    have : h.cells = (jB h.log ++ [.int .i64 h.size]) ++ (jB h.root ++ (jB h.index ++ [.int .i64 h.clock])) := by simp [Hd.cells]
    rw [this, drop_pre _ _ 33 (by simp [jD, hk.log]), take_pre _ _ 32 (by rw [jD, hk.root])]
  have e4 : (h.cells.drop 65).take 32 = jB h.index := by
    have : h.cells = (jB h.log ++ ([.int .i64 h.size] ++ jB h.root)) ++ (jB h.index ++ [.int .i64 h.clock]) := by simp [Hd.cells]
    rw [this, drop_pre _ _ 65 (by simp [jD, hk.log, hk.root]), take_pre _ _ 32 (by rw [jD, hk.index])]
  have e5 : (h.cells.drop 97).take 1 = [.int .i64 h.clock] := by
    have : h.cells = (jB h.log ++ ([.int .i64 h.size] ++ (jB h.root ++ jB h.index))) ++ [.int .i64 h.clock] := by simp [Hd.cells]
    rw [this, drop_pre _ _ 97 (by simp [jD, hk.log, hk.root, hk.index])]
    rfl
  rw [List.drop_zero] at e1
  generalize h.cells = cs at *
  simp [e0, Tryz.cellsI, Tryz.cellsDigest, e1, e2, e3, e4, e5, h1, h2, d1, d2, d3]
theorem Tryz.wl_neq {ops : Array Oper} {rest : List Oper} {op : Oper} {a : Act} {w : World} {Q : Exit -> Act -> World -> Prop} (hw : Region.wanted op (yielded ops a.tmps) = true) (t t' : TypeId) (x y : Operand) (ho : op.op = .binOp .neq t x y t')
    (xs ys : Array Value) (hx : a.eval x = .agg xs) (hy : a.eval y = .agg ys) (hg : Tryz.prog.eqGuardType Tryz.prog.depth t = false) (r : Bool) (hr : (Op.equalIn 10000 t (.agg xs) (.agg ys)).run Tryz.prog w = .ok r w)
    (h : wpList Tryz.prog ops Q rest (a.put op.dst (.bool (!r))) w) : wpList Tryz.prog ops Q (op :: rest) a w :=
  wpList_step fun K hK => by
    simp only [hw, if_true]
    unfold Oper.wp execOp
    simp only [ho, hx, hy, Sem.run_bind, run_eqGuard_agg w .neq t x y xs ys hg, run_neq_struct, hr, Result.andThen_ok]
    exact hK _ _ h
theorem Tryz.wl_zero {ops : Array Oper} {rest : List Oper} {op : Oper} {a : Act} {w : World} {Q : Exit -> Act -> World -> Prop} (hw : Region.wanted op (yielded ops a.tmps) = true) (t : TypeId) (ho : op.op = .build t #[])
    (v : Value) (hr : (Instr.build t #[]).run Tryz.prog w = .ok v w) (h : wpList Tryz.prog ops Q rest (a.put op.dst v) w) : wpList Tryz.prog ops Q (op :: rest) a w :=
  wpList_step fun K hK => by
    simp only [hw, if_true]
    unfold Oper.wp execOp
    simp only [ho, Sem.run_bind, List.map_toArray, List.map_nil, hr, Result.andThen_ok]
    exact hK _ _ h
theorem at_load {P : Program} {ops : Array Oper} {rest : List Oper} {d : Option Tmp} {ty : TypeId} {pos : String} {after : Array Edge} {gd : Option (Nat × Bool)} {a : Act} {w : World} {Q : Exit -> Act -> World -> Prop} (t : TypeId) (x : Operand)
    (h : wpList P ops Q (⟨d, .load t x, ty, pos, after, gd⟩ :: rest) a w) : wpList P ops Q (⟨d, .load t x, ty, pos, after, gd⟩ :: rest) a w := h
theorem jU {P : Program} {ops : Array Oper} {rest : List Oper} {d : Option Tmp} {ty : TypeId} {pos : String} {after : Array Edge} {gd : Option (Nat × Bool)} {a : Act} {w : World} {Q : Exit -> Act -> World -> Prop} (t : TypeId)
    (h : wpList P ops Q (⟨d, .build t #[], ty, pos, after, gd⟩ :: rest) a w) : wpList P ops Q (⟨d, .build t #[], ty, pos, after, gd⟩ :: rest) a w := h
theorem at_bin {P : Program} {ops : Array Oper} {rest : List Oper} {d : Option Tmp} {ty : TypeId} {pos : String} {after : Array Edge} {gd : Option (Nat × Bool)} {a : Act} {w : World} {Q : Exit -> Act -> World -> Prop} (o : BinOp) (t t' : TypeId) (x y : Operand)
    (h : wpList P ops Q (⟨d, .binOp o t x y t', ty, pos, after, gd⟩ :: rest) a w) : wpList P ops Q (⟨d, .binOp o t x y t', ty, pos, after, gd⟩ :: rest) a w := h
theorem run_index_dig (w : World) (d : List UInt8) (hd : d.length = 32) (k : Nat) (hk : k < 32) : (Instr.index 40 (.agg (jB d).toArray) (.int .i64 k)).run Tryz.prog w = .ok (bv (d.getD k 0)) w := by
  have h1 : (0 : Int) <= (k : Int) /\ (k : Int) < ((32 : Nat) : Int) := by omega
  have h2 : (isAgg 5).run Tryz.prog w = .ok false w := by kernel_rfl
  have h3 : (sizeOf 5).run Tryz.prog w = .ok 1 w := by kernel_rfl
  have hkd : k < (jB d).length := by rw [jD, hd]; exact hk
  have h4 : (jB d)[k]? = some (bv (d[k]?.getD 0)) := by
    rw [List.getElem?_eq_getElem hkd]
    simp [jB, show k < d.length by omega]
  simp [Instr.index, asIntOf, run_underlying Tryz.underlying40, part, h3]
  rw [if_pos hk, h4]
  rfl
theorem Tryz.wl_index {ops : Array Oper} {rest : List Oper} {o : Oper} {a : Act} {w : World} {Q : Exit -> Act -> World -> Prop} (hg : o.guard = none) (x y : Operand) (ho : o.op = .index 40 x y) (d : List UInt8) (hd : d.length = 32) (k : Nat) (hk : k < 32)
    (hx : a.eval x = .agg (jB d).toArray) (hy : a.eval y = .int .i64 k) (h : wpList Tryz.prog ops Q rest (a.put o.dst (bv (d.getD k 0))) w) : wpList Tryz.prog ops Q (o :: rest) a w := by
  refine wpList_plain hg fun K hK => ?_
  unfold Oper.wp execOp
  simp only [ho, hx, hy, Sem.run_bind, run_index_dig w d hd k hk, Result.andThen_ok]
  exact hK _ _ h
def onesN (d : List UInt8) : Nat := (d.map fun b => Lib.onesCount b.toNat).sum
theorem onesN_snoc (d : List UInt8) (k : Nat) (h : k < d.length) : onesN (d.take (k + 1)) = onesN (d.take k) + Lib.onesCount (d.getD k 0).toNat := by
  rw [List.take_succ_eq_append_getElem h, onesN, List.map_append, List.sum_append]
  simp [onesN, List.getD, h]
theorem ones_le (b : UInt8) : Lib.onesCount b.toNat <= 8 := Lib.onesCount_le8 ⟨b.toNat, b.toNat_lt⟩
theorem onesN_le (d : List UInt8) : onesN d <= d.length * 8 := by
  induction d with
  | nil => decide
  | cons a d ih =>
    have := ones_le a
    simp only [onesN, List.map_cons, List.sum_cons, List.length_cons] at *
    omega
theorem ones_any (w : World) (d : List UInt8) (hd : d.length = 32) : Calls Tryz.prog 145 #[.agg (jB d).toArray] w fun e w' => e = .returned (.int .i64 (onesN d)) /\ Old w w' := by
  have Hb := jJ0 (Blk.new w 40 (jB d).toArray)
  have Ho := jJ0 ((Kp.refl NoX w).alloc (.cells (jB d).toArray 40))
  have Hsz := jJ0 (show (Tryz.prog.info? 40).map (·.size) = some (jB d).length by rw [jD, hd]; exact Tryz.sizeDigest)
  have Hd := jJ0 hd
  clear hd
  go_enter Tryz.func145, Tryz.ntmps145
  go_wp2_with (first | refine Tryz.load_w rfl 40 (.tmp 1) rfl w.heap.size 0 rfl (jB d) _ Hb.out.range Tryz.underlying40 rfl Hsz.out ?_ | fail)
  generalize w.alloc _ = W at *
  go_loop [3, 7] (fun n i => ∃ k : Nat, k <= 32 /\ i = .int .i64 k /\ n = .int .i64 (onesN (d.take k))) (fun _ i => 32 - (intOf i).toNat)
  case atStart => exact ⟨0, by omega, rfl, rfl⟩
  case round =>
    obtain ⟨k, hk, rfl, rfl⟩ := hrel
    have hle := onesN_le (d.take k)
    rw [List.length_take, Hd.out] at hle
    by_cases hlt : k < 32
    · have Hs := jJ0 (onesN_snoc d k (by rw [Hd.out]; exact hlt))
      have h8 := ones_le (d.getD k 0)
      have hb := (d.getD k 0).toNat_lt
      have HO := jJ0 (fun W => show Calls Tryz.prog 174 #[.int .u8 ((d.getD k 0).toNat : Int)] W fun e w' => e = .returned (.int .i64 (Lib.onesCount (d.getD k 0).toNat)) /\ w' = W by
        have := Any.bits_OnesCount8 Tryz.bitsOnes ((d.getD k 0).toNat : Int) W (by omega) (by omega)
        rw [Int.toNat_natCast] at this
        exact this)
      generalize onesN (d.take k) = m at *
      have hm : (m : Int) <= 256 := by omega
      have b2 : (k : Int) < 32 := by omega
      clear hle
      go_wp2_with (first | refine Tryz.wl_index rfl (.tmp 6) (.tmp 7) rfl d Hd.out k hlt rfl rfl ?_ | fail)
      refine (HO.out W).mono ?_
      rintro e w' ⟨rfl, rfl⟩
      generalize Lib.onesCount (d.getD k 0).toNat = c at *
      go_wp2
      go_round
      case rel => exact ⟨k + 1, by omega, by go_num, by rw [Hs.out]; go_num⟩
      case measure => simp [intOf]; omega
    · obtain rfl : k = 32 := by omega
      have Hf := jJ0 (show d.take 32 = d from List.take_of_length_le (by rw [Hd.out]; omega))
      go_wp2
      go_ret
      exact ⟨by rw [Hf.out]; rfl, Ho.out⟩
end Go.Proofs.YtnaolhjbapgjgaaGreat

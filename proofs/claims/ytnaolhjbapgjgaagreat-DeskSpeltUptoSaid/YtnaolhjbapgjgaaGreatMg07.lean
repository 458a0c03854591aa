import Derived.Test.YtnaolhjbapgjgaaGreatMg06
import Derived.Laws.Bits64
import Derived.Lib.Bytealg
import Derived.Lib.BytesEntry
import Derived.Laws.Externs
import Derived.Sort.Grow
set_option maxRecDepth 100000
set_option maxHeartbeats 3200000
namespace Go.Proofs.YtnaolhjbapgjgaaGreat
open Go.RowKit
def legC (c : UInt8) : Bool := decide (97 <= c.toNat /\ c.toNat <= 122 \/ 48 <= c.toNat /\ c.toNat <= 57 \/ c.toNat = 45)
def legalB (s : ByteArray) : Bool := decide (0 < s.size /\ s.size <= 64) && (sb s).all legC
def vU (s : ByteArray) : Bool := decide (s.size <= 64) && (sb s).all legC
theorem sb_take_succ (s : ByteArray) (k : Nat) (h : k < s.size) : (sb s).take (k + 1) = (sb s).take k ++ [s[k]] := by
  have h' : k < (sb s).length := by rw [jF]; exact h
  rw [List.take_succ_eq_append_getElem h']
  rfl
theorem legal_any (w : World) (s : ByteArray) (hs : s.size <= 9223372036854775807) : Calls Tryz.prog 180 #[.string s, .int .i64 64] w fun e w' => e = .returned (.bool (legalB s)) /\ w = w' := by
  have HL := jJ0 (show legalB s = (decide (0 < s.size /\ s.size <= 64) && (sb s).all legC) from rfl)
  generalize legalB s = R at *
  by_cases h0 : s.size = 0
  · have Hno := jJ0 (show R = false by rw [HL.out, decide_eq_false (by omega)]; rfl)
    have b0 : ((s.size : Int) == 0) = true := by rw [h0]; rfl
    have Hz := jJ0 h0
    clear h0
    go_enter Tryz.func180, Tryz.ntmps180
    go_wp2
    go_ret
    exact ⟨by rw [Hno.out]; rfl, rfl⟩
  · have b0 : ((s.size : Int) == 0) = false := beq_eq_false_iff_ne.2 (by omega)
    by_cases h1 : s.size <= 64
    · have b1 : ¬ (64 : Int) < (s.size : Int) := by omega
      have Hc := jJ0 (show R = (sb s).all legC by rw [HL.out, decide_eq_true (by omega)]; rfl)
      clear hs
      go_enter Tryz.func180, Tryz.ntmps180
      go_wp2
      go_loop [18] (fun i => ∃ k : Nat, k <= s.size /\ i = .int .i64 k /\ ((sb s).take k).all legC = true) (fun i => s.size - (intOf i).toNat)
      case atStart => exact ⟨0, Nat.zero_le _, rfl, rfl⟩
      case round =>
        obtain ⟨k, hk, rfl, hgood⟩ := hrel
        by_cases hlt : k < s.size
        · have Hgood := jJ0 (show ((sb s).take (k + 1)).all legC = legC s[k] by rw [sb_take_succ s k hlt, List.all_append, hgood]; simp)
          have Hno := jJ0 (show legC s[k] = false -> R = false from fun h => by
            rw [Hc.out, <- Bool.not_eq_true, List.all_eq_true]
            intro h'
            have := h' s[k] (by
              have : s[k] = (sb s)[k]'(by rw [jF]; exact hlt) := rfl
              rw [this]
              exact List.getElem_mem _)
            rw [h] at this
            cases this)
          have Hy := jJ0 (show legC s[k] = decide (97 <= s[k].toNat /\ s[k].toNat <= 122 \/ 48 <= s[k].toNat /\ s[k].toNat <= 57 \/ s[k].toNat = 45) from rfl)
          have b2 : (0 : Int) <= (k : Int) := by omega
          have b3 : (k : Int) < (s.size : Int) := by omega
          have b4 : (k : Int).toNat = k := by omega
          have hlt8 : s[k].toNat < 256 := s[k].toNat_lt
          clear hgood
          have hcase : s[k].toNat < 45 \/ s[k].toNat = 45 \/ 45 < s[k].toNat /\ s[k].toNat < 48 \/ 48 <= s[k].toNat /\ s[k].toNat <= 57 \/ 57 < s[k].toNat /\ s[k].toNat < 97 \/ 97 <= s[k].toNat /\ s[k].toNat <= 122 \/ 122 < s[k].toNat := by omega
          rcases hcase with hc | hc | hc | hc | hc | hc | hc
          · have f1 : (s[k].toNat : Int) < 97 := by omega
            have f3 : (s[k].toNat : Int) < 48 := by omega
            have f5 : ((s[k].toNat : Int) != 45) = true := bne_iff_ne.2 (by omega)
            have Hn := jJ0 (Hno.out (by rw [Hy.out, decide_eq_false (by omega)]))
            clear hc Hy Hno Hgood hlt8
            go_wp2
            go_ret
            exact ⟨by rw [Hn.out]; rfl, rfl⟩
          · have f1 : (s[k].toNat : Int) < 97 := by omega
            have f3 : (s[k].toNat : Int) < 48 := by omega
            have f5 : ((s[k].toNat : Int) != 45) = false := by rw [show (s[k].toNat : Int) = 45 by omega]; rfl
            have Hg := jJ0 (show legC s[k] = true by rw [Hy.out, decide_eq_true (by omega)])
            clear hc Hy Hno hlt8
            go_wp2
            go_round
            case rel => exact ⟨k + 1, by omega, by go_num, by rw [Hgood.out, Hg.out]⟩
            case measure => simp [intOf]; omega
          · have f1 : (s[k].toNat : Int) < 97 := by omega
            have f3 : (s[k].toNat : Int) < 48 := by omega
            have f5 : ((s[k].toNat : Int) != 45) = true := bne_iff_ne.2 (by omega)
            have Hn := jJ0 (Hno.out (by rw [Hy.out, decide_eq_false (by omega)]))
            clear hc Hy Hno Hgood hlt8
            go_wp2
            go_ret
            exact ⟨by rw [Hn.out]; rfl, rfl⟩
          · have f1 : (s[k].toNat : Int) < 97 := by omega
            have f3 : ¬ (s[k].toNat : Int) < 48 := by omega
            have f4 : ¬ (57 : Int) < (s[k].toNat : Int) := by omega
            have Hg := jJ0 (show legC s[k] = true by rw [Hy.out, decide_eq_true (by omega)])
            clear hc Hy Hno hlt8
            go_wp2
            go_round
            case rel => exact ⟨k + 1, by omega, by go_num, by rw [Hgood.out, Hg.out]⟩
            case measure => simp [intOf]; omega
          · have f1 : (s[k].toNat : Int) < 97 := by omega
            have f3 : ¬ (s[k].toNat : Int) < 48 := by omega
            have f4 : (57 : Int) < (s[k].toNat : Int) := by omega
            have f5 : ((s[k].toNat : Int) != 45) = true := bne_iff_ne.2 (by omega)
            have Hn := jJ0 (Hno.out (by rw [Hy.out, decide_eq_false (by omega)]))
            clear hc Hy Hno Hgood hlt8
            go_wp2
            go_ret
            exact ⟨by rw [Hn.out]; rfl, rfl⟩
          · have f1 : ¬ (s[k].toNat : Int) < 97 := by omega
            have f2 : ¬ (122 : Int) < (s[k].toNat : Int) := by omega
            have Hg := jJ0 (show legC s[k] = true by rw [Hy.out, decide_eq_true (by omega)])
            clear hc Hy Hno hlt8
            go_wp2
            go_round
            case rel => exact ⟨k + 1, by omega, by go_num, by rw [Hgood.out, Hg.out]⟩
            case measure => simp [intOf]; omega
          · have f1 : ¬ (s[k].toNat : Int) < 97 := by omega
            have f2 : (122 : Int) < (s[k].toNat : Int) := by omega
            have f3 : ¬ (s[k].toNat : Int) < 48 := by omega
            have f4 : (57 : Int) < (s[k].toNat : Int) := by omega
            have f5 : ((s[k].toNat : Int) != 45) = true := bne_iff_ne.2 (by omega)
            have Hn := jJ0 (Hno.out (by rw [Hy.out, decide_eq_false (by omega)]))
            clear hc Hy Hno Hgood hlt8
            go_wp2
            go_ret
            exact ⟨by rw [Hn.out]; rfl, rfl⟩
        · obtain rfl : k = s.size := by omega
          have Hyes := jJ0 (show R = true by rw [Hc.out, <- hgood, List.take_of_length_le (by rw [jF]; omega)])
          clear hgood
          go_wp2
          go_ret
          exact ⟨by rw [Hyes.out]; rfl, rfl⟩
    · have b1 : (64 : Int) < (s.size : Int) := by omega
      have Hno := jJ0 (show R = false by rw [HL.out, decide_eq_false (by omega)]; rfl)
      go_enter Tryz.func180, Tryz.ntmps180
      go_wp2
      go_ret
      exact ⟨by rw [Hno.out]; rfl, rfl⟩
theorem loop_sb (s : ByteArray) : ∀ (n i : Nat) (r : List UInt8), s.size - i = n -> ByteArray.toList.loop s i r = r.reverse ++ s.data.toList.drop i := by
  intro n
  induction n with
  | zero =>
    intro i r h
    rw [ByteArray.toList.loop]
    have : ¬ i < s.size := by omega
    rw [if_neg this, List.drop_of_length_le (by rw [Array.length_toList]; show s.size <= i; omega)]
    simp
  | succ n ih =>
    intro i r h
    rw [ByteArray.toList.loop]
    have hi : i < s.size := by omega
    rw [if_pos hi, ih (i+1) _ (by omega)]
    have hl : i < s.data.toList.length := by rw [Array.length_toList]; exact hi
    rw [List.drop_eq_getElem_cons hl]
    simp [ByteArray.get!, hi]
theorem toList_sb (s : ByteArray) : s.toList = sb s := by
  rw [ByteArray.toList, loop_sb s _ 0 [] rfl]
  simp [sb]
theorem named_any (w : World) (s : ByteArray) (hs : s.size <= 9223372036854775807) : Calls Tryz.prog 153 #[.string s] w fun e w' => e = .returned (.bool (vU s)) /\ w = w' := by
  by_cases h0 : s.size = 0
  · have h1 : sb s = [] := List.eq_nil_of_length_eq_zero (by rw [jF]; exact h0)
    obtain rfl : s = ⟨#[]⟩ := by rw [<- mk_sb s, h1]
    go_enter Tryz.func153, Tryz.ntmps153
    go_wp2
    go_ret
    exact ⟨by rw [show vU ⟨#[]⟩ = true from by decide]; rfl, rfl⟩
  · have b0 : s.toList.isEmpty = false := by
      rw [toList_sb, List.isEmpty_eq_false_iff]
      intro h
      have := congrArg List.length h
      rw [jF] at this
      exact h0 this
    have b1 : ¬ s.toList = [] := by rw [<- List.isEmpty_iff, b0]; simp
    have HL := jJ0 (legal_any w s hs)
    have Hn := jJ0 (show vU s = legalB s by
      rw [vU, legalB]
      congr 1
      exact decide_eq_decide.2 (by omega))
    rw [Hn.out]
    generalize legalB s = R at *
    clear hs
    go_enter Tryz.func153, Tryz.ntmps153
    go_wp2_with fail
    refine HL.out.mono ?_
    rintro e w' ⟨rfl, rfl⟩
    go_wp2
    go_ret
    exact ⟨rfl, rfl⟩
def besGo (size number : Nat) : Nat -> Nat -> Nat -> Nat
  | 0, _, n => n
  | f + 1, lev, n => if 2 ^ lev < size then besGo size number f (lev + 1) (if (number / 2 ^ lev ^^^ 1) * 2 ^ lev < size then n + 1 else n) else n
def besN (size number : Int) : Option Nat := if 1 <= size /\ size <= 1099511627776 /\ 0 <= number /\ number < size then some (besGo size.toNat number.toNat 41 0 0) else none
theorem besGo_le (size number : Nat) : ∀ (f lev n : Nat), besGo size number f lev n <= n + f
  | 0, _, n => Nat.le_refl n
  | f + 1, lev, n => by
    rw [besGo]
    split
    · generalize hm : (if (number / 2 ^ lev ^^^ 1) * 2 ^ lev < size then n + 1 else n) = m
      have := besGo_le size number f (lev + 1) m
      have hm' : m <= n + 1 := by rw [<- hm]; split <;> omega
      omega
    · omega
theorem bits_xor_i64 (a b : Nat) (ha : a < 9223372036854775808) (hb : b < 9223372036854775808) : bits .xor .i64 (a : Int) (b : Int) = ((a ^^^ b : Nat) : Int) := by
  have hx : a ^^^ b < 2 ^ 63 := Nat.xor_lt_two_pow (by omega) (by omega)
  have h1 : (BitVec.ofInt 64 (a : Int)).toNat = a := by
    rw [BitVec.ofInt_natCast, BitVec.toNat_ofNat]; exact Nat.mod_eq_of_lt (by omega)
  have h2 : (BitVec.ofInt 64 (b : Int)).toNat = b := by
    rw [BitVec.ofInt_natCast, BitVec.toNat_ofNat]; exact Nat.mod_eq_of_lt (by omega)
  show IntKind.i64.wrap ((BitVec.ofInt 64 (a : Int) ^^^ BitVec.ofInt 64 (b : Int)).toNat : Int) = _
  rw [BitVec.toNat_xor, h1, h2]
  exact IntWalk.i64_in _ (by omega)
theorem pow_small (lev : Nat) (h : lev <= 40) : 2 ^ lev <= 1099511627776 := by
  have : (2 : Nat) ^ lev <= 2 ^ 40 := Nat.pow_le_pow_right (by decide) h
  simpa using this
theorem wrap_pow (lev : Nat) (h : lev <= 40) : wrap64 ((2 : Int) ^ lev) = ((2 ^ lev : Nat) : Int) := by
  have h1 := pow_small lev h
  have e : ((2 : Int) ^ lev) = ((2 ^ lev : Nat) : Int) := by simp
  rw [e]
  generalize 2 ^ lev = P at *
  exact IntWalk.wrap64_in _ (by omega)
theorem wrap_bes (N lev : Nat) (h : lev <= 40) (hN : N <= 1099511627776) : wrap64 (bits .xor .i64 ((N : Int) / 2 ^ lev) 1 * 2 ^ lev) = (((N / 2 ^ lev ^^^ 1) * 2 ^ lev : Nat) : Int) := by
  have e1 : ((N : Int) / 2 ^ lev) = ((N / 2 ^ lev : Nat) : Int) := by simp
  have e2 : bits .xor .i64 ((N / 2 ^ lev : Nat) : Int) 1 = ((N / 2 ^ lev ^^^ 1 : Nat) : Int) := bits_xor_i64 _ 1 (by have := Nat.div_le_self N (2 ^ lev); omega) (by decide)
  have e3 : ((2 : Int) ^ lev) = ((2 ^ lev : Nat) : Int) := by simp
  rw [e1, e2, e3, <- Int.natCast_mul]
  have h1 := pow_small lev h
  have h2 : N / 2 ^ lev ^^^ 1 <= N / 2 ^ lev + 1 := by
    have h1 : (N / 2 ^ lev ^^^ 1) / 2 = (N / 2 ^ lev) / 2 := by rw [Nat.xor_div_two]; simp
    omega
  have h3 : (N / 2 ^ lev ^^^ 1) * 2 ^ lev <= (N / 2 ^ lev + 1) * 2 ^ lev := Nat.mul_le_mul_right _ h2
  have h4 : N / 2 ^ lev * 2 ^ lev <= N := Nat.div_mul_le_self _ _
  have h5 : (N / 2 ^ lev + 1) * 2 ^ lev = N / 2 ^ lev * 2 ^ lev + 2 ^ lev := by rw [Nat.add_mul, Nat.one_mul]
  exact IntWalk.wrap64_in _ (by omega)
theorem besGo_end (size number : Nat) (f lev n : Nat) (h : ¬ 2 ^ lev < size) : besGo size number f lev n = n := by
  cases f with
  | zero => rfl
  | succ f => rw [besGo, if_neg h]
def BesPost (w : World) (o : Option Nat) (e : Ending) (w' : World) : Prop := (match o with | some n => e = .returned (.tuple #[.int .i64 (n : Int), .bool true]) | none => e = .returned (.tuple #[.int .i64 0, .bool false])) /\ w = w'
theorem beside_any (w : World) (size number : Int) : Calls Tryz.prog 108 #[.int .i64 size, .int .i64 number] w (BesPost w (besN size number)) := by
  by_cases hok : 1 <= size /\ size <= 1099511627776 /\ 0 <= number /\ number < size
  · have Hb := jJ0 (show besN size number = some (besGo size.toNat number.toNat 41 0 0) by rw [besN, if_pos hok])
    generalize besN size number = B at *
    obtain ⟨h1, h2, h3, h4⟩ := hok
    obtain ⟨S, rfl⟩ := Int.eq_ofNat_of_zero_le (show 0 <= size by omega)
    obtain ⟨N, rfl⟩ := Int.eq_ofNat_of_zero_le h3
    rw [Int.toNat_natCast, Int.toNat_natCast] at Hb
    have g1 : ¬ (S : Int) < 1 := by omega
    have g2 : ¬ (1099511627776 : Int) < (S : Int) := by omega
    have g3 : ¬ (N : Int) < 0 := by omega
    have g4 : ¬ (S : Int) <= (N : Int) := by omega
    go_enter Tryz.func108, Tryz.ntmps108
    go_wp2
    go_loop [6, 7] (fun n l => ∃ (lev m : Nat), lev <= 40 /\ m <= lev /\ l = .int .i64 lev /\ n = .int .i64 m /\ besGo S N 41 0 0 = besGo S N (41 - lev) lev m) (fun _ l => 41 - (intOf l).toNat)
    case atStart => exact ⟨0, 0, by omega, by omega, rfl, rfl, rfl⟩
    case round =>
      obtain ⟨lev, m, hl, hm, rfl, rfl, hgo⟩ := hrel
      have Hgo := jJ0 hgo
      clear hgo
      have c1 : (0 : Int) <= (lev : Int) := by omega
      have c2 : (lev : Int) <= 40 := by omega
      have e1 := wrap_pow lev hl
      have e2 := wrap_bes N lev hl (by omega)
      have Hp := jJ0 (pow_small lev hl)
      have Hend := jJ0 (fun h : ¬ 2 ^ lev < S => besGo_end S N (41 - lev) lev m h)
      have Hstep := jJ0 (fun (h : 2 ^ lev < S) => show besGo S N (41 - lev) lev m = besGo S N (41 - (lev + 1)) (lev + 1) (if (N / 2 ^ lev ^^^ 1) * 2 ^ lev < S then m + 1 else m) by
        rw [show 41 - lev = (41 - (lev + 1)) + 1 by omega, besGo, if_pos h])
      have H40 := jJ0 (fun (h : 2 ^ lev < S) => show lev < 40 by
        rcases Nat.lt_or_ge lev 40 with h' | h'
        · exact h'
        · exfalso
          have : lev = 40 := by omega
          subst this
          omega)
      generalize (N / 2 ^ lev ^^^ 1) * 2 ^ lev = X at *
      generalize 2 ^ lev = P at *
      by_cases hP : P < S
      · have p1 : (P : Int) < (S : Int) := by omega
        have h40 := H40.out hP
        have Hs := jJ0 (Hstep.out hP)
        by_cases hX : X < S
        · have p2 : (X : Int) < (S : Int) := by omega
          go_wp2
          go_round
          case rel => exact ⟨lev + 1, m + 1, by omega, by omega, by go_num, by go_num, by rw [Hgo.out, Hs.out, if_pos hX]⟩
          case measure => simp [intOf]; omega
        · have p2 : ¬ (X : Int) < (S : Int) := by omega
          go_wp2
          go_round
          case rel => exact ⟨lev + 1, m, by omega, by omega, by go_num, rfl, by rw [Hgo.out, Hs.out, if_neg hX]⟩
          case measure => simp [intOf]; omega
      · have p1 : ¬ (P : Int) < (S : Int) := by omega
        have Hfin := jJ0 (show B = some m by rw [Hb.out, Hgo.out, Hend.out hP])
        go_wp2
        go_ret2
        rw [Hfin.out]
        exact ⟨rfl, rfl⟩
  · have Hb := jJ0 (show besN size number = none by rw [besN, if_neg hok])
    rw [Hb.out]
    by_cases h1 : size < 1
    · go_enter Tryz.func108, Tryz.ntmps108
      go_wp2
      go_ret2
      exact ⟨rfl, rfl⟩
    · by_cases h2 : 1099511627776 < size
      · go_enter Tryz.func108, Tryz.ntmps108
        go_wp2
        go_ret2
        exact ⟨rfl, rfl⟩
      · by_cases h3 : number < 0
        · go_enter Tryz.func108, Tryz.ntmps108
          go_wp2
          go_ret2
          exact ⟨rfl, rfl⟩
        · have h4 : size <= number := by omega
          go_enter Tryz.func108, Tryz.ntmps108
          go_wp2
          go_ret2
          exact ⟨rfl, rfl⟩
structure Hd where
  log : List UInt8
  size : Int
  root : List UInt8
  index : List UInt8
  clock : Int
def Hd.cells (h : Hd) : List Value := jB h.log ++ ([.int .i64 h.size] ++ (jB h.root ++ (jB h.index ++ [.int .i64 h.clock])))
structure Hd.Ok (h : Hd) : Prop where
  log : h.log.length = 32
  root : h.root.length = 32
  index : h.index.length = 32
def headOk (h : Hd) : Bool := decide (0 <= h.size /\ h.size <= 1099511627776 /\ 0 <= h.clock /\ h.clock <= 4611686018427387904)
def headB (h : Hd) : List UInt8 := be 1 32 ++ (h.log ++ (be8 h.size ++ (h.root ++ (h.index ++ be8 h.clock))))
section
variable {h : Hd} (k : h.Ok)
include k
theorem Hd.Ok.len : h.cells.length = 98 := by
  simp [Hd.cells, jD, k.log, k.root, k.index]
omit k in
theorem Hd.s0 : Sub h.cells 0 (jB h.log) := Sub.mid_ [] _ _ 0 rfl
theorem Hd.Ok.s32 : h.cells[32]? = some (.int .i64 h.size) := by
  have := (Sub.mid_ (jB h.log) [.int .i64 h.size] (jB h.root ++ (jB h.index ++ [.int .i64 h.clock])) 32 (by rw [jD, k.log])) 0 _ rfl
  exact this
theorem Hd.Ok.s33 : Sub h.cells 33 (jB h.root) := by
  have := Sub.mid_ (jB h.log ++ [.int .i64 h.size]) (jB h.root) (jB h.index ++ [.int .i64 h.clock]) 33 (by simp [jD, k.log])
  simpa [Hd.cells] using this
theorem Hd.Ok.s65 : Sub h.cells 65 (jB h.index) := by
  have := Sub.mid_ (jB h.log ++ ([.int .i64 h.size] ++ jB h.root)) (jB h.index) [.int .i64 h.clock] 65 (by simp [jD, k.log, k.root])
  simpa [Hd.cells] using this
theorem Hd.Ok.s97 : h.cells[97]? = some (.int .i64 h.clock) := by
  have := (Sub.end_ (jB h.log ++ ([.int .i64 h.size] ++ (jB h.root ++ jB h.index))) [.int .i64 h.clock] 97 (by simp [jD, k.log, k.root, k.index])) 0 _ rfl
  simpa [Hd.cells] using this
theorem headB_len : (headB h).length = 113 := by simp [headB, jC, jG, k.log, k.root, k.index]
end
theorem hright_any (w : World) (h : Hd) (hk : h.Ok) : Calls Tryz.prog 105 #[.agg h.cells.toArray] w fun e w' => e = .returned (.bool (headOk h)) /\ Old w w' := by
  have hb := Blk.new w 45 h.cells.toArray
  have c32 := hb.at_ 32 (by rw [List.getElem?_toArray]; exact hk.s32)
  have c97 := hb.at_ 97 (by rw [List.getElem?_toArray]; exact hk.s97)
  have Ho := jJ0 ((Kp.refl NoX w).alloc (.cells h.cells.toArray 45))
  have HR := jJ0 (show headOk h = decide (0 <= h.size /\ h.size <= 1099511627776 /\ 0 <= h.clock /\ h.clock <= 4611686018427387904) from rfl)
  generalize headOk h = R at *
  generalize h.cells = cs at *
  generalize h.size = s at *
  generalize h.clock = t at *
  clear hb
  by_cases h1 : 0 <= s
  · by_cases h2 : s <= 1099511627776
    · by_cases h3 : 0 <= t
      · by_cases h4 : t <= 4611686018427387904
        · go_enter Tryz.func105, Tryz.ntmps105
          go_wp2
          go_ret
          exact ⟨by rw [HR.out, decide_eq_true (by omega)]; rfl, Ho.out⟩
        · go_enter Tryz.func105, Tryz.ntmps105
          go_wp2
          go_ret
          exact ⟨by rw [HR.out, decide_eq_false (by omega)]; rfl, Ho.out⟩
      · go_enter Tryz.func105, Tryz.ntmps105
        go_wp2
        go_ret
        exact ⟨by rw [HR.out, decide_eq_false (by omega)]; rfl, Ho.out⟩
    · go_enter Tryz.func105, Tryz.ntmps105
      go_wp2
      go_ret
      exact ⟨by rw [HR.out, decide_eq_false (by omega)]; rfl, Ho.out⟩
  · go_enter Tryz.func105, Tryz.ntmps105
    go_wp2
    go_ret
    exact ⟨by rw [HR.out, decide_eq_false (by omega)]; rfl, Ho.out⟩
theorem hlay_any (w : World) (g : Nat) (r : Option Nat) (bs : List UInt8) (h : Hd) (hk : h.Ok) (hW : Wr w g r bs) (hl : bs.length <= 600000000000) :
    Calls Tryz.prog 107 #[.pointer (some ⟨g, 0, none⟩), .agg h.cells.toArray] w fun e w' => e = .returned (.tuple #[]) /\ WStep w g r w' (bs ++ headB h) := by
  have Hl := jJ0 hl
  have Hb := jJ0 (Blk.new w 45 h.cells.toArray)
  have Ho := jJ0 ((Kp.refl NoX w).alloc (.cells h.cells.toArray 45))
  have Hx := jJ0 (kW hW (Nat.le_refl w.heap.size))
  have S0 := jJ0 h.s0
  have S33 := jJ0 hk.s33
  have S65 := jJ0 hk.s65
  have S32 := jJ0 hk.s32
  have S97 := jJ0 hk.s97
  have Hk := jJ0 hk
  have HW := jJ0 hW
  clear hl hk hW
  have HB := jJ0 (show headB h = be 1 32 ++ (h.log ++ (be8 h.size ++ (h.root ++ (h.index ++ be8 h.clock)))) from rfl)
  have Hsz1 := jJ0 (show (Tryz.prog.info? 40).map (·.size) = some (jB h.log).length by rw [jD, Hk.out.log]; exact Tryz.sizeDigest)
  have Hsz2 := jJ0 (show (Tryz.prog.info? 40).map (·.size) = some (jB h.root).length by rw [jD, Hk.out.root]; exact Tryz.sizeDigest)
  have Hsz3 := jJ0 (show (Tryz.prog.info? 40).map (·.size) = some (jB h.index).length by rw [jD, Hk.out.index]; exact Tryz.sizeDigest)
  generalize headB h = hB at *
  generalize h.cells = cs at *
  go_enter Tryz.func107, Tryz.ntmps107
  go_wp2_with fail
  refine (jV _ g r bs 32 (by decide) (by decide) (HW.out.old Ho.out) (by have := Hl.out; omega)).mono ?_
  rintro e w1 ⟨rfl, hst⟩
  obtain ⟨r1, hW1, f1⟩ := hst.kf
  generalize w.alloc _ = W at *
  have HW1 := jJ0 hW1
  have F1 := jJ0 f1
  have Hrg := jJ0 (S0.out.range (f1.blk Hb.out Hx.out))
  clear hst hW1 f1
  go_wp2_with (first | refine Tryz.load_w rfl 40 (.tmp 7) rfl w.heap.size 0 rfl (jB h.log) _ Hrg.out Tryz.underlying40 rfl Hsz1.out ?_ | refine Tryz.wl_dig1 rfl (.tmp 8) rfl h.log Hk.out.log rfl ?_ | fail)
  refine (vj _ g r1 _ _ 1 1 [h.log] rfl (fun d hd => by rw [List.mem_singleton.1 hd]; exact Hk.out.log) (HW1.out.old ((Kp.refl _ _).alloc _)) (by have := Hl.out; rw [List.length_append, jC]; omega) (by omega) (by
    have := Rd.row_new w1 40 32 1 (jB h.log) (by rw [jD, Hk.out.log])
    simpa using this) (Av.new HW1.out)).mono ?_
  rintro e w2 ⟨rfl, hst⟩
  obtain ⟨r2, hW2, f2⟩ := hst.kf
  rw [List.flatten_singleton] at hW2
  have HW2 := jJ0 hW2
  have F2 := jJ0 (F1.out.trans ((KF.of ((Kp.refl NoX w1).alloc _)).trans f2))
  have c32 := (F2.out.blk Hb.out Hx.out).at_ 32 (by rw [List.getElem?_toArray]; exact S32.out)
  clear hst hW2 f2 F1 HW1 Hrg
  have hrg := vN h.size
  have Hlen2 := jJ0 (show (bs ++ be 1 ((32 : Int)).toNat ++ h.log).length <= 610000000000 by
    have := Hl.out
    rw [List.length_append, List.length_append, jC, Hk.out.log]
    omega)
  go_wp2_with fail
  refine (put64_any _ g r2 _ _ hrg.1 hrg.2 HW2.out (by have := Hlen2.out; omega)).mono ?_
  rintro e w3 ⟨rfl, hst⟩
  obtain ⟨r3, hW3, f3⟩ := hst.kf
  rw [IntKind.wrap_u64] at hW3
  have HW3 := jJ0 hW3
  have F3 := jJ0 (F2.out.trans f3)
  have hb3 := F3.out.blk Hb.out Hx.out
  have Hrg1 := jJ0 (S33.out.range hb3)
  have Hrg2 := jJ0 (S65.out.range hb3)
  clear hst hW3 f3 F2 HW2 c32 hb3 hrg
  go_wp2_with (first | refine Tryz.load_w rfl 40 (.tmp 17) rfl w.heap.size 33 rfl (jB h.root) _ Hrg1.out Tryz.underlying40 rfl Hsz2.out ?_ | refine Tryz.load_w rfl 40 (.tmp 19) rfl w.heap.size 65 rfl (jB h.index) _ Hrg2.out Tryz.underlying40 rfl Hsz3.out ?_ | refine Tryz.wl_dig2 rfl (.tmp 18) (.tmp 20) rfl h.root h.index Hk.out.root Hk.out.index rfl rfl ?_ | fail)
  refine (vj _ g r3 _ _ 2 2 [h.root, h.index] rfl (fun d hd => by
    rcases List.mem_cons.1 hd with rfl | hd
    · exact Hk.out.root
    · rw [List.mem_singleton.1 hd]; exact Hk.out.index) (HW3.out.old ((Kp.refl _ _).alloc _)) (by have := Hlen2.out; rw [List.length_append, jC]; omega) (by omega) (by
    have := Rd.row_new w3 40 32 2 (jB h.root ++ jB h.index) (by rw [List.length_append, jD, jD, Hk.out.root, Hk.out.index])
    simpa using this) (Av.new HW3.out)).mono ?_
  rintro e w4 ⟨rfl, hst⟩
  obtain ⟨r4, hW4, f4⟩ := hst.kf
  have HW4 := jJ0 hW4
  have F4 := jJ0 (F3.out.trans ((KF.of ((Kp.refl NoX w3).alloc _)).trans f4))
  have c97 := (F4.out.blk Hb.out Hx.out).at_ 97 (by rw [List.getElem?_toArray]; exact S97.out)
  clear hst hW4 f4 F3 HW3 Hrg1 Hrg2
  have hrg := vN h.clock
  go_wp2_with fail
  refine (put64_any _ g r4 _ _ hrg.1 hrg.2 HW4.out (by have := Hlen2.out; simp only [List.length_append, jC, List.flatten_cons, List.flatten_nil, List.append_nil, Hk.out.root, Hk.out.index] at *; omega)).mono ?_
  rintro e w5 ⟨rfl, hst⟩
  obtain ⟨r5, hW5, f5⟩ := hst.kf
  rw [IntKind.wrap_u64] at hW5
  have Hend := jJ0 (show WStep w g r w5 (bs ++ hB) from by
    have h1 := WStep.after Ho.out ((F4.out.trans f5).step hW5)
    rw [HB.out]
    simpa [List.append_assoc, be8] using h1)
  clear hst hW5 f5 c97
  go_wp2
  go_end0
  exact ⟨rfl, Hend.out⟩
theorem run_bytesOf {P : Program} (w : World) (A : Option Addr) (n c : Nat) (l : List UInt8) (hr : Rd w 1 A n (l.map bv)) :
    (Extern.Bytes.bytesOf (.slice A n c)).run P w = .ok ⟨l.toArray⟩ w := by
  have hl : l.length = n := by simpa using hr.1
  cases A with
  | none =>
    have h0 : n = 0 := by
      rcases Nat.eq_zero_or_pos n with h | h
      · exact h
      · obtain ⟨b, o, h', _⟩ := hr.2 h
        cases h'
    have : l = [] := List.eq_nil_of_length_eq_zero (by omega)
    subst this
    rfl
  | some ad =>
    subst hl
    have := Lib.run_loadBytesX (P := P) w (l.map fun b => (b.toNat : Int)) ad ByteArray.empty (fun j x hx => by
      rw [List.getElem?_map] at hx
      obtain ⟨b, hb, rfl⟩ := Option.map_eq_some_iff.1 hx
      have hj := (List.getElem?_eq_some_iff.1 hb).1
      obtain ⟨b', o, h', hc⟩ := hr.2 (by omega)
      injection h' with h'
      subst h'
      rw [Addr.add_lit]
      exact hc j _ (by rw [List.getElem?_map, hb]; rfl))
    rw [List.length_map] at this
    have e : Lib.bytesOf (l.map fun b => (b.toNat : Int)) = l := by
      unfold Lib.bytesOf
      rw [List.map_map]
      conv => rhs; rw [<- List.map_id l]
      apply List.map_congr_left
      intro b _
      simp
    rw [e] at this
    simpa [Extern.Bytes.bytesOf] using this
theorem Tryz.extern_compare (args : Array Value) (w : World) : (callFunc 196 args).run Tryz.prog w = ((Extern.BytealgCompare.compare args).run Tryz.prog w).andThen fun v w' => .ok (.value v) w' :=
  run_callFunc_extern Tryz.func196 (by kernel_rfl) (by kernel_rfl) (by kernel_rfl) (by kernel_rfl) args w
theorem run_compare (w : World) (A B : Option Addr) (n c m d : Nat) (l k : List UInt8) (hr : Rd w 1 A n (l.map bv)) (hs : Rd w 1 B m (k.map bv)) :
    (callFunc 196 #[.slice A n c, .slice B m d]).run Tryz.prog w = .ok (.value (.int .i64 (Lib.compareBytes l k))) w := by
  rw [Tryz.extern_compare]
  change (Sem.run Tryz.prog (do pure (goInt (Extern.BytealgCompare.cmp (<- Extern.Bytes.bytesOf (.slice A n c)) (<- Extern.Bytes.bytesOf (.slice B m d))))) w).andThen _ = _
  simp only [Sem.run_bind, run_bytesOf w A n c l hr, run_bytesOf w B m d k hs, Sem.run_pure, Result.andThen_ok]
  rw [Lib.cmp_eq]
  rfl
theorem bcmp_any (w : World) (A B : Option Addr) (n c m d : Nat) (l k : List UInt8) (hr : Rd w 1 A n (l.map bv)) (hs : Rd w 1 B m (k.map bv)) :
    Calls Tryz.prog 177 #[.slice A n c, .slice B m d] w fun e w' => e = .returned (.int .i64 (Lib.compareBytes l k)) /\ w' = w := by
  have h := run_compare w A B n c m d l k hr hs
  clear hr hs
  generalize Lib.compareBytes l k = z at *
  go_enter Tryz.func177, Tryz.ntmps177
  go_wp2
  go_ret
  exact ⟨rfl, rfl⟩
structure Sgn where
  key : List UInt8
  tag : List UInt8
  hk : key.length = 32
  ht : tag.length = 32
def Sgn.cells (s : Sgn) : List Value := jB s.key ++ jB s.tag
theorem Sgn.len (s : Sgn) : s.cells.length = 64 := by simp [Sgn.cells, jD, s.hk, s.ht]
theorem Sgn.s0 (s : Sgn) : Sub s.cells 0 (jB s.key) := by
  have := Sub.mid_ [] (jB s.key) (jB s.tag) 0 rfl
  simpa [Sgn.cells] using this
theorem Sgn.s32 (s : Sgn) : Sub s.cells 32 (jB s.tag) := Sub.end_ _ _ 32 (by rw [jD, s.hk])
theorem Sgn.one (s : Sgn) : ∀ v ∈ s.cells, v.oneCell' = true := by
  intro v hv
  rcases List.mem_append.1 hv with h | h
  · exact jr _ v h
  · exact jr _ v h
theorem Rd.of_range {w : World} {b o : Nat} {d : List UInt8} (h : w.rangeAt b o (jB d)) : Rd w 1 (some ⟨b, o, none⟩) d.length (d.map bv) :=
  ⟨by rw [List.length_map, Nat.mul_one], fun _ => ⟨_, _, rfl, h⟩⟩
theorem bykey_any (a b : Sgn) (w : World) : Calls Tryz.prog 151 #[.agg a.cells.toArray, .agg b.cells.toArray] w fun e w' => e = .returned (.int .i64 (Lib.compareBytes a.key b.key)) /\ ∃ q os', w' = Sort.grow (w.drewN q) os' := by
  have hb1 := (Blk.new w 165 a.cells.toArray).alloc (.cells b.cells.toArray 165)
  have hb2 := Blk.new (w.alloc (.cells a.cells.toArray 165)) 165 b.cells.toArray
  rw [show (w.alloc (.cells a.cells.toArray 165)).heap.size = w.heap.size + 1 by simp] at hb2
  have HC := jJ0 (fun k => bcmp_any ((((w.alloc (.cells a.cells.toArray 165)).alloc (.cells b.cells.toArray 165))).drewN k) (some ⟨w.heap.size, 0, none⟩) (some ⟨w.heap.size + 1, 0, none⟩) 32 32 32 32 a.key b.key (by
    have := Rd.of_range (a.s0.range hb1)
    rw [a.hk] at this
    exact this) (by
    have := Rd.of_range (b.s0.range hb2)
    rw [b.hk] at this
    exact this))
  have Hw := jJ0 (show ∃ os, (w.alloc (.cells a.cells.toArray 165)).alloc (.cells b.cells.toArray 165) = Sort.grow w os from ⟨_, by rw [Sort.alloc_eq_grow, Sort.alloc_eq_grow, Sort.grow_grow]⟩)
  clear hb1 hb2
  generalize Lib.compareBytes a.key b.key = z at *
  generalize a.cells = ca at *
  generalize b.cells = cb at *
  go_enter Tryz.func151, Tryz.ntmps151
  go_wp2
  generalize (w.alloc _).alloc _ = W at *
  go_quiet ((go_at_call 177; exact Calls.quiet_of_same (HC.out _)))
  go_wp2
  go_ret
  obtain ⟨os, rfl⟩ := Hw.out
  exact ⟨rfl, nq, os, rfl⟩
def riseK (ks : List (List UInt8)) : Bool := (List.range (ks.length - 1)).all fun j => decide (Lib.compareBytes (ks.getD j []) (ks.getD (j + 1) []) < 0)
theorem Tryz.sizeSign : (Tryz.prog.info? 165).map (·.size) = some 64 := by kernel_rfl
theorem old_grow (w : World) (q : Nat) (os : Array Obj) : Old w (Sort.grow (w.drewN q) os) :=
  ⟨rfl, rfl, rfl, by simp [Sort.grow], fun k hk _ => by
    show (w.heap ++ os)[k]? = w.heap[k]?
    rw [Array.getElem?_append_left hk]⟩
theorem getD_key (l : List Sgn) (j : Nat) (h : j < l.length) : (l.map (·.key)).getD j [] = l[j].key := by simp [List.getD, h]
theorem rise_any (w : World) (A : Option Addr) (c : Nat) (l : List Sgn) (hrd : Rd w 64 A l.length (l.flatMap Sgn.cells)) (hn : l.length <= 1000000000) :
    Calls Tryz.prog 141 #[.slice A l.length c] w fun e w' => e = .returned (.bool (riseK (l.map (·.key)))) /\ Old w w' := by
  have Hrd := jJ0 hrd
  have HR := jJ0 (show riseK (l.map (·.key)) = (List.range (l.length - 1)).all fun j => decide (Lib.compareBytes ((l.map (·.key)).getD j []) ((l.map (·.key)).getD (j + 1) []) < 0) by simp [riseK])
  clear hrd
  generalize riseK (l.map (·.key)) = R at *
  go_enter Tryz.func141, Tryz.ntmps141
  go_wp2
  go_loopw [3] (fun i wr => ∃ k : Nat, 1 <= k /\ (k <= l.length \/ k = 1) /\ i = .int .i64 k /\ (∀ j, j + 1 < k -> Lib.compareBytes ((l.map (·.key)).getD j []) ((l.map (·.key)).getD (j + 1) []) < 0) /\ Old w wr) (fun i _ => l.length - (intOf i).toNat)
  case atStart => exact ⟨1, by omega, by omega, rfl, fun j hj => by omega, Kp.refl _ _⟩
  case round =>
    obtain ⟨k, h1, h2, rfl, hup, hor⟩ := hrel
    have Hup := jJ0 hup
    have Hor := jJ0 hor
    clear hup hor
    by_cases hlt : k < l.length
    · have hk1 : k - 1 < l.length := by omega
      obtain ⟨b, o, hAe, hr0⟩ := (Hrd.out.old Hor.out).elem (f := Sgn.cells) (fun s _ => s.len) rfl hk1
      obtain ⟨b', o', hAe', hr1⟩ := (Hrd.out.old Hor.out).elem (f := Sgn.cells) (fun s _ => s.len) rfl hlt
      obtain rfl : A = some ⟨b, o, none⟩ := hAe
      injection hAe' with hAe'
      injection hAe' with e1 e2
      subst e1 e2
      have Hc := jJ0 (show Lib.compareBytes ((l.map (·.key)).getD (k - 1) []) ((l.map (·.key)).getD (k - 1 + 1) []) = Lib.compareBytes l[k - 1].key l[k].key by
        rw [getD_key l _ hk1, show k - 1 + 1 = k by omega, getD_key l _ hlt])
      have Hr0 := jJ0 (show wr.drew.rangeAt b (o + (k - 1) * 64) l[k - 1].cells from hr0)
      have Hr1 := jJ0 (show wr.drew.rangeAt b (o + k * 64) l[k].cells from hr1)
      have HC := jJ0 (fun W => bykey_any l[k - 1] l[k] W)
      have Hs0 := jJ0 (show (Tryz.prog.info? 165).map (·.size) = some l[k - 1].cells.length by rw [Sgn.len]; exact Tryz.sizeSign)
      have Hs1 := jJ0 (show (Tryz.prog.info? 165).map (·.size) = some l[k].cells.length by rw [Sgn.len]; exact Tryz.sizeSign)
      generalize Lib.compareBytes l[k - 1].key l[k].key = z at *
      generalize l[k - 1].cells = c0 at *
      generalize l[k].cells = c1 at *
      clear hr0 hr1
      have b1 : (0 : Int) <= (k : Int) := by omega
      have b2 : (k : Int) < (l.length : Int) := by omega
      have b3 : (k : Int).toNat = k := by omega
      have b5 : (k : Int) <= 1000000000 := by omega
      have b6 : IntKind.i64.wrap ((k : Int) - 1) = (k : Int) - 1 := IntWalk.i64_in _ (by omega)
      have b7 : (0 : Int) <= (k : Int) - 1 := by omega
      have b7' : (1 : Int) <= (k : Int) := by omega
      have b8 : (k : Int) - 1 < (l.length : Int) := by omega
      have b9 : ((k : Int) - 1).toNat = k - 1 := by omega
      by_cases hz : 0 <= z
      · have Hno := jJ0 (show R = false from by
          rw [HR.out, <- Bool.not_eq_true, List.all_eq_true]
          intro h
          have := h (k - 1) (List.mem_range.2 (by omega))
          rw [Hc.out] at this
          simp only [decide_eq_true_eq] at this
          omega)
        go_wp2_with fail
        refine wp_region_still_tail 9 Tryz.mixed (by kernel_rfl) ?_
        simp only [List.take_succ_cons, List.take_zero, List.drop_succ_cons, List.drop_zero]
        repeat (first
          | refine Tryz.still_load rfl 165 (.tmp 13) rfl b (o + (k - 1) * 64) rfl c0 _ Hr0.out Tryz.underlying165 rfl Hs0.out ?_
          | refine Tryz.still_load rfl 165 (.tmp 17) rfl b (o + k * 64) rfl c1 _ Hr1.out Tryz.underlying165 rfl Hs1.out ?_
          | still_step)
        refine wpStill_nil ?_
        go_wp2_with fail
        refine (HC.out _).mono ?_
        rintro e w5 ⟨rfl, q, os, rfl⟩
        have Ho5 := jJ0 (Hor.out.drew.old (old_grow wr.drew q os))
        generalize Sort.grow _ _ = w5 at *
        go_wp2
        go_ret
        exact ⟨by rw [Hno.out]; rfl, Ho5.out⟩
      · go_wp2_with fail
        refine wp_region_still_tail 9 Tryz.mixed (by kernel_rfl) ?_
        simp only [List.take_succ_cons, List.take_zero, List.drop_succ_cons, List.drop_zero]
        repeat (first
          | refine Tryz.still_load rfl 165 (.tmp 13) rfl b (o + (k - 1) * 64) rfl c0 _ Hr0.out Tryz.underlying165 rfl Hs0.out ?_
          | refine Tryz.still_load rfl 165 (.tmp 17) rfl b (o + k * 64) rfl c1 _ Hr1.out Tryz.underlying165 rfl Hs1.out ?_
          | still_step)
        refine wpStill_nil ?_
        go_wp2_with fail
        refine (HC.out _).mono ?_
        rintro e w5 ⟨rfl, q, os, rfl⟩
        have Ho5 := jJ0 (Hor.out.drew.old (old_grow wr.drew q os))
        generalize Sort.grow _ _ = w5 at *
        go_wp2
        go_roundw
        case rel =>
          refine ⟨k + 1, by omega, by omega, by go_num, fun j hj => ?_, Ho5.out⟩
          by_cases e : j + 1 < k
          · exact Hup.out j e
          · obtain rfl : j = k - 1 := by omega
            rw [Hc.out]
            omega
        case measure => simp [intOf]; omega
    · have Hyes := jJ0 (show R = true from by
        rw [HR.out, List.all_eq_true]
        intro j hj
        have := List.mem_range.1 hj
        exact decide_eq_true (Hup.out j (by omega)))
      go_wp2
      go_ret
      exact ⟨by rw [Hyes.out]; rfl, Hor.out⟩
end Go.Proofs.YtnaolhjbapgjgaaGreat

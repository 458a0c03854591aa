import Derived.Test.YtnaolhjbapgjgaaGreatMg26
import Derived.Test.YtnaolhjbapgjgaaGreatMg33
set_option maxRecDepth 100000
set_option maxHeartbeats 3200000
namespace Go.Proofs.YtnaolhjbapgjgaaGreat
open Go.RowKit
theorem p256_4 : (256 : Nat) ^ 4 = 4294967296 := by decide
theorem p256_8 : (256 : Nat) ^ 8 = 18446744073709551616 := by decide
theorem ofBe_be (k : Nat) : ∀ n : Nat, ofBe (be k n) = n % 256 ^ k := by
  induction k with
  | zero => intro n; simp [be, ofBe_nil, Nat.mod_one]
  | succ k ih =>
    intro n
    rw [be, ofBe_cons, ih, jC]
    have hp : 0 < 256 ^ k := Nat.pow_pos (by decide)
    have h1 : (UInt8.ofNat (n / 256 ^ k)).toNat = (n / 256 ^ k) % 256 := by simp
    rw [h1, Nat.pow_succ, Nat.mul_comm (256 ^ k) 256, Nat.mod_mul_left_div_self_aux n k]
where
  Nat.mod_mul_left_div_self_aux (n k : Nat) : n / 256 ^ k % 256 * 256 ^ k + n % 256 ^ k = n % (256 * 256 ^ k) := by
    rw [Nat.mul_comm 256, Nat.mod_mul]
    rw [Nat.mul_comm (256 ^ k) (n / 256 ^ k % 256), Nat.add_comm]
section
variable (pre post : List UInt8)
theorem at_drop (e : List UInt8) : (pre ++ (e ++ post)).drop pre.length = e ++ post := by simp
theorem at_take (e : List UInt8) (k : Nat) (h : e.length = k) : ((pre ++ (e ++ post)).drop pre.length).take k = e := by
  rw [at_drop, <- h]; simp
theorem tkN_fwd (k n : Nat) (hn : n < 256 ^ k) : tkN (pre ++ (be k n ++ post)) k ⟨pre.length, 0⟩ = (n, ⟨pre.length + k, 0⟩) := by
  have hl : pre.length + k <= (pre ++ (be k n ++ post)).length := by simp only [List.length_append, jC]; omega
  simp only [tkN]
  rw [if_neg (by simp), if_pos hl, at_take pre post (be k n) k (jC k n), ofBe_be, Nat.mod_eq_of_lt hn]
theorem rawN_fwd (l : List UInt8) : rawN (pre ++ (l ++ post)) (l.length : Int) ⟨pre.length, 0⟩ = (l, ⟨pre.length + l.length, 0⟩) := by
  have hl : (pre ++ (l ++ post)).length - pre.length = l.length + post.length := by simp only [List.length_append]; omega
  simp only [rawN]
  rw [if_neg (by simp), if_neg (by rw [hl]; omega), Int.toNat_natCast, at_take pre post l l.length rfl]
theorem digN_fwd (d : List UInt8) (hd : d.length = 32) : digN (pre ++ (d ++ post)) ⟨pre.length, 0⟩ = (d, ⟨pre.length + 32, 0⟩) := by
  have h := rawN_fwd pre post d
  rw [hd] at h
  have h' : rawN (pre ++ (d ++ post)) 32 ⟨pre.length, 0⟩ = (d, ⟨pre.length + 32, 0⟩) := h
  unfold digN
  rw [h', if_neg (by intro e; simp only at e; rw [e] at hd; simp at hd)]
theorem flagN_fwd (b : Bool) : kO (pre ++ ([if b = true then 1 else 0] ++ post)) ⟨pre.length, 0⟩ = (b, ⟨pre.length + 1, 0⟩) := by
  have hl : ¬ (pre ++ ([if b = true then 1 else 0] ++ post)).length < pre.length + 1 := by simp only [List.length_append, List.length_singleton]; omega
  have ht := at_take pre post [if b = true then 1 else 0] 1 rfl
  simp only [kO]
  rw [if_neg (by simp), ht]
  cases b
  · rw [if_neg (by intro h; rcases h with h | h; exact hl h; revert h; decide)]
    rfl
  · rw [if_neg (by intro h; rcases h with h | h; exact hl h; revert h; decide)]
    rfl
theorem bytesN_fwd (l : List UInt8) (most : Int) (hm : (l.length : Int) <= most) (hl : l.length <= 2147483647) : jf (pre ++ (lp 4 l ++ post)) most ⟨pre.length, 0⟩ = (l, ⟨pre.length + (4 + l.length), 0⟩) := by
  have e : pre ++ (lp 4 l ++ post) = pre ++ (be 4 l.length ++ (l ++ post)) := by simp [lp]
  have h4 : ofBe (((pre ++ (lp 4 l ++ post)).drop pre.length).take 4) = l.length := by
    rw [e, at_take pre (l ++ post) (be 4 l.length) 4 (jC _ _), ofBe_be, Nat.mod_eq_of_lt (by rw [p256_4]; omega)]
  have hlen : (pre ++ (lp 4 l ++ post)).length = pre.length + 4 + l.length + post.length := by simp only [List.length_append, jL]; omega
  have hd : ((pre ++ (lp 4 l ++ post)).drop (pre.length + 4)).take l.length = l := by
    have e2 : pre ++ (lp 4 l ++ post) = (pre ++ be 4 l.length) ++ (l ++ post) := by simp [lp]
    have := at_take (pre ++ be 4 l.length) post l l.length rfl
    rw [List.length_append, jC, <- e2] at this
    exact this
  simp only [jf]
  rw [if_neg (by simp), if_neg (by omega), h4, if_neg (by omega), if_neg (by omega), hd, Nat.add_assoc]
theorem wordN_fwd (s : ByteArray) (hs : s.size <= 4194304) : jI (pre ++ (lp 4 (sb s) ++ post)) ⟨pre.length, 0⟩ = (s, ⟨pre.length + (4 + s.size), 0⟩) := by
  have h := bytesN_fwd pre post (sb s) 4194304 (by rw [jF]; omega) (by rw [jF]; omega)
  unfold jI
  rw [h, jF]
  simp only [mk_sb]
def c64 (n : Int) : Int := i64 (n % 18446744073709551616).toNat
theorem numN_fwd (n : Int) : numN (pre ++ (be8 n ++ post)) ⟨pre.length, 0⟩ = (c64 n, ⟨pre.length + 8, 0⟩) := by
  have h := tkN_fwd pre post 8 (n % 18446744073709551616).toNat (by rw [p256_8]; omega)
  unfold numN
  rw [show be8 n = be 8 (n % 18446744073709551616).toNat from rfl, h]
  rfl
theorem digsL_fwd (ds : List (List UInt8)) (hd : Dgs ds) : yF (pre ++ (ds.flatten ++ post)) pre.length ds.length = ds := by
  induction ds generalizing pre with
  | nil => rfl
  | cons d ds ih =>
    have h32 := hd d List.mem_cons_self
    have hds : Dgs ds := fun x hx => hd x (List.mem_cons_of_mem _ hx)
    have e : pre ++ ((d :: ds).flatten ++ post) = (pre ++ d) ++ (ds.flatten ++ post) := by simp
    have ih' := ih (pre ++ d) hds
    rw [List.length_append, h32] at ih'
    rw [yF, List.length_cons, List.range_succ_eq_map, List.map_cons, List.map_map]
    congr 1
    · rw [chunk, Nat.mul_zero, Nat.add_zero]
      have := at_take pre (ds.flatten ++ post) d 32 h32
      rw [e, List.append_assoc]
      exact this
    · rw [e]
      conv => rhs; rw [<- ih']
      unfold yF
      refine List.map_congr_left (fun i _ => ?_)
      simp only [Function.comp, chunk]
      congr 2
      omega
theorem digsN_fwd (ds : List (List UInt8)) (hd : Dgs ds) : vX (pre ++ (ds.flatten ++ post)) (ds.length : Int) ⟨pre.length, 0⟩ = (ds, ⟨pre.length + 32 * ds.length, 0⟩) := by
  have hl : ((pre ++ (ds.flatten ++ post)).length - pre.length) / 32 >= ds.length := by
    rw [List.length_append, List.length_append, hd.flat]
    omega
  simp only [vX]
  rw [if_neg (by simp), if_neg (by omega), Int.toNat_natCast, digsL_fwd pre post ds hd]
end
section
variable (pre post : List UInt8)
theorem p256_2 : (256 : Nat) ^ 2 = 65536 := by decide
theorem textAt_fwd (l : List UInt8) (most : Int) (hm : (l.length : Int) <= most) (hl : l.length <= 65535) : jd (pre ++ (lp 2 l ++ post)) most pre.length = (l, pre.length + (2 + l.length), 0) := by
  have e : pre ++ (lp 2 l ++ post) = pre ++ (be 2 l.length ++ (l ++ post)) := by simp [lp]
  have h4 : ofBe (((pre ++ (lp 2 l ++ post)).drop pre.length).take 2) = l.length := by
    rw [e, at_take pre (l ++ post) (be 2 l.length) 2 (jC _ _), ofBe_be, Nat.mod_eq_of_lt (by rw [p256_2]; omega)]
  have hlen : (pre ++ (lp 2 l ++ post)).length = pre.length + 2 + l.length + post.length := by simp only [List.length_append, jL]; omega
  have hd : ((pre ++ (lp 2 l ++ post)).drop (pre.length + 2)).take l.length = l := by
    have e2 : pre ++ (lp 2 l ++ post) = (pre ++ be 2 l.length) ++ (l ++ post) := by simp [lp]
    have := at_take (pre ++ be 2 l.length) post l l.length rfl
    rw [List.length_append, jC, <- e2] at this
    exact this
  simp only [jd]
  rw [if_neg (by omega), h4, if_neg (by omega), if_neg (by omega), hd, Nat.add_assoc]
theorem textN_fwd (l : List UInt8) (most : Int) (hm : (l.length : Int) <= most) (hl : l.length <= 65535) : va (pre ++ (lp 2 l ++ post)) most ⟨pre.length, 0⟩ = (l, ⟨pre.length + (2 + l.length), 0⟩) := by
  unfold va
  rw [if_neg (by simp)]
  simp only [textAt_fwd pre post l most hm hl]
  rw [if_neg (by simp)]
theorem textsGo_fwd (each : Int) : ∀ (l acc : List ByteArray) (pre post : List UInt8), (∀ s ∈ l, (s.size : Int) <= each /\ s.size <= 65535) ->
    (∀ i, i + 1 < (acc ++ l).length -> blt ((acc ++ l).getD i ByteArray.empty) ((acc ++ l).getD (i + 1) ByteArray.empty) = true) ->
    jY (pre ++ (lps l ++ post)) each l.length pre.length acc = (0, acc ++ l, pre.length + (lps l).length)
  | [], acc, pre, post, _, _ => by simp [jY, lps]
  | s :: l, acc, pre, post, h, hr => by
    have hs := h s List.mem_cons_self
    have e1 : lps (s :: l) = lp 2 (sb s) ++ lps l := by simp [lps]
    have e : pre ++ (lps (s :: l) ++ post) = pre ++ (lp 2 (sb s) ++ (lps l ++ post)) := by rw [e1]; simp
    have ht := textAt_fwd pre (lps l ++ post) (sb s) each (by rw [jF]; exact hs.1) (by rw [jF]; exact hs.2)
    rw [<- e] at ht
    have hx : acc = [] \/ blt (acc.getD (acc.length - 1) ByteArray.empty) ⟨(sb s).toArray⟩ = true := by
      rcases List.eq_nil_or_concat acc with h0 | ⟨a, x, h0⟩
      · exact .inl h0
      · right
        have hlen : acc.length = a.length + 1 := by rw [h0]; simp
        have h2 := hr (acc.length - 1) (by rw [List.length_append, List.length_cons]; omega)
        have g1 : (acc ++ s :: l).getD (acc.length - 1) ByteArray.empty = acc.getD (acc.length - 1) ByteArray.empty := by
          simp only [List.getD, List.getElem?_append_left (show acc.length - 1 < acc.length by omega)]
        have g2 : (acc ++ s :: l).getD (acc.length - 1 + 1) ByteArray.empty = s := by
          rw [show acc.length - 1 + 1 = acc.length by omega]
          simp [List.getD]
        rw [g1, g2] at h2
        rw [mk_sb]
        exact h2
    rw [List.length_cons, textsGo_on _ each l.length pre.length acc ht hx, mk_sb]
    have e3 : pre ++ (lps (s :: l) ++ post) = (pre ++ lp 2 (sb s)) ++ (lps l ++ post) := by rw [e1]; simp
    have ih := textsGo_fwd each l (acc ++ [s]) (pre ++ lp 2 (sb s)) post (fun x hx => h x (List.mem_cons_of_mem _ hx)) (by
      rw [List.append_assoc, List.singleton_append]
      exact hr)
    rw [<- e3, List.length_append, jL] at ih
    rw [show pre.length + (2 + (sb s).length) = pre.length + (2 + (sb s).length) from rfl, ih]
    simp only [List.append_assoc, List.singleton_append, Prod.mk.injEq, true_and, e1, List.length_append, jL]
    omega
theorem rising_at {l : List ByteArray} (h : yM l = true) : ∀ i, i + 1 < l.length -> blt (l.getD i ByteArray.empty) (l.getD (i + 1) ByteArray.empty) = true := by
  intro i hi
  rw [yM, List.all_eq_true] at h
  exact h i (List.mem_range.2 (by omega))
theorem textsN_fwd (l : List ByteArray) (h : yM l = true) (hn : l.length <= 64) (hs : ∀ s ∈ l, s.size <= 1024) : kY (pre ++ (vY l ++ post)) 64 1024 ⟨pre.length, 0⟩ = (l, ⟨pre.length + (vY l).length, 0⟩) := by
  have e : pre ++ (vY l ++ post) = pre ++ (be 2 l.length ++ (lps l ++ post)) := by simp [vY]
  have h2 : ofBe (((pre ++ (vY l ++ post)).drop pre.length).take 2) = l.length := by
    rw [e, at_take pre (lps l ++ post) (be 2 l.length) 2 (jC _ _), ofBe_be, Nat.mod_eq_of_lt (by rw [p256_2]; omega)]
  have hlen : (pre ++ (vY l ++ post)).length = pre.length + 2 + (lps l).length + post.length := by simp only [vY, List.length_append, jC]; omega
  have e3 : pre ++ (vY l ++ post) = (pre ++ be 2 l.length) ++ (lps l ++ post) := by simp [vY]
  have hg := textsGo_fwd 1024 l [] (pre ++ be 2 l.length) post (fun s hx => by have := hs s hx; omega) (by simpa using rising_at h)
  rw [<- e3, List.length_append, jC, List.nil_append] at hg
  simp only [kY]
  rw [if_neg (by simp), if_neg (by omega), h2, if_neg (by omega), hg]
  simp only [ne_eq, not_true_eq_false, if_false, vY, List.length_append, jC, Nat.add_assoc]
def cV (v : Val) : Val := if v.kind = 1 then { v with n := c64 v.n } else v
theorem c64_in {n : Int} (h : 0 <= n /\ n <= 4611686018427387904) : c64 n = n := by
  unfold c64
  rw [i64_small _ (by omega)]
  omega
end
theorem ba_nil {t : ByteArray} (h : t.toList.isEmpty = true) : t = ByteArray.empty := by
  rw [toList_sb, List.isEmpty_iff] at h
  rw [<- mk_sb t, h]
  rfl
structure RightV (v : Val) : Prop where
  kind : v.kind = 0 \/ v.kind = 1 \/ v.kind = 2 \/ v.kind = 3 \/ v.kind = 4 \/ v.kind = 5
  t : v.kind ≠ 3 -> v.t = ByteArray.empty
  s : v.kind ≠ 5 -> v.s = []
  flag : v.kind = 2 -> v.n = 0 \/ v.n = 1
  zero : v.kind = 0 \/ v.kind = 3 \/ v.kind = 5 -> v.n = 0
  up : v.kind = 5 -> yM v.s = true
  time : v.kind = 4 -> 0 <= v.n /\ v.n <= 4611686018427387904
  size : v.t.size <= 1024
  many : v.s.length <= 64
  each : ∀ x ∈ v.s, x.size <= 1024
theorem rightV {v : Val} (h : jP v = 0) : RightV v := by
  obtain ⟨hf, hl, h64⟩ := kJ h
  have h4 : v.kind = 4 -> 0 <= v.n /\ v.n <= 4611686018427387904 := by
    intro hk
    unfold jP at h
    rw [if_neg (by rw [hf]; decide)] at h
    by_cases h4 : v.kind = 4 /\ ¬ (0 <= v.n /\ v.n <= 4611686018427387904)
    · rw [if_pos h4] at h; cases h
    · by_cases h5 : 0 <= v.n /\ v.n <= 4611686018427387904
      · exact h5
      · exact absurd ⟨hk, h5⟩ h4
  unfold longB at hl
  rw [Bool.or_eq_false_iff] at hl
  have he : ∀ x ∈ v.s, x.size <= 1024 := by
    intro x hx
    have := (List.any_eq_false.1 hl.2) x hx
    simp only [decide_eq_true_eq] at this
    omega
  unfold kD at hf
  rw [Bool.and_eq_true] at hf
  obtain ⟨ha, hb⟩ := hf
  simp only [Bool.not_eq_true', Bool.or_eq_false_iff, Bool.and_eq_false_imp] at ha
  have ht : v.kind ≠ 3 -> v.t = ByteArray.empty := fun hk => ba_nil (by
    have := ha.1 (by simpa using hk)
    simpa using this)
  have hs : v.kind ≠ 5 -> v.s = [] := fun hk => by
    have := ha.2 (by simpa using hk)
    simpa using this
  have hsz : v.t.size <= 1024 := by simpa using hl.1
  by_cases h1 : v.kind = 1 \/ v.kind = 4
  · exact ⟨by omega, ht, hs, fun h => by omega, fun h => by omega, fun h => by omega, h4, hsz, h64, he⟩
  · rw [if_neg h1] at hb
    by_cases h2 : v.kind = 2
    · rw [if_pos h2] at hb
      exact ⟨by omega, ht, hs, fun _ => by simpa using hb, fun h => by omega, fun h => by omega, h4, hsz, h64, he⟩
    · rw [if_neg h2] at hb
      by_cases h3 : v.kind = 0 \/ v.kind = 3
      · rw [if_pos h3] at hb
        exact ⟨by omega, ht, hs, fun h => by omega, fun _ => by simpa using hb, fun h => by omega, h4, hsz, h64, he⟩
      · rw [if_neg h3] at hb
        by_cases h5 : v.kind = 5
        · rw [if_pos h5, Bool.and_eq_true] at hb
          exact ⟨by omega, ht, hs, fun h => by omega, fun _ => by simpa using hb.2, fun _ => hb.1, h4, hsz, h64, he⟩
        · rw [if_neg h5] at hb; cases hb
theorem cV_right {v : Val} (h : jP v = 0) : jP (cV v) = 0 := by
  unfold cV
  by_cases h1 : v.kind = 1
  · rw [if_pos h1]
    obtain ⟨k, n, t, s⟩ := v
    simp only at h1
    subst h1
    revert h
    simp [jP, kD, longB]
  · rw [if_neg h1]; exact h
section
variable (pre post : List UInt8)
theorem takeVal_fwd (v : Val) (h : jP v = 0) : jN (pre ++ (valB v ++ post)) ⟨pre.length, 0⟩ = (cV v, ⟨pre.length + (valB v).length, 0⟩) := by
  have hc := cV_right h
  obtain ⟨hk, ht, hs, hfl, hz, hup, htm, hsz, h64, he⟩ := rightV h
  have hkn : v.kind.toNat < 256 ^ 1 := by omega
  obtain ⟨tail, htail⟩ : ∃ tail, tail = (if v.kind = 1 \/ v.kind = 4 then be 8 (v.n % 18446744073709551616).toNat else if v.kind = 2 then [if v.n = 1 then 1 else 0] else if v.kind = 3 then lp 2 (sb v.t) else if v.kind = 5 then vY v.s else []) := ⟨_, rfl⟩
  have eB : valB v = be 1 v.kind.toNat ++ tail := by rw [htail]; rfl
  have e1 : pre ++ (valB v ++ post) = pre ++ (be 1 v.kind.toNat ++ (tail ++ post)) := by rw [eB]; simp
  have e2 : pre ++ (valB v ++ post) = (pre ++ be 1 v.kind.toNat) ++ (tail ++ post) := by rw [e1]; simp
  have hb := tkN_fwd pre (tail ++ post) 1 v.kind.toNat hkn
  rw [<- e1] at hb
  have hlen : (pre ++ be 1 v.kind.toNat).length = pre.length + 1 := by simp [jC]
  have hvl : (valB v).length = 1 + tail.length := by rw [eB]; simp [jC]
  have key : kX (pre ++ (valB v ++ post)) v.kind.toNat ⟨pre.length + 1, 0⟩ = (cV v, ⟨pre.length + (valB v).length, 0⟩) := by
    rw [hvl]
    obtain ⟨k, n, t, s⟩ := v
    simp only at *
    rcases hk with rfl | rfl | rfl | rfl | rfl | rfl
    · obtain rfl := ht (by decide)
      obtain rfl := hs (by decide)
      obtain rfl := hz (.inl rfl)
      simp only [htail]
      rfl
    · obtain rfl := ht (by decide)
      obtain rfl := hs (by decide)
      rw [if_pos (.inl rfl)] at htail
      subst htail
      have h8 := tkN_fwd (pre ++ be 1 (1 : Int).toNat) post 8 (n % 18446744073709551616).toNat (by rw [p256_8]; omega)
      rw [<- e2, hlen] at h8
      unfold kX
      rw [if_pos (.inl rfl), h8, jC]
      rfl
    · obtain rfl := ht (by decide)
      obtain rfl := hs (by decide)
      rw [if_neg (by decide), if_pos rfl] at htail
      have hq : ∃ b : Bool, n = if b = true then 1 else 0 := by
        rcases hfl rfl with rfl | rfl
        · exact ⟨false, rfl⟩
        · exact ⟨true, rfl⟩
      obtain ⟨b, rfl⟩ := hq
      have htb : tail = [if b = true then 1 else 0] := by rw [htail]; cases b <;> rfl
      clear htail
      subst htb
      have h8 := flagN_fwd (pre ++ be 1 (2 : Int).toNat) post b
      rw [<- e2, hlen] at h8
      unfold kX
      rw [if_neg (by decide), if_pos (by decide), h8]
      rfl
    · obtain rfl := hs (by decide)
      obtain rfl := hz (.inr (.inl rfl))
      rw [if_neg (by decide), if_neg (by decide), if_pos rfl] at htail
      subst htail
      have h8 := textN_fwd (pre ++ be 1 (3 : Int).toNat) post (sb t) 1024 (by rw [jF]; omega) (by rw [jF]; omega)
      rw [<- e2, hlen] at h8
      unfold kX
      rw [if_neg (by decide), if_neg (by decide), if_pos (by decide), h8, mk_sb, jL, Nat.add_assoc]
      rfl
    · obtain rfl := ht (by decide)
      obtain rfl := hs (by decide)
      rw [if_pos (.inr rfl)] at htail
      subst htail
      have h8 := tkN_fwd (pre ++ be 1 (4 : Int).toNat) post 8 (n % 18446744073709551616).toNat (by rw [p256_8]; omega)
      rw [<- e2, hlen] at h8
      unfold kX
      rw [if_pos (.inr rfl), h8, jC]
      simp only [show i64 (n % 18446744073709551616).toNat = n from c64_in (htm rfl)]
      rfl
    · obtain rfl := ht (by decide)
      obtain rfl := hz (.inr (.inr rfl))
      rw [if_neg (by decide), if_neg (by decide), if_neg (by decide), if_pos rfl] at htail
      subst htail
      have h8 := textsN_fwd (pre ++ be 1 (5 : Int).toNat) post s (hup rfl) h64 he
      rw [<- e2, hlen] at h8
      unfold kX
      rw [if_neg (by decide), if_neg (by decide), if_neg (by decide), if_pos (by decide), h8, Nat.add_assoc]
      rfl
  unfold jN
  rw [hb]
  simp only
  rw [key, kN, if_neg (by simp), if_neg (by simp [hc])]
end
theorem valsGo_fwd : ∀ (l : List Val) (pre post : List UInt8) (acc : List Val), (∀ v ∈ l, jP v = 0) ->
    kb (pre ++ (vM l ++ post)) l.length ⟨pre.length, 0⟩ acc = (acc ++ l.map cV, ⟨pre.length + (vM l).length, 0⟩)
  | [], pre, post, acc, _ => by simp [kb, vM]
  | v :: l, pre, post, acc, h => by
    have e0 : vM (v :: l) = valB v ++ vM l := by simp [vM]
    have e1 : pre ++ (vM (v :: l) ++ post) = pre ++ (valB v ++ (vM l ++ post)) := by rw [e0]; simp
    have e2 : pre ++ (vM (v :: l) ++ post) = (pre ++ valB v) ++ (vM l ++ post) := by rw [e0]; simp
    have h1 := takeVal_fwd pre (vM l ++ post) v (h v List.mem_cons_self)
    rw [<- e1] at h1
    have ih := valsGo_fwd l (pre ++ valB v) post (acc ++ [cV v]) (fun x hx => h x (List.mem_cons_of_mem _ hx))
    rw [<- e2, List.length_append] at ih
    rw [List.length_cons, kb, h1]
    simp only
    rw [ih, e0]
    simp [Nat.add_assoc]
def opL (bs : List UInt8) (k : Nat) (s : Ls) : Opn × Ls :=
  if k = 1 then ({ kI with op := 1, type_ := (kH bs s).1, source := sb (kH bs (kH bs s).2).1 }, (kH bs (kH bs s).2).2)
  else if k = 2 then ({ kI with op := 2, case_ := (kH bs s).1, type_ := (kH bs (kH bs s).2).1 }, (kH bs (kH bs s).2).2)
  else if k = 3 then ({ kI with op := 3, case_ := (kH bs s).1, name := (kH bs (kH bs s).2).1, value := (valueL bs (kH bs (kH bs s).2).2).1 }, (valueL bs (kH bs (kH bs s).2).2).2)
  else if k = 4 then ({ kI with op := 4, case_ := (kH bs s).1, name := (kH bs (kH bs s).2).1, args := (valsL bs (lowL bs 1 (kH bs (kH bs s).2).2).1 (lowL bs 1 (kH bs (kH bs s).2).2).2 []).1 }, (valsL bs (lowL bs 1 (kH bs (kH bs s).2).2).1 (lowL bs 1 (kH bs (kH bs s).2).2).2 []).2)
  else if k = 5 then ({ kI with op := 5, clock := (numL bs 8 s).1 }, (numL bs 8 s).2)
  else ({ kI with op := k }, s)
def fldL (bs : List UInt8) (k : Nat) (s : Ls) : Req × Ls :=
  if k = 1 \/ k = 2 then ({ ju with op := k, do_ := (opL bs (lowL bs 1 s).1 (lowL bs 1 s).2).1 }, (opL bs (lowL bs 1 s).1 (lowL bs 1 s).2).2)
  else if k = 3 then ({ ju with op := k, name := (kH bs s).1 }, (kH bs s).2)
  else if k = 4 then ({ ju with op := k, number := (numL bs 8 s).1 }, (numL bs 8 s).2)
  else if k = 8 then ({ ju with op := k, number := (numL bs 8 s).1, size := (numL bs 8 (numL bs 8 s).2).1 }, (numL bs 8 (numL bs 8 s).2).2)
  else if k = 9 then ({ ju with op := k, from_ := (numL bs 8 s).1, to_ := (numL bs 8 (numL bs 8 s).2).1 }, (numL bs 8 (numL bs 8 s).2).2)
  else if k = 10 then ({ ju with op := k, name := (kH bs s).1, size := (numL bs 8 (kH bs s).2).1 }, (numL bs 8 (kH bs s).2).2)
  else if k = 11 then ({ ju with op := k, name := (kH bs s).1, size := (numL bs 8 (kH bs s).2).1, first := (numL bs 8 (numL bs 8 (kH bs s).2).2).1 }, (numL bs 8 (numL bs 8 (kH bs s).2).2).2)
  else ({ ju with op := k }, s)
def reqL (bs : List UInt8) : Req × Ls := fldL bs (lowL bs 1 ⟨0, false⟩).1 (lowL bs 1 ⟨0, false⟩).2
def backL (bs : List UInt8) (q : Req × Ls) : Option Req := if q.2.short = false /\ jy q.1 = some bs then some q.1 else none
def readReq (bs : List UInt8) : Option Req := backL bs (reqL bs)
section
variable {bs : List UInt8} {s : Rs} {l : Ls}
theorem byte_good {p : Nat} (hp : p <= bs.length) : (tkN bs 1 ⟨p, 0⟩).1 = (lowL bs 1 ⟨p, false⟩).1 /\ ((∃ q, (tkN bs 1 ⟨p, 0⟩).2 = ⟨q, 0⟩ /\ (lowL bs 1 ⟨p, false⟩).2 = ⟨q, false⟩ /\ q <= bs.length) \/ ((tkN bs 1 ⟨p, 0⟩).1 = 0 /\ (tkN bs 1 ⟨p, 0⟩).2.why ≠ 0 /\ (lowL bs 1 ⟨p, false⟩).2.short = true)) := by
  by_cases hl : p + 1 <= bs.length
  · have e1 : tkN bs 1 ⟨p, 0⟩ = (ofBe ((bs.drop p).take 1), ⟨p + 1, 0⟩) := by simp [tkN, hl]
    have e2 : vu bs 1 ⟨p, false⟩ = ((bs.drop p).take 1, ⟨p + 1, false⟩) := by rw [vu, if_neg (by simp only; omega)]
    rw [lowL, e1, e2]
    exact ⟨rfl, .inl ⟨p + 1, rfl, rfl, hl⟩⟩
  · have e1 : tkN bs 1 ⟨p, 0⟩ = (0, ⟨p, 8⟩) := by simp [tkN]; omega
    have e2 : vu bs 1 ⟨p, false⟩ = ([], ⟨p, true⟩) := by rw [vu, if_pos (by simp only; omega)]
    rw [lowL, e1, e2]
    exact ⟨rfl, .inr ⟨rfl, by simp, rfl⟩⟩
structure Both (bs : List UInt8) (s : Rs) (d : Req × Bool × Rs) (x : Req × Ls) : Prop where
  ag : Ag bs d.2.2 x.2
  eq_ : d.2.2.why = 0 -> d.1 = x.1
  ok : d.2.2.why = 0 -> d.2.1 = true -> ∃ e, jq d.1 = some e /\ Con bs s d.2.2 e
  no : d.2.2.why = 0 -> d.2.1 = false -> jq d.1 = none
theorem op_both {p : Nat} (hp : p <= bs.length) (hb : bs.length <= 1048576) (k : Nat) (hk : k < 256) :
    Ag bs (opN bs k ⟨p, 0⟩).2 (opL bs k ⟨p, false⟩).2 /\ ((opN bs k ⟨p, 0⟩).2.why = 0 -> (opN bs k ⟨p, 0⟩).1 = (opL bs k ⟨p, false⟩).1) /\ (opN bs k ⟨p, 0⟩).1.op = k /\
      ((opN bs k ⟨p, 0⟩).2.why = 0 -> 1 <= k /\ k <= 5 -> ∃ e, vZ (opN bs k ⟨p, 0⟩).1 = some e /\ Con bs ⟨p, 0⟩ (opN bs k ⟨p, 0⟩).2 e) := by
  have h0 : Ag bs ⟨p, 0⟩ ⟨p, false⟩ := ag_good hp
  unfold opN opL
  by_cases h1 : k = 1
  · subst h1
    have a := word_ag hb h0
    have b := bytes_ag hb a.1
    simp only [if_true]
    refine ⟨b.1, fun hz => ?_, rfl, fun hz _ => ⟨_, rfl, a.2.2.trans b.2.2⟩⟩
    rw [a.2.1 (b.2.2 hz).1, b.2.1 hz]
  by_cases h2 : k = 2
  · subst h2
    have a := word_ag hb h0
    have b := word_ag hb a.1
    simp only [if_neg (show ¬ (2 : Nat) = 1 by decide), if_true]
    refine ⟨b.1, fun hz => ?_, rfl, fun hz _ => ⟨_, rfl, a.2.2.trans b.2.2⟩⟩
    rw [a.2.1 (b.2.2 hz).1, b.2.1 hz]
  by_cases h3 : k = 3
  · subst h3
    have a := word_ag hb h0
    have b := word_ag hb a.1
    have c := value_ag b.1
    have cc := yJ (bs := bs) (jI bs (jI bs ⟨p, 0⟩).2).2
    simp only [if_neg (show ¬ (3 : Nat) = 1 by decide), if_neg (show ¬ (3 : Nat) = 2 by decide), if_true]
    refine ⟨c.1, fun hz => ?_, rfl, fun hz _ => ⟨_, ?_, (a.2.2.trans b.2.2).trans cc.1⟩⟩
    · have z2 := (cc.1 hz).1
      rw [a.2.1 (b.2.2 z2).1, b.2.1 z2, c.2 hz]
    · rw [vZ]
      simp only
      rw [if_neg (by decide), if_neg (by decide), if_pos trivial, if_pos (cc.2 hz)]
  by_cases h4 : k = 4
  · subst h4
    have a := word_ag hb h0
    have b := word_ag hb a.1
    have c := low_ag 1 b.1
    have hlt := kE bs 1 (jI bs (jI bs ⟨p, 0⟩).2).2
    simp only [if_neg (show ¬ (4 : Nat) = 1 by decide), if_neg (show ¬ (4 : Nat) = 2 by decide), if_neg (show ¬ (4 : Nat) = 3 by decide), if_true]
    generalize tkN bs 1 (jI bs (jI bs ⟨p, 0⟩).2).2 = N at *
    obtain ⟨n, sn⟩ := N
    generalize lowL bs 1 (kH bs (kH bs ⟨p, false⟩).2).2 = M at *
    obtain ⟨mn, lm⟩ := M
    simp only at c hlt ⊢
    obtain ⟨new, v1, v2, v3, v4⟩ := vals_con (bs := bs) n sn []
    rw [List.nil_append] at v1
    by_cases hsn : sn.why = 0
    · have hm : n = mn := c.2.1 hsn
      subst hm
      have d := vals_ag (bs := bs) n sn lm [] c.1
      refine ⟨d.1, fun hz => ?_, rfl, fun hz _ => ⟨_, ?_, (a.2.2.trans b.2.2).trans (c.2.2.trans v3)⟩⟩
      · have z2 := (c.2.2 hsn).1
        rw [a.2.1 (b.2.2 z2).1, b.2.1 z2, d.2 hz]
      · rw [vZ]
        simp only
        rw [if_neg (by decide), if_neg (by decide), if_neg (by decide), if_pos trivial, v1, if_pos ⟨by omega, v4 hz⟩, v2]
        rfl
    · have bad := valsGo_bad (bs := bs) n sn [] hsn
      have hsh : lm.short = true := by
        cases hs : lm.short
        · exact absurd (c.1.ok.2 hs) hsn
        · rfl
      exact ⟨ag_bad bad (valsL_short _ _ _ hsh), fun hz => absurd hz bad, rfl, fun hz => absurd hz bad⟩
  by_cases h5 : k = 5
  · subst h5
    have a := numN_ag h0
    simp only [if_neg (show ¬ (5 : Nat) = 1 by decide), if_neg (show ¬ (5 : Nat) = 2 by decide), if_neg (show ¬ (5 : Nat) = 3 by decide), if_neg (show ¬ (5 : Nat) = 4 by decide), if_true]
    refine ⟨a.1, fun hz => ?_, rfl, fun hz _ => ⟨_, rfl, a.2.2⟩⟩
    rw [a.2.1 hz]
  · simp only [if_neg h1, if_neg h2, if_neg h3, if_neg h4, if_neg h5]
    exact ⟨h0, fun _ => by trivial, by trivial, fun _ hh => by omega⟩
theorem fld_both {p : Nat} (hp : p <= bs.length) (hb : bs.length <= 1048576) (k : Nat) (hk : k < 256) : Both bs ⟨p, 0⟩ (decN bs k ⟨p, 0⟩) (fldL bs k ⟨p, false⟩) := by
  have h0 : Ag bs ⟨p, 0⟩ ⟨p, false⟩ := ag_good hp
  unfold decN fldL
  by_cases h1 : k = 1 \/ k = 2
  · simp only [if_pos h1]
    obtain ⟨be_, hc⟩ := byte_good (bs := bs) hp
    have hlt := kE bs 1 ⟨p, 0⟩
    have hcon := kU (bs := bs) 1 ⟨p, 0⟩
    rw [jv, <- be_]
    generalize tkN bs 1 ⟨p, 0⟩ = K at *
    generalize (lowL bs 1 ⟨p, false⟩).2 = lm at *
    obtain ⟨k2, sk⟩ := K
    simp only at hc hlt hcon ⊢
    rcases hc with ⟨q, rfl, rfl, hq⟩ | ⟨rfl, hw, hs⟩
    · obtain ⟨o1, o2, o3, o4⟩ := op_both hq hb k2 (by omega)
      refine ⟨o1, fun hz => by simp only at hz ⊢; rw [o2 hz], fun hz hok => ?_, fun hz hno => ?_⟩
      · simp only [decide_eq_true_eq, o3] at hok
        obtain ⟨e, he, hce⟩ := o4 hz (by omega)
        refine ⟨be 1 k2 ++ e, ?_, hcon.trans hce⟩
        simp only [jq]
        rw [if_pos (by omega), opB, he, o3]
        simp
      · simp only [decide_eq_false_iff_not, o3] at hno
        simp only [jq]
        rw [if_pos (by omega), opB, vZ]
        rw [o3, if_neg (by omega), if_neg (by omega), if_neg (by omega), if_neg (by omega), if_neg (by omega)]
        rfl
    · have e1 : (opN bs 0 sk).2 = sk := by simp [opN]
      have e2 : (opL bs 0 lm).2 = lm := by simp [opL]
      refine ⟨?_, fun hz => ?_, fun hz => ?_, fun hz => ?_⟩
      · simp only [e1, e2]; exact ag_bad hw hs
      all_goals (simp only [e1] at hz; exact absurd hz hw)
  simp only [if_neg h1]
  by_cases h3 : k = 3
  · subst h3
    have a := word_ag hb h0
    simp only [if_true]
    exact ⟨a.1, fun hz => by simp only at hz ⊢; rw [a.2.1 hz], fun hz _ => ⟨_, rfl, a.2.2⟩, fun _ h => by cases h⟩
  simp only [if_neg h3]
  by_cases h4 : k = 4
  · subst h4
    have a := numN_ag h0
    simp only [if_true]
    exact ⟨a.1, fun hz => by simp only at hz ⊢; rw [a.2.1 hz], fun hz _ => ⟨_, rfl, a.2.2⟩, fun _ h => by cases h⟩
  simp only [if_neg h4]
  by_cases h8 : k = 8
  · subst h8
    have a := numN_ag h0
    have b := numN_ag a.1
    simp only [if_true]
    exact ⟨b.1, fun hz => by simp only at hz ⊢; rw [a.2.1 (b.2.2 hz).1, b.2.1 hz], fun hz _ => ⟨_, rfl, a.2.2.trans b.2.2⟩, fun _ h => by cases h⟩
  simp only [if_neg h8]
  by_cases h9 : k = 9
  · subst h9
    have a := numN_ag h0
    have b := numN_ag a.1
    simp only [if_true]
    exact ⟨b.1, fun hz => by simp only at hz ⊢; rw [a.2.1 (b.2.2 hz).1, b.2.1 hz], fun hz _ => ⟨_, rfl, a.2.2.trans b.2.2⟩, fun _ h => by cases h⟩
  simp only [if_neg h9]
  by_cases h10 : k = 10
  · subst h10
    have a := word_ag hb h0
    have b := numN_ag a.1
    simp only [if_true]
    exact ⟨b.1, fun hz => by simp only at hz ⊢; rw [a.2.1 (b.2.2 hz).1, b.2.1 hz], fun hz _ => ⟨_, rfl, a.2.2.trans b.2.2⟩, fun _ h => by cases h⟩
  simp only [if_neg h10]
  by_cases h11 : k = 11
  · subst h11
    have a := word_ag hb h0
    have b := numN_ag a.1
    have c := numN_ag b.1
    simp only [if_true]
    exact ⟨c.1, fun hz => by simp only at hz ⊢; rw [a.2.1 (b.2.2 (c.2.2 hz).1).1, b.2.1 (c.2.2 hz).1, c.2.1 hz], fun hz _ => ⟨_, rfl, a.2.2.trans (b.2.2.trans c.2.2)⟩, fun _ h => by cases h⟩
  simp only [if_neg h11]
  refine ⟨h0, fun _ => rfl, fun _ hok => ⟨[], ?_, fun hz => ⟨rfl, rfl, fun h => h⟩⟩, fun _ hno => ?_⟩
  · simp only [decide_eq_true_eq] at hok
    simp only [jq, ju]
    rw [if_neg (by omega), if_neg (by omega), if_neg (by omega), if_pos (by omega)]
  · simp only [decide_eq_false_iff_not] at hno
    simp only [jq, ju]
    rw [if_neg (by omega), if_neg (by omega), if_neg (by omega), if_neg (by omega), if_neg (by omega), if_neg (by omega), if_neg (by omega), if_neg (by omega)]
theorem encReq_le {q : Req} {b : List UInt8} (h : jy q = some b) : b.length <= 1048576 := by
  unfold jy at h
  cases hr : reqB q with
  | none => rw [hr] at h; cases h
  | some c =>
    rw [hr] at h
    simp only [Option.bind_some] at h
    split at h
    · injection h with h; subst h; assumption
    · cases h
theorem decN_op (k : Nat) (s : Rs) : (decN bs k s).1.op = k := by
  unfold decN
  repeat (split; · rfl)
  rfl
theorem readReq_eq (bs : List UInt8) : readReq bs = jS bs := by
  unfold readReq jS
  by_cases hb : 1048576 < bs.length
  · rw [if_pos hb, backL, if_neg]
    rintro ⟨_, h⟩
    have := encReq_le h
    omega
  rw [if_neg hb, reqL]
  obtain ⟨be_, hc⟩ := byte_good (bs := bs) (Nat.zero_le _)
  have hlt := kE bs 1 ⟨0, 0⟩
  have hcon := kU (bs := bs) 1 ⟨0, 0⟩
  rw [<- be_]
  generalize tkN bs 1 ⟨0, 0⟩ = K at *
  generalize (lowL bs 1 ⟨0, false⟩).2 = lm at *
  obtain ⟨k, sk⟩ := K
  simp only at hc hlt hcon ⊢
  rcases hc with ⟨q, rfl, rfl, hq⟩ | ⟨rfl, hw, hs⟩
  · have hB := fld_both hq (by omega) k (by omega)
    have hop := decN_op (bs := bs) k ⟨q, 0⟩
    generalize decN bs k ⟨q, 0⟩ = d at *
    generalize fldL bs k ⟨q, false⟩ = x at *
    obtain ⟨r, ok, sd⟩ := d
    obtain ⟨x, lx⟩ := x
    obtain ⟨ag, eq_, hok, hno⟩ := hB
    simp only at ag eq_ hok hno hop
    unfold jc backL
    simp only
    by_cases hz : sd.why = 0
    · have h1 := ag.ok.1 hz
      obtain rfl := eq_ hz
      cases ok with
      | false =>
        rw [encReq_none (hno hz rfl), if_neg (by simp), if_neg (by simp)]
      | true =>
        obtain ⟨e, he, hce⟩ := hok hz rfl
        have hall := (hcon.trans hce) hz
        have hR : reqB r = some (be 1 k ++ e) := by rw [reqB, he, hop]; simp
        have hd := hall.2.1
        simp only [List.drop_zero] at hd
        have hle : sd.at_ <= bs.length := hall.2.2 (Nat.zero_le _)
        by_cases hend : sd.at_ = bs.length
        · have hbs : be 1 k ++ e = bs := by
            have : bs.drop sd.at_ = [] := by rw [hend]; exact List.drop_length
            rw [this, List.append_nil] at hd
            exact hd.symm
          rw [hbs] at hR
          rw [if_pos ⟨h1, kL hR (by omega)⟩, if_pos ⟨rfl, by rw [jo, if_neg (by omega)]; exact hz⟩]
        · rw [if_neg, if_neg]
          · rintro ⟨_, h⟩
            rw [jo, if_pos ⟨hz, by omega⟩] at h
            cases h
          · rintro ⟨_, h⟩
            have hl : (be 1 k ++ e).length <= 1048576 := by
              have : bs.length = (be 1 k ++ e).length + (bs.drop sd.at_).length := by rw [<- List.length_append, <- hd]
              omega
            rw [kL hR hl] at h
            injection h with h
            have h2 : bs.length = (be 1 k ++ e).length + (bs.drop sd.at_).length := by rw [<- List.length_append, <- hd]
            rw [h, List.length_drop] at h2
            omega
    · rw [if_neg, if_neg]
      · rintro ⟨_, h⟩
        rw [jo, if_neg (by rintro ⟨h, _⟩; exact hz h)] at h
        exact hz h
      · rintro ⟨h, _⟩
        exact hz (ag.ok.2 h)
  · have e1 : (decN bs 0 sk).2.2 = sk := by simp [decN]
    have e2 : (fldL bs 0 lm).2 = lm := by simp [fldL]
    rw [backL, jc, e1, e2, if_neg, if_neg]
    · rintro ⟨_, h⟩
      rw [jo, if_neg (by rintro ⟨h, _⟩; exact hw h)] at h
      exact hw h
    · rintro ⟨h, _⟩
      rw [hs] at h
      cases h
end
end Go.Proofs.YtnaolhjbapgjgaaGreat

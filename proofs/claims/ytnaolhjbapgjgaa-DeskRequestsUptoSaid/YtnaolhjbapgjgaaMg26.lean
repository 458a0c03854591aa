import Derived.Test.YtnaolhjbapgjgaaMg06
import Derived.Test.YtnaolhjbapgjgaaMg21
import Derived.Test.YtnaolhjbapgjgaaMg25
/- Contract of docketref14.Value. -/
namespace Go.Proofs.Ytnaolhjbapgjgaa
open Go.RowKit

/-- what laying a value down tells: its bytes in new memory, or what is not right -/
def VPost (v : Val) (w : World) (e : Ending) (w' : World) : Prop :=
  (rightE v = 0 ∧ ∃ l A c, l = valB v ∧ e = .returned (.tuple #[.slice A l.length c, .int .i64 0]) ∧ BRow w' w.heap.size l A c ∧ Old w w') ∨
  (rightE v ≠ 0 ∧ e = .returned (.tuple #[.slice none 0 0, .int .i64 (rightE v)]) ∧ Old w w')

theorem right_kind {v : Val} (h : rightE v = 0) : 0 ≤ v.kind ∧ v.kind ≤ 5 := by
  obtain ⟨k, n, t, s⟩ := v
  by_cases hk : k < 0 ∨ 5 < k
  · exfalso
    have hf : formedB ⟨k, n, t, s⟩ = false := by
      simp only [formedB]
      rw [if_neg (by omega), if_neg (by omega), if_neg (by omega), if_neg (by omega)]
      simp
    rw [rightE_bad hf] at h
    cases h
  · simp only
    omega
theorem right_formed {v : Val} (h : rightE v = 0) : formedB v = true := by
  cases hf : formedB v
  · rw [rightE_bad hf] at h; cases h
  · rfl

set_option maxRecDepth 100000 in
set_option maxHeartbeats 800000 in
theorem rvalue_bad (v : Val) (A : Option Addr) (c : Nat) (w : World) (hr : Rd w 1 A v.s.length (v.s.map sv)) (hs : v.s.length ≤ 1000000000000) (hne : rightE v ≠ 0) :
    Calls Try.prog 32 #[vV v A c] w (VPost v w) := by
  have Hr := Lib.hid (fun W (h : Old w W) => rright_any v A c W (hr.old h) hs)
  have Hv : ∀ W, Old w W → VPost v w (.returned (.tuple #[.slice none 0 0, .int .i64 (rightE v)])) W := fun W h => .inr ⟨hne, rfl, h⟩
  have HV := Lib.hid Hv
  have hb : (rightE v != 0) = true := bne_iff_ne.2 hne
  clear hr Hv hne hs
  unfold RPost at Hr
  obtain ⟨k, n, t, s⟩ := v
  unfold vV at *
  go_enter Try.func32, Try.ntmps32
  go_wp2_with fail
  refine (Hr.out _ ((Kp.refl _ _).alloc _)).mono ?_
  rintro e w1 ⟨rfl, ho1⟩
  go_wp2
  go_ret2
  exact HV.out _ (((Kp.refl NoX w).alloc _).old ho1)

theorem valB_14 (k n : Int) (hk : k = 1 ∨ k = 4) (t : ByteArray) (s : List ByteArray) : valB ⟨k, n, t, s⟩ = be 1 k.toNat ++ be 8 (n % 18446744073709551616).toNat := by
  rw [valB]
  simp only
  rw [if_pos hk]

theorem Rd.one_at (w : World) (t : TypeId) (u : Value) (g : Nat) (hg : g = w.heap.size) : Rd (w.alloc (.cells #[u] t)) 1 (some ⟨g, 0, none⟩) 1 [u] := by
  subst hg
  exact Rd.one_new w t u
theorem BRow.low {w : World} {base b : Nat} {l : List UInt8} {A : Option Addr} {c : Nat} (h : BRow w base l A c) (hb : b ≤ base) : BRow w b l A c := by
  refine ⟨⟨h.own.1, ?_⟩, Nat.le_trans hb h.le⟩
  rcases h.own.2 with hn | ⟨g, cap, cur, e, hg, rest⟩
  · exact .inl hn
  · exact .inr ⟨g, cap, cur, e, Nat.le_trans hb hg, rest⟩
theorem right_text {v : Val} (h : rightE v = 0) : v.t.size ≤ 1024 := (long_none (rightE_formed h).2.1).1
theorem right_flag {n : Int} {t : ByteArray} {s : List ByteArray} (h : rightE ⟨2, n, t, s⟩ = 0) : n = 0 ∨ n = 1 := by
  have hf := right_formed h
  simp [formedB] at hf
  exact hf.2

set_option maxRecDepth 100000 in
set_option maxHeartbeats 1600000 in
theorem rvalue_1 (n : Int) (t : ByteArray) (s : List ByteArray) (A : Option Addr) (c : Nat) (w : World) (hr : Rd w 1 A s.length (s.map sv)) (hs : s.length ≤ 1000000000000) (hz : rightE ⟨1, n, t, s⟩ = 0) :
    Calls Try.prog 32 #[vV ⟨1, n, t, s⟩ A c] w (VPost ⟨1, n, t, s⟩ w) := by
  have Hr := Lib.hid (fun W (h : Old w W) => rright_any ⟨1, n, t, s⟩ A c W (hr.old h) hs)
  have Hv : ∀ l A c W, l = valB ⟨1, n, t, s⟩ → BRow W w.heap.size l A c → Old w W → VPost ⟨1, n, t, s⟩ w (.returned (.tuple #[.slice A l.length c, .int .i64 0])) W := fun l A c W e hb ho => .inl ⟨hz, l, A, c, e, rfl, hb, ho⟩
  have HV := Lib.hid Hv
  unfold RPost at Hr
  rw [hz] at Hr
  have Hz := Lib.hid hz
  clear hr Hv hz hs
  unfold vV at *
  go_enter Try.func32, Try.ntmps32
  go_wp2_with fail
  refine (Hr.out _ ((Kp.refl _ _).alloc _)).mono ?_
  rintro e w1 ⟨rfl, ho1⟩
  have hb := (Blk.new w 25 #[.int .i64 1, .int .i64 n, .string t, .slice A s.length c]).old ho1
  have hc0 := hb.at_ 0 rfl
  have hc1 := hb.at_ 1 rfl
  have hc2 := hb.at_ 2 rfl
  have hlt := hb.lt
  have Ho := Lib.hid (((Kp.refl NoX w).alloc (.cells #[.int .i64 1, .int .i64 n, .string t, .slice A s.length c] 25)).old ho1)
  clear hb ho1
  have HB := Lib.hid (BRow.new w1 [1] (by decide))
  go_wp2_with fail
  refine (rnum_any _ n 8 (by decide)).mono ?_
  rintro e w2 ⟨B, rfl, hB, ho2⟩
  have HB2 := Lib.hid (HB.out.old ho2)
  have HB3 := Lib.hid hB.rd
  have Ho2 := Lib.hid ho2
  clear ho2 hB
  have hl8 := Lib.hid (be_length 8 (n % 18446744073709551616).toNat)
  go_wp2_with (at_builtin; refine Try.app_bytes (.tmp 24) (.tmp 27) HB2.out HB3.out (by rw [hl8.out]; decide) rfl rfl rfl (by rw [hl8.out]; rfl) ?_; intro l2 A2 c2 w3 e2 h2 hk2)
  go_ret2
  refine HV.out l2 A2 c2 w3 ?_ (h2.low Ho.out.size) (From.old ((Ho.out.alloc _).old Ho2.out) hk2 Ho.out.size)
  rw [e2.out, valB_14 _ _ (by decide)]
  rfl
set_option maxRecDepth 100000 in
set_option maxHeartbeats 1600000 in
theorem rvalue_4 (n : Int) (t : ByteArray) (s : List ByteArray) (A : Option Addr) (c : Nat) (w : World) (hr : Rd w 1 A s.length (s.map sv)) (hs : s.length ≤ 1000000000000) (hz : rightE ⟨4, n, t, s⟩ = 0) :
    Calls Try.prog 32 #[vV ⟨4, n, t, s⟩ A c] w (VPost ⟨4, n, t, s⟩ w) := by
  have Hr := Lib.hid (fun W (h : Old w W) => rright_any ⟨4, n, t, s⟩ A c W (hr.old h) hs)
  have Hv : ∀ l A c W, l = valB ⟨4, n, t, s⟩ → BRow W w.heap.size l A c → Old w W → VPost ⟨4, n, t, s⟩ w (.returned (.tuple #[.slice A l.length c, .int .i64 0])) W := fun l A c W e hb ho => .inl ⟨hz, l, A, c, e, rfl, hb, ho⟩
  have HV := Lib.hid Hv
  unfold RPost at Hr
  rw [hz] at Hr
  have Hz := Lib.hid hz
  clear hr Hv hz hs
  unfold vV at *
  go_enter Try.func32, Try.ntmps32
  go_wp2_with fail
  refine (Hr.out _ ((Kp.refl _ _).alloc _)).mono ?_
  rintro e w1 ⟨rfl, ho1⟩
  have hb := (Blk.new w 25 #[.int .i64 4, .int .i64 n, .string t, .slice A s.length c]).old ho1
  have hc0 := hb.at_ 0 rfl
  have hc1 := hb.at_ 1 rfl
  have hc2 := hb.at_ 2 rfl
  have hlt := hb.lt
  have Ho := Lib.hid (((Kp.refl NoX w).alloc (.cells #[.int .i64 4, .int .i64 n, .string t, .slice A s.length c] 25)).old ho1)
  clear hb ho1
  have HB := Lib.hid (BRow.new w1 [4] (by decide))
  go_wp2_with fail
  refine (rnum_any _ n 8 (by decide)).mono ?_
  rintro e w2 ⟨B, rfl, hB, ho2⟩
  have HB2 := Lib.hid (HB.out.old ho2)
  have HB3 := Lib.hid hB.rd
  have Ho2 := Lib.hid ho2
  clear ho2 hB
  have hl8 := Lib.hid (be_length 8 (n % 18446744073709551616).toNat)
  go_wp2_with (at_builtin; refine Try.app_bytes (.tmp 24) (.tmp 27) HB2.out HB3.out (by rw [hl8.out]; decide) rfl rfl rfl (by rw [hl8.out]; rfl) ?_; intro l2 A2 c2 w3 e2 h2 hk2)
  go_ret2
  refine HV.out l2 A2 c2 w3 ?_ (h2.low Ho.out.size) (From.old ((Ho.out.alloc _).old Ho2.out) hk2 Ho.out.size)
  rw [e2.out, valB_14 _ _ (by decide)]
  rfl
set_option maxRecDepth 100000 in
set_option maxHeartbeats 1600000 in
theorem rvalue_0 (n : Int) (t : ByteArray) (s : List ByteArray) (A : Option Addr) (c : Nat) (w : World) (hr : Rd w 1 A s.length (s.map sv)) (hs : s.length ≤ 1000000000000) (hz : rightE ⟨0, n, t, s⟩ = 0) :
    Calls Try.prog 32 #[vV ⟨0, n, t, s⟩ A c] w (VPost ⟨0, n, t, s⟩ w) := by
  have Hr := Lib.hid (fun W (h : Old w W) => rright_any ⟨0, n, t, s⟩ A c W (hr.old h) hs)
  have Hv : ∀ l A c W, l = valB ⟨0, n, t, s⟩ → BRow W w.heap.size l A c → Old w W → VPost ⟨0, n, t, s⟩ w (.returned (.tuple #[.slice A l.length c, .int .i64 0])) W := fun l A c W e hb ho => .inl ⟨hz, l, A, c, e, rfl, hb, ho⟩
  have HV := Lib.hid Hv
  unfold RPost at Hr
  rw [hz] at Hr
  have Hz := Lib.hid hz
  clear hr Hv hz hs
  unfold vV at *
  go_enter Try.func32, Try.ntmps32
  go_wp2_with fail
  refine (Hr.out _ ((Kp.refl _ _).alloc _)).mono ?_
  rintro e w1 ⟨rfl, ho1⟩
  have hb := (Blk.new w 25 #[.int .i64 0, .int .i64 n, .string t, .slice A s.length c]).old ho1
  have hc0 := hb.at_ 0 rfl
  have hc1 := hb.at_ 1 rfl
  have hc2 := hb.at_ 2 rfl
  have hlt := hb.lt
  have Ho := Lib.hid (((Kp.refl NoX w).alloc (.cells #[.int .i64 0, .int .i64 n, .string t, .slice A s.length c] 25)).old ho1)
  clear hb ho1
  have HB := Lib.hid (BRow.new w1 [0] (by decide))
  go_wp2
  go_ret2
  exact HV.out [0] _ _ _ (by simp [valB]; rfl) (HB.out.low Ho.out.size) (Ho.out.alloc _)
set_option maxRecDepth 100000 in
set_option maxHeartbeats 1600000 in
theorem rvalue_3 (n : Int) (t : ByteArray) (s : List ByteArray) (A : Option Addr) (c : Nat) (w : World) (hr : Rd w 1 A s.length (s.map sv)) (hs : s.length ≤ 1000000000000) (hz : rightE ⟨3, n, t, s⟩ = 0) :
    Calls Try.prog 32 #[vV ⟨3, n, t, s⟩ A c] w (VPost ⟨3, n, t, s⟩ w) := by
  have Hr := Lib.hid (fun W (h : Old w W) => rright_any ⟨3, n, t, s⟩ A c W (hr.old h) hs)
  have Hv : ∀ l A c W, l = valB ⟨3, n, t, s⟩ → BRow W w.heap.size l A c → Old w W → VPost ⟨3, n, t, s⟩ w (.returned (.tuple #[.slice A l.length c, .int .i64 0])) W := fun l A c W e hb ho => .inl ⟨hz, l, A, c, e, rfl, hb, ho⟩
  have HV := Lib.hid Hv
  unfold RPost at Hr
  rw [hz] at Hr
  have Hz := Lib.hid hz
  clear hr Hv hz hs
  unfold vV at *
  go_enter Try.func32, Try.ntmps32
  go_wp2_with fail
  refine (Hr.out _ ((Kp.refl _ _).alloc _)).mono ?_
  rintro e w1 ⟨rfl, ho1⟩
  have hb := (Blk.new w 25 #[.int .i64 3, .int .i64 n, .string t, .slice A s.length c]).old ho1
  have hc0 := hb.at_ 0 rfl
  have hc1 := hb.at_ 1 rfl
  have hc2 := hb.at_ 2 rfl
  have hlt := hb.lt
  have Ho := Lib.hid (((Kp.refl NoX w).alloc (.cells #[.int .i64 3, .int .i64 n, .string t, .slice A s.length c] 25)).old ho1)
  clear hb ho1
  have HB := Lib.hid (BRow.new w1 [3] (by decide))
  have hsz := Lib.hid (right_text Hz.out)
  go_wp2_with fail
  refine (rname_any _ t (Nat.le_trans hsz.out (by decide))).mono ?_
  rintro e w2 ⟨B, d, m, hm, rfl, hB, ho2⟩
  have HB2 := Lib.hid (HB.out.old ho2)
  have HB3 := Lib.hid hB.rd
  have Ho2 := Lib.hid ho2
  have Hm := Lib.hid hm
  have hlm := Lib.hid (show m.length ≤ 1026 by have := hsz.out; rw [hm, lp_length, sb_length]; omega)
  clear ho2 hB hm
  go_wp2_with (at_builtin; refine Try.app_bytes (.tmp 41) (.tmp 44) HB2.out HB3.out (by have := hlm.out; simp only [List.length_singleton]; omega) rfl rfl rfl rfl ?_; intro l2 A2 c2 w3 e2 h2 hk2)
  go_ret2
  refine HV.out l2 A2 c2 w3 ?_ (h2.low Ho.out.size) (From.old ((Ho.out.alloc _).old Ho2.out) hk2 Ho.out.size)
  rw [e2.out, Hm.out]
  simp [valB]
  rfl
set_option maxRecDepth 100000 in
set_option maxHeartbeats 1600000 in
theorem rvalue_2 (n : Int) (t : ByteArray) (s : List ByteArray) (A : Option Addr) (c : Nat) (w : World) (hr : Rd w 1 A s.length (s.map sv)) (hs : s.length ≤ 1000000000000) (hz : rightE ⟨2, n, t, s⟩ = 0) :
    Calls Try.prog 32 #[vV ⟨2, n, t, s⟩ A c] w (VPost ⟨2, n, t, s⟩ w) := by
  have Hr := Lib.hid (fun W (h : Old w W) => rright_any ⟨2, n, t, s⟩ A c W (hr.old h) hs)
  have Hv : ∀ l A c W, l = valB ⟨2, n, t, s⟩ → BRow W w.heap.size l A c → Old w W → VPost ⟨2, n, t, s⟩ w (.returned (.tuple #[.slice A l.length c, .int .i64 0])) W := fun l A c W e hb ho => .inl ⟨hz, l, A, c, e, rfl, hb, ho⟩
  have HV := Lib.hid Hv
  unfold RPost at Hr
  rw [hz] at Hr
  have Hz := Lib.hid hz
  clear hr Hv hz hs
  unfold vV at *
  have hn := right_flag Hz.out
  go_enter Try.func32, Try.ntmps32
  go_wp2_with fail
  refine (Hr.out _ ((Kp.refl _ _).alloc _)).mono ?_
  rintro e w1 ⟨rfl, ho1⟩
  have hb := (Blk.new w 25 #[.int .i64 2, .int .i64 n, .string t, .slice A s.length c]).old ho1
  have hc0 := hb.at_ 0 rfl
  have hc1 := hb.at_ 1 rfl
  have hc2 := hb.at_ 2 rfl
  have hlt := hb.lt
  have Ho := Lib.hid (((Kp.refl NoX w).alloc (.cells #[.int .i64 2, .int .i64 n, .string t, .slice A s.length c] 25)).old ho1)
  clear hb ho1
  have HB := Lib.hid (BRow.new w1 [2] (by decide))
  rcases hn with rfl | rfl
  · go_wp2_with (at_builtin; refine Try.app_bytes (.tmp 32) (.tmp 36) (HB.out.alloc _) (m := [0]) (d := 1) (Rd.one_at (w1.alloc _) 5 (.int .u8 0) (w1.heap.size + 1) (by simp)) (by decide) rfl rfl rfl rfl ?_; intro l2 A2 c2 w3 e2 h2 hk2)
    go_ret2
    refine HV.out l2 A2 c2 w3 ?_ (h2.low Ho.out.size) (From.old ((Ho.out.alloc _).alloc _) hk2 Ho.out.size)
    rw [e2.out]
    simp [valB]
    rfl
  · go_wp2_with (at_builtin; refine Try.app_bytes (.tmp 32) (.tmp 36) (HB.out.alloc _) (m := [1]) (d := 1) (Rd.one_at (w1.alloc _) 5 (.int .u8 1) (w1.heap.size + 1) (by simp)) (by decide) rfl rfl rfl rfl ?_; intro l2 A2 c2 w3 e2 h2 hk2)
    go_ret2
    refine HV.out l2 A2 c2 w3 ?_ (h2.low Ho.out.size) (From.old ((Ho.out.alloc _).alloc _) hk2 Ho.out.size)
    rw [e2.out]
    simp [valB]
    rfl
end Go.Proofs.Ytnaolhjbapgjgaa

/- Contract of docketref14.Value: sets; all values. -/
namespace Go.Proofs.Ytnaolhjbapgjgaa
open Go.RowKit

set_option maxRecDepth 100000 in
set_option maxHeartbeats 1600000 in
theorem rvalue_5 (n : Int) (t : ByteArray) (s : List ByteArray) (A : Option Addr) (c : Nat) (w : World) (hr : Rd w 1 A s.length (s.map sv)) (hs : s.length ≤ 1000000000000) (hz : rightE ⟨5, n, t, s⟩ = 0) :
    Calls Try.prog 32 #[vV ⟨5, n, t, s⟩ A c] w (VPost ⟨5, n, t, s⟩ w) := by
  have Hr := Lib.hid (fun W (h : Old w W) => rright_any ⟨5, n, t, s⟩ A c W (hr.old h) hs)
  have Hv : ∀ l A c W, l = valB ⟨5, n, t, s⟩ → BRow W w.heap.size l A c → Old w W → VPost ⟨5, n, t, s⟩ w (.returned (.tuple #[.slice A l.length c, .int .i64 0])) W := fun l A c W e hb ho => .inl ⟨hz, l, A, c, e, rfl, hb, ho⟩
  have HV := Lib.hid Hv
  unfold RPost at Hr
  rw [hz] at Hr
  have Hz := Lib.hid hz
  have hrd := hr
  clear hr Hv hz hs
  unfold vV at *
  go_enter Try.func32, Try.ntmps32
  go_wp2_with fail
  refine (Hr.out _ ((Kp.refl _ _).alloc _)).mono ?_
  rintro e w1 ⟨rfl, ho1⟩
  have hb := (Blk.new w 25 #[.int .i64 5, .int .i64 n, .string t, .slice A s.length c]).old ho1
  have hc0 := hb.at_ 0 rfl
  have hc3 := hb.at_ 3 rfl
  have hlt := hb.lt
  have Ho := Lib.hid (((Kp.refl NoX w).alloc (.cells #[.int .i64 5, .int .i64 n, .string t, .slice A s.length c] 25)).old ho1)
  have Hb := Lib.hid hb
  have Hb1 := Lib.hid hlt
  clear hb ho1
  have HB := Lib.hid (BRow.new w1 [5] (by decide))
  obtain ⟨_, hlong, hmany⟩ := rightE_formed Hz.out
  have Hlong := Lib.hid (long_none hlong).2
  have Hmany := Lib.hid hmany
  clear hlong hmany
  have Hrd := Lib.hid hrd
  clear hrd
  go_wp2_with fail
  refine (rnum_any _ _ 2 (by decide)).mono ?_
  rintro e w2 ⟨B, rfl, hB, ho2⟩
  rw [nat_mod64 s.length (by have := Hmany.out; omega)] at hB
  have HB2 := Lib.hid (HB.out.old ho2)
  have HB3 := Lib.hid hB.rd
  have Ho2 := Lib.hid ho2
  have Hb2 := Lib.hid ((Hb.out.alloc (.cells (([5] : List UInt8).map bv).toArray 5)).old ho2)
  clear ho2 hB
  have hl8 := Lib.hid (be_length 2 s.length)
  go_wp2_with (at_builtin; refine Try.app_bytes (.tmp 49) (.tmp 53) HB2.out HB3.out (by rw [hl8.out]; decide) rfl rfl rfl (by rw [hl8.out]; rfl) ?_; intro l2 A2 c2 w3 e2 h2 hk2)
  have HI : Hid (Blk w3 w.heap.size 25 #[.int .i64 5, .int .i64 n, .string t, .slice A s.length c] ∧ BRow w3 w1.heap.size l2 A2 c2 ∧ Old w w3) :=
    Lib.hid ⟨Hb2.out.kp hk2 (fun h => by have : w1.heap.size ≤ w.heap.size := h; omega), h2, From.old ((Ho.out.alloc _).old Ho2.out) hk2 Ho.out.size⟩
  have Hl2 := Lib.hid (show l2 = be 1 5 ++ (be 2 s.length ++ lps (s.take 0)) by rw [e2.out]; simp [lps]; rfl)
  clear h2 hk2 e2 Hb2 Ho2 HB2 HB3 HB hc0 hc3 hlt Hb
  go_loopw [5, 6] (fun b i wr => ∃ (k : Nat) (l : List UInt8) (A3 : Option Addr) (c3 : Nat), k ≤ s.length ∧ i = .int .i64 k ∧ b = .slice A3 l.length c3 ∧ l = be 1 5 ++ (be 2 s.length ++ lps (s.take k)) ∧ Blk wr w.heap.size 25 #[.int .i64 5, .int .i64 n, .string t, .slice A s.length c] ∧ BRow wr w1.heap.size l A3 c3 ∧ Old w wr) (fun _ i _ => s.length - (intOf i).toNat)
  case atStart => exact ⟨0, l2, A2, c2, Nat.zero_le _, rfl, rfl, Hl2.out, HI.out⟩
  case round =>
    obtain ⟨k, l, A3, c3, hk, rfl, rfl, hl, hb, h3, ho⟩ := hrel
    have hc3 := hb.at_ 3 rfl
    have Hl := Lib.hid hl
    have Hb := Lib.hid hb
    have H3 := Lib.hid h3
    have Ho3 := Lib.hid ho
    clear hl hb h3 ho
    by_cases hlt : k < s.length
    · obtain ⟨b, o, rfl, hx⟩ := (Hrd.out.old Ho3.out).text (k := k) hlt
      have hxs := Hlong.out k hlt
      generalize hxx : s.getD k ByteArray.empty = x at hx hxs
      have Hx := Lib.hid hxx
      have Hxs := Lib.hid hxs
      clear hxx hxs
      have b5 : (k : Int) ≤ 64 := by have := Hmany.out; omega
      go_wp2_with fail
      refine (rname_any _ x (Nat.le_trans Hxs.out (by decide))).mono ?_
      rintro e w4 ⟨B4, d4, m, hm, rfl, hB4, ho4⟩
      have H4 := Lib.hid (H3.out.old ho4)
      have Hr4 := Lib.hid hB4.rd
      have Hb4 := Lib.hid (Hb.out.old ho4)
      have Ho4 := Lib.hid (Ho3.out.old ho4)
      have Hm := Lib.hid hm
      have hlm := Lib.hid (show l.length + m.length ≤ 10000000000000 by
        have h1 := Hxs.out
        have h2 := Hmany.out
        have h3 : (lps (s.take k)).length ≤ k * 65537 := lps_length_le s (fun j hj => Nat.le_trans (Hlong.out j hj) (by decide)) k (by omega)
        rw [Hl.out, hm, lp_length, sb_length, List.length_append, List.length_append, be_length, be_length]
        omega)
      clear ho4 hB4 hm
      go_wp2_with (at_builtin; refine Try.app_bytes (.tmp 62) (.tmp 68) H4.out Hr4.out hlm.out rfl rfl rfl rfl ?_; intro l5 A5 c5 w5 e5 h5 hk5)
      go_roundw
      case rel =>
        refine ⟨k + 1, l5, A5, c5, by omega, by go_num, rfl, ?_, Hb4.out.kp hk5 (fun h => by have h' : w1.heap.size ≤ w.heap.size := h; have := Hb1.out; omega), h5, From.old Ho4.out hk5 Ho.out.size⟩
        rw [e5.out, Hl.out, Hm.out, lps_take_succ s k hlt, Hx.out]
        simp
      case measure => simp [intOf]; omega
    · obtain rfl : k = s.length := by omega
      go_wp2
      go_ret2
      refine HV.out l A3 c3 _ ?_ (H3.out.low Ho.out.size) Ho3.out
      rw [Hl.out, List.take_length]
      simp [valB, textsB]
theorem rvalue_any (v : Val) (A : Option Addr) (c : Nat) (w : World) (hr : Rd w 1 A v.s.length (v.s.map sv)) (hs : v.s.length ≤ 1000000000000) :
    Calls Try.prog 32 #[vV v A c] w (VPost v w) := by
  by_cases hz : rightE v = 0
  · have hk := right_kind hz
    obtain ⟨k, n, t, s⟩ := v
    simp only at hk hr hs
    have hk : k = 0 ∨ k = 1 ∨ k = 2 ∨ k = 3 ∨ k = 4 ∨ k = 5 := by omega
    rcases hk with rfl | rfl | rfl | rfl | rfl | rfl
    · exact rvalue_0 n t s A c w hr hs hz
    · exact rvalue_1 n t s A c w hr hs hz
    · exact rvalue_2 n t s A c w hr hs hz
    · exact rvalue_3 n t s A c w hr hs hz
    · exact rvalue_4 n t s A c w hr hs hz
    · exact rvalue_5 n t s A c w hr hs hz
  · exact rvalue_bad v A c w hr hs hz
end Go.Proofs.Ytnaolhjbapgjgaa

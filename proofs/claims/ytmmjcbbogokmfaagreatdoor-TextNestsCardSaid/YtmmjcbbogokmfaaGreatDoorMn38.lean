import Derived.Test.YtmmjcbbogokmfaaGreatDoorMn37
/- Contract of the machine's finished. -/
namespace Go.Proofs.YtmmjcbbogokmfaaGreatDoor
open Go.RowKit

/-- the shortest end is told -/
def FinP (w : World) (R : List UInt8) (e : Ending) (w' : World) : Prop := ∃ p, e = .returned (.pointer p) ∧ Rp w' p R ∧ Old w w' ∧ R.length ≤ 100000000
set_option maxRecDepth 100000 in
set_option maxHeartbeats 1600000 in
theorem fin_rest (w : World) (hg : Sg w) (g : Nat) (r : Option Nat) (src : ByteArray) (m : Mc) (A : Option Addr) (c : Nat) (h : Mac w g r src m A c) (hp : Pos m.stack) (hl : m.stack.length ≤ 1000000) (hf : ¬ (1 ≤ m.fin ∧ m.fin ≤ 7)) :
    Calls Tryz.prog 79 #[.pointer (some ⟨g, 0, none⟩)] w (FinP w (restN m.stack).2) := by
  have HR := Lib.hid (rest_any w hg g r src m A c h hp (by omega))
  have hc3 := h.c3
  have Hlen := Lib.hid ((rest_len m.stack).2)
  have hfo := Tryz.endsOther
  have b1 : ((m.fin : Int) == 1) = false := beq_eq_false_iff_ne.2 (by omega)
  have b2 : ((m.fin : Int) == 2) = false := beq_eq_false_iff_ne.2 (by omega)
  have b3 : ((m.fin : Int) == 3) = false := beq_eq_false_iff_ne.2 (by omega)
  have b4 : ((m.fin : Int) == 4) = false := beq_eq_false_iff_ne.2 (by omega)
  have b5 : ((m.fin : Int) == 5) = false := beq_eq_false_iff_ne.2 (by omega)
  have b6 : ((m.fin : Int) == 6) = false := beq_eq_false_iff_ne.2 (by omega)
  have b7 : ((m.fin : Int) == 7) = false := beq_eq_false_iff_ne.2 (by omega)
  clear h hg hp hf
  generalize m.fin = q at *
  generalize restN m.stack = rs at *
  obtain ⟨x, y⟩ := rs
  simp only at HR Hlen
  go_enter Tryz.func79, Tryz.ntmps79
  go_wp2_with (go_at_call 141; refine HR.out.mono ?_; rintro e w2 ⟨a, b, he, hx, hy, ho⟩; obtain rfl : e = .returned (.agg #[.pointer a, .pointer b]) := he; have HY := Lib.hid hy; have HO2 := Lib.hid ho; clear hx hy ho)
  go_ret
  exact ⟨b, rfl, HY.out, HO2.out, by have := Hlen.out; omega⟩
set_option maxRecDepth 100000 in
set_option maxHeartbeats 1600000 in
theorem fin_word (w : World) (hg : Sg w) (g : Nat) (r : Option Nat) (src : ByteArray) (m : Mc) (A : Option Addr) (c : Nat) (h : Mac w g r src m A c) (hp : Pos m.stack) (hl : m.stack.length ≤ 1000000) (hf : m.fin = 2) (hfr : m.from_ < src.size) :
    Calls Tryz.prog 79 #[.pointer (some ⟨g, 0, none⟩)] w (FinP w (wordEnd m.stack ((sb src).drop m.from_))) := by
  have HR := Lib.hid (worded_end w hg g r src m A c h hp hl hfr)
  have hc3 : w.cell? ⟨g, 3, none⟩ = some (.int .u8 2) := by rw [h.c3, hf]; rfl
  clear h hg hp hf
  generalize wordEnd m.stack ((sb src).drop m.from_) = R at *
  go_enter Tryz.func79, Tryz.ntmps79
  go_wp2_with (go_at_call 143; refine HR.out.mono ?_; rintro e w2 ⟨p, rfl, hq, ho, hlen⟩; have HQ := Lib.hid hq; have HO2 := Lib.hid ho; clear hq ho)
  go_ret
  exact ⟨p, rfl, HQ.out, HO2.out, by omega⟩
set_option maxRecDepth 100000 in
set_option maxHeartbeats 1600000 in
theorem fin_comment (w : World) (hg : Sg w) (g : Nat) (r : Option Nat) (src : ByteArray) (m : Mc) (A : Option Addr) (c : Nat) (h : Mac w g r src m A c) (hp : Pos m.stack) (hl : m.stack.length ≤ 1000000) (hf : m.fin = 1) :
    Calls Tryz.prog 79 #[.pointer (some ⟨g, 0, none⟩)] w (FinP w (if (restN m.stack).2 = [] then [] else 10 :: (restN m.stack).2)) := by
  have HR := Lib.hid (rest_any w hg g r src m A c h hp (by omega))
  have hc3 : w.cell? ⟨g, 3, none⟩ = some (.int .u8 1) := by rw [h.c3, hf]; rfl
  have Hlen := Lib.hid ((rest_len m.stack).2)
  have hfo := Tryz.endsOther
  clear h hg hp hf
  generalize restN m.stack = rs at *
  obtain ⟨x, y⟩ := rs
  simp only at HR Hlen ⊢
  by_cases hy : y = []
  · subst hy
    have Hy2 := Lib.hid (show (if ([] : List UInt8) = [] then [] else 10 :: []) = ([] : List UInt8) from rfl)
    rw [Hy2.out]
    go_enter Tryz.func79, Tryz.ntmps79
    go_wp2_with (go_at_call 141; refine HR.out.mono ?_; rintro e w2 ⟨a, b, he, hx, hy, ho⟩; obtain rfl : e = .returned (.agg #[.pointer a, .pointer b]) := he; obtain rfl : b = none := hy.nil_iff.2 rfl; have HO2 := Lib.hid ho; clear hx hy ho)
    go_ret
    exact ⟨none, rfl, .nil, HO2.out, by decide⟩
  · rw [if_neg hy]
    have Hy := Lib.hid hy
    clear hy
    go_enter Tryz.func79, Tryz.ntmps79
    go_wp2_with (first | (go_at_call 141; refine HR.out.mono ?_; rintro e w2 ⟨a, b, he, hx, hy, ho⟩; obtain rfl : e = .returned (.agg #[.pointer a, .pointer b]) := he; obtain ⟨pb, rfl⟩ : ∃ pb, b = some pb := Option.ne_none_iff_exists'.1 (fun e => Hy.out (hy.nil_iff.1 e)); have HY := Lib.hid hy; have HO2 := Lib.hid ho; clear hx hy ho) | (go_at_call 142; refine (rbehind_any _ _ y HY.out ⟨#[10]⟩ (by show 1 + y.length ≤ _; have := Hlen.out; omega)).mono ?_; rintro e w3 ⟨q, rfl, hq, ho⟩; have HQ := Lib.hid hq; have HO3 := Lib.hid (HO2.out.old ho); clear hq ho))
    go_ret
    exact ⟨q, rfl, HQ.out, HO3.out, by rw [List.length_cons]; have := Hlen.out; omega⟩
set_option maxRecDepth 100000 in
set_option maxHeartbeats 1600000 in
theorem fin_text4 (w : World) (hg : Sg w) (g : Nat) (r : Option Nat) (src : ByteArray) (m : Mc) (A : Option Addr) (c : Nat) (h : Mac w g r src m A c) (hp : Pos m.stack) (hl : m.stack.length ≤ 1000000) (hf : m.fin = 4) (hmay : mayN 3 m.stack = true) :
    Calls Tryz.prog 79 #[.pointer (some ⟨g, 0, none⟩)] w (FinP w (34:: (restN (withN 3 m.stack)).2)) := by
  obtain ⟨n, hn, hT, hlen⟩ := with_ready 3 (by decide) m.stack h.sym hmay
  have HW := Lib.hid (with_any w g r src m A c h 3 n _ (by decide) hT (by omega))
  have Hpos := Lib.hid (hT.pos (by decide) hp)
  have hrl := (rest_len (withN 3 m.stack)).2
  have hc3 : w.cell? ⟨g, 3, none⟩ = some (.int .u8 4) := by rw [h.c3, hf]; rfl
  generalize withN 3 m.stack = k at *
  have HR := Lib.hid (fun W (hW : Old w W) g' r' A' c' (hMac : Mac W g' r' ⟨#[]⟩ ⟨0, k, 0, 0⟩ A' c') => rest_any W (hg.old hW) g' r' _ _ A' c' hMac Hpos.out (by show k.length ≤ _; omega))
  generalize restN k = rs at *
  have Hlen := Lib.hid (show rs.2.length ≤ 20000000 by omega)
  obtain ⟨x, y⟩ := rs
  simp only at HR Hlen hrl ⊢
  have hfo := Tryz.endsOther
  clear hrl h hg hT hlen hn hp hl hf hmay
  go_enter Tryz.func79, Tryz.ntmps79
  go_wp2_with (first | (go_at_call 144; refine HW.out.mono ?_; rintro e w1 ⟨g', r', A', c', rfl, hMac, hO1⟩; have HMac := Lib.hid hMac; have HO1 := Lib.hid hO1; clear hMac hO1) | (go_at_call 141; refine (HR.out _ HO1.out _ _ _ _ HMac.out).mono ?_; rintro e w2 ⟨a, b, he, hx, hy, ho⟩; obtain rfl : e = .returned (.agg #[.pointer a, .pointer b]) := he; have HY := Lib.hid hy; have HO2 := Lib.hid (HO1.out.old ho); clear hx hy ho) | (go_at_call 142; refine (rbehind_any _ _ y HY.out ⟨#[34]⟩ (by show 1 + y.length ≤ _; have := Hlen.out; omega)).mono ?_; rintro e w3 ⟨q, rfl, hq, ho⟩; have HQ := Lib.hid hq; have HO3 := Lib.hid (HO2.out.old ho); clear hq ho))
  go_ret
  exact ⟨q, rfl, HQ.out, HO3.out, by have := Hlen.out; simp only [List.length_cons]; omega⟩
set_option maxRecDepth 100000 in
set_option maxHeartbeats 1600000 in
theorem fin_text5 (w : World) (hg : Sg w) (g : Nat) (r : Option Nat) (src : ByteArray) (m : Mc) (A : Option Addr) (c : Nat) (h : Mac w g r src m A c) (hp : Pos m.stack) (hl : m.stack.length ≤ 1000000) (hf : m.fin = 5) (hmay : mayN 3 m.stack = true) :
    Calls Tryz.prog 79 #[.pointer (some ⟨g, 0, none⟩)] w (FinP w (34::34:: (restN (withN 3 m.stack)).2)) := by
  obtain ⟨n, hn, hT, hlen⟩ := with_ready 3 (by decide) m.stack h.sym hmay
  have HW := Lib.hid (with_any w g r src m A c h 3 n _ (by decide) hT (by omega))
  have Hpos := Lib.hid (hT.pos (by decide) hp)
  have hrl := (rest_len (withN 3 m.stack)).2
  have hc3 : w.cell? ⟨g, 3, none⟩ = some (.int .u8 5) := by rw [h.c3, hf]; rfl
  generalize withN 3 m.stack = k at *
  have HR := Lib.hid (fun W (hW : Old w W) g' r' A' c' (hMac : Mac W g' r' ⟨#[]⟩ ⟨0, k, 0, 0⟩ A' c') => rest_any W (hg.old hW) g' r' _ _ A' c' hMac Hpos.out (by show k.length ≤ _; omega))
  generalize restN k = rs at *
  have Hlen := Lib.hid (show rs.2.length ≤ 20000000 by omega)
  obtain ⟨x, y⟩ := rs
  simp only at HR Hlen hrl ⊢
  have hfo := Tryz.endsOther
  clear hrl h hg hT hlen hn hp hl hf hmay
  go_enter Tryz.func79, Tryz.ntmps79
  go_wp2_with (first | (go_at_call 144; refine HW.out.mono ?_; rintro e w1 ⟨g', r', A', c', rfl, hMac, hO1⟩; have HMac := Lib.hid hMac; have HO1 := Lib.hid hO1; clear hMac hO1) | (go_at_call 141; refine (HR.out _ HO1.out _ _ _ _ HMac.out).mono ?_; rintro e w2 ⟨a, b, he, hx, hy, ho⟩; obtain rfl : e = .returned (.agg #[.pointer a, .pointer b]) := he; have HY := Lib.hid hy; have HO2 := Lib.hid (HO1.out.old ho); clear hx hy ho) | (go_at_call 142; refine (rbehind_any _ _ y HY.out ⟨#[34,34]⟩ (by show 2 + y.length ≤ _; have := Hlen.out; omega)).mono ?_; rintro e w3 ⟨q, rfl, hq, ho⟩; have HQ := Lib.hid hq; have HO3 := Lib.hid (HO2.out.old ho); clear hq ho))
  go_ret
  exact ⟨q, rfl, HQ.out, HO3.out, by have := Hlen.out; simp only [List.length_cons]; omega⟩
set_option maxRecDepth 100000 in
set_option maxHeartbeats 1600000 in
theorem fin_text6 (w : World) (hg : Sg w) (g : Nat) (r : Option Nat) (src : ByteArray) (m : Mc) (A : Option Addr) (c : Nat) (h : Mac w g r src m A c) (hp : Pos m.stack) (hl : m.stack.length ≤ 1000000) (hf : m.fin = 6) (hmay : mayN 3 m.stack = true) :
    Calls Tryz.prog 79 #[.pointer (some ⟨g, 0, none⟩)] w (FinP w (48::48::34:: (restN (withN 3 m.stack)).2)) := by
  obtain ⟨n, hn, hT, hlen⟩ := with_ready 3 (by decide) m.stack h.sym hmay
  have HW := Lib.hid (with_any w g r src m A c h 3 n _ (by decide) hT (by omega))
  have Hpos := Lib.hid (hT.pos (by decide) hp)
  have hrl := (rest_len (withN 3 m.stack)).2
  have hc3 : w.cell? ⟨g, 3, none⟩ = some (.int .u8 6) := by rw [h.c3, hf]; rfl
  generalize withN 3 m.stack = k at *
  have HR := Lib.hid (fun W (hW : Old w W) g' r' A' c' (hMac : Mac W g' r' ⟨#[]⟩ ⟨0, k, 0, 0⟩ A' c') => rest_any W (hg.old hW) g' r' _ _ A' c' hMac Hpos.out (by show k.length ≤ _; omega))
  generalize restN k = rs at *
  have Hlen := Lib.hid (show rs.2.length ≤ 20000000 by omega)
  obtain ⟨x, y⟩ := rs
  simp only at HR Hlen hrl ⊢
  have hfo := Tryz.endsOther
  clear hrl h hg hT hlen hn hp hl hf hmay
  go_enter Tryz.func79, Tryz.ntmps79
  go_wp2_with (first | (go_at_call 144; refine HW.out.mono ?_; rintro e w1 ⟨g', r', A', c', rfl, hMac, hO1⟩; have HMac := Lib.hid hMac; have HO1 := Lib.hid hO1; clear hMac hO1) | (go_at_call 141; refine (HR.out _ HO1.out _ _ _ _ HMac.out).mono ?_; rintro e w2 ⟨a, b, he, hx, hy, ho⟩; obtain rfl : e = .returned (.agg #[.pointer a, .pointer b]) := he; have HY := Lib.hid hy; have HO2 := Lib.hid (HO1.out.old ho); clear hx hy ho) | (go_at_call 142; refine (rbehind_any _ _ y HY.out ⟨#[48,48,34]⟩ (by show 3 + y.length ≤ _; have := Hlen.out; omega)).mono ?_; rintro e w3 ⟨q, rfl, hq, ho⟩; have HQ := Lib.hid hq; have HO3 := Lib.hid (HO2.out.old ho); clear hq ho))
  go_ret
  exact ⟨q, rfl, HQ.out, HO3.out, by have := Hlen.out; simp only [List.length_cons]; omega⟩
set_option maxRecDepth 100000 in
set_option maxHeartbeats 1600000 in
theorem fin_text7 (w : World) (hg : Sg w) (g : Nat) (r : Option Nat) (src : ByteArray) (m : Mc) (A : Option Addr) (c : Nat) (h : Mac w g r src m A c) (hp : Pos m.stack) (hl : m.stack.length ≤ 1000000) (hf : m.fin = 7) (hmay : mayN 3 m.stack = true) :
    Calls Tryz.prog 79 #[.pointer (some ⟨g, 0, none⟩)] w (FinP w (48::34:: (restN (withN 3 m.stack)).2)) := by
  obtain ⟨n, hn, hT, hlen⟩ := with_ready 3 (by decide) m.stack h.sym hmay
  have HW := Lib.hid (with_any w g r src m A c h 3 n _ (by decide) hT (by omega))
  have Hpos := Lib.hid (hT.pos (by decide) hp)
  have hrl := (rest_len (withN 3 m.stack)).2
  have hc3 : w.cell? ⟨g, 3, none⟩ = some (.int .u8 7) := by rw [h.c3, hf]; rfl
  generalize withN 3 m.stack = k at *
  have HR := Lib.hid (fun W (hW : Old w W) g' r' A' c' (hMac : Mac W g' r' ⟨#[]⟩ ⟨0, k, 0, 0⟩ A' c') => rest_any W (hg.old hW) g' r' _ _ A' c' hMac Hpos.out (by show k.length ≤ _; omega))
  generalize restN k = rs at *
  have Hlen := Lib.hid (show rs.2.length ≤ 20000000 by omega)
  obtain ⟨x, y⟩ := rs
  simp only at HR Hlen hrl ⊢
  have hfo := Tryz.endsOther
  clear hrl h hg hT hlen hn hp hl hf hmay
  go_enter Tryz.func79, Tryz.ntmps79
  go_wp2_with (first | (go_at_call 144; refine HW.out.mono ?_; rintro e w1 ⟨g', r', A', c', rfl, hMac, hO1⟩; have HMac := Lib.hid hMac; have HO1 := Lib.hid hO1; clear hMac hO1) | (go_at_call 141; refine (HR.out _ HO1.out _ _ _ _ HMac.out).mono ?_; rintro e w2 ⟨a, b, he, hx, hy, ho⟩; obtain rfl : e = .returned (.agg #[.pointer a, .pointer b]) := he; have HY := Lib.hid hy; have HO2 := Lib.hid (HO1.out.old ho); clear hx hy ho) | (go_at_call 142; refine (rbehind_any _ _ y HY.out ⟨#[48,34]⟩ (by show 2 + y.length ≤ _; have := Hlen.out; omega)).mono ?_; rintro e w3 ⟨q, rfl, hq, ho⟩; have HQ := Lib.hid hq; have HO3 := Lib.hid (HO2.out.old ho); clear hq ho))
  go_ret
  exact ⟨q, rfl, HQ.out, HO3.out, by have := Hlen.out; simp only [List.length_cons]; omega⟩
end Go.Proofs.YtmmjcbbogokmfaaGreatDoor

/- Contract of the machine's finished: behind a sign's byte; any way. -/
namespace Go.Proofs.YtmmjcbbogokmfaaGreatDoor
open Go.RowKit

set_option maxRecDepth 100000 in
set_option maxHeartbeats 3200000 in
theorem fin_sign (w : World) (hg : Sg w) (g : Nat) (r : Option Nat) (src : ByteArray) (m : Mc) (A : Option Addr) (c : Nat) (h : Mac w g r src m A c) (hp : Pos m.stack) (hl : m.stack.length ≤ 1000000) (hf : m.fin = 3) (hfr : m.from_ ≤ src.size) (hs : src.size ≤ 1000000) (h1 : 1 ≤ signN ((sb src).drop m.from_ ++ [61])) (hmay : mayN (signN ((sb src).drop m.from_ ++ [61])) m.stack = true) :
    Calls Tryz.prog 79 #[.pointer (some ⟨g, 0, none⟩)] w (FinP w (61 :: (restN (withN (signN ((sb src).drop m.from_ ++ [61])) m.stack)).2)) := by
  have hwd : sb (src.extract m.from_ src.size) = (sb src).drop m.from_ := by
    rw [sb_extract, List.take_of_length_le (by rw [List.length_drop, sb_length]; exact Nat.le_refl _)]
  have hsz : (src.extract m.from_ src.size).size = src.size - m.from_ := by rw [← sb_length, hwd, List.length_drop, sb_length]
  have hlt := signN_lt ((sb src).drop m.from_ ++ [61])
  have hsg := fun W (hW : Old w W) => sign_any9 W (hg.old hW) (src.extract m.from_ src.size ++ ⟨#[61]⟩)
  rw [sb_append, hwd, show sb ⟨#[61]⟩ = [61] from rfl] at hsg
  have hadd := fun w => run_string_add_sum (P := Tryz.prog) w (src.extract m.from_ src.size) ⟨#[61]⟩ (by show _ + 1 ≤ _; omega)
  generalize src.extract m.from_ src.size ++ ⟨#[61]⟩ = sx at *
  generalize signN ((sb src).drop m.from_ ++ [61]) = t at *
  obtain ⟨n, hn, hT, hlen⟩ := with_ready t hlt m.stack h.sym hmay
  have HW := Lib.hid (fun W (hW : Old w W) => with_any W g r src m A c (h.old hW) t n _ hlt hT (by omega))
  have Hpos := Lib.hid (hT.pos h1 hp)
  have hrl := (rest_len (withN t m.stack)).2
  have hc3 : w.cell? ⟨g, 3, none⟩ = some (.int .u8 3) := by rw [h.c3, hf]; rfl
  have HC := Lib.hid (fun W (hW : Old w W) => And.intro (h.old hW).c0 (h.old hW).c4)
  generalize withN t m.stack = k at *
  have HR := Lib.hid (fun W (hW : Old w W) g' r' A' c' (hMac : Mac W g' r' ⟨#[]⟩ ⟨0, k, 0, 0⟩ A' c') => rest_any W (hg.old hW) g' r' _ _ A' c' hMac Hpos.out (by show k.length ≤ _; omega))
  generalize restN k = rs at *
  have Hlen := Lib.hid (show rs.2.length ≤ 20000000 by omega)
  obtain ⟨x, y⟩ := rs
  simp only at HR Hlen hrl ⊢
  have HS := Lib.hid hsg
  have a1 : (m.from_ : Int) ≤ (src.size : Int) := by omega
  have a2 : (0 : Int) ≤ (m.from_ : Int) := by omega
  have a3 : (m.from_ : Int).toNat = m.from_ := by omega
  have hfo := Tryz.endsOther
  have HD : Hid (Old w w.drew) := Lib.hid (Kp.refl NoX w).drew
  clear hrl h hg hT hlen hn hp hl hf hmay hsg h1 hlt hwd hsz
  unfold yv at *
  go_enter Tryz.func79, Tryz.ntmps79
  go_wp2
  refine region_tkn (S := fun W => Old w W) 17 rfl (by kernel_rfl) HD.out (fun hHeld => ?_)
  iterate 11 (refine' tOn rfl rfl (by kernel_rfl) (fun _ _ _ h => h) rfl hHeld (fun w' hSw => ?_) ?_; rotate_left; (have s0 := (HC.out _ hSw).1; have s1 := (HC.out _ hSw).2; clear hSw; go_simp <;> with_reducible rfl); simp only [Act.put, List.setIfInBounds_toArray, List.set_cons_zero, List.set_cons_succ])
  refine tCall rfl (by kernel_rfl) (by decide) (fun K hK => ?_)
  go_simp
  go_at_call 145
  refine (HS.out _ hHeld).mono ?_
  rintro e w1 ⟨rfl, rfl⟩
  go_simp
  refine hK.out _ _ hHeld (fun hHeld => ?_)
  clear hK K
  refine tCall rfl (by kernel_rfl) (by decide) (fun K hK => ?_)
  go_simp
  go_at_call 144
  refine (HW.out _ hHeld).mono ?_
  rintro e w2 ⟨g', r', A', c', rfl, hMac, hO1⟩
  go_simp
  refine hK.out _ _ (hHeld.old hO1) (fun hHeld => ?_)
  clear hK K
  refine tCall rfl (by kernel_rfl) (by decide) (fun K hK => ?_)
  go_simp
  go_at_call 141
  refine (HR.out _ hHeld _ _ _ _ hMac).mono ?_
  rintro e w3 ⟨a, b, he, hx, hy, ho⟩
  obtain rfl : e = .returned (.agg #[.pointer a, .pointer b]) := he
  go_simp
  refine hK.out _ _ (hHeld.old ho) (fun hHeld => ?_)
  clear hK K
  iterate 1 (refine' tOn rfl rfl (by kernel_rfl) (fun _ _ _ h => h) rfl hHeld (fun w' hSw => ?_) ?_; rotate_left; (clear hSw; go_simp <;> with_reducible rfl); simp only [Act.put, List.setIfInBounds_toArray, List.set_cons_zero, List.set_cons_succ])
  refine tCall rfl (by kernel_rfl) (by decide) (fun K hK => ?_)
  go_simp
  go_at_call 142
  refine (rbehind_any _ b y hy ⟨#[61]⟩ (by show 1 + y.length ≤ _; have := Hlen.out; omega)).mono ?_
  rintro e w4 ⟨q, rfl, hq, ho2⟩
  go_simp
  refine hK.out _ _ (hHeld.old ho2) (fun hHeld => ?_)
  clear hK K
  iterate 1 (refine' tOn rfl rfl (by kernel_rfl) (fun _ _ _ h => h) rfl hHeld (fun w' hSw => ?_) ?_; rotate_left; (clear hSw; go_simp <;> with_reducible rfl); simp only [Act.put, List.setIfInBounds_toArray, List.set_cons_zero, List.set_cons_succ])
  refine wpAnyH_done (by kernel_rfl) ?_ _
  have Hfin := Lib.hid (show FinP w (61 :: y) (.returned (.pointer q)) w4 from ⟨q, rfl, hq, hHeld, by have := Hlen.out; simp only [List.length_cons]; omega⟩)
  clear hq ho2 hHeld hx hy ho hMac hO1
  go_wp2
  go_ret
  exact Hfin.out
/-- how a beginning may end, so that it can be finished -/
structure FinOk (src : List UInt8) (m : Mc) : Prop where
  pos : Pos m.stack
  word : m.fin = 2 → m.from_ < src.length
  sgn : m.fin = 3 → m.from_ ≤ src.length ∧ 1 ≤ signN (src.drop m.from_ ++ [61]) ∧ mayN (signN (src.drop m.from_ ++ [61])) m.stack = true
  txt : 4 ≤ m.fin → m.fin ≤ 7 → mayN 3 m.stack = true
theorem finished_any (w : World) (hg : Sg w) (g : Nat) (r : Option Nat) (src : ByteArray) (m : Mc) (A : Option Addr) (c : Nat) (h : Mac w g r src m A c) (hl : m.stack.length ≤ 1000000) (hs : src.size ≤ 1000000) (hk : FinOk (sb src) m) :
    Calls Tryz.prog 79 #[.pointer (some ⟨g, 0, none⟩)] w (FinP w (finishedN (sb src) m)) := by
  obtain ⟨hp, hk2, hk3, hk4⟩ := hk
  rw [sb_length] at hk2 hk3
  unfold finishedN
  by_cases e1 : m.fin = 1
  · rw [if_pos e1]; exact fin_comment w hg g r src m A c h hp hl e1
  rw [if_neg e1]
  by_cases e2 : m.fin = 2
  · rw [if_pos e2]; exact fin_word w hg g r src m A c h hp hl e2 (hk2 e2)
  rw [if_neg e2]
  by_cases e3 : m.fin = 3
  · rw [if_pos e3]; exact fin_sign w hg g r src m A c h hp hl e3 (hk3 e3).1 hs (hk3 e3).2.1 (hk3 e3).2.2
  rw [if_neg e3]
  by_cases e4 : m.fin = 4
  · rw [if_pos e4]; exact fin_text4 w hg g r src m A c h hp hl e4 (hk4 (by omega) (by omega))
  rw [if_neg e4]
  by_cases e5 : m.fin = 5
  · rw [if_pos e5]; exact fin_text5 w hg g r src m A c h hp hl e5 (hk4 (by omega) (by omega))
  rw [if_neg e5]
  by_cases e6 : m.fin = 6
  · rw [if_pos e6]; exact fin_text6 w hg g r src m A c h hp hl e6 (hk4 (by omega) (by omega))
  rw [if_neg e6]
  by_cases e7 : m.fin = 7
  · rw [if_pos e7]; exact fin_text7 w hg g r src m A c h hp hl e7 (hk4 (by omega) (by omega))
  rw [if_neg e7]
  exact fin_rest w hg g r src m A c h hp hl (by omega)
end Go.Proofs.YtmmjcbbogokmfaaGreatDoor

/- What the machine ends in can be finished. -/
namespace Go.Proofs.YtmmjcbbogokmfaaGreatDoor
open Go.RowKit

theorem taken_pos {t : Nat} (ht : 1 ≤ t) {m m' : Mc} {k : Nat} (hp : Pos m.stack) (h : taken t m k = .ok m') : Pos m'.stack ∧ m'.fin = m.fin := by
  unfold taken at h
  split at h
  · rename_i s hs
    injection h with h
    obtain ⟨n, _, hT⟩ := takes_of hs
    rw [← h]
    exact ⟨hT.pos ht hp, rfl⟩
  · cases h
theorem namedN_pos (w : List UInt8) : 1 ≤ namedN w := by
  unfold namedN
  split
  · decide
  · split
    · decide
    · omega
theorem textGo_ends : ∀ (l : List UInt8) (k e j : Nat), 4 ≤ e → textGo l k e = .ends j → 4 ≤ j
  | [], k, e, j, he, h => by
    rw [textGo] at h
    injection h with h
    omega
  | c :: l, k, e, j, he, h => by
    rw [textGo] at h
    repeat' split at h
    all_goals first | (cases h; done) | exact textGo_ends l _ _ j (by omega) h | exact textGo_ends l _ _ j (by split <;> omega) h
theorem step_fin (src : List UInt8) {m m' : Mc} {c : UInt8} {l : List UInt8} (hd : src.drop m.at_ = c :: l) (hp : Pos m.stack) (hf : m.fin = 0) (h : stepN m (c :: l) = .ok m') : Pos m'.stack ∧ (m'.fin = 0 ∨ (src.length ≤ m'.at_ ∧ FinOk src m')) := by
  have hlen : src.length = m.at_ + (c :: l).length := by
    have := congrArg List.length hd
    rw [List.length_drop] at this
    rw [List.length_cons] at this ⊢
    omega
  rw [stepN] at h
  split at h
  · injection h with h
    rw [← h]
    exact ⟨hp, .inl hf⟩
  split at h
  · unfold commentN at h
    simp only at h
    injection h with h
    split at h
    · rw [← h]
      exact ⟨hp, .inr ⟨Nat.le_of_eq hlen, hp, fun e => absurd e (by decide : ¬ 1 = 2), fun e => absurd e (by decide : ¬ 1 = 3), fun e => absurd e (by decide : ¬ 4 ≤ 1)⟩⟩
    · rw [← h]
      exact ⟨hp, .inl hf⟩
  split at h
  · unfold textStep at h
    split at h
    · cases h
    · rename_i hm
      split at h
      · cases h
      · obtain ⟨h1, h2⟩ := taken_pos (m := { m with from_ := m.at_, fin := 0 }) (by decide) hp h
        exact ⟨h1, .inl h2⟩
      · rename_i e he
        have h4 := textGo_ends _ _ _ _ (by decide) he
        injection h with h
        rw [← h]
        exact ⟨hp, .inr ⟨Nat.le_of_eq hlen, hp, fun e' => by simp only at e'; omega, fun e' => by simp only at e'; omega, fun _ _ => by simpa using hm⟩⟩
  split at h
  · unfold wordStep at h
    simp only at h
    split at h
    · obtain ⟨h1, h2⟩ := taken_pos (m := { m with from_ := m.at_ }) (namedN_pos _) hp h
      exact ⟨h1, .inl (h2.trans hf)⟩
    · unfold spellN at h
      split at h
      · cases h
      · injection h with h
        rw [← h]
        exact ⟨hp, .inr ⟨Nat.le_of_eq hlen, hp, fun _ => by simp only; rw [hlen, List.length_cons]; omega, fun e' => absurd e' (by decide : ¬ 2 = 3), fun e' => absurd e' (by decide : ¬ 4 ≤ 2)⟩⟩
  · unfold signStep at h
    simp only at h
    split at h
    · rename_i hc
      split at h
      · rename_i hh
        obtain ⟨h1, h2⟩ := taken_pos (m := { m with from_ := m.at_ }) (Nat.one_le_iff_ne_zero.2 hh.1) hp h
        exact ⟨h1, .inl (h2.trans hf)⟩
      · obtain ⟨h1, h2⟩ := taken_pos (m := { m with from_ := m.at_ }) (Nat.one_le_iff_ne_zero.2 hc.1) hp h
        exact ⟨h1, .inl (h2.trans hf)⟩
    · split at h
      · cases h
      · rename_i hn
        rw [not_or] at hn
        have hmay : mayN (signN [c, 61]) m.stack = true := by simpa using hn.2
        split at h
        · rename_i hl
          injection h with h
          rw [← h]
          subst hl
          refine ⟨hp, .inr ⟨?_, hp, fun e' => absurd e' (by decide : ¬ 3 = 2), fun _ => ?_, fun e' => absurd e' (by decide : ¬ 4 ≤ 3)⟩⟩
          · simp only
            rw [hlen]
            exact Nat.le_refl _
          · simp only
            rw [hd]
            exact ⟨by rw [hlen]; omega, Nat.one_le_iff_ne_zero.2 hn.1, hmay⟩
        · split at h
          · cases h
          · obtain ⟨h1, h2⟩ := taken_pos (m := { m with from_ := m.at_ }) (Nat.one_le_iff_ne_zero.2 hn.1) hp h
            exact ⟨h1, .inl (h2.trans hf)⟩
theorem run_fin (src : List UInt8) : ∀ (f : Nat) (m m' : Mc), src.length + 1 ≤ f + m.at_ → Pos m.stack → (m.fin = 0 ∨ (src.length ≤ m.at_ ∧ FinOk src m)) → runN src f m = .ok m' → FinOk src m'
  | 0, m, m', hf, hp, hk, h => by
    rw [runN] at h
    injection h with h
    rw [← h]
    rcases hk with hk | hk
    · exact ⟨hp, fun e => by omega, fun e => by omega, fun e => by omega⟩
    · exact hk.2
  | f + 1, m, m', hf, hp, hk, h => by
    rw [runN] at h
    split at h
    · injection h with h
      rw [← h]
      rcases hk with hk | hk
      · exact ⟨hp, fun e => by omega, fun e => by omega, fun e => by omega⟩
      · exact hk.2
    · rename_i hlt
      have hk0 : m.fin = 0 := by
        rcases hk with hk | hk
        · exact hk
        · exact absurd hk.1 hlt
      obtain ⟨c, l, hd⟩ : ∃ c l, src.drop m.at_ = c :: l := by
        cases hd : src.drop m.at_ with
        | nil =>
          have := congrArg List.length hd
          rw [List.length_drop, List.length_nil] at this
          omega
        | cons c l => exact ⟨c, l, rfl⟩
      rw [hd] at h
      split at h
      · cases h
      · rename_i m1 hm1
        obtain ⟨h1, h2⟩ := step_fin src hd hp hk0 hm1
        have h3 := (stepN_on hm1).1
        exact run_fin src f m1 m' (by omega) h1 h2 h
theorem begun_fin {src : List UInt8} {m : Mc} (h : begunN src = .ok m) : FinOk src m := by
  refine run_fin src _ startM m ?_ (Pos.of _ (by decide)) (.inl rfl) h
  show src.length + 1 ≤ src.length + 1 + 0
  omega
theorem Takes.sym {t n : Nat} {l k : List Nat} (ht : t < 85) (h : Takes t n l k) : (∀ x ∈ l, x < 85) → ∀ x ∈ k, x < 85 := by
  induction h with
  | hit l => exact fun hp x hx => hp x (List.mem_cons_of_mem _ hx)
  | more n x l k _ _ ih =>
    intro hp
    refine ih (fun y hy => ?_)
    rcases List.mem_append.1 hy with hy | hy
    · exact ruleN_sym x t ht y hy
    · exact hp y (List.mem_cons_of_mem _ hy)
theorem taken_sym {t : Nat} (ht : t < 85) {m m' : Mc} {k : Nat} (hp : ∀ x ∈ m.stack, x < 85) (h : taken t m k = .ok m') : ∀ x ∈ m'.stack, x < 85 := by
  unfold taken at h
  split at h
  · rename_i s hs
    injection h with h
    obtain ⟨n, _, hT⟩ := takes_of hs
    rw [← h]
    exact hT.sym ht hp
  · cases h
theorem step_sym {m m' : Mc} {c : UInt8} {l : List UInt8} (hp : ∀ x ∈ m.stack, x < 85) (h : stepN m (c :: l) = .ok m') : ∀ x ∈ m'.stack, x < 85 := by
  rw [stepN] at h
  split at h
  · injection h with h
    rw [← h]
    exact hp
  split at h
  · unfold commentN at h
    simp only at h
    injection h with h
    split at h <;> (rw [← h]; exact hp)
  split at h
  · unfold textStep at h
    split at h
    · cases h
    · split at h
      · cases h
      · exact taken_sym (m := { m with from_ := m.at_, fin := 0 }) (by decide) hp h
      · injection h with h
        rw [← h]
        exact hp
  split at h
  · unfold wordStep at h
    simp only at h
    split at h
    · exact taken_sym (m := { m with from_ := m.at_ }) (Nat.lt_trans (namedN_lt _) (by decide)) hp h
    · unfold spellN at h
      split at h
      · cases h
      · injection h with h
        rw [← h]
        exact hp
  · unfold signStep at h
    simp only at h
    repeat' split at h
    all_goals first | (cases h; done) | exact taken_sym (m := { m with from_ := m.at_ }) (Nat.lt_trans (signN_lt _) (by decide)) hp h | (injection h with h; rw [← h]; exact hp)
theorem run_len (src : List UInt8) : ∀ (f : Nat) (m m' : Mc), (∀ n ∈ m.stack, n < 85) → m.stack.length ≤ 5 + 12 * m.at_ → m.at_ ≤ src.length → runN src f m = .ok m' → m'.stack.length ≤ 5 + 12 * src.length
  | 0, m, m', h5, hl, ha, h => by
    rw [runN] at h
    injection h with h
    rw [← h]
    omega
  | f + 1, m, m', h5, hl, ha, h => by
    rw [runN] at h
    split at h
    · injection h with h
      rw [← h]
      omega
    · rename_i hlt
      obtain ⟨c, l, hd⟩ : ∃ c l, src.drop m.at_ = c :: l := by
        cases hd : src.drop m.at_ with
        | nil =>
          have := congrArg List.length hd
          rw [List.length_drop, List.length_nil] at this
          omega
        | cons c l => exact ⟨c, l, rfl⟩
      rw [hd] at h
      split at h
      · cases h
      · rename_i m1 hm1
        have h3 := stepN_on hm1
        have h4 := stepN_len h5 hm1
        have h6 := congrArg List.length hd
        rw [List.length_drop] at h6
        exact run_len src f m1 m' (step_sym h5 hm1) (by omega) (by omega) h
theorem begun_len {src : List UInt8} {m : Mc} (h : begunN src = .ok m) : m.stack.length ≤ 5 + 12 * src.length :=
  run_len src _ startM m (by decide) (by decide) (Nat.zero_le _) h
end Go.Proofs.YtmmjcbbogokmfaaGreatDoor

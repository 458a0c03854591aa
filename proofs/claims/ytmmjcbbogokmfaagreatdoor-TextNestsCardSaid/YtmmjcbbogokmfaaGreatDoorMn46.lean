import Derived.Test.YtmmjcbbogokmfaaGreatDoorMn45
/- Contract of docketlaw9.TextNests. -/
namespace Go.Proofs.YtmmjcbbogokmfaaGreatDoor
open Go.RowKit

theorem cat_bytes (a : List UInt8) (s : ByteArray) : (⟨a.toArray⟩ : ByteArray) ++ s = ⟨(a ++ sb s).toArray⟩ := by
  apply ByteArray.ext
  show ((⟨a.toArray⟩ : ByteArray) ++ s).data = _
  rw [ByteArray.data_append]
  apply Array.toList_inj.1
  rw [Array.toList_append]
  rfl
theorem own_le {w : World} {base base2 : Nat} {T : TypeId} {v : Value} {n : Nat} {xs : List Value} (h : w.ownsRow base2 T 1 v n xs) (hb : base ≤ base2) : w.ownsRow base T 1 v n xs :=
  ⟨h.1, h.2.elim .inl (fun ⟨g, cap, cur, hv, hg, r⟩ => .inr ⟨g, cap, cur, hv, Nat.le_trans hb hg, r⟩)⟩
theorem reps_end (x : List UInt8) (j : Nat) : reps x j ++ x = reps x (j + 1) := by rw [reps_snoc]; rfl
set_option maxRecDepth 100000 in
set_option maxHeartbeats 25600000 in
theorem nests9_any (w : World) (hg : Sg w) (h8 : 8 ≤ w.heap.size) (a b c : Int) :
    Calls Tryz.prog 8 #[.int .i64 a, .int .i64 b, .int .i64 c] w fun e w' => e = .returned (.bool true) ∧ Old w w' := by
  obtain ⟨i0, hi, hz0, hz1, hz2⟩ := info_parts Tryz.infoB
  have Hg := Lib.hid hg
  have H8 := Lib.hid h8
  have HSg := Lib.hid (fun W (hO : Old w W) => (show Sg W ∧ 8 ≤ W.heap.size from ⟨hg.old hO, Nat.le_trans h8 hO.size⟩))
  have HKn := Lib.hid (fun W (hO : Old w W) => known_any W (hg.old hO) (Nat.le_trans h8 hO.size))
  clear hg h8
  go_enter Tryz.func8, Tryz.ntmps8
  go_wp2_with fail
  go_at_call 32
  refine (within_299 _ _).mono ?_
  rintro e w2 ⟨⟨n, hn, rfl⟩, rfl⟩
  go_wp2_with fail
  go_at_call 32
  refine (within_299 _ _).mono ?_
  rintro e w2 ⟨⟨m, hm, rfl⟩, rfl⟩
  go_wp2_with fail
  go_at_call 32
  refine (within_3 _ _).mono ?_
  rintro e w2 ⟨⟨k, hk, rfl⟩, rfl⟩
  have hk4 : k = 0 ∨ k = 1 ∨ k = 2 ∨ k = 3 := by omega
  clear hk
  have Hn := Lib.hid hn
  have Hm := Lib.hid hm
  clear hn hm
  rcases hk4 with rfl | rfl | rfl | rfl
  · go_wp2_with fail
    go_at_call 33
    refine (nested_any _ n m (by have := Hn.out; have := Hm.out; omega) (by have := Hn.out; have := Hm.out; omega) ⟨#[40]⟩ ⟨#[41]⟩ (by decide) (by decide) (by decide)).mono ?_
    rintro e w1 ⟨v, rfl, ho0, A, c, rfl, hown⟩
    have ho1 : Old w w1 := (((Kp.refl NoX w).alloc _).alloc _).trans ho0 (fun _ _ e => e)
    replace hown := own_le hown (((Kp.refl NoX w).alloc _).alloc _ : Old w _).size
    clear ho0
    by_cases hmn : m ≤ n
    · have Hmn := Lib.hid hmn
      have NY := Lib.hid (nestY0 n m (by have := Hn.out; omega) hmn)
      have HCat := Lib.hid (fun j => (show (⟨(reps (sb ⟨#[41]⟩) j).toArray⟩ : ByteArray) ++ ⟨#[41]⟩ = ⟨(reps (sb ⟨#[41]⟩) (j + 1)).toArray⟩ by rw [cat_bytes, reps_end]))
      have HEnd := Lib.hid (show (⟨(reps (sb ⟨#[41]⟩) (n - m)).toArray⟩ : ByteArray) ++ ⟨#[59, 125]⟩ = ⟨(reps (sb ⟨#[41]⟩) (n - m) ++ [59, 125]).toArray⟩ from cat_bytes _ _)
      have HOwn := Lib.hid hown
      have HO1 := Lib.hid ho1
      clear hown ho1 hmn
      generalize nestL ⟨#[40]⟩ ⟨#[41]⟩ n m = l at *
      generalize hE : reps (sb ⟨#[41]⟩) (n - m) ++ [59, 125] = E at *
      clear hE
      have J63 := Lib.hid (show l.length + E.length ≤ maxLen by have := NY.out.len2; rw [List.length_append] at this; unfold maxLen; omega)
      have J47 := Lib.hid (show (l.length + E.length) * 1 ≤ 140737488355328 by have := NY.out.len2; rw [List.length_append] at this; omega)
      have hmi : ¬ (n : Int) < (m : Int) := by have := Hmn.out; omega
      go_wp2_with (first | (go_at_call 26; refine (nest_par (HSg.out _ HO2.out).1 (HSg.out _ HO2.out).2 NY.out A c ((Rd.of_own HOwn.out).old O12.out)).mono ?_; rintro e w3 ⟨rfl, ho⟩; have HO3 := Lib.hid (HO2.out.trans ho (fun _ _ e => e)); have O13 := Lib.hid (O12.out.trans ho (fun _ _ e => e)); have O23 := Lib.hid ho; clear ho) | (go_at_call 27; refine (nest_fin (HSg.out _ HO1.out).1 (HSg.out _ HO1.out).2 NY.out A c (Rd.of_own HOwn.out)).mono ?_; rintro e w2 ⟨B, d, rfl, hx, ho⟩; have HX2 := Lib.hid hx; have HO2 := Lib.hid (HO1.out.trans ho (fun _ _ e => e)); have O12 := Lib.hid ho; clear hx ho) | fail)
      have HO4 := Lib.hid (HO3.out.alloc (.cells #[.string ⟨#[]⟩, .int .i64 0, .slice none 0 0, .slice none 0 0, .slice none 0 0, .slice none 0 0, .slice none 0 0, .slice none 0 0] 29))
      have O14 := Lib.hid (O13.out.alloc (.cells #[.string ⟨#[]⟩, .int .i64 0, .slice none 0 0, .slice none 0 0, .slice none 0 0, .slice none 0 0, .slice none 0 0, .slice none 0 0] 29))
      have O24 := Lib.hid (O23.out.alloc (.cells #[.string ⟨#[]⟩, .int .i64 0, .slice none 0 0, .slice none 0 0, .slice none 0 0, .slice none 0 0, .slice none 0 0, .slice none 0 0] 29))
      generalize w3.alloc (.cells #[.string ⟨#[]⟩, .int .i64 0, .slice none 0 0, .slice none 0 0, .slice none 0 0, .slice none 0 0, .slice none 0 0, .slice none 0 0] 29) = w4 at *
      clear HO3 O13 O23
      go_loopw [16, 17] (fun s i wr => ∃ j : Nat, j ≤ n - m ∧ s = .string ⟨(reps (sb ⟨#[41]⟩) j).toArray⟩ ∧ i = .int .i64 ((m : Int) + (j : Int)) ∧ wr = w4) (fun _ i _ => n - (intOf i).toNat)
      case atStart => exact ⟨0, Nat.zero_le _, rfl, by rw [show ((0 : Nat) : Int) = 0 from rfl, Int.add_zero], rfl⟩
      case round =>
        obtain ⟨j, hj, rfl, rfl, rfl⟩ := hrel
        by_cases hlt : j < n - m
        · have b3 : (m : Int) + (j : Int) < (n : Int) := by omega
          have b4 : IntKind.i64.wrap ((m : Int) + (j : Int) + 1) = (m : Int) + (j : Int) + 1 := IntWalk.i64_in _ (by have := Hn.out; omega)
          have b5 : RowKit.wrap64 ((m : Int) + (j : Int) + 1) = (m : Int) + (j : Int) + 1 := IntWalk.wrap64_in _ (by have := Hn.out; omega)
          have B5 := Lib.hid b5
          have hcat := HCat.out j
          have HR := Lib.hid (show Value.string ⟨(reps (sb ⟨#[41]⟩) (j + 1)).toArray⟩ = .string ⟨(reps (sb ⟨#[41]⟩) (j + 1)).toArray⟩ from rfl)
          have hz9 : ¬ 9223372036854775807 < (⟨(reps (sb ⟨#[41]⟩) j).toArray⟩ : ByteArray).size + 1 := by rw [← sb_length, sb_mk, reps_len]; show ¬ 9223372036854775807 < j * 1 + 1; have := Hn.out; omega
          generalize hs1 : (⟨(reps (sb ⟨#[41]⟩) (j + 1)).toArray⟩ : ByteArray) = s1 at *
          generalize (⟨(reps (sb ⟨#[41]⟩) j).toArray⟩ : ByteArray) = s0 at *
          have Hs1 := Lib.hid hs1
          clear hs1
          go_wp2_with fail
          exact ⟨⟨j + 1, by omega, by rw [Hs1.out], by rw [show ((j + 1 : Nat) : Int) = (j : Int) + 1 by omega, ← Int.add_assoc], by trivial⟩, by simp only [intOf]; first | omega | (rw [B5.out]; omega)⟩
        · obtain rfl : j = n - m := by omega
          have b3 : ¬ (m : Int) + ((n - m : Nat) : Int) < (n : Int) := by omega
          have hend := HEnd.out
          have hz9 : ¬ 9223372036854775807 < (⟨(reps (sb ⟨#[41]⟩) (n - m)).toArray⟩ : ByteArray).size + 2 := by rw [← sb_length, sb_mk, reps_len]; show ¬ 9223372036854775807 < (n - m) * 1 + 2; have := Hn.out; omega
          generalize (⟨(reps (sb ⟨#[41]⟩) (n - m)).toArray⟩ : ByteArray) = s0 at *
          have hcv := run_conv_bs (P := Tryz.prog) (w := wr) Tryz.underlying33 Tryz.underlying5 Tryz.underlying9 B E.length d E (HX2.out.old O24.out)
          have HO5 := Lib.hid HO4.out
          have hx2 := Lib.hid (HX2.out.old O24.out)
          have hown4 := Lib.hid (own_kp HOwn.out O14.out (fun _ _ e => e))
          have hll := Lib.hid (show l.map bv ++ E.map bv = (l ++ E).map bv from List.map_append.symm)
          have hone := Lib.hid (one_bytes E)
          clear HO4 O24 O14 HX2 HOwn
          go_wp2_with (first | (go_at_call 12; refine (HKn.out _ (HO7.out.alloc _)).mono ?_; rintro e w8 ⟨rfl, ho⟩; have HO8 := Lib.hid ((HO7.out.alloc _).trans ho (fun _ _ e => e)); clear ho) | (go_at_call 26; refine (nest_parok (HSg.out _ HO6.out).1 (HSg.out _ HO6.out).2 NY.out _ _ _ (Rd.of_own HOw6.out)).mono ?_; rintro e w7 ⟨nm, at_, aA, gA, pA, nA, oA, an, ac, gn, gc, mc, pn, pc, nc, on, oc, bb, oo, rfl, hc5, ho⟩; have HO7 := Lib.hid (HO6.out.trans ho (fun _ _ e => e)); have K5 := fun o => Lib.cell?_alloc_marked o hc5; clear hc5 ho) | (at_builtin; refine wpList_append_any _ rfl (.tmp 115) (.tmp 116) 33 rfl w.heap.size 5 i0 (.int .u8 0) 1 1 Tryz.underlying33 hi hz0 hz1 hz2 rfl (by decide) (.slice A l.length c) l.length (l.map bv) rfl hown4.out B E.length d (E.map bv) rfl hx2.out hone.out J63.out J47.out HO5.out.size ?_; intro A6 c6 w6 hown hgrow hat; rw [ownBlock_slice] at hgrow; rw [hll.out] at hown; have HOw6 := Lib.hid hown; have HO6 := Lib.hid (Kp.grown HO5.out hgrow (fun b e hb => by have := (own_ge hown4.out e).1; omega) : Old w w6); clear hown hgrow hat) | fail)
          go_ret
          exact ⟨rfl, HO8.out⟩
    · have Hmn := Lib.hid hmn
      have NX := Lib.hid (nestX0 n m (by have := Hm.out; omega) (by omega))
      have HN2 := Lib.hid (fun W => nested_any W n n (by have := Hn.out; omega) (by have := Hn.out; omega) ⟨#[40]⟩ ⟨#[41]⟩ (by decide) (by decide) (by decide))
      have HOwn := Lib.hid hown
      have HO1 := Lib.hid ho1
      have hmi : (n : Int) < (m : Int) := by omega
      clear hown ho1 hmn
      generalize nestL ⟨#[40]⟩ ⟨#[41]⟩ n m = l at *
      generalize nestL ⟨#[40]⟩ ⟨#[41]⟩ n n = l2 at *
      go_wp2_with (first | (go_at_call 12; refine (HKn.out _ HO5.out).mono ?_; rintro e w6 ⟨rfl, ho⟩; have HO6 := Lib.hid (HO5.out.trans ho (fun _ _ e => e)); clear ho) | (go_at_call 33; refine (HN2.out _).mono ?_; rintro e w5 ⟨v5, rfl, ho, A5, c5, rfl, _⟩; have HO5 := Lib.hid (HO4.out.trans ho (fun _ _ e => e)); clear ho) | (go_at_call 26; refine (nest_parx (HSg.out _ HO2.out).1 (HSg.out _ HO2.out).2 NX.out A c ((Rd.of_own HOwn.out).old O12.out)).mono ?_; rintro e w3 ⟨rfl, ho⟩; have HO4 := Lib.hid ((HO2.out.trans ho (fun _ _ e => e)).alloc (.cells #[.string ⟨#[]⟩, .int .i64 0, .slice none 0 0, .slice none 0 0, .slice none 0 0, .slice none 0 0, .slice none 0 0, .slice none 0 0] 29)); clear ho) | (go_at_call 27; refine (nest_fin0 (HSg.out _ HO1.out).1 (HSg.out _ HO1.out).2 NX.out A c (Rd.of_own HOwn.out)).mono ?_; rintro e w2 ⟨rfl, ho⟩; have HO2 := Lib.hid (HO1.out.trans ho (fun _ _ e => e)); have O12 := Lib.hid ho; clear ho) | fail)
      go_ret
      exact ⟨rfl, HO6.out⟩
  · go_wp2_with fail
    go_at_call 33
    refine (nested_any _ n m (by have := Hn.out; have := Hm.out; omega) (by have := Hn.out; have := Hm.out; omega) ⟨#[123]⟩ ⟨#[125]⟩ (by decide) (by decide) (by decide)).mono ?_
    rintro e w1 ⟨v, rfl, ho0, A, c, rfl, hown⟩
    have ho1 : Old w w1 := (((Kp.refl NoX w).alloc _).alloc _).trans ho0 (fun _ _ e => e)
    replace hown := own_le hown (((Kp.refl NoX w).alloc _).alloc _ : Old w _).size
    clear ho0
    by_cases hmn : m ≤ n
    · have Hmn := Lib.hid hmn
      have NY := Lib.hid (nestY1 n m (by have := Hn.out; omega) hmn)
      have HCat := Lib.hid (fun j => (show (⟨(reps (sb ⟨#[125]⟩) j).toArray⟩ : ByteArray) ++ ⟨#[125]⟩ = ⟨(reps (sb ⟨#[125]⟩) (j + 1)).toArray⟩ by rw [cat_bytes, reps_end]))
      have HEnd := Lib.hid (show (⟨(reps (sb ⟨#[125]⟩) (n - m)).toArray⟩ : ByteArray) ++ ⟨#[59, 125]⟩ = ⟨(reps (sb ⟨#[125]⟩) (n - m) ++ [59, 125]).toArray⟩ from cat_bytes _ _)
      have HOwn := Lib.hid hown
      have HO1 := Lib.hid ho1
      clear hown ho1 hmn
      generalize nestL ⟨#[123]⟩ ⟨#[125]⟩ n m = l at *
      generalize hE : reps (sb ⟨#[125]⟩) (n - m) ++ [59, 125] = E at *
      clear hE
      have g1 : IntKind.i64.wrap ((n : Int) + 1) = (n : Int) + 1 := IntWalk.i64_in _ (by have := Hn.out; omega)
      have J63 := Lib.hid (show l.length + E.length ≤ maxLen by have := NY.out.len2; rw [List.length_append] at this; unfold maxLen; omega)
      have J47 := Lib.hid (show (l.length + E.length) * 1 ≤ 140737488355328 by have := NY.out.len2; rw [List.length_append] at this; omega)
      have hmi : ¬ (n : Int) < (m : Int) := by have := Hmn.out; omega
      go_wp2_with (first | (go_at_call 26; refine (nest_par (HSg.out _ HO2.out).1 (HSg.out _ HO2.out).2 NY.out A c ((Rd.of_own HOwn.out).old O12.out)).mono ?_; rintro e w3 ⟨rfl, ho⟩; have HO3 := Lib.hid (HO2.out.trans ho (fun _ _ e => e)); have O13 := Lib.hid (O12.out.trans ho (fun _ _ e => e)); have O23 := Lib.hid ho; clear ho) | (go_at_call 27; refine (nest_fin (HSg.out _ HO1.out).1 (HSg.out _ HO1.out).2 NY.out A c (Rd.of_own HOwn.out)).mono ?_; rintro e w2 ⟨B, d, rfl, hx, ho⟩; have HX2 := Lib.hid hx; have HO2 := Lib.hid (HO1.out.trans ho (fun _ _ e => e)); have O12 := Lib.hid ho; clear hx ho) | fail)
      have HO4 := Lib.hid (HO3.out.alloc (.cells #[.string ⟨#[]⟩, .int .i64 0, .slice none 0 0, .slice none 0 0, .slice none 0 0, .slice none 0 0, .slice none 0 0, .slice none 0 0] 29))
      have O14 := Lib.hid (O13.out.alloc (.cells #[.string ⟨#[]⟩, .int .i64 0, .slice none 0 0, .slice none 0 0, .slice none 0 0, .slice none 0 0, .slice none 0 0, .slice none 0 0] 29))
      have O24 := Lib.hid (O23.out.alloc (.cells #[.string ⟨#[]⟩, .int .i64 0, .slice none 0 0, .slice none 0 0, .slice none 0 0, .slice none 0 0, .slice none 0 0, .slice none 0 0] 29))
      generalize w3.alloc (.cells #[.string ⟨#[]⟩, .int .i64 0, .slice none 0 0, .slice none 0 0, .slice none 0 0, .slice none 0 0, .slice none 0 0, .slice none 0 0] 29) = w4 at *
      clear HO3 O13 O23
      go_loopw [16, 17] (fun s i wr => ∃ j : Nat, j ≤ n - m ∧ s = .string ⟨(reps (sb ⟨#[125]⟩) j).toArray⟩ ∧ i = .int .i64 ((m : Int) + (j : Int)) ∧ wr = w4) (fun _ i _ => n - (intOf i).toNat)
      case atStart => exact ⟨0, Nat.zero_le _, rfl, by rw [show ((0 : Nat) : Int) = 0 from rfl, Int.add_zero], rfl⟩
      case round =>
        obtain ⟨j, hj, rfl, rfl, rfl⟩ := hrel
        by_cases hlt : j < n - m
        · have b3 : (m : Int) + (j : Int) < (n : Int) := by omega
          have b4 : IntKind.i64.wrap ((m : Int) + (j : Int) + 1) = (m : Int) + (j : Int) + 1 := IntWalk.i64_in _ (by have := Hn.out; omega)
          have b5 : RowKit.wrap64 ((m : Int) + (j : Int) + 1) = (m : Int) + (j : Int) + 1 := IntWalk.wrap64_in _ (by have := Hn.out; omega)
          have B5 := Lib.hid b5
          have hcat := HCat.out j
          have HR := Lib.hid (show Value.string ⟨(reps (sb ⟨#[125]⟩) (j + 1)).toArray⟩ = .string ⟨(reps (sb ⟨#[125]⟩) (j + 1)).toArray⟩ from rfl)
          have hz9 : ¬ 9223372036854775807 < (⟨(reps (sb ⟨#[125]⟩) j).toArray⟩ : ByteArray).size + 1 := by rw [← sb_length, sb_mk, reps_len]; show ¬ 9223372036854775807 < j * 1 + 1; have := Hn.out; omega
          generalize hs1 : (⟨(reps (sb ⟨#[125]⟩) (j + 1)).toArray⟩ : ByteArray) = s1 at *
          generalize (⟨(reps (sb ⟨#[125]⟩) j).toArray⟩ : ByteArray) = s0 at *
          have Hs1 := Lib.hid hs1
          clear hs1
          go_wp2_with fail
          exact ⟨⟨j + 1, by omega, by rw [Hs1.out], by rw [show ((j + 1 : Nat) : Int) = (j : Int) + 1 by omega, ← Int.add_assoc], by trivial⟩, by simp only [intOf]; first | omega | (rw [B5.out]; omega)⟩
        · obtain rfl : j = n - m := by omega
          have b3 : ¬ (m : Int) + ((n - m : Nat) : Int) < (n : Int) := by omega
          have hend := HEnd.out
          have hz9 : ¬ 9223372036854775807 < (⟨(reps (sb ⟨#[125]⟩) (n - m)).toArray⟩ : ByteArray).size + 2 := by rw [← sb_length, sb_mk, reps_len]; show ¬ 9223372036854775807 < (n - m) * 1 + 2; have := Hn.out; omega
          generalize (⟨(reps (sb ⟨#[125]⟩) (n - m)).toArray⟩ : ByteArray) = s0 at *
          have hcv := run_conv_bs (P := Tryz.prog) (w := wr) Tryz.underlying33 Tryz.underlying5 Tryz.underlying9 B E.length d E (HX2.out.old O24.out)
          have HO5 := Lib.hid HO4.out
          have hx2 := Lib.hid (HX2.out.old O24.out)
          have hown4 := Lib.hid (own_kp HOwn.out O14.out (fun _ _ e => e))
          have hll := Lib.hid (show l.map bv ++ E.map bv = (l ++ E).map bv from List.map_append.symm)
          have hone := Lib.hid (one_bytes E)
          have b8 : (n : Int) ≤ 29900 := by have := Hn.out; omega
          clear HO4 O24 O14 HX2 HOwn
          go_wp2_with (first | (go_at_call 12; refine (HKn.out _ (HO7.out.alloc _)).mono ?_; rintro e w8 ⟨rfl, ho⟩; have HO8 := Lib.hid ((HO7.out.alloc _).trans ho (fun _ _ e => e)); clear ho) | (go_at_call 26; refine (nest_parok (HSg.out _ HO6.out).1 (HSg.out _ HO6.out).2 NY.out _ _ _ (Rd.of_own HOw6.out)).mono ?_; rintro e w7 ⟨nm, at_, aA, gA, pA, nA, oA, an, ac, gn, gc, mc, pn, pc, nc, on, oc, bb, oo, rfl, hc5, ho⟩; have HO7 := Lib.hid (HO6.out.trans ho (fun _ _ e => e)); have K5 := fun o => Lib.cell?_alloc_marked o hc5; clear hc5 ho) | (at_builtin; refine wpList_append_any _ rfl (.tmp 115) (.tmp 116) 33 rfl w.heap.size 5 i0 (.int .u8 0) 1 1 Tryz.underlying33 hi hz0 hz1 hz2 rfl (by decide) (.slice A l.length c) l.length (l.map bv) rfl hown4.out B E.length d (E.map bv) rfl hx2.out hone.out J63.out J47.out HO5.out.size ?_; intro A6 c6 w6 hown hgrow hat; rw [ownBlock_slice] at hgrow; rw [hll.out] at hown; have HOw6 := Lib.hid hown; have HO6 := Lib.hid (Kp.grown HO5.out hgrow (fun b e hb => by have := (own_ge hown4.out e).1; omega) : Old w w6); clear hown hgrow hat) | fail)
          go_ret
          exact ⟨rfl, HO8.out⟩
    · have Hmn := Lib.hid hmn
      have NX := Lib.hid (nestX1 n m (by have := Hm.out; omega) (by omega))
      have HN2 := Lib.hid (fun W => nested_any W n n (by have := Hn.out; omega) (by have := Hn.out; omega) ⟨#[123]⟩ ⟨#[125]⟩ (by decide) (by decide) (by decide))
      have HOwn := Lib.hid hown
      have HO1 := Lib.hid ho1
      have hmi : (n : Int) < (m : Int) := by omega
      clear hown ho1 hmn
      generalize nestL ⟨#[123]⟩ ⟨#[125]⟩ n m = l at *
      generalize nestL ⟨#[123]⟩ ⟨#[125]⟩ n n = l2 at *
      go_wp2_with (first | (go_at_call 12; refine (HKn.out _ HO5.out).mono ?_; rintro e w6 ⟨rfl, ho⟩; have HO6 := Lib.hid (HO5.out.trans ho (fun _ _ e => e)); clear ho) | (go_at_call 33; refine (HN2.out _).mono ?_; rintro e w5 ⟨v5, rfl, ho, A5, c5, rfl, _⟩; have HO5 := Lib.hid (HO4.out.trans ho (fun _ _ e => e)); clear ho) | (go_at_call 26; refine (nest_parx (HSg.out _ HO2.out).1 (HSg.out _ HO2.out).2 NX.out A c ((Rd.of_own HOwn.out).old O12.out)).mono ?_; rintro e w3 ⟨rfl, ho⟩; have HO4 := Lib.hid ((HO2.out.trans ho (fun _ _ e => e)).alloc (.cells #[.string ⟨#[]⟩, .int .i64 0, .slice none 0 0, .slice none 0 0, .slice none 0 0, .slice none 0 0, .slice none 0 0, .slice none 0 0] 29)); clear ho) | (go_at_call 27; refine (nest_fin0 (HSg.out _ HO1.out).1 (HSg.out _ HO1.out).2 NX.out A c (Rd.of_own HOwn.out)).mono ?_; rintro e w2 ⟨rfl, ho⟩; have HO2 := Lib.hid (HO1.out.trans ho (fun _ _ e => e)); have O12 := Lib.hid ho; clear ho) | fail)
      go_ret
      exact ⟨rfl, HO6.out⟩
  · go_wp2_with fail
    go_at_call 33
    refine (nested_any _ n n (by have := Hn.out; omega) (by have := Hn.out; omega) ⟨#[45]⟩ ⟨#[]⟩ (by decide) (by decide) (by decide)).mono ?_
    rintro e w1 ⟨v, rfl, ho0, A, c, rfl, hown⟩
    have ho1 : Old w w1 := (((Kp.refl NoX w).alloc _).alloc _).trans ho0 (fun _ _ e => e)
    replace hown := own_le hown (((Kp.refl NoX w).alloc _).alloc _ : Old w _).size
    clear ho0
    have NY := Lib.hid (nestY2 n (by have := Hn.out; omega))
    have HCat := Lib.hid (fun j => (show (⟨(reps (sb ⟨#[]⟩) j).toArray⟩ : ByteArray) ++ ⟨#[]⟩ = ⟨(reps (sb ⟨#[]⟩) (j + 1)).toArray⟩ by rw [cat_bytes, reps_end]))
    have HEnd := Lib.hid (show (⟨(reps (sb ⟨#[]⟩) (n - n)).toArray⟩ : ByteArray) ++ ⟨#[59, 125]⟩ = ⟨(reps (sb ⟨#[]⟩) (n - n) ++ [59, 125]).toArray⟩ from cat_bytes _ _)
    have HOwn := Lib.hid hown
    have HO1 := Lib.hid ho1
    clear hown ho1
    generalize nestL ⟨#[45]⟩ ⟨#[]⟩ n n = l at *
    generalize hE : reps (sb ⟨#[]⟩) (n - n) ++ [59, 125] = E at *
    clear hE
    have g1 : IntKind.i64.wrap ((n : Int) + 1) = (n : Int) + 1 := IntWalk.i64_in _ (by have := Hn.out; omega)
    have J63 := Lib.hid (show l.length + E.length ≤ maxLen by have := NY.out.len2; rw [List.length_append] at this; unfold maxLen; omega)
    have J47 := Lib.hid (show (l.length + E.length) * 1 ≤ 140737488355328 by have := NY.out.len2; rw [List.length_append] at this; omega)
    have hmi : ¬ (n : Int) < (n : Int) := by omega
    go_wp2_with (first | (go_at_call 26; refine (nest_par (HSg.out _ HO2.out).1 (HSg.out _ HO2.out).2 NY.out A c ((Rd.of_own HOwn.out).old O12.out)).mono ?_; rintro e w3 ⟨rfl, ho⟩; have HO3 := Lib.hid (HO2.out.trans ho (fun _ _ e => e)); have O13 := Lib.hid (O12.out.trans ho (fun _ _ e => e)); have O23 := Lib.hid ho; clear ho) | (go_at_call 27; refine (nest_fin (HSg.out _ HO1.out).1 (HSg.out _ HO1.out).2 NY.out A c (Rd.of_own HOwn.out)).mono ?_; rintro e w2 ⟨B, d, rfl, hx, ho⟩; have HX2 := Lib.hid hx; have HO2 := Lib.hid (HO1.out.trans ho (fun _ _ e => e)); have O12 := Lib.hid ho; clear hx ho) | fail)
    have HO4 := Lib.hid (HO3.out.alloc (.cells #[.string ⟨#[]⟩, .int .i64 0, .slice none 0 0, .slice none 0 0, .slice none 0 0, .slice none 0 0, .slice none 0 0, .slice none 0 0] 29))
    have O14 := Lib.hid (O13.out.alloc (.cells #[.string ⟨#[]⟩, .int .i64 0, .slice none 0 0, .slice none 0 0, .slice none 0 0, .slice none 0 0, .slice none 0 0, .slice none 0 0] 29))
    have O24 := Lib.hid (O23.out.alloc (.cells #[.string ⟨#[]⟩, .int .i64 0, .slice none 0 0, .slice none 0 0, .slice none 0 0, .slice none 0 0, .slice none 0 0, .slice none 0 0] 29))
    generalize w3.alloc (.cells #[.string ⟨#[]⟩, .int .i64 0, .slice none 0 0, .slice none 0 0, .slice none 0 0, .slice none 0 0, .slice none 0 0, .slice none 0 0] 29) = w4 at *
    clear HO3 O13 O23
    go_loopw [16, 17] (fun s i wr => ∃ j : Nat, j ≤ n - n ∧ s = .string ⟨(reps (sb ⟨#[]⟩) j).toArray⟩ ∧ i = .int .i64 ((n : Int) + (j : Int)) ∧ wr = w4) (fun _ i _ => n - (intOf i).toNat)
    case atStart => exact ⟨0, Nat.zero_le _, rfl, by rw [show ((0 : Nat) : Int) = 0 from rfl, Int.add_zero], rfl⟩
    case round =>
      obtain ⟨j, hj, rfl, rfl, rfl⟩ := hrel
      by_cases hlt : j < n - n
      · exact absurd hlt (by omega)
      · obtain rfl : j = n - n := by omega
        have b3 : ¬ (n : Int) + ((n - n : Nat) : Int) < (n : Int) := by omega
        have hend := HEnd.out
        have hz9 : ¬ 9223372036854775807 < (⟨(reps (sb ⟨#[]⟩) (n - n)).toArray⟩ : ByteArray).size + 2 := by rw [← sb_length, sb_mk, reps_len]; show ¬ 9223372036854775807 < (n - n) * 0 + 2; have := Hn.out; omega
        generalize (⟨(reps (sb ⟨#[]⟩) (n - n)).toArray⟩ : ByteArray) = s0 at *
        have hcv := run_conv_bs (P := Tryz.prog) (w := wr) Tryz.underlying33 Tryz.underlying5 Tryz.underlying9 B E.length d E (HX2.out.old O24.out)
        have HO5 := Lib.hid HO4.out
        have hx2 := Lib.hid (HX2.out.old O24.out)
        have hown4 := Lib.hid (own_kp HOwn.out O14.out (fun _ _ e => e))
        have hll := Lib.hid (show l.map bv ++ E.map bv = (l ++ E).map bv from List.map_append.symm)
        have hone := Lib.hid (one_bytes E)
        have b8 : (n : Int) ≤ 29900 := by have := Hn.out; omega
        clear HO4 O24 O14 HX2 HOwn
        go_wp2_with (first | (go_at_call 12; refine (HKn.out _ (HO7.out.alloc _)).mono ?_; rintro e w8 ⟨rfl, ho⟩; have HO8 := Lib.hid ((HO7.out.alloc _).trans ho (fun _ _ e => e)); clear ho) | (go_at_call 26; refine (nest_parok (HSg.out _ HO6.out).1 (HSg.out _ HO6.out).2 NY.out _ _ _ (Rd.of_own HOw6.out)).mono ?_; rintro e w7 ⟨nm, at_, aA, gA, pA, nA, oA, an, ac, gn, gc, mc, pn, pc, nc, on, oc, bb, oo, rfl, hc5, ho⟩; have HO7 := Lib.hid (HO6.out.trans ho (fun _ _ e => e)); have K5 := fun o => Lib.cell?_alloc_marked o hc5; clear hc5 ho) | (at_builtin; refine wpList_append_any _ rfl (.tmp 115) (.tmp 116) 33 rfl w.heap.size 5 i0 (.int .u8 0) 1 1 Tryz.underlying33 hi hz0 hz1 hz2 rfl (by decide) (.slice A l.length c) l.length (l.map bv) rfl hown4.out B E.length d (E.map bv) rfl hx2.out hone.out J63.out J47.out HO5.out.size ?_; intro A6 c6 w6 hown hgrow hat; rw [ownBlock_slice] at hgrow; rw [hll.out] at hown; have HOw6 := Lib.hid hown; have HO6 := Lib.hid (Kp.grown HO5.out hgrow (fun b e hb => by have := (own_ge hown4.out e).1; omega) : Old w w6); clear hown hgrow hat) | fail)
        go_ret
        exact ⟨rfl, HO8.out⟩
  · go_wp2_with fail
    have hq : RowKit.wrap64 ((n : Int) / 3) = ((n / 3 : Nat) : Int) := by rw [IntWalk.wrap64_in _ (by have := Hn.out; omega)]; omega
    have Hn3 : Hid (n / 3 ≤ 9967) := Lib.hid (by have := Hn.out; omega)
    simp only [hq]
    clear hq Hn
    generalize n / 3 = n3 at *
    have Hn := Hn3
    clear Hn3
    go_at_call 33
    refine (nested_any _ n3 n3 (by have := Hn.out; omega) (by have := Hn.out; omega) ⟨#[110, 111, 116, 32]⟩ ⟨#[]⟩ (by decide) (by decide) (by decide)).mono ?_
    rintro e w1 ⟨v, rfl, ho0, A, c, rfl, hown⟩
    have ho1 : Old w w1 := (((Kp.refl NoX w).alloc _).alloc _).trans ho0 (fun _ _ e => e)
    replace hown := own_le hown (((Kp.refl NoX w).alloc _).alloc _ : Old w _).size
    clear ho0
    have NY := Lib.hid (nestY3 n3 (by have := Hn.out; omega))
    have HCat := Lib.hid (fun j => (show (⟨(reps (sb ⟨#[]⟩) j).toArray⟩ : ByteArray) ++ ⟨#[]⟩ = ⟨(reps (sb ⟨#[]⟩) (j + 1)).toArray⟩ by rw [cat_bytes, reps_end]))
    have HEnd := Lib.hid (show (⟨(reps (sb ⟨#[]⟩) (n3 - n3)).toArray⟩ : ByteArray) ++ ⟨#[59, 125]⟩ = ⟨(reps (sb ⟨#[]⟩) (n3 - n3) ++ [59, 125]).toArray⟩ from cat_bytes _ _)
    have HOwn := Lib.hid hown
    have HO1 := Lib.hid ho1
    clear hown ho1
    generalize nestL ⟨#[110, 111, 116, 32]⟩ ⟨#[]⟩ n3 n3 = l at *
    generalize hE : reps (sb ⟨#[]⟩) (n3 - n3) ++ [59, 125] = E at *
    clear hE
    have g1 : IntKind.i64.wrap ((n3 : Int) + 1) = (n3 : Int) + 1 := IntWalk.i64_in _ (by have := Hn.out; omega)
    have J63 := Lib.hid (show l.length + E.length ≤ maxLen by have := NY.out.len2; rw [List.length_append] at this; unfold maxLen; omega)
    have J47 := Lib.hid (show (l.length + E.length) * 1 ≤ 140737488355328 by have := NY.out.len2; rw [List.length_append] at this; omega)
    have hmi : ¬ (n3 : Int) < (n3 : Int) := by omega
    go_wp2_with (first | (go_at_call 26; refine (nest_par (HSg.out _ HO2.out).1 (HSg.out _ HO2.out).2 NY.out A c ((Rd.of_own HOwn.out).old O12.out)).mono ?_; rintro e w3 ⟨rfl, ho⟩; have HO3 := Lib.hid (HO2.out.trans ho (fun _ _ e => e)); have O13 := Lib.hid (O12.out.trans ho (fun _ _ e => e)); have O23 := Lib.hid ho; clear ho) | (go_at_call 27; refine (nest_fin (HSg.out _ HO1.out).1 (HSg.out _ HO1.out).2 NY.out A c (Rd.of_own HOwn.out)).mono ?_; rintro e w2 ⟨B, d, rfl, hx, ho⟩; have HX2 := Lib.hid hx; have HO2 := Lib.hid (HO1.out.trans ho (fun _ _ e => e)); have O12 := Lib.hid ho; clear hx ho) | fail)
    have HO4 := Lib.hid (HO3.out.alloc (.cells #[.string ⟨#[]⟩, .int .i64 0, .slice none 0 0, .slice none 0 0, .slice none 0 0, .slice none 0 0, .slice none 0 0, .slice none 0 0] 29))
    have O14 := Lib.hid (O13.out.alloc (.cells #[.string ⟨#[]⟩, .int .i64 0, .slice none 0 0, .slice none 0 0, .slice none 0 0, .slice none 0 0, .slice none 0 0, .slice none 0 0] 29))
    have O24 := Lib.hid (O23.out.alloc (.cells #[.string ⟨#[]⟩, .int .i64 0, .slice none 0 0, .slice none 0 0, .slice none 0 0, .slice none 0 0, .slice none 0 0, .slice none 0 0] 29))
    generalize w3.alloc (.cells #[.string ⟨#[]⟩, .int .i64 0, .slice none 0 0, .slice none 0 0, .slice none 0 0, .slice none 0 0, .slice none 0 0, .slice none 0 0] 29) = w4 at *
    clear HO3 O13 O23
    go_loopw [16, 17] (fun s i wr => ∃ j : Nat, j ≤ n3 - n3 ∧ s = .string ⟨(reps (sb ⟨#[]⟩) j).toArray⟩ ∧ i = .int .i64 ((n3 : Int) + (j : Int)) ∧ wr = w4) (fun _ i _ => n3 - (intOf i).toNat)
    case atStart => exact ⟨0, Nat.zero_le _, rfl, by rw [show ((0 : Nat) : Int) = 0 from rfl, Int.add_zero], rfl⟩
    case round =>
      obtain ⟨j, hj, rfl, rfl, rfl⟩ := hrel
      by_cases hlt : j < n3 - n3
      · exact absurd hlt (by omega)
      · obtain rfl : j = n3 - n3 := by omega
        have b3 : ¬ (n3 : Int) + ((n3 - n3 : Nat) : Int) < (n3 : Int) := by omega
        have hend := HEnd.out
        have hz9 : ¬ 9223372036854775807 < (⟨(reps (sb ⟨#[]⟩) (n3 - n3)).toArray⟩ : ByteArray).size + 2 := by rw [← sb_length, sb_mk, reps_len]; show ¬ 9223372036854775807 < (n3 - n3) * 0 + 2; have := Hn.out; omega
        generalize (⟨(reps (sb ⟨#[]⟩) (n3 - n3)).toArray⟩ : ByteArray) = s0 at *
        have hcv := run_conv_bs (P := Tryz.prog) (w := wr) Tryz.underlying33 Tryz.underlying5 Tryz.underlying9 B E.length d E (HX2.out.old O24.out)
        have HO5 := Lib.hid HO4.out
        have hx2 := Lib.hid (HX2.out.old O24.out)
        have hown4 := Lib.hid (own_kp HOwn.out O14.out (fun _ _ e => e))
        have hll := Lib.hid (show l.map bv ++ E.map bv = (l ++ E).map bv from List.map_append.symm)
        have hone := Lib.hid (one_bytes E)
        have b8 : (n3 : Int) ≤ 29900 := by have := Hn.out; omega
        clear HO4 O24 O14 HX2 HOwn
        go_wp2_with (first | (go_at_call 12; refine (HKn.out _ (HO7.out.alloc _)).mono ?_; rintro e w8 ⟨rfl, ho⟩; have HO8 := Lib.hid ((HO7.out.alloc _).trans ho (fun _ _ e => e)); clear ho) | (go_at_call 26; refine (nest_parok (HSg.out _ HO6.out).1 (HSg.out _ HO6.out).2 NY.out _ _ _ (Rd.of_own HOw6.out)).mono ?_; rintro e w7 ⟨nm, at_, aA, gA, pA, nA, oA, an, ac, gn, gc, mc, pn, pc, nc, on, oc, bb, oo, rfl, hc5, ho⟩; have HO7 := Lib.hid (HO6.out.trans ho (fun _ _ e => e)); have K5 := fun o => Lib.cell?_alloc_marked o hc5; clear hc5 ho) | (at_builtin; refine wpList_append_any _ rfl (.tmp 115) (.tmp 116) 33 rfl w.heap.size 5 i0 (.int .u8 0) 1 1 Tryz.underlying33 hi hz0 hz1 hz2 rfl (by decide) (.slice A l.length c) l.length (l.map bv) rfl hown4.out B E.length d (E.map bv) rfl hx2.out hone.out J63.out J47.out HO5.out.size ?_; intro A6 c6 w6 hown hgrow hat; rw [ownBlock_slice] at hgrow; rw [hll.out] at hown; have HOw6 := Lib.hid hown; have HO6 := Lib.hid (Kp.grown HO5.out hgrow (fun b e hb => by have := (own_ge hown4.out e).1; omega) : Old w w6); clear hown hgrow hat) | fail)
        go_ret
        exact ⟨rfl, HO8.out⟩
end Go.Proofs.YtmmjcbbogokmfaaGreatDoor

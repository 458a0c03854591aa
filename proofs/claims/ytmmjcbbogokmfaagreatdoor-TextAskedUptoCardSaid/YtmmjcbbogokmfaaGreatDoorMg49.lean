import Derived.Test.YtmmjcbbogokmfaaGreatDoorMg48
/- Contract of docketlaw9.ended: what Finish answers hangs on the bytes alone. -/
namespace Go.Proofs.YtmmjcbbogokmfaaGreatDoor
open Go.RowKit

/-- what Finish tells, in one word -/
def finB (l : List UInt8) : List UInt8 := (finishN l).getD []
def finK (l : List UInt8) : Bool := (finishN l).isSome
def FinW (w : World) (l : List UInt8) (e : Ending) (w' : World) : Prop := ∃ A c, e = .returned (.tuple #[.slice A (finB l).length c, .bool (finK l)]) ∧ Rd w' 1 A (finB l).length ((finB l).map bv) ∧ (finB l).length ≤ 9223372036854775807 ∧ Old w w'
theorem own_max {w : World} {base : Nat} {T : TypeId} {A : Option Addr} {n c : Nat} {xs : List Value} (h : w.ownsRow base T 1 (.slice A n c) n xs) : n ≤ 9223372036854775807 := by
  rcases h.2 with ⟨_, h0⟩ | ⟨g, cap, cur, _, _, _, h1, h2, _⟩
  · omega
  · have : maxLen = 9223372036854775807 := by decide
    omega
theorem fin9_any (w : World) (hg : Sg w) (h8 : 8 ≤ w.heap.size) (A : Option Addr) (n c : Nat) (l : List UInt8) (hr : Rd w 1 A n (l.map bv)) : Calls Tryz.prog 27 #[.slice A n c] w (FinW w l) := by
  refine (finish_any w hg h8 A n c l hr).mono ?_
  intro e w' h
  unfold FinW finB finK
  unfold FinT at h
  cases hf : finishN l with
  | none =>
    rw [hf] at h
    exact ⟨none, 0, h.1, Rd.none_, by decide, h.2⟩
  | some r =>
    rw [hf] at h
    obtain ⟨A, c, he, hown, ho⟩ := h
    exact ⟨A, c, he, Rd.of_own hown, own_max hown, ho⟩
theorem beq_self_bool (b : Bool) : (b == b) = true := by cases b <;> rfl
set_option maxRecDepth 100000 in
set_option maxHeartbeats 6400000 in
theorem ended_any (w : World) (hg : Sg w) (h8 : 8 ≤ w.heap.size) (g : Nat) (B : Option Addr) (d : Nat) (l : List UInt8) (hb : Blk w g 5 (roomV (l.map bv) (.int .u8 219)).toArray) (hr : Rd w 1 B l.length (l.map bv)) (hl : l.length ≤ 100000000) :
    Calls Tryz.prog 42 #[.slice (some ⟨g, 0, none⟩) (l.length + 80) (l.length + 80), .slice B l.length d] w fun e w' => e = .returned (.bool true) ∧ Old w w' := by
  obtain ⟨i0, hi, hz0, hz1, hz2⟩ := info_parts Tryz.infoB
  have hpre := roomV_rd hb
  rw [List.length_map] at hpre
  have hsl := fun W => cut_h (P := Tryz.prog) Tryz.elemB Tryz.sizeEB (some ⟨g, 0, none⟩) (l.length + 80) (l.length + 80) l.length .i64 (l.length : Int) rfl (by omega) W
  have HF := Lib.hid (fun W (hO : Old w W) => fin9_any W (hg.old hO) (Nat.le_trans h8 hO.size) (some ⟨g, 0, none⟩) l.length (l.length + 80) l (hpre.old hO))
  have HC := Lib.hid (fun W (hO : Old w W) A c (hx : Rd W 1 A l.length (l.map bv)) => fin9_any W (hg.old hO) (Nat.le_trans h8 hO.size) A l.length c l hx)
  have HI := Lib.hid (fun W (hO : Old w W) => intactB W g B d l (hb.old hO) (hr.old hO) (by omega))
  have HSm := Lib.hid (fun W A c A2 c2 (hx : Rd W 1 A (finB l).length ((finB l).map bv)) (hy : Rd W 1 A2 (finB l).length ((finB l).map bv)) (hn : (finB l).length ≤ 9223372036854775807) => same9_any W A A2 _ c c2 (finB l) rfl hx hy hn)
  have Hr := Lib.hid hr
  have Hone := Lib.hid (one_bytes l)
  have J63 := Lib.hid (show 0 + l.length ≤ maxLen by unfold maxLen; omega)
  have J47 := Lib.hid (show (0 + l.length) * 1 ≤ 140737488355328 by omega)
  have hbq := beq_self_bool (finK l)
  clear hg h8 hb hr hpre hl
  unfold FinW at HF HC
  generalize finB l = R at *
  generalize finK l = ok at *
  go_enter Tryz.func42, Tryz.ntmps42
  go_wp2_with (first | (go_at_call 112; refine (HI.out _ HO6.out).mono ?_; rintro e w7 ⟨rfl, ho⟩; have HO7 := Lib.hid (HO6.out.trans ho (fun _ _ e => e)); clear ho) | (go_at_call 16; refine (HSm.out _ _ _ _ _ (HX1.out.old O15.out) (HX3.out.old O35.out) HN.out).mono ?_; rintro e w6 ⟨rfl, ho⟩; have HO6 := Lib.hid (HO5.out.trans ho (fun _ _ e => e)); clear ho) | (go_at_call 16; refine (HSm.out _ _ _ _ _ (HX1.out.old O14.out) (HX2.out.old O24.out) HN.out).mono ?_; rintro e w5 ⟨rfl, ho⟩; have HO5 := Lib.hid (HO4.out.trans ho (fun _ _ e => e)); have O15 := Lib.hid (O14.out.trans ho (fun _ _ e => e)); have O35 := Lib.hid (ho : Old w4 w5); clear ho) | (go_at_call 27; refine (HF.out _ HO3.out).mono ?_; rintro e w4 ⟨A4, c4, rfl, hx, _, ho⟩; have HX3 := Lib.hid hx; have HO4 := Lib.hid (HO3.out.trans ho (fun _ _ e => e)); have O14 := Lib.hid (O13.out.trans ho (fun _ _ e => e)); have O24 := Lib.hid (ho : Old w3 w4); clear hx ho) | (go_at_call 27; refine (HC.out _ HOA.out _ _ (Rd.of_own HOwn.out)).mono ?_; rintro e w3 ⟨A3, c3, rfl, hx, _, ho⟩; have HX2 := Lib.hid hx; have HO3 := Lib.hid (HOA.out.trans ho (fun _ _ e => e)); have O13 := Lib.hid (O1A.out.trans ho (fun _ _ e => e)); clear hx ho) | (at_builtin; refine wpList_append_any _ rfl (.const (.slice none 0 0)) (.tmp 24) 33 rfl w2.heap.size 5 i0 (.int .u8 0) 1 1 Tryz.underlying33 hi hz0 hz1 hz2 rfl (by decide) (.slice none 0 0) 0 [] rfl (World.ownsRow_nil _ _ _ _) B l.length d (l.map bv) rfl (Hr.out.old HO2.out) Hone.out J63.out J47.out (Nat.le_refl _) ?_; intro Ac cc wa hown hgrow hat; rw [Nat.zero_add, List.nil_append] at hown; rw [Nat.zero_add]; have hoa : Old w2 wa := Kp.grown (Kp.refl _ _) hgrow (fun _ e _ => by cases e); have HOwn := Lib.hid hown; have HOA := Lib.hid (HO2.out.trans hoa (fun _ _ e => e)); have O1A := Lib.hid (O12.out.trans hoa (fun _ _ e => e)); clear hown hgrow hat hoa) | (go_at_call 112; refine (HI.out _ HO1.out).mono ?_; rintro e w2 ⟨rfl, ho⟩; have HO2 := Lib.hid (HO1.out.trans ho (fun _ _ e => e)); have O12 := Lib.hid (ho : Old w1 w2); clear ho) | (go_at_call 27; refine (HF.out _ (Kp.refl _ _)).mono ?_; rintro e w1 ⟨A1, c1, rfl, hx, hn, ho⟩; have HX1 := Lib.hid hx; have HN := Lib.hid hn; have HO1 := Lib.hid ho; clear hx ho hn) | fail)
  go_ret
  exact ⟨rfl, HO7.out⟩
end Go.Proofs.YtmmjcbbogokmfaaGreatDoor

/- Contracts of docketbook.Within and docketlaw9.other. -/
namespace Go.Proofs.YtmmjcbbogokmfaaGreatDoor
open Go.RowKit

theorem within_any (w : World) (n : Int) (h : Nat) (hh : h ≤ 1000000000) : Calls Tryz.prog 32 #[.int .i64 n, .int .i64 0, .int .i64 (h : Int)] w fun e w' => (∃ k : Nat, k ≤ h ∧ e = .returned (.int .i64 (k : Int))) ∧ w = w' := by
  have g1 : IntKind.i64.wrap (h : Int) = (h : Int) := IntWalk.i64_in _ (by omega)
  have g2 : IntKind.i64.wrap ((h : Int) + 1) = (h : Int) + 1 := IntWalk.i64_in _ (by omega)
  have hne : ((h : Int) + 1 == 0) = false := beq_eq_false_iff_ne.2 (by omega)
  have hne2 : ¬ (h : Int) + 1 = 0 := by omega
  have hq1 := Int.tmod_lt_of_pos n (show (0 : Int) < (h : Int) + 1 by omega)
  have hq2 := Int.lt_tmod_of_pos n (show (0 : Int) < (h : Int) + 1 by omega)
  have Hq := Lib.hid (And.intro hq1 hq2)
  clear hq1 hq2
  go_enter Tryz.func32, Tryz.ntmps32
  go_wp2_with fail
  all_goals
    go_ret
    have hq := Hq.out
    generalize n.tmod ((h : Int) + 1) = q at *
    first
      | (refine ⟨⟨q.toNat, by omega, ?_⟩, rfl⟩
         show Ending.returned (.int .i64 (RowKit.wrap64 q)) = _
         rw [IntWalk.wrap64_in _ (by omega), show ((q.toNat : Nat) : Int) = q by omega])
      | (refine ⟨⟨(q + h + 1).toNat, by omega, ?_⟩, rfl⟩
         show Ending.returned (.int .i64 (RowKit.wrap64 (RowKit.wrap64 (RowKit.wrap64 (RowKit.wrap64 (q + h)) + 1)))) = _
         rw [IntWalk.wrap64_in (q + h) (by omega), IntWalk.wrap64_in (q + h) (by omega), IntWalk.wrap64_in (q + h + 1) (by omega), IntWalk.wrap64_in (q + h + 1) (by omega), show (((q + h + 1).toNat : Nat) : Int) = q + h + 1 by omega])
theorem xor_fin : ∀ c : Fin 256, bits BinOp.xor IntKind.u8 (c.val : Int) 1 = (((UInt8.ofNat c.val) ^^^ 1).toNat : Int) := by decide +kernel
theorem xor_one (c : UInt8) : bits BinOp.xor IntKind.u8 (c.toNat : Int) 1 = ((c ^^^ 1).toNat : Int) := by
  have h := xor_fin ⟨c.toNat, c.toNat_lt⟩
  simp only [UInt8.ofNat_toNat] at h
  exact h
theorem own_open {w : World} {base : Nat} {T : TypeId} {A : Option Addr} {n c : Nat} {xs : List Value} (h : w.ownsRow base T 1 (.slice A n c) n xs) (hn : 0 < n) : ∃ g cur, A = some ⟨g, 0, none⟩ ∧ Blk w g T cur ∧ n ≤ cur.size ∧ cur.toList.take n = xs ∧ base ≤ g := by
  rcases h.2 with ⟨_, h0⟩ | ⟨g, cap, cur, hv, hge, hg, h1, h2, h3, h4⟩
  · omega
  · injection hv with e1
    rw [Nat.mul_one] at h3 h4
    exact ⟨g, cur, e1, hg, by omega, h4, hge⟩
theorem rd_set {w : World} {g : Nat} {T : TypeId} {cur : Array Value} {n k : Nat} {l : List UInt8} (h : Blk w g T cur) (hn : n ≤ cur.size) (hx : cur.toList.take n = l.map bv) (x : UInt8) : Rd (w.setCell ⟨g, k, none⟩ (bv x)) 1 (some ⟨g, 0, none⟩) n ((l.set k x).map bv) := by
  have hl : (l.map bv).length = n := by rw [← hx, List.length_take, Array.length_toList]; omega
  have e : (l.set k x).map bv = (cur.toList.set k (bv x)).take n := by rw [List.map_set, ← hx, List.take_set]
  refine ⟨by rw [List.map_set, List.length_set, hl, Nat.mul_one], fun _ => ⟨g, 0, rfl, fun j u hu => ?_⟩⟩
  have hj : j < n := by
    have h1 := (List.getElem?_eq_some_iff.1 hu).1
    rw [List.map_set, List.length_set, hl] at h1
    exact h1
  rw [Nat.zero_add, (h.set_ k (bv x)).cell j, ← Array.getElem?_toList, Array.toList_setIfInBounds]
  rw [e, List.getElem?_take_of_lt hj] at hu
  exact hu
theorem other_facts {w wa : World} {g k : Nat} {cur : Array Value} {l : List UInt8} (hb : Blk wa g 5 cur) (htk : cur.toList.take l.length = l.map bv) (hsz : l.length ≤ cur.size) (hO : Old w wa) (hge : w.heap.size ≤ g) (hk : k ≤ l.length - 1) (hpos : 0 < l.length) :
    ∃ x y : UInt8, wa.cell? ⟨g, k, none⟩ = some (.int .u8 (x.toNat : Int)) ∧ wa.frozen? ⟨g, k, none⟩ = false ∧ bits BinOp.xor IntKind.u8 (x.toNat : Int) 1 = (y.toNat : Int) ∧ (k : Int) < (l.length : Int) ∧ (0 : Int) ≤ (k : Int) ∧ (k : Int).toNat = k ∧ Old w (wa.setCell ⟨g, k, none⟩ (.int .u8 (y.toNat : Int))) ∧ ∃ v : List UInt8, v.length = l.length ∧ Rd (wa.setCell ⟨g, k, none⟩ (.int .u8 (y.toNat : Int))) 1 (some ⟨g, 0, none⟩) l.length (v.map bv) := by
  have hkl : k < l.length := by omega
  have hck : cur[k]? = some (bv l[k]) := by
    have h1 : (cur.toList.take l.length)[k]? = some (bv l[k]) := by rw [htk, List.getElem?_map, List.getElem?_eq_getElem hkl]; rfl
    rw [List.getElem?_take_of_lt hkl, Array.getElem?_toList] at h1
    exact h1
  exact ⟨l[k], l[k] ^^^ 1, hb.at_ k hck, hb.frozen k, xor_one _, by omega, by omega, by omega, hO.setCell (p := ⟨g, k, none⟩) (fun hlt => by have : g < w.heap.size := hlt; omega) _, l.set k (l[k] ^^^ 1), List.length_set, rd_set hb hsz htk _⟩
set_option maxRecDepth 100000 in
set_option maxHeartbeats 6400000 in
theorem other_any (w : World) (B : Option Addr) (d : Nat) (l : List UInt8) (at_ : Int) (hr : Rd w 1 B l.length (l.map bv)) (hl : l.length ≤ 100000000) :
    Calls Tryz.prog 43 #[.slice B l.length d, .int .i64 at_] w fun e w' => ∃ A c, ∃ v : List UInt8, v.length = l.length ∧ e = .returned (.slice A l.length c) ∧ Rd w' 1 A l.length (v.map bv) ∧ Old w w' ∧ (∀ ad, A = some ad → w.heap.size ≤ ad.block) := by
  obtain ⟨i0, hi, hz0, hz1, hz2⟩ := info_parts Tryz.infoB
  have Hr := Lib.hid hr
  have Hone := Lib.hid (one_bytes l)
  have J63 := Lib.hid (show 0 + l.length ≤ maxLen by unfold maxLen; omega)
  have J47 := Lib.hid (show (0 + l.length) * 1 ≤ 140737488355328 by omega)
  clear hr
  rcases Nat.eq_zero_or_pos l.length with h0 | h0
  · have e0 : ¬ (0 : Int) < (l.length : Int) := by omega
    clear h0
    go_enter Tryz.func43, Tryz.ntmps43
    go_wp2_with (first | (at_builtin; refine wpList_append_any _ rfl (.const (.slice none 0 0)) (.tmp 7) 33 rfl w.heap.size 5 i0 (.int .u8 0) 1 1 Tryz.underlying33 hi hz0 hz1 hz2 rfl (by decide) (.slice none 0 0) 0 [] rfl (World.ownsRow_nil _ _ _ _) B l.length d (l.map bv) rfl Hr.out Hone.out J63.out J47.out (Nat.le_refl _) ?_; intro Ac cc wa hown hgrow hat; rw [Nat.zero_add, List.nil_append] at hown; rw [Nat.zero_add]; have HOwn := Lib.hid hown; have HOA := Lib.hid (Kp.grown (Kp.refl _ _) hgrow (fun _ e _ => by cases e) : Old w wa); clear hown hgrow hat) | fail)
    go_ret
    exact ⟨_, _, l, rfl, rfl, Rd.of_own HOwn.out, HOA.out, fun ad e => (own_ge HOwn.out (b := ad.block) (by rw [e]; rfl)).1⟩
  · have e0 : (0 : Int) < (l.length : Int) := by omega
    have e1 : IntKind.i64.wrap ((l.length : Int) - 1) = ((l.length - 1 : Nat) : Int) := by rw [IntWalk.i64_in _ (by omega)]; omega
    have Hpos := Lib.hid h0
    clear h0
    have HW := Lib.hid (fun W => within_any W at_ (l.length - 1) (by omega))
    go_enter Tryz.func43, Tryz.ntmps43
    go_wp2_with (first | (go_at_call 32; refine (HW.out _).mono ?_; rintro e w2 ⟨⟨k, hk, rfl⟩, rfl⟩; obtain ⟨x, y, hc, hz, hxy, b1, b2, b3, hov, v, hvl, hrv⟩ := other_facts HB.out Htk.out Hsz.out HOA.out Hge.out hk Hpos.out; have HOv := Lib.hid hov; have Hvl := Lib.hid hvl; have HRv := Lib.hid hrv; clear hov hvl hrv hk) | (at_builtin; refine wpList_append_any _ rfl (.const (.slice none 0 0)) (.tmp 7) 33 rfl w.heap.size 5 i0 (.int .u8 0) 1 1 Tryz.underlying33 hi hz0 hz1 hz2 rfl (by decide) (.slice none 0 0) 0 [] rfl (World.ownsRow_nil _ _ _ _) B l.length d (l.map bv) rfl Hr.out Hone.out J63.out J47.out (Nat.le_refl _) ?_; intro Ac cc wa hown hgrow hat; rw [Nat.zero_add, List.nil_append] at hown; rw [Nat.zero_add]; obtain ⟨g, cur, rfl, hB, hsz, htk, hge⟩ := own_open hown Hpos.out; have HB := Lib.hid hB; have HOA := Lib.hid (Kp.grown (Kp.refl _ _) hgrow (fun _ e _ => by cases e) : Old w wa); have Htk := Lib.hid htk; have Hsz := Lib.hid hsz; have Hge := Lib.hid hge; clear hown hgrow hat hB hsz htk hge) | fail)
    go_ret
    exact ⟨_, _, v, Hvl.out, rfl, HRv.out, HOv.out, fun ad e => by injection e with e; rw [← e]; exact Hge.out⟩
end Go.Proofs.YtmmjcbbogokmfaaGreatDoor

/- Contract of docketlaw9.TextAsked. -/
namespace Go.Proofs.YtmmjcbbogokmfaaGreatDoor
open Go.RowKit

theorem finW_long {l : List UInt8} (h : 60000 < l.length) : finB l = [] ∧ finK l = false := by
  unfold finB finK finishN
  rw [if_neg (by omega)]
  exact ⟨rfl, rfl⟩
/-- other bytes lie ahead in a row with room -/
theorem room_put {w W : World} {g : Nat} {l : List UInt8} {v : List UInt8} (h : Blk W g 5 (roomV (l.map bv) (.int .u8 219)).toArray) (hv : v.length = l.length) (hO : Old w W) (hge : w.heap.size ≤ g) :
    Blk (W.setCells g 0 (v.map bv)) g 5 (roomV (v.map bv) (.int .u8 219)).toArray ∧ Old w (W.setCells g 0 (v.map bv)) ∧ Kp (fun b => b = g) W (W.setCells g 0 (v.map bv)) := by
  have h1 : Blk W g 5 (([] : List Value) ++ (l.map bv ++ List.replicate 80 (Value.int .u8 219))).toArray := h
  have h2 := Blk.setCells h1 (v.map bv) (by simp [hv])
  have hk := Kp.setCells g 0 (v.map bv) W
  exact ⟨h2, hO.trans (hk.mono (fun b hb e => e)) (fun b hb e => by omega), hk⟩
set_option maxRecDepth 100000 in
set_option maxHeartbeats 6400000 in
theorem asked9_short (w : World) (hg : Sg w) (h8 : 8 ≤ w.heap.size) (B : Option Addr) (d : Nat) (l : List UInt8) (at_ : Int) (hr : Rd w 1 B l.length (l.map bv)) (hl : l.length ≤ 100000000) (hs : ¬ 60000 < l.length) :
    Calls Tryz.prog 10 #[.slice B l.length d, .int .i64 at_] w fun e w' => e = .returned (.bool true) ∧ Old w w' := by
  have HRm := Lib.hid (roomB w B d l hr (by omega))
  have HKn := Lib.hid (fun W (hO : Old w W) => known_any W (hg.old hO) (Nat.le_trans h8 hO.size))
  have HE := Lib.hid (fun W (hO : Old w W) g B d (l : List UInt8) (hb : Blk W g 5 (roomV (l.map bv) (.int .u8 219)).toArray) (hr : Rd W 1 B l.length (l.map bv)) (hl : l.length ≤ 100000000) => ended_any W (hg.old hO) (Nat.le_trans h8 hO.size) g B d l hb hr hl)
  have HF := Lib.hid (fun W (hO : Old w W) => fin9_any W (hg.old hO) (Nat.le_trans h8 hO.size) B l.length d l (hr.old hO))
  have HOt := Lib.hid (fun W (hO : Old w W) => other_any W B d l at_ (hr.old hO) hl)
  have Hr := Lib.hid hr
  have Hl := Lib.hid hl
  have hs2 : ¬ (60000 : Int) < (l.length : Int) := by omega
  clear hs
  clear hg h8 hr hl
  unfold FinW at HF
  go_enter Tryz.func10, Tryz.ntmps10
  go_wp2_with (first | (go_at_call 42; refine (HE.out _ HO9.out _ _ _ l HB9.out (Hr.out.old HO9.out) Hl.out).mono ?_; rintro e w10 ⟨rfl, ho⟩; have HO10 := Lib.hid (HO9.out.trans ho (fun _ _ e => e)); clear ho) | (refine Tryz.copy_vals 33 5 Tryz.underlying33 Tryz.sizeB (.tmp 45) (.tmp 46) (dl := l.length + 80) (dc := l.length + 80) (c := d) HB8.out (by rw [roomV_len, List.length_map, HVl.out]) (Hr.out.old HO8.out) (List.length_map ..) (one_bytes l) (Nat.le_add_right _ _) rfl rfl rfl rfl ?_; obtain ⟨hb9, ho9, _⟩ := room_put HB8.out HVl.out.symm HO8.out HGe.out; generalize w8.setCells g 0 (l.map bv) = w9 at *; have HB9 := Lib.hid hb9; have HO9 := Lib.hid ho9; clear hb9 ho9) | (go_at_call 42; rw [← HVl.out]; refine (HE.out _ HO7.out _ _ _ v HB7.out HV7.out (by have := HVl.out; have := Hl.out; omega)).mono ?_; rintro e w8 ⟨rfl, ho⟩; have HO8 := Lib.hid (HO7.out.trans ho (fun _ _ e => e)); have HB8 := Lib.hid (HB7.out.old ho); rw [HVl.out]; clear ho) | (refine Tryz.copy_vals 33 5 Tryz.underlying33 Tryz.sizeB (.tmp 38) (.tmp 39) (dl := l.length + 80) (dc := l.length + 80) (c := cv) HB6.out (by rw [roomV_len, List.length_map]) HV.out (by rw [List.length_map]; exact HVl.out) (one_bytes v) (Nat.le_add_right _ _) rfl rfl rfl rfl ?_; obtain ⟨hb7, ho7, hk7⟩ := room_put HB6.out HVl.out HO6.out HGe.out; have hv7 := HV.out.kp hk7 (fun hn ad ea hx => by have h1 := HFr.out ad ea; have h2 := HB5.out.lt; have h3 : ad.block = g := hx; omega); rw [← HVl.out] at hv7; generalize w6.setCells g 0 (v.map bv) = w7 at *; have HB7 := Lib.hid hb7; have HO7 := Lib.hid ho7; have HV7 := Lib.hid hv7; clear hb7 ho7 hk7 hv7) | (go_at_call 43; refine (HOt.out _ HO5.out).mono ?_; rintro e w6 ⟨Av, cv, v, hvl, rfl, hv, ho, hfr⟩; have HVl := Lib.hid hvl; have HV := Lib.hid hv; have HFr := Lib.hid hfr; have HO6 := Lib.hid (HO5.out.trans ho (fun _ _ e => e)); have HB6 := Lib.hid (HB5.out.old ho); clear hvl hv ho hfr) | (go_at_call 27; refine (HF.out _ HO4.out).mono ?_; rintro e w5 ⟨A5, c5, rfl, _, _, ho⟩; have HO5 := Lib.hid (HO4.out.trans ho (fun _ _ e => e)); have HB5 := Lib.hid (HB4.out.old ho); clear ho) | (go_at_call 42; refine (HE.out _ HO3.out _ _ _ l HB3.out (Hr.out.old HO3.out) Hl.out).mono ?_; rintro e w4 ⟨rfl, ho⟩; have HO4 := Lib.hid (HO3.out.trans ho (fun _ _ e => e)); have HB4 := Lib.hid (HB3.out.old ho); clear ho) | (go_at_call 12; refine (HKn.out _ HO1.out).mono ?_; rintro e w3 ⟨rfl, ho⟩; have HO3 := Lib.hid (HO1.out.trans ho (fun _ _ e => e)); have HB3 := Lib.hid (HB1.out.old ho); clear ho) | (go_at_call 41; refine HRm.out.mono ?_; rintro e w1 ⟨g, rfl, hge, hb, ho⟩; have HGe := Lib.hid hge; have HB1 := Lib.hid hb; have HO1 := Lib.hid ho; clear hge hb ho) | fail)
  go_ret
  exact ⟨rfl, HO10.out⟩
set_option maxRecDepth 100000 in
set_option maxHeartbeats 6400000 in
theorem asked9_long (w : World) (hg : Sg w) (h8 : 8 ≤ w.heap.size) (B : Option Addr) (d : Nat) (l : List UInt8) (at_ : Int) (hr : Rd w 1 B l.length (l.map bv)) (hl : l.length ≤ 100000000) (hs : 60000 < l.length) :
    Calls Tryz.prog 10 #[.slice B l.length d, .int .i64 at_] w fun e w' => e = .returned (.bool true) ∧ Old w w' := by
  have HRm := Lib.hid (roomB w B d l hr (by omega))
  have HKn := Lib.hid (fun W (hO : Old w W) => known_any W (hg.old hO) (Nat.le_trans h8 hO.size))
  have HE := Lib.hid (fun W (hO : Old w W) g B d (l : List UInt8) (hb : Blk W g 5 (roomV (l.map bv) (.int .u8 219)).toArray) (hr : Rd W 1 B l.length (l.map bv)) (hl : l.length ≤ 100000000) => ended_any W (hg.old hO) (Nat.le_trans h8 hO.size) g B d l hb hr hl)
  have HF := Lib.hid (fun W (hO : Old w W) => fin9_any W (hg.old hO) (Nat.le_trans h8 hO.size) B l.length d l (hr.old hO))
  have HOt := Lib.hid (fun W (hO : Old w W) => other_any W B d l at_ (hr.old hO) hl)
  have Hr := Lib.hid hr
  have Hl := Lib.hid hl
  have hs2 : (60000 : Int) < (l.length : Int) := by omega
  have HFl := finW_long hs
  unfold FinW at HF
  rw [HFl.1, HFl.2] at HF
  clear hs HFl
  clear hg h8 hr hl
  go_enter Tryz.func10, Tryz.ntmps10
  go_wp2_with (first | (go_at_call 42; refine (HE.out _ HO9.out _ _ _ l HB9.out (Hr.out.old HO9.out) Hl.out).mono ?_; rintro e w10 ⟨rfl, ho⟩; have HO10 := Lib.hid (HO9.out.trans ho (fun _ _ e => e)); clear ho) | (refine Tryz.copy_vals 33 5 Tryz.underlying33 Tryz.sizeB (.tmp 45) (.tmp 46) (dl := l.length + 80) (dc := l.length + 80) (c := d) HB8.out (by rw [roomV_len, List.length_map, HVl.out]) (Hr.out.old HO8.out) (List.length_map ..) (one_bytes l) (Nat.le_add_right _ _) rfl rfl rfl rfl ?_; obtain ⟨hb9, ho9, _⟩ := room_put HB8.out HVl.out.symm HO8.out HGe.out; generalize w8.setCells g 0 (l.map bv) = w9 at *; have HB9 := Lib.hid hb9; have HO9 := Lib.hid ho9; clear hb9 ho9) | (go_at_call 42; rw [← HVl.out]; refine (HE.out _ HO7.out _ _ _ v HB7.out HV7.out (by have := HVl.out; have := Hl.out; omega)).mono ?_; rintro e w8 ⟨rfl, ho⟩; have HO8 := Lib.hid (HO7.out.trans ho (fun _ _ e => e)); have HB8 := Lib.hid (HB7.out.old ho); rw [HVl.out]; clear ho) | (refine Tryz.copy_vals 33 5 Tryz.underlying33 Tryz.sizeB (.tmp 38) (.tmp 39) (dl := l.length + 80) (dc := l.length + 80) (c := cv) HB6.out (by rw [roomV_len, List.length_map]) HV.out (by rw [List.length_map]; exact HVl.out) (one_bytes v) (Nat.le_add_right _ _) rfl rfl rfl rfl ?_; obtain ⟨hb7, ho7, hk7⟩ := room_put HB6.out HVl.out HO6.out HGe.out; have hv7 := HV.out.kp hk7 (fun hn ad ea hx => by have h1 := HFr.out ad ea; have h2 := HB5.out.lt; have h3 : ad.block = g := hx; omega); rw [← HVl.out] at hv7; generalize w6.setCells g 0 (v.map bv) = w7 at *; have HB7 := Lib.hid hb7; have HO7 := Lib.hid ho7; have HV7 := Lib.hid hv7; clear hb7 ho7 hk7 hv7) | (go_at_call 43; refine (HOt.out _ HO5.out).mono ?_; rintro e w6 ⟨Av, cv, v, hvl, rfl, hv, ho, hfr⟩; have HVl := Lib.hid hvl; have HV := Lib.hid hv; have HFr := Lib.hid hfr; have HO6 := Lib.hid (HO5.out.trans ho (fun _ _ e => e)); have HB6 := Lib.hid (HB5.out.old ho); clear hvl hv ho hfr) | (go_at_call 27; refine (HF.out _ HO4.out).mono ?_; rintro e w5 ⟨A5, c5, rfl, _, _, ho⟩; have HO5 := Lib.hid (HO4.out.trans ho (fun _ _ e => e)); have HB5 := Lib.hid (HB4.out.old ho); clear ho) | (go_at_call 42; refine (HE.out _ HO3.out _ _ _ l HB3.out (Hr.out.old HO3.out) Hl.out).mono ?_; rintro e w4 ⟨rfl, ho⟩; have HO4 := Lib.hid (HO3.out.trans ho (fun _ _ e => e)); have HB4 := Lib.hid (HB3.out.old ho); clear ho) | (go_at_call 12; refine (HKn.out _ HO1.out).mono ?_; rintro e w3 ⟨rfl, ho⟩; have HO3 := Lib.hid (HO1.out.trans ho (fun _ _ e => e)); have HB3 := Lib.hid (HB1.out.old ho); clear ho) | (go_at_call 41; refine HRm.out.mono ?_; rintro e w1 ⟨g, rfl, hge, hb, ho⟩; have HGe := Lib.hid hge; have HB1 := Lib.hid hb; have HO1 := Lib.hid ho; clear hge hb ho) | fail)
  go_ret
  exact ⟨rfl, HO10.out⟩
theorem asked9_any (w : World) (hg : Sg w) (h8 : 8 ≤ w.heap.size) (B : Option Addr) (d : Nat) (l : List UInt8) (at_ : Int) (hr : Rd w 1 B l.length (l.map bv)) (hl : l.length ≤ 100000000) :
    Calls Tryz.prog 10 #[.slice B l.length d, .int .i64 at_] w fun e w' => e = .returned (.bool true) ∧ Old w w' := by
  by_cases hs : 60000 < l.length
  · exact asked9_long w hg h8 B d l at_ hr hl hs
  · exact asked9_short w hg h8 B d l at_ hr hl hs
end Go.Proofs.YtmmjcbbogokmfaaGreatDoor

import Derived.Test.YtmmjcbbogokmfaaGreatDoorMn44
/- Contracts of docketbook.Within and docketlaw9.other. -/
namespace Go.Proofs.YtmmjcbbogokmfaaGreatDoor
open Go.RowKit

theorem within_any (w : World) (n : Int) (h : Nat) (hh : h ≤ 1000000000) : Calls Tryz.prog 32 #[.int .i64 n, .int .i64 0, .int .i64 (h : Int)] w fun e w' => (∃ k : Nat, k ≤ h ∧ e = .returned (.int .i64 (k : Int))) ∧ w = w' := by
  have g1 : IntKind.i64.wrap (h : Int) = (h : Int) := IntWalk.i64_in _ (by omega)
  have g2 : IntKind.i64.wrap ((h : Int) + 1) = (h : Int) + 1 := IntWalk.i64_in _ (by omega)
  have hne : ((h : Int) + 1 == 0) = false := beq_eq_false_iff_ne.2 (by omega)
  have hne2 : ¬ (h : Int) + 1 = 0 := by omega
  have hq1 := Int.tmod_lt_of_pos n (show (0 : Int) < (h : Int) + 1 by omega)
  have hq2 := Int.lt_tmod_of_pos n (show (0 : Int) < (h : Int) + 1 by omega)
  have Hq := Lib.hid (And.intro hq1 hq2)
  clear hq1 hq2
  go_enter Tryz.func32, Tryz.ntmps32
  go_wp2_with fail
  all_goals
    go_ret
    have hq := Hq.out
    generalize n.tmod ((h : Int) + 1) = q at *
    first
      | (refine ⟨⟨q.toNat, by omega, ?_⟩, rfl⟩
         show Ending.returned (.int .i64 (RowKit.wrap64 q)) = _
         rw [IntWalk.wrap64_in _ (by omega), show ((q.toNat : Nat) : Int) = q by omega])
      | (refine ⟨⟨(q + h + 1).toNat, by omega, ?_⟩, rfl⟩
         show Ending.returned (.int .i64 (RowKit.wrap64 (RowKit.wrap64 (RowKit.wrap64 (RowKit.wrap64 (q + h)) + 1)))) = _
         rw [IntWalk.wrap64_in (q + h) (by omega), IntWalk.wrap64_in (q + h) (by omega), IntWalk.wrap64_in (q + h + 1) (by omega), IntWalk.wrap64_in (q + h + 1) (by omega), show (((q + h + 1).toNat : Nat) : Int) = q + h + 1 by omega])
theorem xor_fin : ∀ c : Fin 256, bits BinOp.xor IntKind.u8 (c.val : Int) 1 = (((UInt8.ofNat c.val) ^^^ 1).toNat : Int) := by decide +kernel
theorem xor_one (c : UInt8) : bits BinOp.xor IntKind.u8 (c.toNat : Int) 1 = ((c ^^^ 1).toNat : Int) := by
  have h := xor_fin ⟨c.toNat, c.toNat_lt⟩
  simp only [UInt8.ofNat_toNat] at h
  exact h
theorem own_open {w : World} {base : Nat} {T : TypeId} {A : Option Addr} {n c : Nat} {xs : List Value} (h : w.ownsRow base T 1 (.slice A n c) n xs) (hn : 0 < n) : ∃ g cur, A = some ⟨g, 0, none⟩ ∧ Blk w g T cur ∧ n ≤ cur.size ∧ cur.toList.take n = xs ∧ base ≤ g := by
  rcases h.2 with ⟨_, h0⟩ | ⟨g, cap, cur, hv, hge, hg, h1, h2, h3, h4⟩
  · omega
  · injection hv with e1
    rw [Nat.mul_one] at h3 h4
    exact ⟨g, cur, e1, hg, by omega, h4, hge⟩
theorem rd_set {w : World} {g : Nat} {T : TypeId} {cur : Array Value} {n k : Nat} {l : List UInt8} (h : Blk w g T cur) (hn : n ≤ cur.size) (hx : cur.toList.take n = l.map bv) (x : UInt8) : Rd (w.setCell ⟨g, k, none⟩ (bv x)) 1 (some ⟨g, 0, none⟩) n ((l.set k x).map bv) := by
  have hl : (l.map bv).length = n := by rw [← hx, List.length_take, Array.length_toList]; omega
  have e : (l.set k x).map bv = (cur.toList.set k (bv x)).take n := by rw [List.map_set, ← hx, List.take_set]
  refine ⟨by rw [List.map_set, List.length_set, hl, Nat.mul_one], fun _ => ⟨g, 0, rfl, fun j u hu => ?_⟩⟩
  have hj : j < n := by
    have h1 := (List.getElem?_eq_some_iff.1 hu).1
    rw [List.map_set, List.length_set, hl] at h1
    exact h1
  rw [Nat.zero_add, (h.set_ k (bv x)).cell j, ← Array.getElem?_toList, Array.toList_setIfInBounds]
  rw [e, List.getElem?_take_of_lt hj] at hu
  exact hu
theorem other_facts {w wa : World} {g k : Nat} {cur : Array Value} {l : List UInt8} (hb : Blk wa g 5 cur) (htk : cur.toList.take l.length = l.map bv) (hsz : l.length ≤ cur.size) (hO : Old w wa) (hge : w.heap.size ≤ g) (hk : k ≤ l.length - 1) (hpos : 0 < l.length) :
    ∃ x y : UInt8, wa.cell? ⟨g, k, none⟩ = some (.int .u8 (x.toNat : Int)) ∧ wa.frozen? ⟨g, k, none⟩ = false ∧ bits BinOp.xor IntKind.u8 (x.toNat : Int) 1 = (y.toNat : Int) ∧ (k : Int) < (l.length : Int) ∧ (0 : Int) ≤ (k : Int) ∧ (k : Int).toNat = k ∧ Old w (wa.setCell ⟨g, k, none⟩ (.int .u8 (y.toNat : Int))) ∧ ∃ v : List UInt8, v.length = l.length ∧ Rd (wa.setCell ⟨g, k, none⟩ (.int .u8 (y.toNat : Int))) 1 (some ⟨g, 0, none⟩) l.length (v.map bv) := by
  have hkl : k < l.length := by omega
  have hck : cur[k]? = some (bv l[k]) := by
    have h1 : (cur.toList.take l.length)[k]? = some (bv l[k]) := by rw [htk, List.getElem?_map, List.getElem?_eq_getElem hkl]; rfl
    rw [List.getElem?_take_of_lt hkl, Array.getElem?_toList] at h1
    exact h1
  exact ⟨l[k], l[k] ^^^ 1, hb.at_ k hck, hb.frozen k, xor_one _, by omega, by omega, by omega, hO.setCell (p := ⟨g, k, none⟩) (fun hlt => by have : g < w.heap.size := hlt; omega) _, l.set k (l[k] ^^^ 1), List.length_set, rd_set hb hsz htk _⟩
set_option maxRecDepth 100000 in
set_option maxHeartbeats 6400000 in
theorem other_any (w : World) (B : Option Addr) (d : Nat) (l : List UInt8) (at_ : Int) (hr : Rd w 1 B l.length (l.map bv)) (hl : l.length ≤ 100000000) :
    Calls Tryz.prog 43 #[.slice B l.length d, .int .i64 at_] w fun e w' => ∃ A c, ∃ v : List UInt8, v.length = l.length ∧ e = .returned (.slice A l.length c) ∧ Rd w' 1 A l.length (v.map bv) ∧ Old w w' ∧ (∀ ad, A = some ad → w.heap.size ≤ ad.block) := by
  obtain ⟨i0, hi, hz0, hz1, hz2⟩ := info_parts Tryz.infoB
  have Hr := Lib.hid hr
  have Hone := Lib.hid (one_bytes l)
  have J63 := Lib.hid (show 0 + l.length ≤ maxLen by unfold maxLen; omega)
  have J47 := Lib.hid (show (0 + l.length) * 1 ≤ 140737488355328 by omega)
  clear hr
  rcases Nat.eq_zero_or_pos l.length with h0 | h0
  · have e0 : ¬ (0 : Int) < (l.length : Int) := by omega
    clear h0
    go_enter Tryz.func43, Tryz.ntmps43
    go_wp2_with (first | (at_builtin; refine wpList_append_any _ rfl (.const (.slice none 0 0)) (.tmp 7) 33 rfl w.heap.size 5 i0 (.int .u8 0) 1 1 Tryz.underlying33 hi hz0 hz1 hz2 rfl (by decide) (.slice none 0 0) 0 [] rfl (World.ownsRow_nil _ _ _ _) B l.length d (l.map bv) rfl Hr.out Hone.out J63.out J47.out (Nat.le_refl _) ?_; intro Ac cc wa hown hgrow hat; rw [Nat.zero_add, List.nil_append] at hown; rw [Nat.zero_add]; have HOwn := Lib.hid hown; have HOA := Lib.hid (Kp.grown (Kp.refl _ _) hgrow (fun _ e _ => by cases e) : Old w wa); clear hown hgrow hat) | fail)
    go_ret
    exact ⟨_, _, l, rfl, rfl, Rd.of_own HOwn.out, HOA.out, fun ad e => (own_ge HOwn.out (b := ad.block) (by rw [e]; rfl)).1⟩
  · have e0 : (0 : Int) < (l.length : Int) := by omega
    have e1 : IntKind.i64.wrap ((l.length : Int) - 1) = ((l.length - 1 : Nat) : Int) := by rw [IntWalk.i64_in _ (by omega)]; omega
    have Hpos := Lib.hid h0
    clear h0
    have HW := Lib.hid (fun W => within_any W at_ (l.length - 1) (by omega))
    go_enter Tryz.func43, Tryz.ntmps43
    go_wp2_with (first | (go_at_call 32; refine (HW.out _).mono ?_; rintro e w2 ⟨⟨k, hk, rfl⟩, rfl⟩; obtain ⟨x, y, hc, hz, hxy, b1, b2, b3, hov, v, hvl, hrv⟩ := other_facts HB.out Htk.out Hsz.out HOA.out Hge.out hk Hpos.out; have HOv := Lib.hid hov; have Hvl := Lib.hid hvl; have HRv := Lib.hid hrv; clear hov hvl hrv hk) | (at_builtin; refine wpList_append_any _ rfl (.const (.slice none 0 0)) (.tmp 7) 33 rfl w.heap.size 5 i0 (.int .u8 0) 1 1 Tryz.underlying33 hi hz0 hz1 hz2 rfl (by decide) (.slice none 0 0) 0 [] rfl (World.ownsRow_nil _ _ _ _) B l.length d (l.map bv) rfl Hr.out Hone.out J63.out J47.out (Nat.le_refl _) ?_; intro Ac cc wa hown hgrow hat; rw [Nat.zero_add, List.nil_append] at hown; rw [Nat.zero_add]; obtain ⟨g, cur, rfl, hB, hsz, htk, hge⟩ := own_open hown Hpos.out; have HB := Lib.hid hB; have HOA := Lib.hid (Kp.grown (Kp.refl _ _) hgrow (fun _ e _ => by cases e) : Old w wa); have Htk := Lib.hid htk; have Hsz := Lib.hid hsz; have Hge := Lib.hid hge; clear hown hgrow hat hB hsz htk hge) | fail)
    go_ret
    exact ⟨_, _, v, Hvl.out, rfl, HRv.out, HOv.out, fun ad e => by injection e with e; rw [← e]; exact Hge.out⟩
end Go.Proofs.YtmmjcbbogokmfaaGreatDoor

/- What Finish and Parse tell of brackets within one another. -/
namespace Go.Proofs.YtmmjcbbogokmfaaGreatDoor
open Go.RowKit

theorem within_299 (w : World) (n : Int) : Calls Tryz.prog 32 #[.int .i64 n, .int .i64 0, .int .i64 29900] w fun e w' => (∃ k : Nat, k ≤ 29900 ∧ e = .returned (.int .i64 (k : Int))) ∧ w = w' := within_any w n 29900 (by decide)
theorem within_3 (w : World) (n : Int) : Calls Tryz.prog 32 #[.int .i64 n, .int .i64 0, .int .i64 3] w fun e w' => (∃ k : Nat, k ≤ 3 ∧ e = .returned (.int .i64 (k : Int))) ∧ w = w' := within_any w n 3 (by decide)
/-- a beginning that can be finished: what is wanting, how many nodes the whole has but one -/
structure NestY (l E : List UInt8) (N1 : Nat) : Prop where
  fin : finishN l = some E
  begun : ∃ mc, begunN l = .ok mc ∧ mc.stack ≠ []
  len : l.length ≤ 60000
  ok : ∃ mc, begunN (l ++ E) = .ok mc ∧ mc.stack = []
  read : ∃ f R, readN (l ++ E) f = some R ∧ R.tree.nodes.length = N1 + 1 ∧ R.tree.miles.map (·.when_) = [(N1 : Int)]
  len2 : (l ++ E).length ≤ 60000
  n1 : N1 ≤ 100000
structure NestX (l : List UInt8) (k : Nat) : Prop where
  fin : finishN l = none
  begun : begunN l = .error k
  len : l.length ≤ 60000
section
variable {w : World} {l E : List UInt8} {N1 k : Nat}
theorem nest_fin (hg : Sg w) (h8 : 8 ≤ w.heap.size) (h : NestY l E N1) (A : Option Addr) (c : Nat) (hr : Rd w 1 A l.length (l.map bv)) : Calls Tryz.prog 27 #[.slice A l.length c] w fun e w' => ∃ B d, e = .returned (.tuple #[.slice B E.length d, .bool true]) ∧ Rd w' 1 B E.length (E.map bv) ∧ Old w w' := by
  have h1 := finish_any w hg h8 A l.length c l hr
  rw [h.fin] at h1
  refine h1.mono ?_
  rintro e w' ⟨B, d, he, hown, ho⟩
  exact ⟨B, d, he, Rd.of_own hown, ho⟩
theorem nest_fin0 (hg : Sg w) (h8 : 8 ≤ w.heap.size) (h : NestX l k) (A : Option Addr) (c : Nat) (hr : Rd w 1 A l.length (l.map bv)) : Calls Tryz.prog 27 #[.slice A l.length c] w fun e w' => e = .returned (.tuple #[.slice none 0 0, .bool false]) ∧ Old w w' := by
  have h1 := finish_any w hg h8 A l.length c l hr
  rw [h.fin] at h1
  exact h1
theorem treeC0 : (treeC Tre.none_ (sl0 NoX)).toArray = #[.string ⟨#[]⟩, .int .i64 0, .slice none 0 0, .slice none 0 0, .slice none 0 0, .slice none 0 0, .slice none 0 0, .slice none 0 0] := rfl
theorem nest_par (hg : Sg w) (h8 : 8 ≤ w.heap.size) (h : NestY l E N1) (A : Option Addr) (c : Nat) (hr : Rd w 1 A l.length (l.map bv)) : Calls Tryz.prog 26 #[.slice A l.length c] w fun e w' => e = .returned (.tuple #[.agg #[.string ⟨#[]⟩, .int .i64 0, .slice none 0 0, .slice none 0 0, .slice none 0 0, .slice none 0 0, .slice none 0 0, .slice none 0 0], .int .i64 (l.length : Int), .int .i64 90]) ∧ Old w w' := by
  obtain ⟨mc, hb, hs⟩ := h.begun
  exact parse_short w hg h8 A l.length c l hr h.len mc hb hs
theorem nest_parx (hg : Sg w) (h8 : 8 ≤ w.heap.size) (h : NestX l k) (A : Option Addr) (c : Nat) (hr : Rd w 1 A l.length (l.map bv)) : Calls Tryz.prog 26 #[.slice A l.length c] w fun e w' => e = .returned (.tuple #[.agg #[.string ⟨#[]⟩, .int .i64 0, .slice none 0 0, .slice none 0 0, .slice none 0 0, .slice none 0 0, .slice none 0 0, .slice none 0 0], .int .i64 (k : Int), .int .i64 90]) ∧ Old w w' :=
  parse_bad w hg h8 A l.length c l hr h.len k h.begun
theorem nest_parok (hg : Sg w) (h8 : 8 ≤ w.heap.size) (h : NestY l E N1) (A : Option Addr) (n c : Nat) (hr : Rd w 1 A n ((l ++ E).map bv)) : Calls Tryz.prog 26 #[.slice A n c] w fun e w' => ∃ (nm : ByteArray) (at_ : Int) (aA gA pA nA oA : Option Addr) (an ac gn gc mc pn pc nc on oc b o : Nat),
    e = .returned (.tuple #[.agg #[.string nm, .int .i64 at_, .slice aA an ac, .slice gA gn gc, .slice (some ⟨b, o, none⟩) 1 mc, .slice pA pn pc, .slice nA (N1 + 1) nc, .slice oA on oc], .int .i64 0, .int .i64 0]) ∧ w'.cell? ⟨b, o + 5, none⟩ = some (.int .i64 (N1 : Int)) ∧ Old w w' := by
  obtain ⟨mc, hb, hs⟩ := h.ok
  obtain ⟨f, R, hrd, hn, hm⟩ := h.read
  refine (parse_ok w hg h8 A n c (l ++ E) hr h.len2 mc hb hs f R hrd).mono ?_
  rintro e w' ⟨g, s, he, hSt, ho, _⟩
  obtain ⟨ns, ps, T⟩ := hSt.rows
  obtain ⟨x, hx, hw⟩ : ∃ x, R.tree.miles = [x] ∧ x.when_ = (N1 : Int) := by
    rcases hm2 : R.tree.miles with _ | ⟨x, _ | ⟨y, r⟩⟩
    · rw [hm2] at hm; cases hm
    · rw [hm2] at hm
      simp only [List.map_cons, List.map_nil, List.cons.injEq, and_true] at hm
      exact ⟨x, rfl, hm⟩
    · rw [hm2] at hm
      simp only [List.map_cons, List.cons.injEq] at hm
      cases hm.2
  obtain ⟨b, o, hA, hc⟩ := rec_cell (C := miC) (fun x => rfl) (Rd.of_own T.rM) (k := 0) (x := x) (by rw [hx]; rfl) (by rw [hx]; exact Nat.one_pos)
  have c5 := hc 5 (iv x.when_) rfl
  rw [hw] at c5
  refine ⟨R.tree.name, R.tree.at_, s.aA, s.gA, s.pA, s.nA, s.oA, R.tree.attrs.length, s.ac, R.tree.stages.length, s.gc, s.mc, R.tree.steps.length, s.pc, s.nc, R.tree.ats.length, s.oc, b, o, ?_, c5, ho⟩
  rw [he]
  unfold treeC iv
  rw [hA, hx, hn]
  rfl
end
theorem nest_eq (b : Brk) (op cl : ByteArray) (ho : sb op = [b.opn]) (hc : sb cl = [b.cls]) (n m : Nat) : nestL op cl n m = nestB b n m := by
  unfold nestL nestB
  rw [ho, hc]
theorem finish_of {l : List UInt8} {mc : Mc} (h : begunN l = .ok mc) (hl : l.length ≤ 60000) : finishN l = some (finishedN l mc) := by
  unfold finishN
  rw [if_pos hl, h]
theorem reps_nil : ∀ n, reps [] n = []
  | 0 => rfl
  | n + 1 => by rw [reps, reps_nil n]; rfl
theorem nestY_brk {b : Brk} (hb : b.Ok) (op cl : ByteArray) (ho : sb op = [b.opn]) (hc : sb cl = [b.cls]) (n m : Nat) (hn : n ≤ 29900) (hm : m ≤ n) (f N1 : Nat) (hN : N1 ≤ 100000) (hr : ∃ R, readN (nestB b n n ++ endT) f = some R ∧ R.tree.nodes.length = N1 + 1 ∧ R.tree.miles.map (·.when_) = [(N1 : Int)]) :
    NestY (nestL op cl n m) (reps (sb cl) (n - m) ++ [59, 125]) N1 := by
  rw [nest_eq b op cl ho hc, hc]
  obtain ⟨mc, h1, h2, h3⟩ := nest_begun hb n m hm
  have hl : (nestB b n m).length ≤ 60000 := by rw [nest_len]; omega
  have e : nestB b n m ++ (reps [b.cls] (n - m) ++ [59, 125]) = nestB b n n ++ endT := by
    have h4 : reps [b.cls] m ++ reps [b.cls] (n - m) = reps [b.cls] n := by rw [← reps_add, show m + (n - m) = n by omega]
    unfold nestB
    simp only [List.append_assoc, List.cons_append]
    rw [← List.append_assoc (reps [b.cls] m), h4]
    rfl
  refine ⟨by rw [finish_of h1 hl, h3], ⟨mc, h1, h2⟩, hl, by rw [e]; exact nest_ok hb n, by rw [e]; exact ⟨f, hr⟩, ?_, hN⟩
  rw [e, List.length_append, nest_len]
  show 33 + n + n + 2 ≤ 60000
  omega
theorem nestX_brk {b : Brk} (hb : b.Ok) (op cl : ByteArray) (ho : sb op = [b.opn]) (hc : sb cl = [b.cls]) (n m : Nat) (hm : m ≤ 29900) (h : n < m) : NestX (nestL op cl n m) (nestL op cl n n).length := by
  rw [nest_eq b op cl ho hc, nest_eq b op cl ho hc]
  have h1 := nest_wrong hb n m h
  have hl : (nestB b n m).length ≤ 60000 := by rw [nest_len]; omega
  have e : (nestB b n n).length = 33 + n + n := by rw [nest_len]
  rw [e]
  refine ⟨?_, h1, hl⟩
  unfold finishN
  rw [if_pos hl, h1]
theorem nestY_pfx {b : Pfx} (hb : b.Ok) (op : ByteArray) (ho : sb op = b.w) (n : Nat) (hn : n * b.w.length ≤ 59800) (N1 f : Nat) (hN : N1 ≤ 100000) (hr : ∃ R, readN (nestP b n ++ endT) f = some R ∧ R.tree.nodes.length = N1 + 1 ∧ R.tree.miles.map (·.when_) = [(N1 : Int)]) :
    NestY (nestL op ⟨#[]⟩ n n) (reps (sb ⟨#[]⟩) (n - n) ++ [59, 125]) N1 := by
  have e : nestL op ⟨#[]⟩ n n = nestP b n := by
    unfold nestL nestP
    rw [ho, show sb ⟨#[]⟩ = [] from rfl, reps_nil]
  rw [e, show reps (sb ⟨#[]⟩) (n - n) ++ [59, 125] = endT by rw [Nat.sub_self]; rfl]
  obtain ⟨mc, h1, h2, h3⟩ := nestP_begun hb n
  have hl : (nestP b n).length ≤ 60000 := by rw [nestP_len]; omega
  refine ⟨by rw [finish_of h1 hl, h3], ⟨mc, h1, h2⟩, hl, nestP_ok hb n, ⟨f, hr⟩, ?_, hN⟩
  rw [List.length_append, nestP_len]
  show 33 + n * b.w.length + 2 ≤ 60000
  omega
theorem nestY0 (n m : Nat) (hn : n ≤ 29900) (hm : m ≤ n) : NestY (nestL ⟨#[40]⟩ ⟨#[41]⟩ n m) (reps (sb ⟨#[41]⟩) (n - m) ++ [59, 125]) 0 := nestY_brk rnd_ok _ _ rfl rfl n m hn hm _ 0 (by decide) (read_rnd n)
theorem nestY1 (n m : Nat) (hn : n ≤ 29900) (hm : m ≤ n) : NestY (nestL ⟨#[123]⟩ ⟨#[125]⟩ n m) (reps (sb ⟨#[125]⟩) (n - m) ++ [59, 125]) n := nestY_brk crl_ok _ _ rfl rfl n m hn hm _ n (by omega) (read_crl n (by omega))
theorem nestY2 (n : Nat) (hn : n ≤ 29900) : NestY (nestL ⟨#[45]⟩ ⟨#[]⟩ n n) (reps (sb ⟨#[]⟩) (n - n) ++ [59, 125]) n := nestY_pfx minus_ok _ rfl n (by show n * 1 ≤ _; omega) n _ (by omega) (read_minus n (by omega))
theorem nestY3 (n : Nat) (hn : n ≤ 9967) : NestY (nestL ⟨#[110, 111, 116, 32]⟩ ⟨#[]⟩ n n) (reps (sb ⟨#[]⟩) (n - n) ++ [59, 125]) n := nestY_pfx nots_ok _ rfl n (by show n * 4 ≤ _; omega) n _ (by omega) (read_nots n (by omega))
theorem nestX0 (n m : Nat) (hm : m ≤ 29900) (h : n < m) : NestX (nestL ⟨#[40]⟩ ⟨#[41]⟩ n m) (nestL ⟨#[40]⟩ ⟨#[41]⟩ n n).length := nestX_brk rnd_ok _ _ rfl rfl n m hm h
theorem nestX1 (n m : Nat) (hm : m ≤ 29900) (h : n < m) : NestX (nestL ⟨#[123]⟩ ⟨#[125]⟩ n m) (nestL ⟨#[123]⟩ ⟨#[125]⟩ n n).length := nestX_brk crl_ok _ _ rfl rfl n m hm h
end Go.Proofs.YtmmjcbbogokmfaaGreatDoor

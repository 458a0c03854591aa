import Derived.Test.YtmmjcbbogokmfaaGreatDoorMf01
import Derived.Test.YtmmjcbbogokmfaaGreatDoorMf08
import Derived.Test.YtmmjcbbogokmfaaGreatDoorMf43
import Derived.Test.YtmmjcbbogokmfaaGreatDoorMf45
import Derived.Test.YtmmjcbbogokmfaaGreatDoorMf48
set_option maxRecDepth 100000
set_option maxHeartbeats 25600000
namespace Go.Proofs.YtmmjcbbogokmfaaGreatDoor
def parE (l : List UInt8) : Nat := if l.length <= 60000 then (match parsesN l with | none => 0 | some _ => 90) else 6
def yI (l : List UInt8) : Nat := if l.length <= 60000 then (parsesN l).getD 0 else 0
theorem par_long {l : List UInt8} (h : ¬ l.length <= 60000) : parE l = 6 /\ yI l = 0 /\ finK l = false /\ finB l = [] := by
  unfold parE yI finK finB vV
  rw [if_neg h, if_neg h, if_neg h]
  exact ⟨rfl, rfl, rfl, rfl⟩
theorem rest_nil : (jS []).2 = [] := rfl
theorem acc_fin {b : Bs} (h : accB b) : finS b = [] := by
  obtain ⟨st, md⟩ := b
  obtain ⟨h1, h2⟩ := h
  simp only at h1
  subst h1
  rcases h2 with h2 | h2
  · simp only at h2; subst h2; rfl
  · simp only at h2; subst h2; rfl
theorem inv_of {l : List UInt8} {b : Bs} (h : runB startB l 0 = .ok b) : InvB b := run_inv l startB b 0 start_inv h
theorem fin_nil {b : Bs} (h : InvB b) (h0 : finS b = []) : accB b := by
  obtain ⟨b', h1, h2⟩ := fin_done h
  rw [h0, runB] at h1
  injection h1 with h1
  rw [h1]
  exact h2
theorem par_ok {l : List UInt8} (hl : l.length <= 60000) (h : parE l = 0) : yI l = 0 /\ finK l = true /\ finB l = [] := by
  unfold parE at h
  rw [if_pos hl] at h
  cases hp : parsesN l with
  | some k => rw [hp] at h; cases h
  | none =>
    unfold yI finK finB vV
    rw [if_pos hl, hp, if_pos hl]
    unfold parsesN at hp
    cases hb : jq l with
    | error k => rw [hb] at hp; cases hp
    | ok m =>
      rw [hb] at hp
      simp only at hp ⊢
      split at hp
      · rename_i hs
        obtain ⟨b, h1, h2⟩ := begun_ok hb
        refine ⟨rfl, rfl, ?_⟩
        show kM l m = []
        rw [h2.fin_]
        exact acc_fin (h2.acc.1 hs)
      · cases hp
theorem whole_of {p : List UInt8} {b : Bs} (hp : p.length <= 60000) (h : runB startB p 0 = .ok b) : finK p = true /\ (finB p = [] -> accB b) /\ ((p ++ finB p).length <= 60000 -> parE (p ++ finB p) = 0) := by
  obtain ⟨m, hm, hr⟩ := begun_of h
  have hI := inv_of h
  have hf : finB p = finS b := by
    unfold finB vV
    rw [if_pos hp, hm]
    exact hr.fin_
  refine ⟨?_, fun e => fin_nil hI (by rw [<- hf]; exact e), fun hl => ?_⟩
  · unfold finK vV
    rw [if_pos hp, hm]
    rfl
  · obtain ⟨b', h1, h2⟩ := fin_done hI
    rw [hf] at hl ⊢
    have hrun : runB startB (p ++ finS b) 0 = .ok b' := by
      rw [runB_app, h]
      exact runB_at _ _ _ 0 _ h1
    obtain ⟨m2, hm2, hr2⟩ := begun_of hrun
    unfold parE parsesN
    rw [if_pos hl, hm2]
    simp only
    rw [if_pos (hr2.acc.2 h2)]
theorem par_bad {l : List UInt8} (hl : l.length <= 60000) (h : parE l ≠ 0) : parE l = 90 /\ yI l <= l.length /\ finK (l.take (yI l)) = true /\ (finB (l.take (yI l)) = [] -> yI l ≠ l.length) /\ ((l.take (yI l) ++ finB (l.take (yI l))).length <= 60000 -> parE (l.take (yI l) ++ finB (l.take (yI l))) = 0) /\
    (yI l < l.length -> finK (l.take (yI l + 1)) = false /\ finB (l.take (yI l + 1)) = []) := by
  unfold parE at h
  rw [if_pos hl] at h
  cases hp : parsesN l with
  | none => rw [hp] at h; exact absurd rfl h
  | some k =>
    have he : parE l = 90 := by unfold parE; rw [if_pos hl, hp]
    have ha : yI l = k := by unfold yI; rw [if_pos hl, hp]; rfl
    rw [ha]
    refine ⟨he, ?_⟩
    unfold parsesN at hp
    cases hb : jq l with
    | error j =>
      rw [hb] at hp
      simp only at hp
      injection hp with hp
      subst hp
      obtain ⟨h1, h2, ⟨b, h3⟩, h4⟩ := runB_err l startB 0 j (begun_err.1 hb)
      rw [Nat.sub_zero] at h3 h4
      have hlt : j < l.length := by omega
      have hw := whole_of (p := l.take j) (by rw [List.length_take]; omega) h3
      refine ⟨by omega, hw.1, fun _ => by omega, hw.2.2, fun _ => ?_⟩
      have hbe := begun_err.2 h4
      unfold finK finB vV
      rw [if_pos (by rw [List.length_take]; omega), hbe]
      exact ⟨rfl, rfl⟩
    | ok m =>
      rw [hb] at hp
      simp only at hp
      split at hp
      · cases hp
      · rename_i hs
        injection hp with hp
        subst hp
        obtain ⟨b, h1, h2⟩ := begun_ok hb
        rw [List.take_length]
        have hw := whole_of hl h1
        exact ⟨Nat.le_refl _, hw.1, fun e => absurd (h2.acc.2 (hw.2.1 e)) hs, hw.2.2, fun hlt => absurd hlt (Nat.lt_irrefl _)⟩
theorem well_lt : ∀ {st : List Nat}, wellB st = true -> ∀ n ∈ st, n < 85
  | [], _, n, hn => by cases hn
  | x :: l, h, n, hn => by
    rw [wellB, Bool.and_eq_true, Bool.and_eq_true] at h
    rcases List.mem_cons.1 hn with rfl | hn
    · have := of_decide_eq_true h.1.1
      omega
    · exact well_lt h.2 n hn
theorem with_len {st : List Nat} (h : ∀ n ∈ st, n < 85) {t : Nat} (ht : t < 58) (hm : mayN t st = true) : (jc t st).length <= st.length + 12 := takeN_len t ht st _ _ h hm (vl ht hm)
theorem tryN_len {st : List Nat} (h : ∀ n ∈ st, n < 85) {t : Nat} (ht : t < 58) {best more : List UInt8} {K : Nat} (hb : best.length <= K) (hm : more.length + 12 * (st.length + 12) <= K) : (tryN st best t more).length <= K := by
  unfold tryN
  cases hmay : mayN t st with
  | false => rw [if_neg (by decide)]; exact hb
  | true =>
    rw [if_pos rfl]
    simp only
    have h1 := with_len h ht hmay
    have h2 := (kY (jc t st)).1
    split
    · rw [List.length_append]; omega
    · exact hb
theorem tries_len {st : List Nat} (h : ∀ n ∈ st, n < 85) (w : List UInt8) {K : Nat} (hK : 9 + 12 * (st.length + 12) <= K) : ∀ (l : List (List UInt8)) (i : Nat) (best : List UInt8), i + l.length <= 35 -> (∀ r ∈ l, r.length <= 9) -> best.length <= K -> (ki st w l i best).length <= K
  | [], i, best, _, _, hb => hb
  | r :: l, i, best, hi, hr, hb => by
    rw [List.length_cons] at hi
    rw [ki]
    refine tries_len h w hK l (i + 1) _ (by omega) (fun x hx => hr x (List.mem_cons_of_mem _ hx)) ?_
    split
    · refine tryN_len h (by omega) hb ?_
      have := hr r List.mem_cons_self
      rw [List.length_drop]
      omega
    · exact hb
theorem wordEnd_len {st : List Nat} (h : ∀ n ∈ st, n < 85) (w : List UInt8) : (ky st w).length <= 12 * st.length + 200 := by
  have h1 := tries_len h w (K := 12 * st.length + 200) (by omega) resL 0 [] (by decide) (by decide) (Nat.zero_le _)
  unfold ky
  simp only
  split
  · exact tryN_len h (by decide) h1 (by simp only [List.length_nil]; omega)
  split
  · exact tryN_len h (by decide) h1 (by simp only [List.length_nil]; omega)
  split
  · exact tryN_len h (by decide) h1 (by simp only [List.length_cons, List.length_nil]; omega)
  · exact h1
theorem Rel.inv {src : List UInt8} {m : Mc} {b : Bs} (hI : InvB b) (h : Rel src m b) : Inv m.stack := by
  cases h with
  | btw h => exact hI.st
  | com h => exact hI.st
  | wrd h1 h2 h3 => exact hI.st
  | one h1 h2 h3 h4 h5 => rw [h4]; exact hI.st.take (ja _) h3.2
  | two h1 h2 h3 h4 => exact hI.st
  | txt h1 h2 h3 h4 => exact hI.st
theorem fin_len {src : List UInt8} {m : Mc} (hb : jq src = .ok m) : (kM src m).length <= 144 * src.length + 500 := by
  obtain ⟨b, h1, h2⟩ := begun_ok hb
  have h85 := well_lt (h2.inv (inv_of h1)).well
  have hlen := begun_len hb
  have hr := kY m.stack
  have hw := fun t (ht : t < 58) (hm : mayN t m.stack = true) => with_len h85 ht hm
  have hr2 := fun t => (kY (jc t m.stack)).2
  obtain ⟨hp, hk2, hk3, hk4⟩ := begun_fin hb
  unfold kM
  split
  · simp only
    split
    · exact Nat.zero_le _
    · rw [List.length_cons]; omega
  split
  · have := wordEnd_len h85 (src.drop m.from_)
    omega
  split
  · rename_i h3
    have h4 := hk3 h3
    have h5 := hw _ (ja _) h4.2.2
    have h6 := hr2 (jV (src.drop m.from_ ++ [61]))
    rw [List.length_cons]
    omega
  have h3 : 4 <= m.fin -> mayN 3 m.stack = true := by
    cases h2 with
    | btw h => intro e; omega
    | com h => intro e; omega
    | wrd h1 h2 h3 => intro e; omega
    | one h1 h2 h3 h4 h5 => intro e; omega
    | two h1 h2 h3 h4 => intro e; omega
    | txt h1 h2 h3 h4 => exact fun _ => h4
  have h6 := hr2 3
  split
  · have := hw 3 (by decide) (h3 (by omega))
    simp only [List.length_cons]; omega
  split
  · have := hw 3 (by decide) (h3 (by omega))
    simp only [List.length_cons]; omega
  split
  · have := hw 3 (by decide) (h3 (by omega))
    simp only [List.length_cons]; omega
  split
  · have := hw 3 (by decide) (h3 (by omega))
    simp only [List.length_cons]; omega
  · omega
theorem finB_len (l : List UInt8) : (finB l).length <= 10000000 := by
  unfold finB vV
  split
  · cases hb : jq l with
    | error k => exact Nat.zero_le _
    | ok m =>
      have := fin_len hb
      show (kM l m).length <= _
      omega
  · exact Nat.zero_le _
open Go.RowKit
theorem within_any (w : World) (n : Int) (h : Nat) (hh : h <= 1000000000) : Calls Tryz.prog 32 #[.int .i64 n, .int .i64 0, .int .i64 (h : Int)] w fun e w' => (∃ k : Nat, k <= h /\ e = .returned (.int .i64 (k : Int))) /\ w = w' := by
  have g1 : IntKind.i64.wrap (h : Int) = (h : Int) := IntWalk.i64_in _ (by omega)
  have g2 : IntKind.i64.wrap ((h : Int) + 1) = (h : Int) + 1 := IntWalk.i64_in _ (by omega)
  have hne : ((h : Int) + 1 == 0) = false := beq_eq_false_iff_ne.2 (by omega)
  have hne2 : ¬ (h : Int) + 1 = 0 := by omega
  have hq1 := Int.tmod_lt_of_pos n (show (0 : Int) < (h : Int) + 1 by omega)
  have hq2 := Int.lt_tmod_of_pos n (show (0 : Int) < (h : Int) + 1 by omega)
  have Hq := jJ0 (And.intro hq1 hq2)
  clear hq1 hq2
  go_enter Tryz.func32, Tryz.ntmps32
  go_wp2_with fail
  all_goals
    go_ret
    have hq := Hq.out
    generalize n.tmod ((h : Int) + 1) = q at *
    first
      | (refine ⟨⟨q.toNat, by omega, ?_⟩, rfl⟩
         show Ending.returned (.int .i64 (RowKit.wrap64 q)) = _
         rw [IntWalk.wrap64_in _ (by omega), show ((q.toNat : Nat) : Int) = q by omega])
      | (refine ⟨⟨(q + h + 1).toNat, by omega, ?_⟩, rfl⟩
         show Ending.returned (.int .i64 (RowKit.wrap64 (RowKit.wrap64 (RowKit.wrap64 (RowKit.wrap64 (q + h)) + 1)))) = _
         rw [IntWalk.wrap64_in (q + h) (by omega), IntWalk.wrap64_in (q + h) (by omega), IntWalk.wrap64_in (q + h + 1) (by omega), IntWalk.wrap64_in (q + h + 1) (by omega), show (((q + h + 1).toNat : Nat) : Int) = q + h + 1 by omega])
theorem xor_fin : ∀ c : Fin 256, bits BinOp.xor IntKind.u8 (c.val : Int) 1 = (((UInt8.ofNat c.val) ^^^ 1).toNat : Int) := by decide +kernel
theorem xor_one (c : UInt8) : bits BinOp.xor IntKind.u8 (c.toNat : Int) 1 = ((c ^^^ 1).toNat : Int) := by
  have h := xor_fin ⟨c.toNat, c.toNat_lt⟩
  simp only [UInt8.ofNat_toNat] at h
  exact h
theorem own_open {w : World} {base : Nat} {T : TypeId} {A : Option Addr} {n c : Nat} {xs : List Value} (h : w.ownsRow base T 1 (.slice A n c) n xs) (hn : 0 < n) : ∃ g cur, A = some ⟨g, 0, none⟩ /\ Blk w g T cur /\ n <= cur.size /\ cur.toList.take n = xs /\ base <= g := by
  rcases h.2 with ⟨_, h0⟩ | ⟨g, cap, cur, hv, hge, hg, h1, h2, h3, h4⟩
  · omega
  · injection hv with e1
    rw [Nat.mul_one] at h3 h4
    exact ⟨g, cur, e1, hg, by omega, h4, hge⟩
theorem rd_set {w : World} {g : Nat} {T : TypeId} {cur : Array Value} {n k : Nat} {l : List UInt8} (h : Blk w g T cur) (hn : n <= cur.size) (hx : cur.toList.take n = l.map bv) (x : UInt8) : Rd (w.setCell ⟨g, k, none⟩ (bv x)) 1 (some ⟨g, 0, none⟩) n ((l.set k x).map bv) := by
  have hl : (l.map bv).length = n := by rw [<- hx, List.length_take, Array.length_toList]; omega
  have e : (l.set k x).map bv = (cur.toList.set k (bv x)).take n := by rw [List.map_set, <- hx, List.take_set]
  refine ⟨by rw [List.map_set, List.length_set, hl, Nat.mul_one], fun _ => ⟨g, 0, rfl, fun j u hu => ?_⟩⟩
  have hj : j < n := by
    have h1 := (List.getElem?_eq_some_iff.1 hu).1
    rw [List.map_set, List.length_set, hl] at h1
    exact h1
  rw [Nat.zero_add, (h.set_ k (bv x)).cell j, <- Array.getElem?_toList, Array.toList_setIfInBounds]
  rw [e, List.getElem?_take_of_lt hj] at hu
  exact hu
theorem other_facts {w wa : World} {g k : Nat} {cur : Array Value} {l : List UInt8} (hb : Blk wa g 5 cur) (htk : cur.toList.take l.length = l.map bv) (hsz : l.length <= cur.size) (hO : Old w wa) (hge : w.heap.size <= g) (hk : k <= l.length - 1) (hpos : 0 < l.length) :
    ∃ x y : UInt8, wa.cell? ⟨g, k, none⟩ = some (.int .u8 (x.toNat : Int)) /\ wa.frozen? ⟨g, k, none⟩ = false /\ bits BinOp.xor IntKind.u8 (x.toNat : Int) 1 = (y.toNat : Int) /\ (k : Int) < (l.length : Int) /\ (0 : Int) <= (k : Int) /\ (k : Int).toNat = k /\ Old w (wa.setCell ⟨g, k, none⟩ (.int .u8 (y.toNat : Int))) /\ ∃ v : List UInt8, v.length = l.length /\ Rd (wa.setCell ⟨g, k, none⟩ (.int .u8 (y.toNat : Int))) 1 (some ⟨g, 0, none⟩) l.length (v.map bv) := by
  have hkl : k < l.length := by omega
  have hck : cur[k]? = some (bv l[k]) := by
    have h1 : (cur.toList.take l.length)[k]? = some (bv l[k]) := by rw [htk, List.getElem?_map, List.getElem?_eq_getElem hkl]; rfl
    rw [List.getElem?_take_of_lt hkl, Array.getElem?_toList] at h1
    exact h1
  exact ⟨l[k], l[k] ^^^ 1, hb.at_ k hck, hb.frozen k, xor_one _, by omega, by omega, by omega, hO.setCell (p := ⟨g, k, none⟩) (fun hlt => by have : g < w.heap.size := hlt; omega) _, l.set k (l[k] ^^^ 1), List.length_set, rd_set hb hsz htk _⟩
theorem other_any (w : World) (B : Option Addr) (d : Nat) (l : List UInt8) (at_ : Int) (hr : Rd w 1 B l.length (l.map bv)) (hl : l.length <= 100000000) :
    Calls Tryz.prog 43 #[.slice B l.length d, .int .i64 at_] w fun e w' => ∃ A c, ∃ v : List UInt8, v.length = l.length /\ e = .returned (.slice A l.length c) /\ Rd w' 1 A l.length (v.map bv) /\ Old w w' /\ (∀ ad, A = some ad -> w.heap.size <= ad.block) := by
  obtain ⟨i0, hi, hz0, hz1, hz2⟩ := info_parts Tryz.infoB
  have Hr := jJ0 hr
  have Hone := jJ0 (vQ l)
  have J63 := jJ0 (show 0 + l.length <= maxLen by unfold maxLen; omega)
  have J47 := jJ0 (show (0 + l.length) * 1 <= 140737488355328 by omega)
  clear hr
  rcases Nat.eq_zero_or_pos l.length with h0 | h0
  · have e0 : ¬ (0 : Int) < (l.length : Int) := by omega
    clear h0
    go_enter Tryz.func43, Tryz.ntmps43
    go_wp2_with (first | (at_builtin; refine jF _ rfl (.const (.slice none 0 0)) (.tmp 7) 33 rfl w.heap.size 5 i0 (.int .u8 0) 1 1 Tryz.underlying33 hi hz0 hz1 hz2 rfl (by decide) (.slice none 0 0) 0 [] rfl (World.ownsRow_nil _ _ _ _) B l.length d (l.map bv) rfl Hr.out Hone.out J63.out J47.out (Nat.le_refl _) ?_; intro Ac cc wa hown hgrow hat; rw [Nat.zero_add, List.nil_append] at hown; rw [Nat.zero_add]; have HOwn := jJ0 hown; have HOA := jJ0 (Kp.grown (Kp.refl _ _) hgrow (fun _ e _ => by cases e) : Old w wa); clear hown hgrow hat) | fail)
    go_ret
    exact ⟨_, _, l, rfl, rfl, Rd.of_own HOwn.out, HOA.out, fun ad e => (vE HOwn.out (b := ad.block) (by rw [e]; rfl)).1⟩
  · have e0 : (0 : Int) < (l.length : Int) := by omega
    have e1 : IntKind.i64.wrap ((l.length : Int) - 1) = ((l.length - 1 : Nat) : Int) := by rw [IntWalk.i64_in _ (by omega)]; omega
    have Hpos := jJ0 h0
    clear h0
    have HW := jJ0 (fun W => within_any W at_ (l.length - 1) (by omega))
    go_enter Tryz.func43, Tryz.ntmps43
    go_wp2_with (first | (go_at_call 32; refine (HW.out _).mono ?_; rintro e w2 ⟨⟨k, hk, rfl⟩, rfl⟩; obtain ⟨x, y, hc, hz, hxy, b1, b2, b3, hov, v, hvl, hrv⟩ := other_facts HB.out Htk.out Hsz.out HOA.out Hge.out hk Hpos.out; have HOv := jJ0 hov; have Hvl := jJ0 hvl; have HRv := jJ0 hrv; clear hov hvl hrv hk) | (at_builtin; refine jF _ rfl (.const (.slice none 0 0)) (.tmp 7) 33 rfl w.heap.size 5 i0 (.int .u8 0) 1 1 Tryz.underlying33 hi hz0 hz1 hz2 rfl (by decide) (.slice none 0 0) 0 [] rfl (World.ownsRow_nil _ _ _ _) B l.length d (l.map bv) rfl Hr.out Hone.out J63.out J47.out (Nat.le_refl _) ?_; intro Ac cc wa hown hgrow hat; rw [Nat.zero_add, List.nil_append] at hown; rw [Nat.zero_add]; obtain ⟨g, cur, rfl, hB, hsz, htk, hge⟩ := own_open hown Hpos.out; have HB := jJ0 hB; have HOA := jJ0 (Kp.grown (Kp.refl _ _) hgrow (fun _ e _ => by cases e) : Old w wa); have Htk := jJ0 htk; have Hsz := jJ0 hsz; have Hge := jJ0 hge; clear hown hgrow hat hB hsz htk hge) | fail)
    go_ret
    exact ⟨_, _, v, Hvl.out, rfl, HRv.out, HOv.out, fun ad e => by injection e with e; rw [<- e]; exact Hge.out⟩
end Go.Proofs.YtmmjcbbogokmfaaGreatDoor

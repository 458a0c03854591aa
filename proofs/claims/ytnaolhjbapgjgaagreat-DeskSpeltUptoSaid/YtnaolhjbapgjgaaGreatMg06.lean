import Derived.Test.YtnaolhjbapgjgaaGreatMg04
import Derived.Test.YtnaolhjbapgjgaaGreatMg05
import Derived.Great.BuildSlice
import Derived.StillTailTactics
set_option maxRecDepth 100000
set_option maxHeartbeats 3200000
namespace Go.Proofs.YtnaolhjbapgjgaaGreat
open Go.RowKit
structure KF (w : World) (g : Nat) (r : Option Nat) (w' : World) (r' : Option Nat) : Prop where
  kp : Kp (WX g r) w w'
  fr : Fr w r r'
theorem WStep.kf {w w' : World} {g : Nat} {r : Option Nat} {bs : List UInt8} (h : WStep w g r w' bs) : ∃ r', Wr w' g r' bs /\ KF w g r w' r' := by
  obtain ⟨r', h1, h2, h3⟩ := h
  exact ⟨r', h1, h2, h3⟩
section
variable {w w1 w2 : World} {g : Nat} {r r1 r2 : Option Nat} {bs : List UInt8}
theorem KF.step (h : KF w g r w1 r1) (hW : Wr w1 g r1 bs) : WStep w g r w1 bs := ⟨r1, hW, h.kp, h.fr⟩
theorem KF.trans (h : KF w g r w1 r1) (k : KF w1 g r1 w2 r2) : KF w g r w2 r2 := by
  refine ⟨h.kp.trans k.kp (fun b hb hx => ?_), ?_⟩
  · rcases hx with rfl | hx
    · exact .inl rfl
    · rcases h.fr with rfl | ⟨k, rfl, hle⟩
      · exact .inr hx
      · injection hx with hx; omega
  · rcases k.fr with rfl | ⟨j, rfl, hle⟩
    · exact h.fr
    · exact .inr ⟨j, rfl, Nat.le_trans h.kp.size hle⟩
theorem KF.old (h : KF w g r w1 r1) (ho : Old w1 w2) : KF w g r w2 r1 := ⟨h.kp.old ho, h.fr⟩
theorem KF.of (ho : Old w w1) : KF w g r w1 r := ⟨ho.mono (fun _ _ f => f.elim), .inl rfl⟩
theorem KF.blk {b : Nat} {t : TypeId} {cs : Array Value} (h : KF w g r w1 r1) (hb : Blk w b t cs) (hx : ¬ WX g r b) : Blk w1 b t cs := hb.kp h.kp hx
theorem KF.rd {s n : Nat} {A : Option Addr} {xs : List Value} (h : KF w g r w1 r1) (hr : Rd w s A n xs) (ha : Av (WX g r) n A) : Rd w1 s A n xs := hr.kp h.kp ha
theorem KF.av {s n : Nat} {A : Option Addr} {xs : List Value} (h : KF w g r w1 r1) (hr : Rd w s A n xs) (hs : 0 < s) (ha : Av (WX g r) n A) : Av (WX g r1) n A := ha.fresh h.fr hr hs
end
def LayP (w : World) (g : Nat) (r : Option Nat) (bs : List UInt8) (o : Option (List UInt8)) (m : Nat) (e : Ending) (w' : World) : Prop :=
  (∃ l, o = some l /\ l.length <= m /\ e = .returned (.bool true) /\ WStep w g r w' (bs ++ l)) \/ (o = none /\ e = .returned (.bool false) /\ ∃ l, WStep w g r w' (bs ++ l))
def okT (l : List ByteArray) : Bool := l.all fun s => decide (s.size <= 4194304)
theorem TextPost.lay {w w' : World} {g : Nat} {r : Option Nat} {bs : List UInt8} {l : List ByteArray} {e : Ending} (h : TextPost w g r bs l e w') :
    (e = .returned (.bool true) /\ okT l = true /\ WStep w g r w' (bs ++ lps4 l)) \/ (e = .returned (.bool false) /\ okT l = false /\ ∃ l', WStep w g r w' (bs ++ l')) := by
  obtain ⟨k, hk, he, h1, h2, hst⟩ := h
  by_cases hkl : k = l.length
  · subst hkl
    refine .inl ⟨by simpa using he, ?_, by simpa using hst⟩
    rw [okT, List.all_eq_true]
    intro s hs
    obtain ⟨j, hj, rfl⟩ := List.getElem_of_mem hs
    have := h1 j hj
    simpa [List.getD, List.getElem?_eq_getElem hj] using this
  · have hlt : k < l.length := by omega
    refine .inr ⟨by simpa [hkl] using he, ?_, _, hst⟩
    have h3 := h2 hlt
    simp only [List.getD, List.getElem?_eq_getElem hlt, Option.getD_some] at h3
    rw [<- Bool.not_eq_true, okT, List.all_eq_true]
    intro h
    have := h _ (List.getElem_mem hlt)
    simp only [decide_eq_true_eq] at this
    omega
theorem lps4_len (l : List ByteArray) (h : okT l = true) : (lps4 l).length <= l.length * 4194308 := by
  have := lps4_length_le l 4194304 l.length (Nat.le_refl _) (fun j hj => by
    rw [okT, List.all_eq_true] at h
    have := h _ (List.getElem_mem hj)
    simpa [List.getD, List.getElem?_eq_getElem hj] using this)
  simpa using this
def bareB (e : Int) : Bool := decide (e = 240 \/ e = 241 \/ e = 242)
theorem bare_any (w : World) (n : Int) : Calls Tryz.prog 27 #[.int .i64 n] w fun e w' => e = .returned (.bool (bareB n)) /\ w = w' := by
  by_cases h1 : n = 240
  · subst h1
    go_enter Tryz.func27, Tryz.ntmps27
    go_wp2
    go_ret
    exact ⟨rfl, rfl⟩
  · have b1 : (n == 240) = false := by simpa using h1
    by_cases h2 : n = 241
    · subst h2
      go_enter Tryz.func27, Tryz.ntmps27
      go_wp2
      go_ret
      exact ⟨rfl, rfl⟩
    · have b2 : (n == 241) = false := by simpa using h2
      have hb : bareB n = (n == 242) := by
        rw [bareB, Bool.eq_iff_iff]
        simp [h1, h2]
      rw [hb]
      go_enter Tryz.func27, Tryz.ntmps27
      go_wp2
      go_ret
      exact ⟨rfl, rfl⟩
def placeB (l : List Int) : Option (List UInt8) := if (l.all fun n => decide (0 <= n /\ n <= 4294967295)) = true then some (l.flatMap fun n => be 4 n.toNat) else none
theorem flat4_len (l : List Int) : (l.flatMap fun n => be 4 n.toNat).length = l.length * 4 := by
  induction l with
  | nil => rfl
  | cons a l ih => rw [List.flatMap_cons, List.length_append, ih, jC, List.length_cons]; omega
theorem kK {α : Type} (f : α -> List UInt8) (l : List α) (k : Nat) (h : k < l.length) : (l.take (k + 1)).flatMap f = (l.take k).flatMap f ++ f l[k] := by
  rw [List.take_succ_eq_append_getElem h, List.flatMap_append]
  simp
theorem placed_any (w : World) (g : Nat) (r : Option Nat) (bs : List UInt8) (a b c : Int) (hW : Wr w g r bs) (hl : bs.length <= 700000000000) :
    Calls Tryz.prog 28 #[.pointer (some ⟨g, 0, none⟩), .agg #[.int .i64 a, .int .i64 b, .int .i64 c]] w (LayP w g r bs (placeB [a, b, c]) 12) := by
  have Hl := jJ0 hl
  have ho := (((Kp.refl NoX w).alloc (.cells #[.int .i64 a, .int .i64 b, .int .i64 c] 37)).alloc (.cells #[.int .i64 a, .int .i64 b, .int .i64 c] 3))
  have hb := Blk.new (w.alloc (.cells #[.int .i64 a, .int .i64 b, .int .i64 c] 37)) 3 #[.int .i64 a, .int .i64 b, .int .i64 c]
  rw [show (w.alloc (.cells #[.int .i64 a, .int .i64 b, .int .i64 c] 37)).heap.size = w.heap.size + 1 by simp] at hb
  have Hx := jJ0 (kW hW (Nat.le_succ w.heap.size))
  clear hl
  go_enter Tryz.func28, Tryz.ntmps28
  go_wp2
  generalize (w.alloc _).alloc _ = W at *
  have Hb := jJ0 hb
  have Ho := jJ0 ho
  clear hb ho
  go_loopw [15] (fun i wr => ∃ k : Nat, k <= 3 /\ i = .int .i64 k /\ (([a, b, c].take k).all fun n => decide (0 <= n /\ n <= 4294967295)) = true /\ WStep W g r wr (bs ++ ([a, b, c].take k).flatMap fun n => be 4 n.toNat)) (fun i _ => 3 - (intOf i).toNat)
  case atStart => exact ⟨0, by omega, rfl, rfl, by simpa using (hW.old Ho.out).step⟩
  case round =>
    obtain ⟨k, hk, rfl, hgood, hst⟩ := hrel
    by_cases hlt : k < 3
    · obtain ⟨r', hW', hk', hf'⟩ := hst
      have hbk := Hb.out.kp hk' Hx.out
      have hkl : k < [a, b, c].length := hlt
      have hc := hbk.at_ k (v := .int .i64 [a, b, c][k]) (by
        have : k = 0 \/ k = 1 \/ k = 2 := by omega
        rcases this with rfl | rfl | rfl <;> rfl)
      have Hfin := jJ0 (show bs ++ (([a, b, c].take (k + 1)).flatMap fun n => be 4 n.toNat) = (bs ++ ([a, b, c].take k).flatMap fun n => be 4 n.toNat) ++ be 4 [a, b, c][k].toNat by
        rw [kK (fun n : Int => be 4 n.toNat) [a, b, c] k hkl]; simp)
      have Hgood := jJ0 (show (([a, b, c].take (k + 1)).all fun n => decide (0 <= n /\ n <= 4294967295)) = decide (0 <= [a, b, c][k] /\ [a, b, c][k] <= 4294967295) by
        rw [List.take_succ_eq_append_getElem hkl, List.all_append, hgood]; simp)
      have Hlen := jJ0 (show (bs ++ ([a, b, c].take k).flatMap fun n => be 4 n.toNat).length <= 800000000000 by
        have := Hl.out
        rw [List.length_append, flat4_len, List.length_take]
        omega)
      have Hno := jJ0 (show ¬ (0 <= [a, b, c][k] /\ [a, b, c][k] <= 4294967295) -> placeB [a, b, c] = none from fun hn => by
        rw [placeB, if_neg]
        intro h
        rw [List.all_eq_true] at h
        exact hn (by simpa using h _ (List.getElem_mem hkl)))
      have Hcs := jJ0 (show ∃ l, (bs ++ ([a, b, c].take k).flatMap fun n => be 4 n.toNat) = bs ++ l from ⟨_, rfl⟩)
      generalize [a, b, c][k] = y at *
      generalize (bs ++ ([a, b, c].take k).flatMap fun n => be 4 n.toNat) = cs at *
      generalize placeB [a, b, c] = PB at *
      clear hgood hbk
      have b1 : (0 : Int) <= (k : Int) := by omega
      have b2 : (k : Int) < 3 := by omega
      have b3 : (k : Int).toNat = k := by omega
      by_cases hy : 0 <= y /\ y <= 4294967295
      · obtain ⟨hy0, hy1⟩ := hy
        have hn0 : ¬ y < 0 := by omega
        have hn1 : ¬ (4294967295 : Int) < y := by omega
        have hwr : IntKind.u32.wrap y = y := IntWalk.u32_in _ (by omega)
        go_wp2_with fail
        refine (put32_any _ g r' cs y hy0 hy1 hW' (Nat.le_trans Hlen.out (by decide))).mono ?_
        rintro e w2 ⟨rfl, hst⟩
        have Hst := jJ0 (WStep.trans hk' hf' hst)
        clear hst hc
        go_wp2
        go_roundw
        case rel => exact ⟨k + 1, by omega, by go_num, by rw [Hgood.out]; simp; omega, by rw [Hfin.out]; exact Hst.out⟩
        case measure => simp [intOf]; omega
      · have Hend := jJ0 (show LayP w g r bs PB 12 (.returned (.bool false)) wr from by
          obtain ⟨l, hl⟩ := Hcs.out
          exact .inr ⟨Hno.out hy, rfl, l, WStep.after Ho.out ⟨r', hl ▸ hW', hk', hf'⟩⟩)
        by_cases hy0 : y < 0
        · go_wp2
          go_ret
          exact Hend.out
        · have hy1 : (4294967295 : Int) < y := by omega
          go_wp2
          go_ret
          exact Hend.out
    · obtain rfl : k = 3 := by omega
      have Hend := jJ0 (show LayP w g r bs (placeB [a, b, c]) 12 (.returned (.bool true)) wr from by
        refine .inl ⟨[a, b, c].flatMap fun n => be 4 n.toNat, ?_, by rw [flat4_len]; simp, rfl, ?_⟩
        · rw [placeB, if_pos]
          exact hgood
        · exact WStep.after Ho.out hst)
      go_wp2
      go_ret
      exact Hend.out
def vO (l : List ByteArray) : Option (List UInt8) := if l.length <= 255 /\ okT l = true then some (be 1 l.length ++ lps4 l) else none
theorem names_any (w : World) (g : Nat) (r : Option Nat) (bs : List UInt8) (A : Option Addr) (c : Nat) (l : List ByteArray) (hW : Wr w g r bs) (hl : bs.length <= 600000000000)
    (hrd : Rd w 1 A l.length (l.map sv)) (hav : Av (WX g r) l.length A) (hbig : ∀ k, k < l.length -> (l.getD k ByteArray.empty).size <= 2147483647) (hn : l.length <= 1000000000000) :
    Calls Tryz.prog 104 #[.pointer (some ⟨g, 0, none⟩), .slice A l.length c] w (LayP w g r bs (vO l) 1100000000) := by
  by_cases hm : l.length <= 255
  · have hm1 : ¬ ((255 : Int) < (l.length : Int)) := by omega
    have e8 : IntKind.u8.wrap (l.length : Int) = l.length := IntWalk.u8_in _ (by omega)
    have Hbig := jJ0 hbig
    have Hrd := jJ0 hrd
    have Hav := jJ0 hav
    have Hl := jJ0 hl
    clear hbig hrd hav hl
    go_enter Tryz.func104, Tryz.ntmps104
    go_wp2_with fail
    refine (jV _ g r bs (l.length : Int) (by omega) (by omega) hW (by have := Hl.out; omega)).mono ?_
    rintro e w1 ⟨rfl, r1, hW1, hk1, hf1⟩
    rw [Int.toNat_natCast] at hW1
    have HT := jJ0 (vB w1 g r1 (bs ++ be 1 l.length) A c l hW1 (by have := Hl.out; rw [List.length_append, jC]; omega) (Hrd.out.kp hk1 Hav.out) (Hav.out.fresh hf1 Hrd.out (by decide)) (by omega) Hbig.out)
    have Hk1 := jJ0 hk1
    clear hk1 hW1
    go_wp2_with fail
    refine HT.out.mono ?_
    intro e w2 ht
    rcases ht.lay with ⟨rfl, hok, hst⟩ | ⟨rfl, hok, l', hst⟩
    · have Hend := jJ0 (show LayP w g r bs (vO l) 1100000000 (.returned (.bool true)) w2 from by
        refine .inl ⟨be 1 l.length ++ lps4 l, by rw [vO, if_pos ⟨hm, hok⟩], ?_, rfl, ?_⟩
        · have := lps4_len l hok
          rw [List.length_append, jC]
          omega
        · have := WStep.trans Hk1.out hf1 hst
          rwa [List.append_assoc] at this)
      clear ht hst hok
      go_wp2
      go_ret
      exact Hend.out
    · have Hend := jJ0 (show LayP w g r bs (vO l) 1100000000 (.returned (.bool false)) w2 from by
        refine .inr ⟨by rw [vO, if_neg (fun h => by rw [hok] at h; exact absurd h.2 (by decide))], rfl, be 1 l.length ++ l', ?_⟩
        have := WStep.trans Hk1.out hf1 hst
        rwa [List.append_assoc] at this)
      clear ht hst hok
      go_wp2
      go_ret
      exact Hend.out
  · have hm1 : (255 : Int) < (l.length : Int) := by omega
    have Hend := jJ0 (show LayP w g r bs (vO l) 1100000000 (.returned (.bool false)) w from
      .inr ⟨by rw [vO, if_neg]; exact fun h => hm h.1, rfl, [], by rw [List.append_nil]; exact hW.step⟩)
    clear hbig hrd hav
    go_enter Tryz.func104, Tryz.ntmps104
    go_wp2
    go_ret
    exact Hend.out
structure MHap where
  op : Int
  name : ByteArray
def MHap.cells (h : MHap) : List Value := [.int .i64 h.op, .string h.name]
def okH (l : List MHap) : Bool := l.all fun h => decide (0 <= h.op /\ h.op <= 255 /\ h.name.size <= 4194304)
def hapB (h : MHap) : List UInt8 := be 1 h.op.toNat ++ lp 4 (sb h.name)
def happB (l : List MHap) : Option (List UInt8) := if l.length <= 65535 /\ okH l = true then some (be 2 l.length ++ l.flatMap hapB) else none
theorem hapB_len (l : List MHap) : ∀ k, k <= l.length -> okH (l.take k) = true -> ((l.take k).flatMap hapB).length <= k * 4194309 := by
  intro k
  induction k with
  | zero => intro _ _; simp
  | succ k ih =>
    intro hk h
    have hkl : k < l.length := by omega
    rw [List.take_succ_eq_append_getElem hkl, okH, List.all_append, Bool.and_eq_true] at h
    have h1 := ih (by omega) h.1
    have h2 := h.2
    simp only [List.all_cons, List.all_nil, Bool.and_true, decide_eq_true_eq] at h2
    rw [kK hapB l k hkl, List.length_append, hapB, List.length_append, jC, jL, jF]
    omega
theorem happened_any (w : World) (g : Nat) (r : Option Nat) (bs : List UInt8) (A : Option Addr) (c : Nat) (l : List MHap) (hW : Wr w g r bs) (hl : bs.length <= 300000000000)
    (hrd : Rd w 2 A l.length (l.flatMap MHap.cells)) (hav : Av (WX g r) l.length A) (hbig : ∀ h ∈ l, h.name.size <= 2147483647) (hn : l.length <= 1000000000000) :
    Calls Tryz.prog 54 #[.pointer (some ⟨g, 0, none⟩), .slice A l.length c] w (LayP w g r bs (happB l) 300000000000) := by
  by_cases hm : l.length <= 65535
  · have hm1 : ¬ ((65535 : Int) < (l.length : Int)) := by omega
    have e16 : IntKind.u16.wrap (l.length : Int) = l.length := IntWalk.u16_in _ (by omega)
    have Hbig := jJ0 hbig
    have Hrd := jJ0 hrd
    have Hav := jJ0 hav
    have Hl := jJ0 hl
    clear hbig hrd hav hl
    go_enter Tryz.func54, Tryz.ntmps54
    go_wp2_with fail
    refine (put16_any _ g r bs (l.length : Int) (by omega) (by omega) hW (by have := Hl.out; omega)).mono ?_
    rintro e w1 ⟨rfl, hst1⟩
    rw [Int.toNat_natCast] at hst1
    have Hst1 := jJ0 hst1
    clear hst1
    go_wp2
    go_loopw [17] (fun i wr => ∃ k : Nat, k <= l.length /\ i = .int .i64 k /\ okH (l.take k) = true /\ WStep w g r wr (bs ++ (be 2 l.length ++ (l.take k).flatMap hapB))) (fun i _ => l.length - (intOf i).toNat)
    case atStart => exact ⟨0, by omega, rfl, rfl, by simpa using Hst1.out⟩
    case round =>
      obtain ⟨k, hk, rfl, hgood, hst⟩ := hrel
      by_cases hlt : k < l.length
      · obtain ⟨r', hW', hk', hf'⟩ := hst
        obtain ⟨b, o, rfl, hrg⟩ := (Hrd.out.kp hk' Hav.out).elem (f := MHap.cells) (fun _ _ => rfl) rfl hlt
        have hlen := hapB_len l k hk hgood
        have Hfin := jJ0 (show bs ++ (be 2 l.length ++ (l.take (k + 1)).flatMap hapB) = ((bs ++ (be 2 l.length ++ (l.take k).flatMap hapB)) ++ be 1 l[k].op.toNat) ++ lp 4 (sb l[k].name) by
          rw [kK hapB l k hlt, hapB]; simp)
        have Hgood := jJ0 (show okH (l.take (k + 1)) = decide (0 <= l[k].op /\ l[k].op <= 255 /\ l[k].name.size <= 4194304) by
          rw [List.take_succ_eq_append_getElem hlt, okH, List.all_append]
          rw [okH] at hgood
          rw [hgood]; simp)
        have Hno := jJ0 (show ¬ (0 <= l[k].op /\ l[k].op <= 255 /\ l[k].name.size <= 4194304) -> happB l = none from fun hno => by
          rw [happB, if_neg]
          rintro ⟨_, h⟩
          rw [okH, List.all_eq_true] at h
          exact hno (by simpa using h _ (List.getElem_mem hlt)))
        have hby := Hbig.out _ (List.getElem_mem hlt)
        have Hcs := jJ0 (show ∃ x, (bs ++ (be 2 l.length ++ (l.take k).flatMap hapB)) = bs ++ x from ⟨_, rfl⟩)
        have Hlen := jJ0 (show (bs ++ (be 2 l.length ++ (l.take k).flatMap hapB)).length <= 600000000000 by
          have := Hl.out
          rw [List.length_append, List.length_append, jC]
          omega)
        generalize l[k] = y at *
        obtain ⟨op, name⟩ := y
        have q0 := hrg 0 _ rfl
        have q1 := hrg 1 _ rfl
        simp only [Nat.add_zero] at q0 q1 Hfin Hgood Hno hby
        generalize bs ++ (be 2 l.length ++ (l.take k).flatMap hapB) = cs at *
        generalize happB l = HB at *
        have Hrg := jJ0 hrg
        clear hgood hrg hlen
        have b1 : (0 : Int) <= (k : Int) := by omega
        have b2 : (k : Int) < (l.length : Int) := by omega
        have b3 : (k : Int).toNat = k := by omega
        have b5 : (k : Int) <= 65535 := by omega
        by_cases hy : 0 <= op /\ op <= 255
        · obtain ⟨hy0, hy1⟩ := hy
          have hn0 : ¬ op < 0 := by omega
          have hn1 : ¬ (255 : Int) < op := by omega
          have hwr : IntKind.u8.wrap op = op := IntWalk.u8_in _ (by omega)
          have ho := (Kp.refl NoX wr).alloc (.cells #[.int .i64 op, .string name] 105)
          have hb := Blk.new wr 105 #[.int .i64 op, .string name]
          have Ho := jJ0 ho
          have Hx := jJ0 (kW hW' (Nat.le_refl wr.heap.size))
          go_wp2_with fail
          generalize wr.alloc _ = W at *
          refine (jV _ g r' cs op hy0 hy1 (hW'.old Ho.out) (by have := Hlen.out; omega)).mono ?_
          rintro e w2 ⟨rfl, r2, hW2, hk2, hf2⟩
          have d1 := (hb.kp hk2 Hx.out).at_ 1 (v := .string name) rfl
          have HT := jJ0 (fun w3 (ho3 : Old w2 w3) B hr hv => vB w3 g r2 (cs ++ be 1 op.toNat) B 1 [name] (hW2.old ho3) (by have := Hlen.out; rw [List.length_append, jC]; omega) hr hv (by simp) (fun j hj => by
            simp only [List.length_cons, List.length_nil] at hj
            obtain rfl : j = 0 := by omega
            exact hby))
          have Hkf := jJ0 ((KF.mk hk' hf').trans ((KF.of Ho.out).trans (KF.mk hk2 hf2)))
          have HW2 := jJ0 hW2
          have HT1 := jJ0 (HT.out _ ((Kp.refl NoX w2).alloc (.cells #[.string name] 9)) _ (Rd.arr_new w2 _ [.string name]) (Av.new hW2))
          have Ho3 := jJ0 ((Kp.refl NoX w2).alloc (.cells #[.string name] 9))
          clear hk2 hW2 HT
          go_wp2_with fail
          refine HT1.out.mono ?_
          intro e w3 ht
          rcases ht.one with ⟨rfl, hs, hst⟩ | ⟨rfl, hs, hst⟩
          · obtain ⟨r3, hW3, f3⟩ := hst.kf
            have Hst := jJ0 ((Hkf.out.trans ((KF.of Ho3.out).trans f3)).step hW3)
            have Hs := jJ0 hs
            clear ht hst hW3 f3 hs d1
            go_wp2
            go_roundw
            case rel => exact ⟨k + 1, by omega, by go_num, by rw [Hgood.out]; have := Hs.out; simp; omega, by rw [Hfin.out]; exact Hst.out⟩
            case measure => simp [intOf]; omega
          · obtain ⟨r3, hW3, f3⟩ := hst.kf
            have Hend := jJ0 (show LayP w g r bs HB 300000000000 (.returned (.bool false)) w3 from by
              obtain ⟨x, hx⟩ := Hcs.out
              rw [hx, List.append_assoc] at hW3
              exact .inr ⟨Hno.out (fun h => by omega), rfl, _, (Hkf.out.trans ((KF.of Ho3.out).trans f3)).step hW3⟩)
            clear ht hst hW3 f3 hs d1
            go_wp2
            go_ret
            exact Hend.out
        · have Hend := jJ0 (show LayP w g r bs HB 300000000000 (.returned (.bool false)) (wr.alloc (.cells #[.int .i64 op, .string name] 105)) from by
            obtain ⟨x, hx⟩ := Hcs.out
            exact .inr ⟨Hno.out (fun h => hy ⟨h.1, h.2.1⟩), rfl, x, WStep.old ⟨r', hx ▸ hW', hk', hf'⟩ ((Kp.refl NoX wr).alloc _)⟩)
          by_cases hy0 : op < 0
          · go_wp2
            go_ret
            exact Hend.out
          · have hy1 : (255 : Int) < op := by omega
            go_wp2
            go_ret
            exact Hend.out
      · obtain rfl : k = l.length := by omega
        have Hend := jJ0 (show LayP w g r bs (happB l) 300000000000 (.returned (.bool true)) wr from by
          rw [List.take_of_length_le (Nat.le_refl _)] at hst hgood
          refine .inl ⟨be 2 l.length ++ l.flatMap hapB, by rw [happB, if_pos ⟨hm, hgood⟩], ?_, rfl, hst⟩
          have := hapB_len l l.length (Nat.le_refl _) (by rw [List.take_of_length_le (Nat.le_refl _)]; exact hgood)
          rw [List.take_of_length_le (Nat.le_refl _)] at this
          rw [List.length_append, jC]
          omega)
        go_wp2
        go_ret
        exact Hend.out
  · have hm1 : (65535 : Int) < (l.length : Int) := by omega
    have Hend := jJ0 (show LayP w g r bs (happB l) 300000000000 (.returned (.bool false)) w from
      .inr ⟨by rw [happB, if_neg]; exact fun h => hm h.1, rfl, [], by rw [List.append_nil]; exact hW.step⟩)
    clear hbig hrd hav
    go_enter Tryz.func54, Tryz.ntmps54
    go_wp2
    go_ret
    exact Hend.out
theorem Tryz.infoDigest : ∃ i z, Tryz.prog.info? 40 = some i /\ i.zero = some (.agg z) /\ i.size = 32 /\ i.bytes = 32 /\ z.size = 32 := by
  have h : (Tryz.prog.info? 40).map (fun i => (i.zero, i.size, i.bytes)) = some (some (.agg zero32.toArray), 32, 32) := by kernel_rfl
  obtain ⟨i, hi, h1, h2, h3⟩ := info_parts h
  exact ⟨i, _, hi, h1, h2, h3, rfl⟩
theorem bs_digs (W : World) (vs : List Value) (h : ∀ v ∈ vs, v.cells.size = 32) (h0 : 0 < vs.length) (h1 : vs.length <= 1000) :
    (Instr.buildSlice 49 vs.length ((vs.zipIdx 0).map fun x => (x.2, x.1)).toArray).run Tryz.prog W = .ok (.slice (some ⟨W.heap.size, 0, none⟩) vs.length vs.length) (W.alloc (.cells (vs.flatMap fun v => v.cells.toList).toArray 40)) := by
  obtain ⟨i, z, hi, hz, hs, hb, hzs⟩ := Tryz.infoDigest
  refine run_buildSlice W 49 40 vs.length _ _ i (.agg z) Tryz.underlying49 hi hz (by rw [hs]; simp; omega) (by rw [hs]; omega) ?_
  rw [hs]
  exact Great.fill_whole (by decide) vs _ h (by simp)
theorem bs_dig1 (W : World) (d : List UInt8) (hd : d.length = 32) :
    (Instr.buildSlice 49 1 #[(0, .agg (jB d).toArray)]).run Tryz.prog W = .ok (.slice (some ⟨W.heap.size, 0, none⟩) 1 1) (W.alloc (.cells (jB d).toArray 40)) := by
  have := bs_digs W [.agg (jB d).toArray] (fun v hv => by
    rw [List.mem_singleton.1 hv]
    simp [Value.cells, jD, hd]) (by simp) (by simp)
  simpa [Value.cells] using this
theorem bs_dig2 (W : World) (d e : List UInt8) (hd : d.length = 32) (he : e.length = 32) :
    (Instr.buildSlice 49 2 #[(0, .agg (jB d).toArray), (1, .agg (jB e).toArray)]).run Tryz.prog W = .ok (.slice (some ⟨W.heap.size, 0, none⟩) 2 2) (W.alloc (.cells (jB d ++ jB e).toArray 40)) := by
  have := bs_digs W [.agg (jB d).toArray, .agg (jB e).toArray] (fun v hv => by
    rcases List.mem_cons.1 hv with rfl | hv
    · simp [Value.cells, jD, hd]
    · rw [List.mem_singleton.1 hv]
      simp [Value.cells, jD, he]) (by simp) (by simp)
  simpa [Value.cells] using this
theorem Tryz.wl_dig1 {ops : Array Oper} {rest : List Oper} {o : Oper} {a : Act} {w : World} {Q : Exit -> Act -> World -> Prop} (hg : o.guard = none) (x : Operand) (ho : o.op = .buildSlice 49 1 #[(0, x)]) (d : List UInt8) (hd : d.length = 32)
    (hx : a.eval x = .agg (jB d).toArray) (h : wpList Tryz.prog ops Q rest (a.put o.dst (.slice (some ⟨w.heap.size, 0, none⟩) 1 1)) (w.alloc (.cells (jB d).toArray 40))) : wpList Tryz.prog ops Q (o :: rest) a w := by
  refine wpList_plain hg fun K hK => ?_
  unfold Oper.wp execOp
  simp only [ho, Sem.run_bind, List.map_toArray, List.map_cons, List.map_nil, hx, bs_dig1 w d hd, Result.andThen_ok]
  exact hK _ _ h
theorem Tryz.wl_dig2 {ops : Array Oper} {rest : List Oper} {o : Oper} {a : Act} {w : World} {Q : Exit -> Act -> World -> Prop} (hg : o.guard = none) (x y : Operand) (ho : o.op = .buildSlice 49 2 #[(0, x), (1, y)]) (d e : List UInt8) (hd : d.length = 32) (he : e.length = 32)
    (hx : a.eval x = .agg (jB d).toArray) (hy : a.eval y = .agg (jB e).toArray) (h : wpList Tryz.prog ops Q rest (a.put o.dst (.slice (some ⟨w.heap.size, 0, none⟩) 2 2)) (w.alloc (.cells (jB d ++ jB e).toArray 40))) : wpList Tryz.prog ops Q (o :: rest) a w := by
  refine wpList_plain hg fun K hK => ?_
  unfold Oper.wp execOp
  simp only [ho, Sem.run_bind, List.map_toArray, List.map_cons, List.map_nil, hx, hy, bs_dig2 w d e hd he, Result.andThen_ok]
  exact hK _ _ h
theorem Tryz.still_load {ops : Array Oper} {rest : List Oper} {o : Oper} {a : Act} {w : World} {Q : Act -> Prop} (hgd : o.guard = none) (ty : TypeId) (x : Operand) (ho : o.op = .load ty x)
    (b off : Nat) (hx : a.eval x = .pointer (some ⟨b, off, none⟩)) (cs : List Value) (d : TypeDesc) (hc : w.rangeAt b off cs) (hu : Tryz.prog.underlying ty = some d) (hd : d.isRow = true) (hi : (Tryz.prog.info? ty).map (·.size) = some cs.length)
    (h : wpStill Tryz.prog ops w Q rest (a.put o.dst (.agg cs.toArray))) : wpStill Tryz.prog ops w Q (o :: rest) a := by
  have hw : Region.wanted o (yielded ops a.tmps) = true := by simp [Region.wanted, hgd]
  unfold wpStill
  rw [if_pos hw]
  unfold Oper.still execOp
  simp only [ho, hx, Instr.loadAt, Instr.sureAddr, Sem.run_bind, Sem.run_pure, Result.andThen_ok, run_loadVar_mid w b off ty cs d hc hu hd hi]
  exact ⟨rfl, h⟩
theorem Tryz.mixed : Tryz.prog.follows .mixedOrders = true := by kernel_rfl
theorem Rd.row_new (w : World) (t : TypeId) (s n : Nat) (l : List Value) (hl : l.length = n * s) : Rd (w.alloc (.cells l.toArray t)) s (some ⟨w.heap.size, 0, none⟩) n l := by
  refine ⟨hl, fun _ => ⟨_, _, rfl, fun j u hu => ?_⟩⟩
  have hb := Blk.new w t l.toArray
  rw [Nat.zero_add, hb.cell j]
  simpa using hu
def Sub (cs : List Value) (o : Nat) (xs : List Value) : Prop := ∀ j v, xs[j]? = some v -> cs[o + j]? = some v
theorem Sub.range {w : World} {g : Nat} {t : TypeId} {cs xs : List Value} {o : Nat} (h : Sub cs o xs) (hb : Blk w g t cs.toArray) : w.rangeAt g o xs := by
  intro j v hv
  rw [hb.cell, List.getElem?_toArray]
  exact h j v hv
theorem Sub.mid (pre xs post : List Value) : Sub (pre ++ (xs ++ post)) pre.length xs := by
  intro j v hv
  rw [List.getElem?_append_right (by omega), Nat.add_sub_cancel_left, List.getElem?_append_left (List.getElem?_eq_some_iff.1 hv).1, hv]
theorem Sub.mid_ (pre xs post : List Value) (o : Nat) (h : pre.length = o) : Sub (pre ++ (xs ++ post)) o xs := h ▸ Sub.mid pre xs post
theorem Sub.end_ (pre xs : List Value) (o : Nat) (h : pre.length = o) : Sub (pre ++ xs) o xs := by
  have := Sub.mid_ pre xs [] o h
  simpa using this
theorem Sub.trans {cs xs ys : List Value} {o p : Nat} (h : Sub cs o xs) (k : Sub xs p ys) : Sub cs (o + p) ys := fun j v hv => by
  rw [Nat.add_assoc]
  exact h _ v (k j v hv)
end Go.Proofs.YtnaolhjbapgjgaaGreat

import Derived.Test.YtmmjcbbogokmfaaGreatDoorMt01
import Derived.Test.YtmmjcbbogokmfaaGreatDoorMt44
import Derived.Test.YtmmjcbbogokmfaaGreatDoorMt46
import Derived.Maps.AppendAt
import Derived.Lib.AppendStr
set_option maxRecDepth 100000
set_option maxHeartbeats 25600000
namespace Go.Proofs.YtmmjcbbogokmfaaGreatDoor
open Go.RowKit
theorem short_no {l : List UInt8} (hl : l.length <= 60000) (h : finK l = false) : finB l = [] /\ parE l = 90 /\ parAt l < l.length := by
  unfold finK finB at *
  unfold vO at *
  rw [if_pos hl] at *
  cases hb : kG l with
  | ok m => rw [hb] at h; cases h
  | error k =>
    refine ⟨rfl, ?_, ?_⟩
    · unfold parE parsesN
      rw [if_pos hl, hb]
    · unfold parAt parsesN
      rw [if_pos hl, hb]
      have := (runB_err l yK 0 k (begun_err.1 hb)).2.1
      show k < l.length
      omega
theorem fin_state {l : List UInt8} (hl : l.length <= 60000) (h : finK l = true) : ∃ b, runB yK l 0 = .ok b /\ InvB b /\ finB l = finS b /\ (parE l = 0 ↔ accB b) := by
  unfold finK vO at h
  rw [if_pos hl] at h
  cases hb : kG l with
  | error k => rw [hb] at h; cases h
  | ok m =>
    obtain ⟨b, h1, h2⟩ := begun_ok hb
    refine ⟨b, h1, inv_of h1, ?_, ?_⟩
    · unfold finB vO
      rw [if_pos hl, hb]
      exact h2.fin_
    · unfold parE parsesN
      rw [if_pos hl, hb, <- h2.acc]
      simp only
      by_cases hs : m.stack = []
      · rw [if_pos hs]; exact ⟨fun _ => hs, fun _ => rfl⟩
      · rw [if_neg hs]; exact ⟨fun e => absurd (show (90 : Nat) = 0 from e) (by decide), fun e => absurd e hs⟩
theorem short_more {l : List UInt8} (hl : l.length <= 59999) (h : finK l = true) (x : UInt8) : (finK (l ++ [x]) = false -> finB (l ++ [x]) = [] /\ (finB l).head? ≠ some x) /\
    (finK (l ++ [x]) = true -> (finB l).length <= (x :: finB (l ++ [x])).length /\ ((x :: finB (l ++ [x])).length = (finB l).length -> ltB (x :: finB (l ++ [x])) (finB l) = false) /\ ((finB l).head? = some x -> x :: finB (l ++ [x]) = finB l)) := by
  obtain ⟨b, h1, h2, h3, -⟩ := fin_state (by omega) h
  have hlen : (l ++ [x]).length <= 60000 := by rw [List.length_append, List.length_singleton]; omega
  have hrun : runB yK (l ++ [x]) 0 = match kV b x with | none => .error (0 + l.length) | some b' => .ok b' := by
    rw [runB_app, h1]
    simp only [runB]
    cases kV b x with
    | none => rfl
    | some b' => rfl
  rw [h3]
  have hnext : ∀ r, finS b = x :: r -> ∃ b', kV b x = some b' /\ finS b' = r := fun r e => fin_next h2 e
  have hhead : ∀ {L : List UInt8}, L.head? = some x -> ∃ r, L = x :: r := fun {L} e => by
    cases L with
    | nil => cases e
    | cons a r => injection e with e; rw [e]; exact ⟨r, rfl⟩
  constructor
  · intro hf
    refine ⟨(short_no hlen hf).1, fun e => ?_⟩
    obtain ⟨r, hr⟩ := hhead e
    obtain ⟨b', hs, _⟩ := hnext r hr
    rw [hs] at hrun
    have := (whole_of hlen hrun).1
    rw [this] at hf
    cases hf
  · intro hf
    obtain ⟨b2, k1, k2, k3, -⟩ := fin_state hlen hf
    rw [k1] at hrun
    cases hs : kV b x with
    | none => rw [hs] at hrun; cases hrun
    | some b' =>
      rw [hs] at hrun
      injection hrun with hrun
      subst hrun
      rw [k3]
      have hb := bell h2 hs
      refine ⟨hb.len, fun e => ?_, fun e => ?_⟩
      · rcases leS_iff.1 hb with h5 | ⟨_, h5⟩
        · omega
        · exact h5
      · obtain ⟨r, hr⟩ := hhead e
        obtain ⟨b3, hs3, hf3⟩ := hnext r hr
        rw [hs] at hs3
        injection hs3 with hs3
        rw [hr, hs3, hf3]
theorem short_end {l : List UInt8} (hl : l.length <= 60000) (h : finK l = true) : (parE (l ++ finB l) = 0 /\ l.length + (finB l).length <= 60000 \/ parE (l ++ finB l) = 6 /\ 60000 < l.length + (finB l).length) /\ (finB l = [] ↔ parE l = 0) := by
  obtain ⟨b, h1, h2, h3, h4⟩ := fin_state hl h
  have hw := whole_of hl h1
  refine ⟨?_, ?_⟩
  · rcases Nat.lt_or_ge 60000 (l.length + (finB l).length) with h5 | h5
    · exact .inr ⟨(par_long (by rw [List.length_append]; omega)).1, h5⟩
    · exact .inl ⟨hw.2.2 (by rw [List.length_append]; omega), h5⟩
  · rw [h4]
    exact ⟨hw.2.1, fun e => by rw [h3]; exact acc_fin e⟩
theorem ltB_drop {x y : List UInt8} {i : Nat} {a b : UInt8} {x' y' : List UInt8} (hx : x.drop i = a :: x') (hy : y.drop i = b :: y') : ltB (x.drop i) (y.drop i) = if a = b then ltB (x.drop (i + 1)) (y.drop (i + 1)) else decide (a.toNat < b.toNat) := by
  rw [hx, hy, ltB, <- List.drop_drop, <- List.drop_drop, hx, hy]
  rfl
theorem earlier_any (w : World) (A B : Option Addr) (n c d : Nat) (x y : List UInt8) (hx : Rd w 1 A n (x.map bv)) (hy : Rd w 1 B n (y.map bv)) (hn : n <= 1000000000) :
    Calls Tryz.prog 28 #[.slice A n c, .slice B n d] w fun e w' => e = .returned (.bool (ltB x y)) /\ Old w w' := by
  have hxl : x.length = n := by simpa using hx.1
  have hyl : y.length = n := by simpa using hy.1
  have HX := jJ0 hx
  have HY := jJ0 hy
  obtain ⟨R, hR⟩ : ∃ R, ltB x y = R := ⟨_, rfl⟩
  rw [hR]
  have HR := jJ0 hR
  clear hx hy hR
  go_enter Tryz.func28, Tryz.ntmps28
  go_wp2
  go_loopw [5] (fun i wr => ∃ j k : Nat, j <= n /\ i = .int .i64 (j : Int) /\ ltB (x.drop j) (y.drop j) = R /\ wr = w.drewN k) (fun i _ => n - (intOf i).toNat)
  case atStart => exact ⟨0, 0, Nat.zero_le _, rfl, HR.out, by simp [World.drewN_zero]⟩
  case round =>
    obtain ⟨j, k, hj, rfl, hlt, rfl⟩ := hrel
    by_cases hjn : j < n
    · obtain ⟨b1, o1, u1, hA, hu1, hc1⟩ := HX.out.at_ hjn
      obtain ⟨b2, o2, u2, hB, hu2, hc2⟩ := HY.out.at_ hjn
      subst hA hB
      have hdx : x.drop j = x[j] :: x.drop (j + 1) := List.drop_eq_getElem_cons (by omega)
      have hdy : y.drop j = y[j] :: y.drop (j + 1) := List.drop_eq_getElem_cons (by omega)
      rw [ltB_drop hdx hdy] at hlt
      rw [List.getElem?_map, List.getElem?_eq_getElem (by omega)] at hu1 hu2
      injection hu1 with hu1
      injection hu2 with hu2
      subst hu1 hu2
      generalize x[j] = a at *
      generalize y[j] = b at *
      have hcA : ∀ m, (w.drewN m).cell? ⟨b1, o1 + j, none⟩ = some (.int .u8 (a.toNat : Int)) := fun m => hc1
      have hcB : ∀ m, (w.drewN m).cell? ⟨b2, o2 + j, none⟩ = some (.int .u8 (b.toNat : Int)) := fun m => hc2
      have c1 := hcA k
      have c2 := hcB k
      have g1 : (0 : Int) <= (j : Int) := by omega
      have g2 : (j : Int) < (n : Int) := by omega
      have g3 : (j : Int).toNat = j := by omega
      have g4 : IntKind.i64.wrap ((j : Int) + 1) = (j : Int) + 1 := IntWalk.i64_in _ (by omega)
      clear hdx hdy hc1 hc2
      by_cases hab : a = b
      · rw [if_pos hab] at hlt
        have HL := jJ0 hlt
        have e1 : ((a.toNat : Int) != (b.toNat : Int)) = false := by rw [hab]; simp
        clear hlt
        go_wp2
        go_quiet (fail)
        go_wp2
        exact ⟨⟨j + 1, _, by omega, by rw [show ((j + 1 : Nat) : Int) = (j : Int) + 1 by omega], HL.out, rfl⟩, by simp only [intOf]; omega⟩
      · rw [if_neg hab] at hlt
        have HL := jJ0 hlt
        have hne : ¬ (a.toNat : Int) = (b.toNat : Int) := fun e => hab (UInt8.toNat_inj.1 (by omega))
        have e1 : ((a.toNat : Int) != (b.toNat : Int)) = true := by rw [bne, beq_eq_false_iff_ne.2 hne]; rfl
        clear hlt
        by_cases hlt2 : (a.toNat : Int) < (b.toNat : Int)
        · have hRt : R = true := by rw [<- HL.out]; exact decide_eq_true (by omega)
          subst hRt
          go_wp2
          go_quiet (fail)
          go_wp2
          go_quiet (fail)
          go_wp2
          go_ret
          exact ⟨rfl, (((Kp.refl _ _).drewN _).drewN _).drewN _⟩
        · have hRf : R = false := by rw [<- HL.out]; exact decide_eq_false (by omega)
          subst hRf
          have e2 : decide ((a.toNat : Int) < (b.toNat : Int)) = false := decide_eq_false hlt2
          go_wp2
          go_quiet (fail)
          go_wp2
          go_quiet (fail)
          go_wp2
          go_ret
          exact ⟨congrArg (fun b => Ending.returned (.bool b)) HL.out, (((Kp.refl _ _).drewN _).drewN _).drewN _⟩
    · obtain rfl : j = n := by omega
      rw [List.drop_eq_nil_of_le (by omega), List.drop_eq_nil_of_le (by omega), show ltB [] [] = false from rfl] at hlt
      subst hlt
      go_wp2
      go_ret
      exact ⟨rfl, (Kp.refl _ _).drewN _⟩
theorem finished9_any (w : World) (hg : Sg w) (h8 : 8 <= w.heap.size) (A : Option Addr) (n c : Nat) (l : List UInt8) (hr : Rd w 1 A n (l.map bv)) : Calls Tryz.prog 29 #[.slice A n c] w fun e w' => e = .returned (.bool (decide (parE l = 0))) /\ Old w w' := by
  have HP := jJ0 (par9_any w hg h8 A n c l hr)
  unfold ParW at HP
  have HD := jJ0 (show decide (parE l = 0) = ((parE l : Int) == 0) by
    by_cases h : parE l = 0
    · rw [decide_eq_true h, h]; rfl
    · rw [decide_eq_false h, beq_eq_false_iff_ne.2 (by omega)])
  rw [HD.out]
  clear hg h8 hr
  generalize parE l = m at *
  generalize parAt l = k at *
  go_enter Tryz.func29, Tryz.ntmps29
  go_wp2_with (go_at_call 26; refine HP.out.mono ?_; rintro e w2 ⟨nm, ta, aA, an, ac, gA, gn, gc, mA, mn, mc, pA, pn, pc, nA, nn, nc, oA, on, oc, rfl, ho⟩; have HO2 := jJ0 (ho.alloc (.cells #[.string nm, .int .i64 ta, .slice aA an ac, .slice gA gn gc, .slice mA mn mc, .slice pA pn pc, .slice nA nn nc, .slice oA on oc] 29)); clear ho)
  go_ret
  exact ⟨rfl, HO2.out⟩
section
variable {P : Program} (w : World)
theorem full_grown (base : Nat) (hbase : base <= w.heap.size) (e : TypeId) (z : Value) (hz1 : z.cells.size = 1) (n m : Nat) (xs news : List Value) (hx : xs.length = n) (hn : news.length = m) (h63 : n + m <= maxLen) :
    (w.drew.alloc (.cells (xs.toArray ++ news.toArray ++ Builtin.zeroCells z.cells (grownCap w (n + m) n e - (n + m))) e)).ownsRow base e 1 (.slice (some ⟨w.heap.size, 0, none⟩) (n + m) (grownCap w (n + m) n e)) (n + m) (xs ++ news) /\
    Old w (w.drew.alloc (.cells (xs.toArray ++ news.toArray ++ Builtin.zeroCells z.cells (grownCap w (n + m) n e - (n + m))) e)) := by
  have hlen : (xs ++ news).length = (n + m) * 1 := by rw [List.length_append, hx, hn, Nat.mul_one]
  have hge := grownCap_ge w (n + m) n e
  have hcm : grownCap w (n + m) n e <= maxLen := grownCap_le_maxLen w (n + m) n e h63
  refine ⟨⟨hlen, .inr ⟨w.heap.size, _, _, rfl, hbase, heap_alloc_new w.drew _, hge, hcm, ?_, ?_⟩⟩, ((Kp.refl NoX w).drew).alloc _⟩
  · simp only [Array.size_append, List.size_toArray, size_zeroCells, hz1, hx, hn]
    omega
  · simp only [Array.toList_append, List.append_assoc]
    rw [<- List.append_assoc, <- hlen]
    exact List.take_left
theorem rd_addr {b : Addr} {n : Nat} {xs : List Value} (hr : Rd w 1 (some b) n xs) : ∀ j u, xs[j]? = some u -> w.cell? (b.add j) = some u := by
  intro j u hu
  rcases Nat.eq_zero_or_pos n with h0 | h0
  · have : xs = [] := List.eq_nil_of_length_eq_zero (by rw [hr.1, h0])
    subst this
    simp at hu
  · obtain ⟨b', o, h, hc⟩ := hr.2 h0
    injection h with h
    subst h
    rw [Addr.add_lit]
    exact hc j u hu
theorem wpList_full_any {ops : Array Oper} {rest : List Oper} {o : Oper} {a : Act} {Q : Exit -> Act -> World -> Prop} (hgd : o.guard = none) (sl x : Operand) (t : TypeId)
    (ho : o.op = .call { callee := .builtin .append, args := #[sl, x], argTypes := #[t, t] })
    (base : Nat) (e : TypeId) (i : TypeInfo) (ht : P.underlying t = some (.slice e)) (hi : P.info? e = some i) (hz : i.zero = some (.int .u8 0))
    (hsize : i.size = 1) (hby : i.bytes = 1) (b : Addr) (n : Nat) (xs : List Value) (hs : a.eval sl = .slice (some b) n n) (hr : Rd w 1 (some b) n xs) (ad : Addr) (m c : Nat) (news : List Value) (hx : a.eval x = .slice (some ad) m c) (hn : Rd w 1 (some ad) m news) (hpos : 0 < m)
    (h63 : n + m <= maxLen) (hbytes : n + m <= 140737488355328) (hbase : base <= w.heap.size)
    (h : ∀ A' c' w', w'.ownsRow base e 1 (.slice A' (n + m) c') (n + m) (xs ++ news) -> Old w w' -> wpList P ops Q rest (a.put o.dst (.slice A' (n + m) c')) w') : wpList P ops Q (o :: rest) a w := by
  refine wpList_plain hgd fun K hK => ?_
  have hxl : xs.length = n := by rw [hr.1, Nat.mul_one]
  have hnl : news.length = m := by rw [hn.1, Nat.mul_one]
  have hrun := run_append_grow (P := P) w t o.type e i (.int .u8 0) ht hi hz b n n xs (by rw [hsize, Nat.mul_one]; exact hxl) (rd_addr w hr) ad m c news (by rw [hsize, Nat.mul_one]; exact hnl) (rd_addr w hn) (by omega) (by simp only [maxLen] at h63; omega) (by rw [hby]; exact growslice_fits (by omega) (by omega))
  have hg := full_grown w base hbase e (.int .u8 0) rfl n m xs news hxl hnl h63
  unfold Oper.wp execOp
  simp only [ho, resolve, invoke, builtin, Sem.run_bind, Sem.run_pure, Result.andThen_ok, List.map_toArray, List.map_cons, List.map_nil, hs, hx, hrun]
  exact hK _ _ (h _ _ _ hg.1 hg.2)
end
end Go.Proofs.YtmmjcbbogokmfaaGreatDoor

import Derived.Test.YtmmjcbbogokmfaaGreatDoorMn02
import Derived.Test.YtmmjcbbogokmfaaGreatDoorMn14
import Derived.Test.YtmmjcbbogokmfaaGreatDoorMn34
import Derived.LaidEqlPtr
import Derived.Laws.ResultCell
/- Contracts of text.ahead and less. -/
namespace Go.Proofs.YtmmjcbbogokmfaaGreatDoor
open Go.RowKit

theorem Blk.same {w : World} {g : Nat} {t t' : TypeId} {cs cs' : Array Value} (h : Blk w g t cs) (h' : Blk w g t' cs') : cs = cs' := by
  unfold Blk at h h'
  rw [h] at h'
  injection h' with h'
  injection h' with h1 _
theorem Rp.uniq {w : World} {a : Option Addr} {l : List UInt8} (h : Rp w a l) : ∀ {l' : List UInt8}, Rp w a l' → l = l' := by
  induction h with
  | nil => intro l' h'; exact h'.nil_of.symm
  | cons g p nx l hp hb _ ih =>
    intro l' h'
    generalize ha : (some ⟨g, 0, none⟩ : Option Addr) = a at h'
    cases h' with
    | nil => cases ha
    | cons g' p' nx' l2 hp' hb' hn' =>
      injection ha with ha
      injection ha with ha
      subst ha
      have e := hb.same hb'
      simp only [Array.mk.injEq, List.cons.injEq, Value.string.injEq, Value.pointer.injEq] at e
      obtain ⟨rfl, rfl, _⟩ := e
      rw [ih hn']
/-- a place in a rope: what stands from there on -/
inductive Ps (w : World) : Option Addr → Nat → List UInt8 → Prop
  | nil : Ps w none 0 []
  | at_ (g : Nat) (p : ByteArray) (nx : Option Addr) (l : List UInt8) (i : Nat) : i < p.size → p.size ≤ 1000000000000 → Blk w g 225 #[.string p, .pointer nx, .int .i64 ((sb p ++ l).length : Int)] → Rp w nx l → Ps w (some ⟨g, 0, none⟩) i ((sb p).drop i ++ l)
theorem Rp.ps {w : World} {a : Option Addr} {l : List UInt8} (h : Rp w a l) (hl : l.length ≤ 1000000000000) : Ps w a 0 l := by
  cases h with
  | nil => exact .nil
  | cons g p nx l hp hb hn => exact .at_ g p nx l 0 hp (by rw [List.length_append, sb_length] at hl; omega) hb hn
theorem Ps.len {w W : World} {a : Option Addr} {i : Nat} {l : List UInt8} (h : Ps w a i l) (ho : Old w W) : rlen (.pointer a) W - i = l.length := by
  cases h with
  | nil => rfl
  | at_ g p nx l i hi _ hb hn =>
    rw [((Rp.cons g p nx l (by omega) hb hn).old ho).rlen, List.length_append, List.length_append, List.length_drop, sb_length]
    omega
/-- one byte on -/
theorem Ps.next {w : World} {p : ByteArray} {nx : Option Addr} {l : List UInt8} {i g : Nat} (hi : i < p.size) (hp : p.size ≤ 1000000000000) (hm : ((sb p).drop i ++ l).length ≤ 1000000000000) (hb : Blk w g 225 #[.string p, .pointer nx, .int .i64 ((sb p ++ l).length : Int)]) (hn : Rp w nx l) :
    (sb p).drop i ++ l = p[i] :: ((sb p).drop (i + 1) ++ l) ∧ (i + 1 < p.size → Ps w (some ⟨g, 0, none⟩) (i + 1) ((sb p).drop (i + 1) ++ l)) ∧ (i + 1 = p.size → Ps w nx 0 ((sb p).drop (i + 1) ++ l)) := by
  refine ⟨by rw [sb_drop p i hi, List.cons_append], fun h => .at_ g p nx l (i + 1) h hp hb hn, fun h => ?_⟩
  rw [List.drop_of_length_le (by rw [sb_length]; omega), List.nil_append]
  exact hn.ps (by rw [List.length_append] at hm; omega)
theorem ltB_self : ∀ l : List UInt8, ltB l l = false
  | [] => rfl
  | a :: l => by rw [ltB, if_pos rfl]; exact ltB_self l
theorem ltB_nil (l : List UInt8) : ltB l [] = false := by cases l <;> rfl
theorem ltB_nil' (l : List UInt8) : ltB [] l = false := by cases l <;> rfl
theorem Tryz.sizeRope : (Tryz.prog.info? 225).map (·.size) = some 3 := by kernel_rfl
theorem Tryz.neq_same (w : World) (a : Addr) : (binOp .neq 166 (.pointer (some a)) (.pointer (some a))).run Tryz.prog w = .ok (.bool false) w := by
  obtain ⟨j, hj, _⟩ := Option.map_eq_some_iff.1 Tryz.sizeRope
  have h : ∀ d : Nat, (Op.equalIn (d + 1) 166 (.pointer (some a)) (.pointer (some a))).run Tryz.prog w = .ok true w := fun d => by
    simp [Op.equalIn, run_underlying Tryz.underlying166, sizeOf, typeInfo, hj, run_sameAddr_same]
  simp only [binOp]
  simp [Op.equal, Op.maxDepth, h 9999]
theorem Tryz.neq_other (w : World) {g g' : Nat} {ta tb : TypeId} {ca cb : Array Value} (hne : g ≠ g') (ha : Blk w g ta ca) (hb : Blk w g' tb cb) : (binOp .neq 166 (.pointer (some ⟨g, 0, none⟩)) (.pointer (some ⟨g', 0, none⟩))).run Tryz.prog w = .ok (.bool true) w := by
  obtain ⟨j, hj, hsz⟩ := Option.map_eq_some_iff.1 Tryz.sizeRope
  have hn : (⟨g, 0, none⟩ : Addr) ≠ ⟨g', 0, none⟩ := fun e => hne (by injection e)
  have h : ∀ d : Nat, (Op.equalIn (d + 1) 166 (.pointer (some ⟨g, 0, none⟩)) (.pointer (some ⟨g', 0, none⟩))).run Tryz.prog w = .ok false w := fun d => by
    simp [Op.equalIn, run_underlying Tryz.underlying166, sizeOf, typeInfo, hj, show j.size ≠ 0 by rw [hsz]; decide, run_sameAddr_other w hn ha hb]
  simp only [binOp]
  simp [Op.equal, Op.maxDepth, h 9999]
set_option maxRecDepth 100000 in
set_option maxHeartbeats 3200000 in
theorem ahead_any (w : World) (a b : Option Addr) (x y : List UInt8) (hx : Rp w a x) (hy : Rp w b y) (hl : x.length ≤ 1000000000000) (hl2 : y.length ≤ 1000000000000) :
    Calls Tryz.prog 177 #[.pointer a, .pointer b] w fun e w' => e = .returned (.bool (aheadB x y)) ∧ Old w w' := by
  have H1 := Lib.hid (length_any w a x hx)
  have H2 := Lib.hid (length_any w b y hy)
  by_cases hne : x.length = y.length
  case neg =>
    have Hr := Lib.hid (show aheadB x y = decide (x.length < y.length) by unfold aheadB; rw [if_neg hne])
    have b1 : ((x.length : Int) != (y.length : Int)) = true := bne_iff_ne.2 (by omega)
    rw [Hr.out]
    clear hx hy
    generalize x.length = n at *
    generalize y.length = k at *
    go_enter Tryz.func177, Tryz.ntmps177
    go_wp2_with (first | (go_at_call_of 174 (Value.pointer a); refine H1.out.mono ?_; rintro e w1 ⟨rfl, rfl⟩) | (go_at_call_of 174 (Value.pointer b); refine H2.out.mono ?_; rintro e w1 ⟨rfl, rfl⟩))
    all_goals (go_ret; refine ⟨retb ?_, Kp.refl _ _⟩; simp <;> omega)
  case pos =>
    have Hr := Lib.hid (show aheadB x y = ltB x y by unfold aheadB; rw [if_pos hne])
    have b1 : ((x.length : Int) != (y.length : Int)) = false := by rw [hne]; simp
    have H0 := Lib.hid (show Ps w a 0 x ∧ Ps w b 0 y ∧ x.length = y.length from ⟨hx.ps hl, hy.ps hl2, hne⟩)
    have Hlx := Lib.hid hl
    generalize aheadB x y = R at *
    clear hx hy hl hl2 hne
    generalize hn1 : x.length = n1 at *
    generalize hn2 : y.length = n2 at *
    go_enter Tryz.func177, Tryz.ntmps177
    go_wp2_with (first | (go_at_call_of 174 (Value.pointer a); refine H1.out.mono ?_; rintro e w1 ⟨rfl, rfl⟩) | (go_at_call_of 174 (Value.pointer b); refine H2.out.mono ?_; rintro e w1 ⟨rfl, rfl⟩))
    have Hn1 := Lib.hid hn1
    have Hn2 := Lib.hid hn2
    clear H1 H2 b1 hn1 hn2
    go_loopw [0, 1, 5, 6] (fun v0 v1 v5 v6 wr => ∃ (a b : Option Addr) (i j : Nat) (rx ry : List UInt8), v0 = .pointer a ∧ v1 = .pointer b ∧ v5 = .int .i64 i ∧ v6 = .int .i64 j ∧ Ps w a i rx ∧ Ps w b j ry ∧ rx.length = ry.length ∧ rx.length ≤ 1000000000000 ∧ R = ltB rx ry ∧ Old w wr) (fun v0 _ v5 _ wr => rlen v0 wr - (intOf v5).toNat)
    case atStart => exact ⟨a, b, 0, 0, x, y, rfl, rfl, rfl, rfl, H0.out.1, H0.out.2.1, by rw [Hn1.out, Hn2.out]; exact H0.out.2.2, by rw [Hn1.out]; exact Hlx.out, Hr.out, Kp.refl _ _⟩
    case round =>
      clear H0 Hr Hlx Hn1 Hn2
      obtain ⟨a, b, i, j, rx, ry, rfl, rfl, rfl, rfl, hpx, hpy, hlen, hmax, hR, hold⟩ := hrel
      have Hme := Lib.hid (hpx.len hold)
      have Hold := Lib.hid hold
      have Hlen := Lib.hid hlen
      have HR := Lib.hid hR
      cases hpx with
      | nil =>
        have Hf := Lib.hid (show R = false by rw [HR.out, ltB_nil'])
        clear hR hold hlen hpy hmax
        go_wp2
        go_ret
        exact ⟨by rw [Hf.out]; rfl, Hold.out⟩
      | at_ gx px nx lx _ hix hsx hbx hnx =>
        cases hpy with
        | nil =>
          have Hf := Lib.hid (show R = false by rw [HR.out, ltB_nil])
          clear hR hold hlen hmax
          go_wp2
          go_ret
          exact ⟨by rw [Hf.out]; rfl, Hold.out⟩
        | at_ gy py ny ly _ hiy hsy hby hny =>
          by_cases hg : gx = gy
          · have Hf := Lib.hid (show R = false by
              subst hg
              have e := hbx.same hby
              simp only [Array.mk.injEq, List.cons.injEq, Value.string.injEq, Value.pointer.injEq] at e
              obtain ⟨rfl, rfl, _⟩ := e
              have e2 := hnx.uniq hny
              subst e2
              have h3 := Hlen.out
              rw [List.length_append, List.length_append, List.length_drop, List.length_drop, sb_length] at h3
              have : i = j := by omega
              subst this
              rw [HR.out, ltB_self])
            subst hg
            clear hR hold hlen hmax hix hbx hnx hiy hby hny
            have hpe := Tryz.neq_same wr ⟨gx, 0, none⟩
            go_wp2
            go_ret
            exact ⟨by rw [Hf.out]; rfl, Hold.out⟩
          · have hbx' := hbx.old Hold.out
            have hby' := hby.old Hold.out
            have p0 := hbx'.at_ 0 (v := .string px) rfl
            have p1 := hbx'.at_ 1 (v := .pointer nx) rfl
            have q0 := hby'.at_ 0 (v := .string py) rfl
            have q1 := hby'.at_ 1 (v := .pointer ny) rfl
            have Nx := Lib.hid (Ps.next hix hsx hmax hbx hnx)
            have Ny := Lib.hid (Ps.next hiy hsy (by rw [← Hlen.out]; exact hmax) hby hny)
            have a1 : (i : Int) < (px.size : Int) := by omega
            have a2 : (0 : Int) ≤ (i : Int) := by omega
            have a3 : (i : Int).toNat = i := by omega
            have a5 : (j : Int) < (py.size : Int) := by omega
            have a6 : (0 : Int) ≤ (j : Int) := by omega
            have a7 : (j : Int).toNat = j := by omega
            have hpe := Tryz.neq_other wr hg hbx' hby'
            have a8 : IntKind.i64.wrap ((i : Int) + 1) = (i : Int) + 1 := IntWalk.i64_in _ (by omega)
            have a9 : IntKind.i64.wrap ((j : Int) + 1) = (j : Int) + 1 := IntWalk.i64_in _ (by omega)
            by_cases hc : px[i] = py[j]
            · have c1 : ((px[i].toNat : Int) != (py[j].toNat : Int)) = false := by rw [hc]; simp
              have HR2 := Lib.hid (show R = ltB ((sb px).drop (i + 1) ++ lx) ((sb py).drop (j + 1) ++ ly) by rw [HR.out, Nx.out.1, Ny.out.1, hc, ltB, if_pos rfl])
              have Hl2 := Lib.hid (show ((sb px).drop (i + 1) ++ lx).length = ((sb py).drop (j + 1) ++ ly).length by
                have h3 := Hlen.out
                rw [Nx.out.1, Ny.out.1, List.length_cons, List.length_cons] at h3
                omega)
              have Hm2 := Lib.hid (show ((sb px).drop (i + 1) ++ lx).length + 1 ≤ 1000000000000 by
                have h3 := hmax
                rw [Nx.out.1, List.length_cons] at h3
                exact h3)
              have Hm3 := Lib.hid (show ((sb px).drop i ++ lx).length = ((sb px).drop (i + 1) ++ lx).length + 1 by rw [Nx.out.1, List.length_cons])
              clear hR hold hlen hmax hbx hnx hby hny hbx' hby' hc HR
              generalize (sb px).drop (i + 1) ++ lx = rx at *
              generalize (sb py).drop (j + 1) ++ ly = ry at *
              by_cases e1 : i + 1 = px.size
              · have d1 : (((i : Int) + 1) == (px.size : Int)) = true := by rw [show (i : Int) + 1 = (px.size : Int) by omega]; simp
                have P1 := Lib.hid (Nx.out.2.2 e1)
                by_cases e2 : j + 1 = py.size
                · have d2 : (((j : Int) + 1) == (py.size : Int)) = true := by rw [show (j : Int) + 1 = (py.size : Int) by omega]; simp
                  have P2 := Lib.hid (Ny.out.2.2 e2)
                  clear e1 e2
                  go_wp2
                  go_quiet (fail)
                  go_wp2
                  exact ⟨⟨nx, ny, 0, 0, rx, ry, rfl, rfl, rfl, rfl, P1.out, P2.out, Hl2.out, by have := Hm2.out; omega, HR2.out, Hold.out.drewN _⟩, Nat.lt_of_lt_of_eq (Nat.lt_of_le_of_lt (Nat.le_of_eq (P1.out.len (Hold.out.drewN _))) (by rw [Hm3.out]; omega)) Hme.out.symm⟩
                · have d2 : (((j : Int) + 1) == (py.size : Int)) = false := beq_eq_false_iff_ne.2 (by omega)
                  have P2 := Lib.hid (Ny.out.2.1 (by omega))
                  clear e1 e2
                  go_wp2
                  go_quiet (fail)
                  go_wp2
                  exact ⟨⟨nx, (some ⟨gy, 0, none⟩), 0, (j + 1), rx, ry, rfl, rfl, rfl, by go_num, P1.out, P2.out, Hl2.out, by have := Hm2.out; omega, HR2.out, Hold.out.drewN _⟩, Nat.lt_of_lt_of_eq (Nat.lt_of_le_of_lt (Nat.le_of_eq (P1.out.len (Hold.out.drewN _))) (by rw [Hm3.out]; omega)) Hme.out.symm⟩
              · have d1 : (((i : Int) + 1) == (px.size : Int)) = false := beq_eq_false_iff_ne.2 (by omega)
                have P1 := Lib.hid (Nx.out.2.1 (by omega))
                by_cases e2 : j + 1 = py.size
                · have d2 : (((j : Int) + 1) == (py.size : Int)) = true := by rw [show (j : Int) + 1 = (py.size : Int) by omega]; simp
                  have P2 := Lib.hid (Ny.out.2.2 e2)
                  clear e1 e2
                  go_wp2
                  go_quiet (fail)
                  go_wp2
                  exact ⟨⟨(some ⟨gx, 0, none⟩), ny, (i + 1), 0, rx, ry, rfl, rfl, by go_num, rfl, P1.out, P2.out, Hl2.out, by have := Hm2.out; omega, HR2.out, Hold.out.drewN _⟩, Nat.lt_of_lt_of_eq (Nat.lt_of_le_of_lt (Nat.le_of_eq (P1.out.len (Hold.out.drewN _))) (by rw [Hm3.out]; omega)) Hme.out.symm⟩
                · have d2 : (((j : Int) + 1) == (py.size : Int)) = false := beq_eq_false_iff_ne.2 (by omega)
                  have P2 := Lib.hid (Ny.out.2.1 (by omega))
                  clear e1 e2
                  go_wp2
                  go_quiet (fail)
                  go_wp2
                  exact ⟨⟨(some ⟨gx, 0, none⟩), (some ⟨gy, 0, none⟩), (i + 1), (j + 1), rx, ry, rfl, rfl, by go_num, by go_num, P1.out, P2.out, Hl2.out, by have := Hm2.out; omega, HR2.out, Hold.out.drewN _⟩, Nat.lt_of_lt_of_eq (Nat.lt_of_le_of_lt (Nat.le_of_eq (P1.out.len (Hold.out.drewN _))) (by rw [Hm3.out]; omega)) Hme.out.symm⟩
            · have c1 : ((px[i].toNat : Int) != (py[j].toNat : Int)) = true := bne_iff_ne.2 (fun e => hc (UInt8.toNat_inj.1 (by omega)))
              have Hf := Lib.hid (show R = decide (px[i].toNat < py[j].toNat) by rw [HR.out, Nx.out.1, Ny.out.1, ltB, if_neg hc])
              clear hR hold hlen hmax hbx hnx hby hny hbx' hby' hc HR Nx Ny
              go_wp2
              go_quiet (fail)
              go_wp2
              all_goals (go_ret; refine ⟨?_, Hold.out.drewN _⟩; rw [Hf.out]; refine retb ?_; simp <;> omega)
set_option maxRecDepth 100000 in
theorem less_any (w : World) (a b : Option Addr) (x y : List UInt8) (hx : Rp w a x) (hy : Rp w b y) (hl : x.length ≤ 1000000000000) (hl2 : y.length ≤ 1000000000000) :
    Calls Tryz.prog 204 #[.pointer a, .pointer b] w fun e w' => ∃ p, e = .returned (.pointer p) ∧ Rp w' p (lessB x y) ∧ Old w w' := by
  have H := Lib.hid (ahead_any w b a y x hy hx hl2 hl)
  have Hy := Lib.hid (show lessB x y = if aheadB y x = true then y else x from rfl)
  have HX := Lib.hid hx
  have HY := Lib.hid hy
  clear hx hy hl hl2
  generalize lessB x y = R at *
  generalize aheadB y x = q at *
  cases q
  · have HR := Lib.hid (show R = x by rw [Hy.out]; rfl)
    clear Hy
    go_enter Tryz.func204, Tryz.ntmps204
    go_wp2_with (go_at_call 177; refine H.out.mono ?_; rintro e w1 ⟨rfl, ho⟩)
    go_ret
    rw [HR.out]
    exact ⟨a, rfl, HX.out.old ho, ho⟩
  · have HR := Lib.hid (show R = y by rw [Hy.out]; rfl)
    clear Hy
    go_enter Tryz.func204, Tryz.ntmps204
    go_wp2_with (go_at_call 177; refine H.out.mono ?_; rintro e w1 ⟨rfl, ho⟩)
    go_ret
    rw [HR.out]
    exact ⟨b, rfl, HY.out.old ho, ho⟩
end Go.Proofs.YtmmjcbbogokmfaaGreatDoor

/- Structs that are told out of a slot in memory. -/
namespace Go.Proofs.YtmmjcbbogokmfaaGreatDoor
open Go.RowKit

/-- a struct in a slot in memory, and a value, told together -/
theorem ret_cell_tmp {P : Program} {fn : Func} {R : Ending → World → Prop} {a : Act} {w : World} {p u : Tmp} {ty : TypeId} {g : Nat} {t : TypeId} {cs : Array Value} {d : TypeDesc} (h : fn.results = #[.cell p ty, .tmp u])
    (hp : a.tmps.getD p undef = .pointer (some ⟨g, 0, none⟩)) (hb : Blk w g t cs) (hu : P.underlying ty = some d) (hd : (match d with | .struct _ | .array _ _ => true | _ => false) = true) (hi : (P.info? ty).map (·.size) = some cs.size)
    (hdf : a.defers = []) (hR : R (.returned (.tuple #[.agg cs, a.tmps.getD u undef])) w) : bodyPost P fn R .ret a w := by
  refine bodyPost_ret ?_ hdf hR
  rw [results_cell_tmp h, hp]
  have hl := run_loadVar_row (P := P) w g t ty cs (0, 0) d hb hu hd hi
  simp [asAddr, hl, Result.andThen]
/-- a struct in a slot in memory, told alone -/
theorem ret_cell {P : Program} {fn : Func} {R : Ending → World → Prop} {a : Act} {w : World} {p : Tmp} {ty : TypeId} {g : Nat} {t : TypeId} {cs : Array Value} {d : TypeDesc} (h : fn.results = #[.cell p ty])
    (hp : a.tmps.getD p undef = .pointer (some ⟨g, 0, none⟩)) (hb : Blk w g t cs) (hu : P.underlying ty = some d) (hd : (match d with | .struct _ | .array _ _ => true | _ => false) = true) (hi : (P.info? ty).map (·.size) = some cs.size)
    (hdf : a.defers = []) (hR : R (.returned (.agg cs)) w) : bodyPost P fn R .ret a w := by
  refine bodyPost_ret ?_ hdf hR
  have hl := run_loadVar_row (P := P) w g t ty cs (0, 0) d hb hu hd hi
  simp only [results, h]
  simp only [Array.getD_eq_getD_getElem?] at hp
  simp [hp, asAddr, hl]
end Go.Proofs.YtmmjcbbogokmfaaGreatDoor

/- Contract of before: the ends with a symbol ahead. -/
namespace Go.Proofs.YtmmjcbbogokmfaaGreatDoor
open Go.RowKit

/-- the ends in memory -/
def EndsV (a b : Option Addr) : Value := .agg #[.pointer a, .pointer b]
/-- two ropes are told -/
def EndsT (w : World) (xy : List UInt8 × List UInt8) (e : Ending) (w' : World) : Prop := ∃ a b, e = .returned (EndsV a b) ∧ Rp w' a xy.1 ∧ Rp w' b xy.2 ∧ Old w w'
/-- ropes stay where only a result's box turns -/
theorem Rp.box {X : Nat → Prop} {w w1 : World} {a : Option Addr} {l : List UInt8} (h : Rp w a l) (ho : Kp X w w1) (hx : ∀ b, X b → ∃ cs, Blk w b 220 cs) : Rp w1 a l := by
  induction h with
  | nil => exact .nil
  | cons g p nx l hp hb _ ih =>
    refine .cons g p nx l hp (hb.kp ho (fun he => ?_)) ih
    obtain ⟨cs, hc⟩ := hx g he
    exact (hb.ne_ hc (by decide)) rfl
/-- only the result's box (of two cells) has turned -/
def BxS (V : World) (g : Nat) (W : World) : Prop := Kp (fun k => k = g) V W ∧ ∃ u v, Blk W g 220 #[u, v]
theorem BxS.old {V W W' : World} {g : Nat} (h : BxS V g W) (ho : Old W W') : BxS V g W' := ⟨h.1.old ho, by obtain ⟨u, v, hb⟩ := h.2; exact ⟨u, v, hb.old ho⟩⟩
theorem BxS.put {V W : World} {g : Nat} (h : BxS V g W) (x y : Value) : BxS V g ((W.setCell ⟨g, 0, none⟩ x).setCell ⟨g, 1, none⟩ y) ∧ Blk ((W.setCell ⟨g, 0, none⟩ x).setCell ⟨g, 1, none⟩ y) g 220 #[x, y] := by
  obtain ⟨u, v, hb⟩ := h.2
  have hb2 : Blk ((W.setCell ⟨g, 0, none⟩ x).setCell ⟨g, 1, none⟩ y) g 220 #[x, y] := by simpa using (hb.set_ 0 x).set_ 1 y
  exact ⟨⟨(h.1.setCell (p := ⟨g, 0, none⟩) (fun _ => rfl) x).setCell (p := ⟨g, 1, none⟩) (fun _ => rfl) y, x, y, hb2⟩, hb2⟩
set_option maxRecDepth 100000 in
set_option maxHeartbeats 3200000 in
theorem before_sign (w : World) (hg : Sg w) (a b : Option Addr) (y : List UInt8) (hy : Rp w b y) (hl2 : y.length ≤ 100000000000) (n : Nat) (h1 : 1 ≤ n) (h2 : n < 58) (hw : wordedB n = false) :
    Calls Tryz.prog 173 #[EndsV a b, yv n] w (EndsT w (spelledN n ++ y, spelledN n ++ y)) := by
  have he : emptyN n = false := decide_eq_false (by omega)
  have HE := Lib.hid (fun W => empty_any W n)
  rw [he] at HE
  have HW := Lib.hid (fun W => worded_any W n)
  have hw2 : decide (n ≤ 2 ∨ 23 ≤ n) = false := hw
  rw [hw2] at HW
  have HS := Lib.hid (fun W (hO : Old w W) => rspelled_any W (hg.old hO) n h1 h2)
  have Hlen : (spelledN n).length ≤ 20 := by
    have : ∀ n : Fin 58, (spelledN n.val).length ≤ 20 := by decide +kernel
    exact this ⟨n, h2⟩
  generalize hsp : spelledN n = sp at *
  have b1 : ((n : Int) == 60) = false := beq_eq_false_iff_ne.2 (by omega)
  have b2 : ¬ (58 : Int) ≤ (n : Int) := by omega
  unfold yv EndsV at *
  clear he hw hw2 hg hsp
  go_enter Tryz.func173, Tryz.ntmps173
  go_wp2_with (first | (go_at_call 202; refine (HE.out _).mono ?_; rintro e w1 ⟨rfl, rfl⟩) | (go_at_call 203; refine (HS.out _ (((Kp.refl NoX w).alloc _).alloc _)).mono ?_; rintro e w1 ⟨rfl, rfl⟩) | (go_at_call 205; refine (HW.out _).mono ?_; rintro e w1 ⟨rfl, rfl⟩))
  have hV : Old w ((w.alloc (.cells #[.pointer a, .pointer b] 220)).alloc (.cells #[.pointer none, .pointer none] 220)) := ((Kp.refl NoX w).alloc _).alloc _
  have hb0 : Blk ((w.alloc (.cells #[.pointer a, .pointer b] 220)).alloc (.cells #[.pointer none, .pointer none] 220)) w.heap.size 220 #[.pointer a, .pointer b] := (Blk.new _ _ _).alloc _
  have hb1 : Blk ((w.alloc (.cells #[.pointer a, .pointer b] 220)).alloc (.cells #[.pointer none, .pointer none] 220)) (w.heap.size + 1) 220 #[.pointer none, .pointer none] := by
    have := Blk.new (w.alloc (.cells #[.pointer a, .pointer b] 220)) 220 #[.pointer none, .pointer none]
    rwa [show (w.alloc (.cells #[.pointer a, .pointer b] 220)).heap.size = w.heap.size + 1 by simp] at this
  generalize ((w.alloc (.cells #[.pointer a, .pointer b] 220)).alloc (.cells #[.pointer none, .pointer none] 220)) = V at *
  generalize hS : w.heap.size = S at *
  have Hb0 := Lib.hid hb0
  have Hb1 := Lib.hid hb1
  have HV := Lib.hid hV
  have HY := Lib.hid (fun W (hk : Kp (fun k => k = S + 1) V.drew W) => hy.kp (n := S) (by omega) ((hV.mono (Y := fun k => k = S + 1) (fun _ _ f => f.elim)).drew.trans hk (fun _ _ h => h)) (fun b hb e => by omega))
  clear hb0 hb1 hV HE HW HS
  refine region_tkn (S := fun W => BxS V.drew (S + 1) W) 10 rfl (by kernel_rfl) ⟨Kp.refl _ _, _, _, Hb1.out.drew⟩ (fun hHeld => ?_)
  (refine' take_on 0 rfl rfl (by kernel_rfl) (fun _ _ _ h => h) rfl hHeld (fun w' hSw => ?_) ?_; rotate_left; (have s0 : w'.cell? ⟨S, 0, none⟩ = some (.pointer a) := (Hb0.out.drew.kp hSw.1 (by omega)).at_ 0 rfl; have s1 : w'.cell? ⟨S, 1, none⟩ = some (.pointer b) := (Hb0.out.drew.kp hSw.1 (by omega)).at_ 1 rfl; clear hSw; go_simp <;> with_reducible rfl); simp only [Act.put, List.setIfInBounds_toArray, List.set_cons_zero, List.set_cons_succ])
  (refine' take_on 1 rfl rfl (by kernel_rfl) (fun _ _ _ h => h) rfl hHeld (fun w' hSw => ?_) ?_; rotate_left; (have s0 : w'.cell? ⟨S, 0, none⟩ = some (.pointer a) := (Hb0.out.drew.kp hSw.1 (by omega)).at_ 0 rfl; have s1 : w'.cell? ⟨S, 1, none⟩ = some (.pointer b) := (Hb0.out.drew.kp hSw.1 (by omega)).at_ 1 rfl; clear hSw; go_simp <;> with_reducible rfl); simp only [Act.put, List.setIfInBounds_toArray, List.set_cons_zero, List.set_cons_succ])
  (refine' take_on 2 rfl rfl (by kernel_rfl) (fun _ _ _ h => h) rfl hHeld (fun w' hSw => ?_) ?_; rotate_left; (have s0 : w'.cell? ⟨S, 0, none⟩ = some (.pointer a) := (Hb0.out.drew.kp hSw.1 (by omega)).at_ 0 rfl; have s1 : w'.cell? ⟨S, 1, none⟩ = some (.pointer b) := (Hb0.out.drew.kp hSw.1 (by omega)).at_ 1 rfl; clear hSw; go_simp <;> with_reducible rfl); simp only [Act.put, List.setIfInBounds_toArray, List.set_cons_zero, List.set_cons_succ])
  (refine' take_on 4 rfl rfl (by kernel_rfl) (fun _ _ _ h => h) rfl hHeld (fun w' hSw => ?_) ?_; rotate_left; (have s0 : w'.cell? ⟨S, 0, none⟩ = some (.pointer a) := (Hb0.out.drew.kp hSw.1 (by omega)).at_ 0 rfl; have s1 : w'.cell? ⟨S, 1, none⟩ = some (.pointer b) := (Hb0.out.drew.kp hSw.1 (by omega)).at_ 1 rfl; clear hSw; go_simp <;> with_reducible rfl); simp only [Act.put, List.setIfInBounds_toArray, List.set_cons_zero, List.set_cons_succ])
  (refine' take_on 5 rfl rfl (by kernel_rfl) (fun _ _ _ h => h) rfl hHeld (fun w' hSw => ?_) ?_; rotate_left; (have s0 : w'.cell? ⟨S, 0, none⟩ = some (.pointer a) := (Hb0.out.drew.kp hSw.1 (by omega)).at_ 0 rfl; have s1 : w'.cell? ⟨S, 1, none⟩ = some (.pointer b) := (Hb0.out.drew.kp hSw.1 (by omega)).at_ 1 rfl; clear hSw; go_simp <;> with_reducible rfl); simp only [Act.put, List.setIfInBounds_toArray, List.set_cons_zero, List.set_cons_succ])
  (refine' take_on 6 rfl rfl (by kernel_rfl) (fun _ _ _ h => h) rfl hHeld (fun w' hSw => ?_) ?_; rotate_left; (have s0 : w'.cell? ⟨S, 0, none⟩ = some (.pointer a) := (Hb0.out.drew.kp hSw.1 (by omega)).at_ 0 rfl; have s1 : w'.cell? ⟨S, 1, none⟩ = some (.pointer b) := (Hb0.out.drew.kp hSw.1 (by omega)).at_ 1 rfl; clear hSw; go_simp <;> with_reducible rfl); simp only [Act.put, List.setIfInBounds_toArray, List.set_cons_zero, List.set_cons_succ])
  refine take_one 3 rfl (by kernel_rfl) (fun K hK => ?_)
  go_simp
  go_at_call 142
  refine (rbehind_any _ b y (HY.out _ hHeld.1) ⟨sp.toArray⟩ (by rw [← sb_length, sb_mk]; omega)).mono ?_
  rintro e w1 ⟨p, rfl, pr, po⟩
  go_simp
  refine hK.out _ _ (hHeld.old po) (fun hHeld => ?_)
  clear hK K
  refine take_one 7 rfl (by kernel_rfl) (fun K hK => ?_)
  go_simp
  go_at_call 142
  refine (rbehind_any _ b y (HY.out _ hHeld.1) ⟨sp.toArray⟩ (by rw [← sb_length, sb_mk]; omega)).mono ?_
  rintro e w2 ⟨q, rfl, qr, qo⟩
  go_simp
  refine hK.out _ _ (hHeld.old qo) (fun hHeld => ?_)
  clear hK K
  (refine' take_on 8 rfl rfl (by kernel_rfl) (fun _ _ _ h => h) rfl hHeld (fun w' hSw => ?_) ?_; rotate_left; (have s0 : w'.cell? ⟨S, 0, none⟩ = some (.pointer a) := (Hb0.out.drew.kp hSw.1 (by omega)).at_ 0 rfl; have s1 : w'.cell? ⟨S, 1, none⟩ = some (.pointer b) := (Hb0.out.drew.kp hSw.1 (by omega)).at_ 1 rfl; clear hSw; go_simp <;> with_reducible rfl); simp only [Act.put, List.setIfInBounds_toArray, List.set_cons_zero, List.set_cons_succ])
  have HR := Lib.hid (show Rp w2 p (sp ++ y) ∧ Rp w2 q (sp ++ y) from ⟨pr.old qo, qr⟩)
  clear pr po qr qo
  obtain ⟨u0, v0, hbz⟩ := hHeld.2
  have c0 : w2.cell? ⟨S + 1, 0, none⟩ = some u0 := hbz.at_ 0 rfl
  have c1 : w2.cell? ⟨S + 1, 1, none⟩ = some v0 := hbz.at_ 1 rfl
  have z0 := hbz.frozen 0
  have z1 := hbz.frozen 1
  have hput := hHeld.put (.pointer p) (.pointer q)
  refine take_one 9 rfl (by kernel_rfl) (fun K hK => ?_)
  go_simp
  refine hK.out _ _ hput.1 (fun hHeld2 => ?_)
  refine wpAnyH_done (by kernel_rfl) ?_ _
  clear hK K c0 c1 z0 z1
  have HF := Lib.hid hput.2
  have HRp := Lib.hid (fun (r : Option Addr) (h : Rp w2 r (sp ++ y)) => h.box (X := fun k => k = S + 1) (((Kp.refl (fun k => k = S + 1) w2).setCell (p := ⟨S + 1, 0, none⟩) (fun _ => rfl) (.pointer p)).setCell (p := ⟨S + 1, 1, none⟩) (fun _ => rfl) (.pointer q)) (fun b e => by subst e; obtain ⟨u, v, hb⟩ := hHeld.2; exact ⟨_, hb⟩))
  have HK := Lib.hid hput.1.1
  have HK2 := Lib.hid hHeld
  clear hput hHeld2 hHeld
  generalize (w2.setCell ⟨S + 1, 0, none⟩ (.pointer p)).setCell ⟨S + 1, 1, none⟩ (.pointer q) = W3 at *
  go_wp2
  refine ret_cell (g := S + 1) (cs := #[.pointer p, .pointer q]) rfl rfl HF.out Tryz.underlying220 rfl (by kernel_rfl) rfl ?_
  exact ⟨p, q, rfl, HRp.out _ HR.out.1, HRp.out _ HR.out.2, (HV.out.drew).trans HK.out (fun b hb e => by have e' : b = S + 1 := e; omega)⟩
end Go.Proofs.YtmmjcbbogokmfaaGreatDoor

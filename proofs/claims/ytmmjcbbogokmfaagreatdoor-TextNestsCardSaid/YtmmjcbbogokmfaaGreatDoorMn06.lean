import Derived.Test.YtmmjcbbogokmfaaGreatDoorMn02
import Derived.Test.YtmmjcbbogokmfaaGreatDoorMn03
import Derived.Test.YtmmjcbbogokmfaaGreatDoorMn05
/- More plain words on memory: slices cut by two bounds, by one. -/
namespace Go.Proofs.YtmmjcbbogokmfaaGreatDoor
open Go.RowKit

section
variable {P : Program}
theorem cut_lh {t : TypeId} (ht : P.underlying t = some (.slice (P.elem t))) {s : Nat} (hs : ∀ w, (sizeOf (P.elem t)).run P w = .ok s w) (A : Option Addr) (len c l h : Nat) (kl kh : IntKind) (L H : Int) (hL : L = l) (hH : H = h) (hlh : l ≤ h) (hh : h ≤ c) (w : World) :
    (Instr.slice t (.slice A len c) (some (.int kl L)) (some (.int kh H)) none).run P w = .ok (.slice (if c = l then A else A.map (·.add (l * s))) (h - l) (c - l)) w := by
  subst hL
  subst hH
  rw [run_slice_lh (ht := ht) (h0 := by omega) (h1 := by omega) (h2 := by omega), hs]
  simp [sliced]
theorem cut_h {t : TypeId} (ht : P.underlying t = some (.slice (P.elem t))) {s : Nat} (hs : ∀ w, (sizeOf (P.elem t)).run P w = .ok s w) (A : Option Addr) (len c h : Nat) (kh : IntKind) (H : Int) (hH : H = h) (hh : h ≤ c) (w : World) :
    (Instr.slice t (.slice A len c) none (some (.int kh H)) none).run P w = .ok (.slice A h c) w := by
  subst hH
  rw [run_slice_h (ht := ht) (h0 := by omega) (h2 := by omega), hs]
  simp [sliced]
  intro _
  cases A <;> rfl
theorem cut_l {t : TypeId} (ht : P.underlying t = some (.slice (P.elem t))) {s : Nat} (hs : ∀ w, (sizeOf (P.elem t)).run P w = .ok s w) (A : Option Addr) (len c l : Nat) (kl : IntKind) (L : Int) (hL : L = l) (hl : l ≤ len) (w : World) :
    (Instr.slice t (.slice A len c) (some (.int kl L)) none none).run P w = .ok (.slice (if c = l then A else A.map (·.add (l * s))) (len - l) (c - l)) w := by
  subst hL
  rw [run_slice_l (ht := ht) (h0 := by omega) (h1 := by omega), hs]
  simp [sliced]
end
end Go.Proofs.YtmmjcbbogokmfaaGreatDoor

/- Contract of the machine's take. -/
namespace Go.Proofs.YtmmjcbbogokmfaaGreatDoor
open Go.RowKit

/-- a terminal is taken in n steps -/
inductive Takes (t : Nat) : Nat → List Nat → List Nat → Prop
  | hit (l : List Nat) : Takes t 1 (t :: l) l
  | more (n x : Nat) (l k : List Nat) : x ≠ t → Takes t n (ruleN x t ++ l) k → Takes t (n + 1) (x :: l) k
theorem Takes.uniq {t : Nat} {n : Nat} {l k : List Nat} (h : Takes t n l k) : ∀ {n' : Nat} {k' : List Nat}, Takes t n' l k' → n = n' ∧ k = k' := by
  induction h with
  | hit l =>
    intro n' k' h'
    cases h' with
    | hit _ => exact ⟨rfl, rfl⟩
    | more _ _ _ _ hne _ => exact absurd rfl hne
  | more n x l k hne _ ih =>
    intro n' k' h'
    cases h' with
    | hit _ => exact absurd rfl hne
    | more _ _ _ _ _ h2 =>
      obtain ⟨rfl, rfl⟩ := ih h2
      exact ⟨rfl, rfl⟩
theorem takes_of {t : Nat} : ∀ {f : Nat} {l k : List Nat}, takeN t f l = some k → ∃ n, n ≤ f ∧ Takes t n l k
  | 0, l, k, h => by cases h
  | f + 1, [], k, h => by cases h
  | f + 1, x :: l, k, h => by
    rw [takeN] at h
    split at h
    · rename_i hx
      subst hx
      obtain rfl := Option.some.inj h
      exact ⟨1, by omega, .hit l⟩
    · rename_i hx
      obtain ⟨n, hn, h2⟩ := takes_of h
      exact ⟨n + 1, by omega, .more n x l k hx h2⟩
/-- how many steps are still to be taken -/
noncomputable def tkMeas (t g : Nat) (w : World) : Nat := Classical.epsilon fun n => ∃ r src m A c k, Mac w g r src m A c ∧ Takes t n m.stack k
theorem tkMeas_eq {t g : Nat} {w : World} {r : Option Nat} {src : ByteArray} {m : Mc} {A : Option Addr} {c n : Nat} {k : List Nat} (h : Mac w g r src m A c) (ht : Takes t n m.stack k) : tkMeas t g w = n := by
  obtain ⟨r', src', m', A', c', k', h', ht'⟩ := Classical.epsilon_spec (p := fun n => ∃ r src m A c k, Mac w g r src m A c ∧ Takes t n m.stack k) ⟨n, r, src, m, A, c, k, h, ht⟩
  rw [h.uniq h'] at ht
  exact (ht'.uniq ht).1
/-- few symbols, and each is one -/
def Fit (l : List Nat) : Prop := l.length ≤ 11 ∧ ∀ x ∈ l, x < 85
theorem Fit.ite {c : Prop} [Decidable c] {a b : List Nat} (ha : Fit a) (hb : Fit b) : Fit (if c then a else b) := by
  split
  · exact ha
  · exact hb
theorem Fit.of (l : List Nat) (h : (decide (l.length ≤ 11) && l.all (fun x => decide (x < 85))) = true) : Fit l := by
  rw [Bool.and_eq_true, List.all_eq_true] at h
  exact ⟨of_decide_eq_true h.1, fun x hx => of_decide_eq_true (h.2 x hx)⟩
theorem Fit.cons {t : Nat} {l : List Nat} (ht : t < 85) (h : l.length ≤ 10) (h2 : Fit l) : Fit (t :: l) := ⟨by rw [List.length_cons]; omega, fun x hx => by
  rcases List.mem_cons.1 hx with rfl | hx
  · exact ht
  · exact h2.2 x hx⟩
theorem ruleN_fit (n t : Nat) (ht : t < 85) : Fit (ruleN n t) := by
  unfold ruleN declaredN atomN operatorsN
  repeat' first | apply Fit.ite | exact Fit.of _ (by decide) | exact Fit.cons ht (by decide) (Fit.of _ (by decide))
theorem ruleN_len (n t : Nat) (ht : t < 85) : (ruleN n t).length ≤ 11 := (ruleN_fit n t ht).1
theorem ruleN_sym (n t : Nat) (ht : t < 85) : ∀ x ∈ ruleN n t, x < 85 := (ruleN_fit n t ht).2
theorem Av.mx {w : World} {g n size : Nat} {r r' : Option Nat} {A : Option Addr} {xs : List Value} (ha : Av (MX g r) n A) (hf : MFr w r r') (hr : Rd w size A n xs) (hs : 0 < size) : Av (MX g r') n A := by
  intro hn ad e hx
  rcases hx with hx | hx
  · exact ha hn ad e (.inl hx)
  · rcases hf with rfl | ⟨k, rfl, hle⟩
    · exact ha hn ad e (.inr hx)
    · injection hx with hx
      have := hr.lt hs hn e
      omega
theorem Tryz.sizeSym : ∀ w, (sizeOf (Tryz.prog.elem 159)).run Tryz.prog w = .ok 1 w := fun _ => by kernel_rfl
/-- while the symbols of a rule are laid on the stack -/
structure Lay (w : World) (g : Nat) (r : Option Nat) (src : ByteArray) (m : Mc) (R : List Nat) (B : Option Addr) (rest : List Nat) (p : Nat) (wr : World) (r2 : Option Nat) (A2 : Option Addr) (c2 : Nat) : Prop where
  mac : Mac wr g r2 src { m with stack := R.drop p ++ rest } A2 c2
  kp : Kp (MX g r) w wr
  fr : MFr w r r2
  rd : Rd wr 1 B R.length (R.map yv)
  av : Av (MX g r2) R.length B
theorem Lay.next {w wr wx w1 : World} {g : Nat} {r r2 : Option Nat} {src : ByteArray} {m : Mc} {R rest : List Nat} {B A2 A' : Option Addr} {c2 c' q k : Nat} (h : Lay w g r src m R B rest (q + 1) wr r2 A2 c2) (hq : q < R.length) (hk : (R.drop (q + 1) ++ rest).length = k) (hx : Old wr wx)
    (h5 : R.getD q 0 < 85)
    (hown : w1.ownsRow 8 163 1 (.slice A' (k + 1) c') (k + 1) ((R.drop (q + 1) ++ rest).reverse.map yv ++ [yv (R.getD q 0)])) (hg : wx.grownBy w1 (Value.slice A2 k c2).ownBlock)
    (hat : A'.map (·.block) = (Value.slice A2 k c2).ownBlock ∨ A'.map (·.block) = some wx.heap.size) :
    ∃ r3 A3 c3, Lay w g r src m R B rest q (w1.setCell ⟨g, 2, none⟩ (.slice A' (k + 1) c')) r3 A3 c3 := by
  obtain ⟨r3, A3, c3, hM, hkp, hfr⟩ := h.mac.put hk hx h5 hown hg hat
  refine ⟨r3, A3, c3, ?_, h.kp.trans hkp (MX.trans h.fr), h.fr.trans h.kp.size hfr, h.rd.kp hkp h.av, h.av.mx hfr h.rd (by decide)⟩
  have e : R.drop q = R.getD q 0 :: R.drop (q + 1) := by
    rw [List.drop_eq_getElem_cons hq]
    simp [List.getD, List.getElem?_eq_getElem hq]
  rw [e]
  exact hM
set_option maxRecDepth 100000 in
set_option maxHeartbeats 1600000 in
theorem take_any9 (w : World) (g : Nat) (r : Option Nat) (src : ByteArray) (m : Mc) (A : Option Addr) (c : Nat) (h : Mac w g r src m A c) (t n0 : Nat) (k : List Nat) (ht : t < 58) (hT : Takes t n0 m.stack k) (hb : m.stack.length + 11 * n0 ≤ 100000000) :
    Calls Tryz.prog 179 #[.pointer (some ⟨g, 0, none⟩), yv t] w fun e w' => e = .returned (.tuple #[]) ∧ MStep w g r w' src { m with stack := k } := by
  obtain ⟨i0, hi, hz0, hz1', hz2'⟩ := info_parts Tryz.infoSym
  have Hr0 := Lib.hid (show ∃ n st, Takes t n st k ∧ MStep w g r w src { m with stack := st } ∧ st.length + 11 * n ≤ 100000000 from ⟨n0, m.stack, hT, h.step, hb⟩)
  clear h hT hb
  unfold yv
  go_enter Tryz.func179, Tryz.ntmps179
  go_wp2
  go_loopw [] (fun wr => ∃ n st, Takes t n st k ∧ MStep w g r wr src { m with stack := st } ∧ st.length + 11 * n ≤ 100000000) (fun wr => tkMeas t g wr)
  case atStart => exact Hr0.out
  case round =>
    clear Hr0
    obtain ⟨n, st, hT, ⟨r1, A, c, hM, hkp, hfr⟩, hb⟩ := hrel
    have Hme := Lib.hid (tkMeas_eq hM hT)
    cases hT with
    | hit _ =>
      have hc2 := hM.c2
      have hf2 := hM.z 2
      obtain ⟨b, o, rfl, hcell⟩ := hM.own.at_ 0 (by simp)
      simp only [List.length_cons, List.getD_cons_zero] at hc2 hcell hb
      rw [show k.length + 1 - 1 - 0 = k.length by omega] at hcell
      have Hfin := Lib.hid (hM.setPop (n := t) (st := k) rfl)
      have hcap := Stk.cap (n := t) (st := k) hM.own
      have hcut := fun w' => cut_h (P := Tryz.prog) (t := 159) Tryz.underlying159 Tryz.sizeSym (some ⟨b, o, none⟩) (k.length + 1) c k.length .i64 (k.length : Int) rfl hcap w'
      have Hkp := Lib.hid hkp
      have Hfr := Lib.hid hfr
      clear hM hkp hfr Hme
      generalize k.length = L at *
      have ew : IntKind.i64.wrap (L : Int) = (L : Int) := IntWalk.i64_in _ (by omega)
      have b1 : (0 : Int) ≤ (L : Int) := by omega
      have b2 : (L : Int).toNat = L := by omega
      unfold yv at *
      have b3 : ((t : Int) == (t : Int)) = true := by simp
      go_wp2
      refine bodyPost_ret (results_none rfl _ _ _) rfl ?_
      exact ⟨rfl, MStep.trans Hkp.out Hfr.out ⟨_, _, _, Hfin.out.1, Hfin.out.2, .inl rfl⟩⟩
    | more n x l _ hne hT =>
      have hc2 := hM.c2
      have hf2 := hM.z 2
      have hx5 : x < 85 := hM.sym x List.mem_cons_self
      obtain ⟨b, o, rfl, hcell⟩ := hM.own.at_ 0 (by simp)
      simp only [List.length_cons, List.getD_cons_zero] at hc2 hcell hb
      rw [show l.length + 1 - 1 - 0 = l.length by omega] at hcell
      have hcap := Stk.cap (n := x) (st := l) hM.own
      have hcut := fun w' => cut_h (P := Tryz.prog) (t := 159) Tryz.underlying159 Tryz.sizeSym (some ⟨b, o, none⟩) (l.length + 1) c l.length .i64 (l.length : Int) rfl hcap w'
      have Hfin := Lib.hid (hM.setPop (n := x) (st := l) rfl)
      have Hlt := Lib.hid (show g < wr.heap.size ∧ ∀ k, r1 = some k → k < wr.heap.size from ⟨hM.blk.lt, fun k hk => (hM.lt k hk).2⟩)
      have Hst := Lib.hid hT
      have Hkp := Lib.hid hkp
      have Hfr := Lib.hid hfr
      have Hfit := Lib.hid (ruleN_fit x t (by omega))
      have Hb := Lib.hid hb
      have Hrule := Lib.hid (fun W => rule_any W x t)
      clear hM hkp hfr hT
      generalize hL : l.length = L at *
      have HL := Lib.hid hL
      clear hL
      have ew : IntKind.i64.wrap (L : Int) = (L : Int) := IntWalk.i64_in _ (by omega)
      have b1 : (0 : Int) ≤ (L : Int) := by omega
      have b2 : (L : Int).toNat = L := by omega
      have b3 : ((x : Int) == (t : Int)) = false := beq_eq_false_iff_ne.2 (by omega)
      clear hb hne
      unfold yv at *
      go_wp2_with ((go_at_call 208); refine (Hrule.out _).mono ?_; rintro e w1 ⟨B, cB, rfl, hrd, hav, hold⟩)
      have Hl0 := Lib.hid (show Lay w g r src m (ruleN x t) B l (ruleN x t).length w1 r1 (some ⟨b, o, none⟩) c from by
        obtain ⟨hM, hk⟩ := Hfin.out
        refine ⟨?_, (Hkp.out.trans hk (MX.trans Hfr.out)).old hold, Hfr.out, hrd, fun hn ad e hx => hav hn ad e ?_⟩
        · rw [List.drop_length, List.nil_append]; exact hM.old hold
        · rw [show (wr.setCell ⟨g, 2, none⟩ (.slice (some ⟨b, o, none⟩) L c)).heap.size = wr.heap.size by simp [World.setCell]]
          rcases hx with hx | hx
          · rw [hx]; exact Hlt.out.1
          · exact Hlt.out.2 _ hx.symm)
      clear hrd hav hold Hfin Hkp Hfr Hlt Hrule hcut hc2 hf2 hcell hcap
      generalize hR : ruleN x t = R at *
      clear hR
      generalize hN : R.length = N at *
      have HN := Lib.hid hN
      clear hN
      have hN11 : N ≤ 11 := by have := Hfit.out.1; have := HN.out; omega
      have ew2 : IntKind.i64.wrap ((N : Int) - 1) = (N : Int) - 1 := IntWalk.i64_in _ (by omega)
      clear ew b1 b2 b3
      go_wp2
      go_loopw [7] (fun i wr2 => ∃ p : Nat, p ≤ N ∧ i = .int .i64 ((p : Int) - 1) ∧ ∃ r2 A2 c2, Lay w g r src m R B l p wr2 r2 A2 c2) (fun i _ => (intOf i + 1).toNat)
      case atStart => exact ⟨N, Nat.le_refl _, by rw [← IntWalk.i64_left, ew2], _, _, _, Hl0.out⟩
      case round =>
        clear Hl0
        obtain ⟨p, hp, rfl, r2, A2, c2, hlay⟩ := hrel
        by_cases h0 : 0 < p
        · obtain ⟨q, rfl⟩ : ∃ q, p = q + 1 := ⟨p - 1, by omega⟩
          have hlt : q < N := by omega
          have hc2 := hlay.mac.c2
          have hz2 := hlay.mac.z 2
          have hgl := hlay.mac.blk.lt
          have h8 : 7 ≤ wr.heap.size := by have := hlay.mac.low; omega
          have hne : some g ≠ (Value.slice A2 (R.drop (q + 1) ++ l).length c2).ownBlock := by
            rw [ownBlock_slice, hlay.mac.row]
            exact fun e => hlay.mac.ne e.symm
          obtain ⟨b, o, u, hB, hu, hcell⟩ := hlay.rd.at_ (k := q) (by rw [HN.out]; exact hlt)
          have hRd := hlay.rd
          subst hB
          rw [List.getElem?_map, List.getElem?_eq_getElem (by rw [HN.out]; exact hlt)] at hu
          simp only [Option.map_some, Option.some.injEq] at hu
          subst hu
          have hgd : R[q]'(by rw [HN.out]; exact hlt) = R.getD q 0 := by simp [List.getD, List.getElem?_eq_getElem (show q < R.length by rw [HN.out]; exact hlt)]
          rw [hgd] at hcell
          have h5 : R.getD q 0 < 85 := Hfit.out.2 _ (by rw [← hgd]; exact List.getElem_mem _)
          have hown := hlay.mac.own
          unfold Stk at hown
          have hlen : (R.drop (q + 1) ++ l).length ≤ 100000011 := by
            have := HL.out; have := Hb.out; have := Hfit.out.1
            rw [List.length_append, List.length_drop]; omega
          have Hlay := Lib.hid (fun (wx w3 : World) (A' : Option Addr) (c' : Nat) => Lay.next (wx := wx) (w1 := w3) (A' := A') (c' := c') hlay (by rw [HN.out]; exact hlt) rfl)
          simp only at hc2 hown
          clear hlay hRd hgd
          generalize hS : (R.drop (q + 1) ++ l) = S at *
          clear hS
          generalize hK : S.length = K at *
          generalize R.getD q 0 = y at *
          have H63 := Lib.hid (show K + 1 ≤ maxLen by unfold maxLen; omega)
          have H47 := Lib.hid (show (K + 1) * 1 ≤ 140737488355328 by omega)
          rw [show ((q + 1 : Nat) : Int) - 1 = (q : Int) by omega]
          have b1 : (0 : Int) ≤ (q : Int) := by omega
          have b2 : (q : Int).toNat = q := by omega
          have b3 : (q : Int) < (N : Int) := by omega
          have b4 : IntKind.i64.wrap ((q : Int) - 1) = (q : Int) - 1 := IntWalk.i64_in _ (by omega)
          unfold yv at *
          go_wp2
          go_region_law ((refine step_append_any _ rfl (.tmp 47) (.tmp 52) 159 rfl 8 163 i0 (.int .u8 0) 1 1 Tryz.underlying159 hi hz0 hz1' hz2' rfl (by decide) (.slice A2 K c2) K (S.reverse.map yv) rfl (hown.alloc _) (some ⟨wr.heap.size, 0, none⟩) 1 1 _ rfl (Rd.one_new _ _ _) (one_value _ rfl) H63.out H47.out (by simp; omega) ?_; intro A' c' w3 hown3 hgrow hat; have hc1 := hgrow.cell (a := ⟨g, 2, none⟩) (v := .slice A2 K c2) (by simp [hc2, World.cell?_alloc_lt, hgl]) hne; have hz1 : w3.frozen? ⟨g, 2, none⟩ = false := (World.frozen?_of_block (hgrow.block g (by simp; omega) hne)).trans (by simp [hz2, World.frozen?_alloc_past, hgl])))
          all_goals
            have Hst := Lib.hid (Hlay.out _ _ _ _ ((Kp.refl _ _).alloc _).drew h5 hown3 hgrow hat)
            clear hown3 hgrow hat hc1 hz1 hown hc2 hz2 hcell hne
            go_wp2
            go_roundw
            case rel => exact ⟨q, by omega, by go_num, Hst.out⟩
            case measure => simp [intOf]
        · obtain rfl : p = 0 := by omega
          have Hst2 := Lib.hid Hst.out
          have hM := hlay.mac
          have hM' := hM
          simp only [List.drop_zero] at hM'
          have Hm2 := Lib.hid (tkMeas_eq hM' Hst.out)
          have Hnew := Lib.hid (show ∃ n st, Takes t n st k ∧ MStep w g r wr src { m with stack := st } ∧ st.length + 11 * n ≤ 100000000 from ⟨n, R ++ l, Hst.out, ⟨r2, A2, c2, hM', hlay.kp, hlay.fr⟩, by
            have := HL.out; have := Hb.out; have := HN.out
            rw [List.length_append]; omega⟩)
          clear hM hM' hlay Hst2
          go_wp2
          go_roundw
          case rel => exact Hnew.out
          case measure => show tkMeas t g _ < tkMeas t g _; rw [Hm2.out, Hme.out]; omega
end Go.Proofs.YtmmjcbbogokmfaaGreatDoor

/- Contracts of the language's words: startsName, isReserved, Legal. -/
namespace Go.Proofs.YtmmjcbbogokmfaaGreatDoor
open Go.RowKit

theorem sb_take_succ (s : ByteArray) (k : Nat) (h : k < s.size) : (sb s).take (k + 1) = (sb s).take k ++ [s[k]] := by
  have h' : k < (sb s).length := by rw [sb_length]; exact h
  rw [List.take_succ_eq_append_getElem h']
  rfl
theorem sb_head (s : ByteArray) (h : 0 < s.size) : (sb s).headD 0 = s[0] := by
  have h' : 0 < (sb s).length := by rw [sb_length]; exact h
  have : (sb s)[0]'h' = s[0] := rfl
  refine Eq.trans ?_ this
  rw [List.headD_eq_head?_getD, List.head?_eq_getElem?, List.getElem?_eq_getElem h']
  rfl
theorem sb_mem (s : ByteArray) (k : Nat) (h : k < s.size) : s[k] ∈ sb s := by
  have : s[k] = (sb s)[k]'(by rw [sb_length]; exact h) := rfl
  rw [this]
  exact List.getElem_mem _
set_option maxRecDepth 100000 in
set_option maxHeartbeats 800000 in
theorem startsName_any (w : World) (s : ByteArray) : Calls Tryz.prog 69 #[.string s] w fun e w' => e = .returned (.bool (startsNameB (sb s))) ∧ w = w' := by
  have HL := Lib.hid (show startsNameB (sb s) = (decide (0 < s.size ∧ s.size ≤ 64) && letC ((sb s).headD 0) && (sb s).all wordC) by unfold startsNameB; rw [sb_length])
  generalize startsNameB (sb s) = R at *
  by_cases h0 : s.size = 0
  · have Hno := Lib.hid (show R = false by rw [HL.out, decide_eq_false (by omega)]; rfl)
    have b0 : ((s.size : Int) == 0) = true := by rw [h0]; rfl
    have Hz := Lib.hid h0
    clear h0
    go_enter Tryz.func69, Tryz.ntmps69
    go_wp2
    go_ret
    exact ⟨by rw [Hno.out]; rfl, rfl⟩
  · have b0 : ((s.size : Int) == 0) = false := beq_eq_false_iff_ne.2 (by omega)
    by_cases h1 : s.size ≤ 64
    · have b1 : ¬ (64 : Int) < (s.size : Int) := by omega
      have hp : 0 < s.size := by omega
      have hpI : (0 : Int) < (s.size : Int) := by omega
      have Hc := Lib.hid (show R = (letC s[0] && (sb s).all wordC) by rw [HL.out, decide_eq_true (by omega), sb_head s hp]; rfl)
      have H0 := Lib.hid (letter_any w s[0])
      unfold bv at H0
      clear HL
      generalize hl : letC s[0] = L at *
      clear hl
      cases L
      · have Hno := Lib.hid (show R = false by rw [Hc.out]; rfl)
        go_enter Tryz.func69, Tryz.ntmps69
        go_wp2_with (go_at_call 128; refine H0.out.mono ?_; rintro e w1 ⟨rfl, rfl⟩)
        go_ret
        exact ⟨by rw [Hno.out]; rfl, rfl⟩
      · have Hc := Lib.hid (show R = (sb s).all wordC by rw [Hc.out]; rfl)
        have h1i : (s.size : Int) ≤ 64 := by omega
        go_enter Tryz.func69, Tryz.ntmps69
        go_wp2_with (go_at_call 128; refine H0.out.mono ?_; rintro e w1 ⟨rfl, rfl⟩)
        clear H0
        go_loop [20] (fun i => ∃ k : Nat, k ≤ s.size ∧ i = .int .i64 k ∧ ((sb s).take k).all wordC = true) (fun i => s.size - (intOf i).toNat)
        case atStart => exact ⟨0, Nat.zero_le _, rfl, rfl⟩
        case round =>
          obtain ⟨k, hk, rfl, hgood⟩ := hrel
          by_cases hlt : k < s.size
          · have Hgood := Lib.hid (show ((sb s).take (k + 1)).all wordC = wordC s[k] by rw [sb_take_succ s k hlt, List.all_append, hgood]; simp)
            have Hno := Lib.hid (show wordC s[k] = false → R = false from fun h => by
              rw [Hc.out, ← Bool.not_eq_true, List.all_eq_true]
              intro h'
              have := h' s[k] (sb_mem s k hlt)
              rw [h] at this
              cases this)
            have b2 : (0 : Int) ≤ (k : Int) := by omega
            have b3 : (k : Int) < (s.size : Int) := by omega
            have b4 : (k : Int).toNat = k := by omega
            have Hw := Lib.hid (ofWord_any w s[k])
            unfold bv at Hw
            clear hgood
            generalize hw : wordC s[k] = W at *
            clear hw
            cases W
            · have Hn := Lib.hid (Hno.out rfl)
              go_wp2_with (go_at_call 129; refine Hw.out.mono ?_; rintro e w1 ⟨rfl, rfl⟩)
              go_ret
              exact ⟨by rw [Hn.out]; rfl, rfl⟩
            · go_wp2_with (go_at_call 129; refine Hw.out.mono ?_; rintro e w1 ⟨rfl, rfl⟩)
              exact ⟨⟨k + 1, by omega, by go_num, Hgood.out⟩, by simp [intOf]; omega⟩
          · obtain rfl : k = s.size := by omega
            have Hy := Lib.hid (show R = true by rw [Hc.out, ← hgood, ← sb_length, List.take_length])
            clear hgood
            go_wp2
            go_ret
            exact ⟨by rw [Hy.out]; rfl, rfl⟩
    · have b1 : (64 : Int) < (s.size : Int) := by omega
      have Hno := Lib.hid (show R = false by rw [HL.out, decide_eq_false (by omega)]; rfl)
      clear HL h0 h1
      go_enter Tryz.func69, Tryz.ntmps69
      go_wp2
      go_ret
      exact ⟨by rw [Hno.out]; rfl, rfl⟩
set_option maxRecDepth 100000 in
theorem isReserved_any (w : World) (hg : Sg w) (s : ByteArray) : Calls Tryz.prog 70 #[.string s] w fun e w' => e = .returned (.bool (decide (wordN (sb s) ≠ 0))) ∧ w = w' := by
  have H := Lib.hid (word_any9 w hg s)
  generalize wordN (sb s) = n at *
  clear hg
  go_enter Tryz.func70, Tryz.ntmps70
  go_wp2_with (go_at_call 130; refine H.out.mono ?_; rintro e w1 ⟨rfl, rfl⟩)
  all_goals (go_ret; refine ⟨?_, rfl⟩; refine retb ?_; clear H; simp at *; try omega)
set_option maxRecDepth 100000 in
theorem legal_any9 (w : World) (hg : Sg w) (s : ByteArray) : Calls Tryz.prog 20 #[.string s] w fun e w' => e = .returned (.bool (legalB (sb s))) ∧ w = w' := by
  have Hy := Lib.hid (show legalB (sb s) = (startsNameB (sb s) && decide (wordN (sb s) = 0)) from rfl)
  have H := Lib.hid (startsName_any w s)
  have H2 := Lib.hid (isReserved_any w hg s)
  generalize wordN (sb s) = n at *
  generalize startsNameB (sb s) = a at *
  generalize legalB (sb s) = R at *
  clear hg
  cases a
  · have Hn := Lib.hid (show R = false by rw [Hy.out]; rfl)
    go_enter Tryz.func20, Tryz.ntmps20
    go_wp2_with (go_at_call 69; refine H.out.mono ?_; rintro e w1 ⟨rfl, rfl⟩)
    go_ret
    exact ⟨by rw [Hn.out]; rfl, rfl⟩
  · have Hn := Lib.hid (show R = !(decide (n ≠ 0)) by rw [Hy.out]; simp)
    generalize decide (n ≠ 0) = b at *
    go_enter Tryz.func20, Tryz.ntmps20
    go_wp2_with (first | (go_at_call 69; refine H.out.mono ?_; rintro e w1 ⟨rfl, rfl⟩) | (go_at_call 70; refine H2.out.mono ?_; rintro e w1 ⟨rfl, rfl⟩))
    all_goals (go_ret; exact ⟨by rw [Hn.out]; rfl, rfl⟩)
end Go.Proofs.YtmmjcbbogokmfaaGreatDoor

import Derived.Test.YtmmjcbbogokmfaaGreatDoorMt01
import Derived.Test.YtmmjcbbogokmfaaGreatDoorMt09
import Derived.Test.YtmmjcbbogokmfaaGreatDoorMt11
set_option maxRecDepth 100000
set_option maxHeartbeats 25600000
namespace Go.Proofs.YtmmjcbbogokmfaaGreatDoor
open Go.RowKit
inductive Takes (t : Nat) : Nat -> List Nat -> List Nat -> Prop
  | hit (l : List Nat) : Takes t 1 (t :: l) l
  | more (n x : Nat) (l k : List Nat) : x ≠ t -> Takes t n (jZ x t ++ l) k -> Takes t (n + 1) (x :: l) k
theorem Takes.uniq {t : Nat} {n : Nat} {l k : List Nat} (h : Takes t n l k) : ∀ {n' : Nat} {k' : List Nat}, Takes t n' l k' -> n = n' /\ k = k' := by
  induction h with
  | hit l =>
    intro n' k' h'
    cases h' with
    | hit _ => exact ⟨rfl, rfl⟩
    | more _ _ _ _ hne _ => exact absurd rfl hne
  | more n x l k hne _ ih =>
    intro n' k' h'
    cases h' with
    | hit _ => exact absurd rfl hne
    | more _ _ _ _ _ h2 =>
      obtain ⟨rfl, rfl⟩ := ih h2
      exact ⟨rfl, rfl⟩
theorem takes_of {t : Nat} : ∀ {f : Nat} {l k : List Nat}, jt t f l = some k -> ∃ n, n <= f /\ Takes t n l k
  | 0, l, k, h => by cases h
  | f + 1, [], k, h => by cases h
  | f + 1, x :: l, k, h => by
    rw [jt] at h
    split at h
    · rename_i hx
      subst hx
      obtain rfl := Option.some.inj h
      exact ⟨1, by omega, .hit l⟩
    · rename_i hx
      obtain ⟨n, hn, h2⟩ := takes_of h
      exact ⟨n + 1, by omega, .more n x l k hx h2⟩
noncomputable def tkMeas (t g : Nat) (w : World) : Nat := Classical.epsilon fun n => ∃ r src m A c k, Mac w g r src m A c /\ Takes t n m.stack k
theorem tkMeas_eq {t g : Nat} {w : World} {r : Option Nat} {src : ByteArray} {m : Mc} {A : Option Addr} {c n : Nat} {k : List Nat} (h : Mac w g r src m A c) (ht : Takes t n m.stack k) : tkMeas t g w = n := by
  obtain ⟨r', src', m', A', c', k', h', ht'⟩ := Classical.epsilon_spec (p := fun n => ∃ r src m A c k, Mac w g r src m A c /\ Takes t n m.stack k) ⟨n, r, src, m, A, c, k, h, ht⟩
  rw [h.uniq h'] at ht
  exact (ht'.uniq ht).1
def Fit (l : List Nat) : Prop := l.length <= 11 /\ ∀ x ∈ l, x < 85
theorem Fit.ite {c : Prop} [Decidable c] {a b : List Nat} (ha : Fit a) (hb : Fit b) : Fit (if c then a else b) := by
  split
  · exact ha
  · exact hb
theorem Fit.of (l : List Nat) (h : (decide (l.length <= 11) && l.all (fun x => decide (x < 85))) = true) : Fit l := by
  rw [Bool.and_eq_true, List.all_eq_true] at h
  exact ⟨of_decide_eq_true h.1, fun x hx => of_decide_eq_true (h.2 x hx)⟩
theorem Fit.cons {t : Nat} {l : List Nat} (ht : t < 85) (h : l.length <= 10) (h2 : Fit l) : Fit (t :: l) := ⟨by rw [List.length_cons]; omega, fun x hx => by
  rcases List.mem_cons.1 hx with rfl | hx
  · exact ht
  · exact h2.2 x hx⟩
theorem ruleN_fit (n t : Nat) (ht : t < 85) : Fit (jZ n t) := by
  unfold jZ kC kH jJ
  repeat' first | apply Fit.ite | exact Fit.of _ (by decide) | exact Fit.cons ht (by decide) (Fit.of _ (by decide))
theorem ruleN_sym (n t : Nat) (ht : t < 85) : ∀ x ∈ jZ n t, x < 85 := (ruleN_fit n t ht).2
theorem Av.mx {w : World} {g n size : Nat} {r r' : Option Nat} {A : Option Addr} {xs : List Value} (ha : Av (MX g r) n A) (hf : MFr w r r') (hr : Rd w size A n xs) (hs : 0 < size) : Av (MX g r') n A := by
  intro hn ad e hx
  rcases hx with hx | hx
  · exact ha hn ad e (.inl hx)
  · rcases hf with rfl | ⟨k, rfl, hle⟩
    · exact ha hn ad e (.inr hx)
    · injection hx with hx
      have := hr.lt hs hn e
      omega
theorem Tryz.sizeSym : ∀ w, (sizeOf (Tryz.prog.elem 159)).run Tryz.prog w = .ok 1 w := fun _ => by kernel_rfl
structure Lay (w : World) (g : Nat) (r : Option Nat) (src : ByteArray) (m : Mc) (R : List Nat) (B : Option Addr) (rest : List Nat) (p : Nat) (wr : World) (r2 : Option Nat) (A2 : Option Addr) (c2 : Nat) : Prop where
  mac : Mac wr g r2 src { m with stack := R.drop p ++ rest } A2 c2
  kp : Kp (MX g r) w wr
  fr : MFr w r r2
  rd : Rd wr 1 B R.length (R.map yv)
  av : Av (MX g r2) R.length B
theorem Lay.next {w wr wx w1 : World} {g : Nat} {r r2 : Option Nat} {src : ByteArray} {m : Mc} {R rest : List Nat} {B A2 A' : Option Addr} {c2 c' q k : Nat} (h : Lay w g r src m R B rest (q + 1) wr r2 A2 c2) (hq : q < R.length) (hk : (R.drop (q + 1) ++ rest).length = k) (hx : Old wr wx)
    (h5 : R.getD q 0 < 85)
    (hown : w1.ownsRow 8 163 1 (.slice A' (k + 1) c') (k + 1) ((R.drop (q + 1) ++ rest).reverse.map yv ++ [yv (R.getD q 0)])) (hg : wx.grownBy w1 (Value.slice A2 k c2).ownBlock)
    (hat : A'.map (·.block) = (Value.slice A2 k c2).ownBlock \/ A'.map (·.block) = some wx.heap.size) :
    ∃ r3 A3 c3, Lay w g r src m R B rest q (w1.setCell ⟨g, 2, none⟩ (.slice A' (k + 1) c')) r3 A3 c3 := by
  obtain ⟨r3, A3, c3, hM, hkp, hfr⟩ := h.mac.put hk hx h5 hown hg hat
  refine ⟨r3, A3, c3, ?_, h.kp.trans hkp (MX.trans h.fr), h.fr.trans h.kp.size hfr, h.rd.kp hkp h.av, h.av.mx hfr h.rd (by decide)⟩
  have e : R.drop q = R.getD q 0 :: R.drop (q + 1) := by
    rw [List.drop_eq_getElem_cons hq]
    simp [List.getD, List.getElem?_eq_getElem hq]
  rw [e]
  exact hM
theorem vp (w : World) (g : Nat) (r : Option Nat) (src : ByteArray) (m : Mc) (A : Option Addr) (c : Nat) (h : Mac w g r src m A c) (t n0 : Nat) (k : List Nat) (ht : t < 58) (hT : Takes t n0 m.stack k) (hb : m.stack.length + 11 * n0 <= 100000000) :
    Calls Tryz.prog 179 #[.pointer (some ⟨g, 0, none⟩), yv t] w fun e w' => e = .returned (.tuple #[]) /\ MStep w g r w' src { m with stack := k } := by
  obtain ⟨i0, hi, hz0, hz1', hz2'⟩ := info_parts Tryz.infoSym
  have Hr0 := jJ0 (show ∃ n st, Takes t n st k /\ MStep w g r w src { m with stack := st } /\ st.length + 11 * n <= 100000000 from ⟨n0, m.stack, hT, h.step, hb⟩)
  clear h hT hb
  unfold yv
  go_enter Tryz.func179, Tryz.ntmps179
  go_wp2
  go_loopw [] (fun wr => ∃ n st, Takes t n st k /\ MStep w g r wr src { m with stack := st } /\ st.length + 11 * n <= 100000000) (fun wr => tkMeas t g wr)
  case atStart => exact Hr0.out
  case round =>
    clear Hr0
    obtain ⟨n, st, hT, ⟨r1, A, c, hM, hkp, hfr⟩, hb⟩ := hrel
    have Hme := jJ0 (tkMeas_eq hM hT)
    cases hT with
    | hit _ =>
      have hc2 := hM.c2
      have hf2 := hM.z 2
      obtain ⟨b, o, rfl, hcell⟩ := hM.own.at_ 0 (by simp)
      simp only [List.length_cons, List.getD_cons_zero] at hc2 hcell hb
      rw [show k.length + 1 - 1 - 0 = k.length by omega] at hcell
      have Hfin := jJ0 (hM.setPop (n := t) (st := k) rfl)
      have hcap := Stk.cap (n := t) (st := k) hM.own
      have hcut := fun w' => cut_h (P := Tryz.prog) (t := 159) Tryz.underlying159 Tryz.sizeSym (some ⟨b, o, none⟩) (k.length + 1) c k.length .i64 (k.length : Int) rfl hcap w'
      have Hkp := jJ0 hkp
      have Hfr := jJ0 hfr
      clear hM hkp hfr Hme
      generalize k.length = L at *
      have ew : IntKind.i64.wrap (L : Int) = (L : Int) := IntWalk.i64_in _ (by omega)
      have b1 : (0 : Int) <= (L : Int) := by omega
      have b2 : (L : Int).toNat = L := by omega
      unfold yv at *
      have b3 : ((t : Int) == (t : Int)) = true := by simp
      go_wp2
      refine bodyPost_ret (results_none rfl _ _ _) rfl ?_
      exact ⟨rfl, MStep.trans Hkp.out Hfr.out ⟨_, _, _, Hfin.out.1, Hfin.out.2, .inl rfl⟩⟩
    | more n x l _ hne hT =>
      have hc2 := hM.c2
      have hf2 := hM.z 2
      have hx5 : x < 85 := hM.sym x List.mem_cons_self
      obtain ⟨b, o, rfl, hcell⟩ := hM.own.at_ 0 (by simp)
      simp only [List.length_cons, List.getD_cons_zero] at hc2 hcell hb
      rw [show l.length + 1 - 1 - 0 = l.length by omega] at hcell
      have hcap := Stk.cap (n := x) (st := l) hM.own
      have hcut := fun w' => cut_h (P := Tryz.prog) (t := 159) Tryz.underlying159 Tryz.sizeSym (some ⟨b, o, none⟩) (l.length + 1) c l.length .i64 (l.length : Int) rfl hcap w'
      have Hfin := jJ0 (hM.setPop (n := x) (st := l) rfl)
      have Hlt := jJ0 (show g < wr.heap.size /\ ∀ k, r1 = some k -> k < wr.heap.size from ⟨hM.blk.lt, fun k hk => (hM.lt k hk).2⟩)
      have Hst := jJ0 hT
      have Hkp := jJ0 hkp
      have Hfr := jJ0 hfr
      have Hfit := jJ0 (ruleN_fit x t (by omega))
      have Hb := jJ0 hb
      have Hrule := jJ0 (fun W => rule_any W x t)
      clear hM hkp hfr hT
      generalize hL : l.length = L at *
      have HL := jJ0 hL
      clear hL
      have ew : IntKind.i64.wrap (L : Int) = (L : Int) := IntWalk.i64_in _ (by omega)
      have b1 : (0 : Int) <= (L : Int) := by omega
      have b2 : (L : Int).toNat = L := by omega
      have b3 : ((x : Int) == (t : Int)) = false := beq_eq_false_iff_ne.2 (by omega)
      clear hb hne
      unfold yv at *
      go_wp2_with ((go_at_call 208); refine (Hrule.out _).mono ?_; rintro e w1 ⟨B, cB, rfl, hrd, hav, hold⟩)
      have Hl0 := jJ0 (show Lay w g r src m (jZ x t) B l (jZ x t).length w1 r1 (some ⟨b, o, none⟩) c from by
        obtain ⟨hM, hk⟩ := Hfin.out
        refine ⟨?_, (Hkp.out.trans hk (MX.trans Hfr.out)).old hold, Hfr.out, hrd, fun hn ad e hx => hav hn ad e ?_⟩
        · rw [List.drop_length, List.nil_append]; exact hM.old hold
        · rw [show (wr.setCell ⟨g, 2, none⟩ (.slice (some ⟨b, o, none⟩) L c)).heap.size = wr.heap.size by simp [World.setCell]]
          rcases hx with hx | hx
          · rw [hx]; exact Hlt.out.1
          · exact Hlt.out.2 _ hx.symm)
      clear hrd hav hold Hfin Hkp Hfr Hlt Hrule hcut hc2 hf2 hcell hcap
      generalize hR : jZ x t = R at *
      clear hR
      generalize hN : R.length = N at *
      have HN := jJ0 hN
      clear hN
      have hN11 : N <= 11 := by have := Hfit.out.1; have := HN.out; omega
      have ew2 : IntKind.i64.wrap ((N : Int) - 1) = (N : Int) - 1 := IntWalk.i64_in _ (by omega)
      clear ew b1 b2 b3
      go_wp2
      go_loopw [7] (fun i wr2 => ∃ p : Nat, p <= N /\ i = .int .i64 ((p : Int) - 1) /\ ∃ r2 A2 c2, Lay w g r src m R B l p wr2 r2 A2 c2) (fun i _ => (intOf i + 1).toNat)
      case atStart => exact ⟨N, Nat.le_refl _, by rw [<- IntWalk.i64_left, ew2], _, _, _, Hl0.out⟩
      case round =>
        clear Hl0
        obtain ⟨p, hp, rfl, r2, A2, c2, hlay⟩ := hrel
        by_cases h0 : 0 < p
        · obtain ⟨q, rfl⟩ : ∃ q, p = q + 1 := ⟨p - 1, by omega⟩
          have hlt : q < N := by omega
          have hc2 := hlay.mac.c2
          have hz2 := hlay.mac.z 2
          have hgl := hlay.mac.blk.lt
          have h8 : 7 <= wr.heap.size := by have := hlay.mac.low; omega
          have hne : some g ≠ (Value.slice A2 (R.drop (q + 1) ++ l).length c2).ownBlock := by
            rw [jC, hlay.mac.row]
            exact fun e => hlay.mac.ne e.symm
          obtain ⟨b, o, u, hB, hu, hcell⟩ := hlay.rd.at_ (k := q) (by rw [HN.out]; exact hlt)
          have hRd := hlay.rd
          subst hB
          rw [List.getElem?_map, List.getElem?_eq_getElem (by rw [HN.out]; exact hlt)] at hu
          simp only [Option.map_some, Option.some.injEq] at hu
          subst hu
          have hgd : R[q]'(by rw [HN.out]; exact hlt) = R.getD q 0 := by simp [List.getD, List.getElem?_eq_getElem (show q < R.length by rw [HN.out]; exact hlt)]
          rw [hgd] at hcell
          have h5 : R.getD q 0 < 85 := Hfit.out.2 _ (by rw [<- hgd]; exact List.getElem_mem _)
          have hown := hlay.mac.own
          unfold Stk at hown
          have hlen : (R.drop (q + 1) ++ l).length <= 100000011 := by
            have := HL.out; have := Hb.out; have := Hfit.out.1
            rw [List.length_append, List.length_drop]; omega
          have Hlay := jJ0 (fun (wx w3 : World) (A' : Option Addr) (c' : Nat) => Lay.next (wx := wx) (w1 := w3) (A' := A') (c' := c') hlay (by rw [HN.out]; exact hlt) rfl)
          simp only at hc2 hown
          clear hlay hRd hgd
          generalize hS : (R.drop (q + 1) ++ l) = S at *
          clear hS
          generalize hK : S.length = K at *
          generalize R.getD q 0 = y at *
          have H63 := jJ0 (show K + 1 <= maxLen by unfold maxLen; omega)
          have H47 := jJ0 (show (K + 1) * 1 <= 140737488355328 by omega)
          rw [show ((q + 1 : Nat) : Int) - 1 = (q : Int) by omega]
          have b1 : (0 : Int) <= (q : Int) := by omega
          have b2 : (q : Int).toNat = q := by omega
          have b3 : (q : Int) < (N : Int) := by omega
          have b4 : IntKind.i64.wrap ((q : Int) - 1) = (q : Int) - 1 := IntWalk.i64_in _ (by omega)
          unfold yv at *
          go_wp2
          go_region_law ((refine ju _ rfl (.tmp 47) (.tmp 52) 159 rfl 8 163 i0 (.int .u8 0) 1 1 Tryz.underlying159 hi hz0 hz1' hz2' rfl (by decide) (.slice A2 K c2) K (S.reverse.map yv) rfl (hown.alloc _) (some ⟨wr.heap.size, 0, none⟩) 1 1 _ rfl (Rd.one_new _ _ _) (kL _ rfl) H63.out H47.out (by simp; omega) ?_; intro A' c' w3 hown3 hgrow hat; have hc1 := hgrow.cell (a := ⟨g, 2, none⟩) (v := .slice A2 K c2) (by simp [hc2, World.cell?_alloc_lt, hgl]) hne; have hz1 : w3.frozen? ⟨g, 2, none⟩ = false := (World.frozen?_of_block (hgrow.block g (by simp; omega) hne)).trans (by simp [hz2, World.frozen?_alloc_past, hgl])))
          all_goals
            have Hst := jJ0 (Hlay.out _ _ _ _ ((Kp.refl _ _).alloc _).drew h5 hown3 hgrow hat)
            clear hown3 hgrow hat hc1 hz1 hown hc2 hz2 hcell hne
            go_wp2
            go_roundw
            case rel => exact ⟨q, by omega, by go_num, Hst.out⟩
            case measure => simp [intOf]
        · obtain rfl : p = 0 := by omega
          have Hst2 := jJ0 Hst.out
          have hM := hlay.mac
          have hM' := hM
          simp only [List.drop_zero] at hM'
          have Hm2 := jJ0 (tkMeas_eq hM' Hst.out)
          have Hnew := jJ0 (show ∃ n st, Takes t n st k /\ MStep w g r wr src { m with stack := st } /\ st.length + 11 * n <= 100000000 from ⟨n, R ++ l, Hst.out, ⟨r2, A2, c2, hM', hlay.kp, hlay.fr⟩, by
            have := HL.out; have := Hb.out; have := HN.out
            rw [List.length_append]; omega⟩)
          clear hM hM' hlay Hst2
          go_wp2
          go_roundw
          case rel => exact Hnew.out
          case measure => show tkMeas t g _ < tkMeas t g _; rw [Hm2.out, Hme.out]; omega
theorem sb_take_succ (s : ByteArray) (k : Nat) (h : k < s.size) : (sb s).take (k + 1) = (sb s).take k ++ [s[k]] := by
  have h' : k < (sb s).length := by rw [jA]; exact h
  rw [List.take_succ_eq_append_getElem h']
  rfl
theorem sb_head (s : ByteArray) (h : 0 < s.size) : (sb s).headD 0 = s[0] := by
  have h' : 0 < (sb s).length := by rw [jA]; exact h
  have : (sb s)[0]'h' = s[0] := rfl
  refine Eq.trans ?_ this
  rw [List.headD_eq_head?_getD, List.head?_eq_getElem?, List.getElem?_eq_getElem h']
  rfl
theorem sb_mem (s : ByteArray) (k : Nat) (h : k < s.size) : s[k] ∈ sb s := by
  have : s[k] = (sb s)[k]'(by rw [jA]; exact h) := rfl
  rw [this]
  exact List.getElem_mem _
theorem yG (w : World) (s : ByteArray) : Calls Tryz.prog 69 #[.string s] w fun e w' => e = .returned (.bool (jQ (sb s))) /\ w = w' := by
  have HL := jJ0 (show jQ (sb s) = (decide (0 < s.size /\ s.size <= 64) && letC ((sb s).headD 0) && (sb s).all jK) by unfold jQ; rw [jA])
  generalize jQ (sb s) = R at *
  by_cases h0 : s.size = 0
  · have Hno := jJ0 (show R = false by rw [HL.out, decide_eq_false (by omega)]; rfl)
    have b0 : ((s.size : Int) == 0) = true := by rw [h0]; rfl
    have Hz := jJ0 h0
    clear h0
    go_enter Tryz.func69, Tryz.ntmps69
    go_wp2
    go_ret
    exact ⟨by rw [Hno.out]; rfl, rfl⟩
  · have b0 : ((s.size : Int) == 0) = false := beq_eq_false_iff_ne.2 (by omega)
    by_cases h1 : s.size <= 64
    · have b1 : ¬ (64 : Int) < (s.size : Int) := by omega
      have hp : 0 < s.size := by omega
      have hpI : (0 : Int) < (s.size : Int) := by omega
      have Hc := jJ0 (show R = (letC s[0] && (sb s).all jK) by rw [HL.out, decide_eq_true (by omega), sb_head s hp]; rfl)
      have H0 := jJ0 (letter_any w s[0])
      unfold bv at H0
      clear HL
      generalize hl : letC s[0] = L at *
      clear hl
      cases L
      · have Hno := jJ0 (show R = false by rw [Hc.out]; rfl)
        go_enter Tryz.func69, Tryz.ntmps69
        go_wp2_with (go_at_call 128; refine H0.out.mono ?_; rintro e w1 ⟨rfl, rfl⟩)
        go_ret
        exact ⟨by rw [Hno.out]; rfl, rfl⟩
      · have Hc := jJ0 (show R = (sb s).all jK by rw [Hc.out]; rfl)
        have h1i : (s.size : Int) <= 64 := by omega
        go_enter Tryz.func69, Tryz.ntmps69
        go_wp2_with (go_at_call 128; refine H0.out.mono ?_; rintro e w1 ⟨rfl, rfl⟩)
        clear H0
        go_loop [20] (fun i => ∃ k : Nat, k <= s.size /\ i = .int .i64 k /\ ((sb s).take k).all jK = true) (fun i => s.size - (intOf i).toNat)
        case atStart => exact ⟨0, Nat.zero_le _, rfl, rfl⟩
        case round =>
          obtain ⟨k, hk, rfl, hgood⟩ := hrel
          by_cases hlt : k < s.size
          · have Hgood := jJ0 (show ((sb s).take (k + 1)).all jK = jK s[k] by rw [sb_take_succ s k hlt, List.all_append, hgood]; simp)
            have Hno := jJ0 (show jK s[k] = false -> R = false from fun h => by
              rw [Hc.out, <- Bool.not_eq_true, List.all_eq_true]
              intro h'
              have := h' s[k] (sb_mem s k hlt)
              rw [h] at this
              cases this)
            have b2 : (0 : Int) <= (k : Int) := by omega
            have b3 : (k : Int) < (s.size : Int) := by omega
            have b4 : (k : Int).toNat = k := by omega
            have Hw := jJ0 (vB w s[k])
            unfold bv at Hw
            clear hgood
            generalize hw : jK s[k] = W at *
            clear hw
            cases W
            · have Hn := jJ0 (Hno.out rfl)
              go_wp2_with (go_at_call 129; refine Hw.out.mono ?_; rintro e w1 ⟨rfl, rfl⟩)
              go_ret
              exact ⟨by rw [Hn.out]; rfl, rfl⟩
            · go_wp2_with (go_at_call 129; refine Hw.out.mono ?_; rintro e w1 ⟨rfl, rfl⟩)
              exact ⟨⟨k + 1, by omega, by go_num, Hgood.out⟩, by simp [intOf]; omega⟩
          · obtain rfl : k = s.size := by omega
            have Hy := jJ0 (show R = true by rw [Hc.out, <- hgood, <- jA, List.take_length])
            clear hgood
            go_wp2
            go_ret
            exact ⟨by rw [Hy.out]; rfl, rfl⟩
    · have b1 : (64 : Int) < (s.size : Int) := by omega
      have Hno := jJ0 (show R = false by rw [HL.out, decide_eq_false (by omega)]; rfl)
      clear HL h0 h1
      go_enter Tryz.func69, Tryz.ntmps69
      go_wp2
      go_ret
      exact ⟨by rw [Hno.out]; rfl, rfl⟩
theorem isReserved_any (w : World) (hg : Sg w) (s : ByteArray) : Calls Tryz.prog 70 #[.string s] w fun e w' => e = .returned (.bool (decide (kj (sb s) ≠ 0))) /\ w = w' := by
  have H := jJ0 (word_any9 w hg s)
  generalize kj (sb s) = n at *
  clear hg
  go_enter Tryz.func70, Tryz.ntmps70
  go_wp2_with (go_at_call 130; refine H.out.mono ?_; rintro e w1 ⟨rfl, rfl⟩)
  all_goals (go_ret; refine ⟨?_, rfl⟩; refine retb ?_; clear H; simp at *; try omega)
theorem kJ (w : World) (hg : Sg w) (s : ByteArray) : Calls Tryz.prog 20 #[.string s] w fun e w' => e = .returned (.bool (jq (sb s))) /\ w = w' := by
  have Hy := jJ0 (show jq (sb s) = (jQ (sb s) && decide (kj (sb s) = 0)) from rfl)
  have H := jJ0 (yG w s)
  have H2 := jJ0 (isReserved_any w hg s)
  generalize kj (sb s) = n at *
  generalize jQ (sb s) = a at *
  generalize jq (sb s) = R at *
  clear hg
  cases a
  · have Hn := jJ0 (show R = false by rw [Hy.out]; rfl)
    go_enter Tryz.func20, Tryz.ntmps20
    go_wp2_with (go_at_call 69; refine H.out.mono ?_; rintro e w1 ⟨rfl, rfl⟩)
    go_ret
    exact ⟨by rw [Hn.out]; rfl, rfl⟩
  · have Hn := jJ0 (show R = !(decide (n ≠ 0)) by rw [Hy.out]; simp)
    generalize decide (n ≠ 0) = b at *
    go_enter Tryz.func20, Tryz.ntmps20
    go_wp2_with (first | (go_at_call 69; refine H.out.mono ?_; rintro e w1 ⟨rfl, rfl⟩) | (go_at_call 70; refine H2.out.mono ?_; rintro e w1 ⟨rfl, rfl⟩))
    all_goals (go_ret; exact ⟨by rw [Hn.out]; rfl, rfl⟩)
theorem sb_at (s : ByteArray) (k : Nat) (h : k < s.size) : (sb s)[k]? = some s[k] := by
  have h' : k < (sb s).length := by rw [jA]; exact h
  rw [List.getElem?_eq_getElem h']
  rfl
theorem jo (x : ByteArray) (a b : Nat) : sb (x.extract a b) = ((sb x).drop a).take (b - a) := by
  have h := ByteArray.extract_mk (sb x) a b
  rw [mk_sb] at h
  rw [h]
  rfl
theorem leB_eq : ∀ (a b : List UInt8), (Op.bytesLess a b || a == b) = leB a b
  | [], [] => rfl
  | [], y :: b => rfl
  | x :: a, [] => rfl
  | x :: a, y :: b => by
    have ih := leB_eq a b
    rw [leB, <- ih]
    have hn : (x < y) ↔ x.toNat < y.toNat := Iff.rfl
    have he : (x = y) ↔ x.toNat = y.toNat := ⟨fun h => by rw [h], fun h => UInt8.toNat_inj.1 h⟩
    rw [show Op.bytesLess (x :: a) (y :: b) = (decide (x < y) || (x == y && Op.bytesLess a b)) from rfl]
    by_cases h1 : x.toNat < y.toNat
    · simp [hn, h1]
    · by_cases h2 : y.toNat < x.toNat
      · have h3 : ¬ x = y := fun e => by rw [he] at e; omega
        simp [hn, h1, h2, h3]
      · have h3 : x = y := he.2 (by omega)
        subst h3
        simp
theorem dropZ_on (x : ByteArray) (h : 1 < x.size) (h0 : x[0].toNat = 48) : vP (sb x) = vP (sb (x.extract 1 x.size)) := by
  rw [jo, List.take_of_length_le (by rw [List.length_drop, jA]; omega)]
  have h1 := sb_at x 0 (by omega)
  have h2 := jA x
  cases e : sb x with
  | nil => rw [e] at h2; simp at h2; omega
  | cons a l =>
    cases l with
    | nil => rw [e] at h2; simp at h2; omega
    | cons b l =>
      rw [e] at h1
      simp only [List.getElem?_cons_zero, Option.some.injEq] at h1
      have : a = 48 := UInt8.toNat_inj.1 (by rw [h1, h0]; rfl)
      rw [vP, if_pos this, List.drop_succ_cons, List.drop_zero]
theorem dropZ_off (x : ByteArray) (h : ∀ h : 1 < x.size, x[0].toNat ≠ 48) : vP (sb x) = sb x := by
  have h2 := jA x
  cases e : sb x with
  | nil => rfl
  | cons a l =>
    cases l with
    | nil => rfl
    | cons b l =>
      rw [e] at h2
      simp only [List.length_cons] at h2
      have h1 := sb_at x 0 (by omega)
      rw [e] at h1
      simp only [List.getElem?_cons_zero, Option.some.injEq] at h1
      rw [vP, if_neg (fun ha => h (by omega) (by rw [<- h1, ha]; rfl))]
theorem startsInt_any (w : World) (s : ByteArray) (hs : s.size <= 1000000) : Calls Tryz.prog 226 #[.string s] w fun e w' => e = .returned (.bool (jc (sb s))) /\ w = w' := by
  have HL := jJ0 (show jc (sb s) = ((sb s).all digC && (decide ((vP (sb s)).length < 19) || (decide ((vP (sb s)).length = 19) && leB (vP (sb s)) yB))) from rfl)
  generalize jc (sb s) = R at *
  go_enter Tryz.func226, Tryz.ntmps226
  go_wp2
  go_loop [6] (fun i => ∃ k : Nat, k <= s.size /\ i = .int .i64 k /\ ((sb s).take k).all digC = true) (fun i => s.size - (intOf i).toNat)
  case atStart => exact ⟨0, Nat.zero_le _, rfl, rfl⟩
  case round =>
    obtain ⟨k, hk, rfl, hgood⟩ := hrel
    by_cases hlt : k < s.size
    · have Hgood := jJ0 (show ((sb s).take (k + 1)).all digC = digC s[k] by rw [sb_take_succ s k hlt, List.all_append, hgood]; simp)
      have Hno := jJ0 (show digC s[k] = false -> R = false from fun h => by
        rw [HL.out]
        have : (sb s).all digC = false := by
          rw [<- Bool.not_eq_true, List.all_eq_true]
          intro h'
          have := h' s[k] (sb_mem s k hlt)
          rw [h] at this
          cases this
        rw [this]; rfl)
      have b2 : (0 : Int) <= (k : Int) := by omega
      have b3 : (k : Int) < (s.size : Int) := by omega
      have b4 : (k : Int).toNat = k := by omega
      have b5 : IntKind.i64.wrap ((k : Int) + 1) = (k : Int) + 1 := IntWalk.i64_in _ (by omega)
      have Hw := jJ0 (yN w s[k])
      unfold bv at Hw
      clear hgood
      generalize hw : digC s[k] = W at *
      clear hw
      cases W
      · have Hn := jJ0 (Hno.out rfl)
        go_wp2_with (go_at_call 158; refine Hw.out.mono ?_; rintro e w1 ⟨rfl, rfl⟩)
        go_ret
        exact ⟨by rw [Hn.out]; rfl, rfl⟩
      · go_wp2_with (go_at_call 158; refine Hw.out.mono ?_; rintro e w1 ⟨rfl, rfl⟩)
        exact ⟨⟨k + 1, by omega, by go_num, Hgood.out⟩, by simp [intOf]; omega⟩
    · obtain rfl : k = s.size := by omega
      have Hy := jJ0 (show R = (decide ((vP (sb s)).length < 19) || (decide ((vP (sb s)).length = 19) && leB (vP (sb s)) yB)) by
        rw [HL.out, show (sb s).all digC = true by rw [<- hgood, <- jA, List.take_length]]; rfl)
      clear hgood HL hk hlt hs
      go_wp2
      go_loop [0] (fun v => ∃ x : ByteArray, v = .string x /\ vP (sb s) = vP (sb x)) (fun v => match v with | .string x => x.size | _ => 0)
      case atStart => exact ⟨s, rfl, rfl⟩
      case round =>
        obtain ⟨x, rfl, hx⟩ := hrel
        by_cases hc : ∃ h : 1 < x.size, x[0].toNat = 48
        · obtain ⟨h1, h48⟩ := hc
          have b1 : (1 : Int) < (x.size : Int) := by omega
          have b0 : (0 : Int) < (x.size : Int) := by omega
          have c1 : (1 : Int) <= (x.size : Int) := by omega
          have h0 : 0 < x.size := by omega
          have Hx := jJ0 (hx.trans (dropZ_on x h1 h48))
          have hb : (((x[0]'h0).toNat : Int) == 48) = true := by rw [h48]; rfl
          have Hsz := jJ0 (show (x.extract 1 x.size).size < x.size by rw [<- jA, jo, List.length_take, List.length_drop, jA]; omega)
          clear hx h48
          go_wp2
          exact ⟨⟨_, rfl, Hx.out⟩, Hsz.out⟩
        · have hz := dropZ_off x (fun h1 h2 => hc ⟨h1, h2⟩)
          have Hfin := jJ0 (show R = (decide (x.size < 19) || (decide (x.size = 19) && (Op.bytesLess x.toList yB || x.toList == yB))) by
            rw [Hy.out, hx, hz, jA, leB_eq, ByteArray.toList_eq]; rfl)
          unfold yB at Hfin
          have Hc := jJ0 hc
          clear hx hz Hy hc
          by_cases h1 : 1 < x.size
          · have b1 : (1 : Int) < (x.size : Int) := by omega
            have h0 : 0 < x.size := by omega
            have b0 : (0 : Int) < (x.size : Int) := by omega
            have hb : (((x[0]'h0).toNat : Int) == 48) = false := beq_eq_false_iff_ne.2 (fun e => Hc.out ⟨h1, by omega⟩)
            by_cases h2 : x.size < 19
            · have b2 : (x.size : Int) < 19 := by omega
              have Hf := jJ0 (show R = true by rw [Hfin.out, decide_eq_true h2]; rfl)
              clear Hfin
              go_wp2
              go_ret
              exact ⟨by rw [Hf.out]; rfl, rfl⟩
            · have b2 : ¬ (x.size : Int) < 19 := by omega
              by_cases h3 : x.size = 19
              · have b3 : ((x.size : Int) == 19) = true := by rw [h3]; rfl
                have Hf := jJ0 (show R = (Op.bytesLess x.toList [57, 50, 50, 51, 51, 55, 50, 48, 51, 54, 56, 53, 52, 55, 55, 53, 56, 48, 55] || x.toList == [57, 50, 50, 51, 51, 55, 50, 48, 51, 54, 56, 53, 52, 55, 55, 53, 56, 48, 55]) by rw [Hfin.out, decide_eq_false h2, decide_eq_true h3]; rfl)
                clear Hfin h3
                go_wp2
                go_ret
                exact ⟨by rw [Hf.out]; rfl, rfl⟩
              · have b3 : ((x.size : Int) == 19) = false := beq_eq_false_iff_ne.2 (by omega)
                have Hf := jJ0 (show R = false by rw [Hfin.out, decide_eq_false h2, decide_eq_false h3]; rfl)
                clear Hfin
                go_wp2
                go_ret
                exact ⟨by rw [Hf.out]; rfl, rfl⟩
          · have b1 : ¬ (1 : Int) < (x.size : Int) := by omega
            have b2 : (x.size : Int) < 19 := by omega
            have Hf := jJ0 (show R = true by rw [Hfin.out, decide_eq_true (by omega)]; rfl)
            clear Hfin
            go_wp2
            go_ret
            exact ⟨by rw [Hf.out]; rfl, rfl⟩
theorem named_any9 (w : World) (hg : Sg w) (s : ByteArray) (h0 : 0 < s.size) : Calls Tryz.prog 164 #[.string s] w fun e w' => e = .returned (.int .u8 (jU (sb s) : Nat)) /\ w = w' := by
  have Hy := jJ0 (show jU (sb s) = if digC s[0] = true then 2 else if kj (sb s) = 0 then 1 else kj (sb s) by unfold jU; rw [sb_head s h0])
  have H := jJ0 (yN w s[0])
  have H2 := jJ0 (word_any9 w hg s)
  have b0 : (0 : Int) < (s.size : Int) := by omega
  unfold bv at H
  clear hg
  generalize jU (sb s) = R at *
  generalize kj (sb s) = n at *
  generalize hd : digC s[0] = d at *
  clear hd
  cases d
  · by_cases hn : n = 0
    · have b1 : ((n : Int) != 0) = false := by rw [hn]; rfl
      have Hf := jJ0 (show R = 1 by rw [Hy.out, if_neg (by decide), if_pos hn])
      clear hn
      go_enter Tryz.func164, Tryz.ntmps164
      go_wp2_with (first | (go_at_call 158; refine H.out.mono ?_; rintro e w1 ⟨rfl, rfl⟩) | (go_at_call 130; refine H2.out.mono ?_; rintro e w1 ⟨rfl, rfl⟩))
      go_ret
      exact ⟨by rw [Hf.out]; rfl, rfl⟩
    · have b1 : ((n : Int) != 0) = true := bne_iff_ne.2 (by omega)
      have Hf := jJ0 (show R = n by rw [Hy.out, if_neg (by decide), if_neg hn])
      clear hn
      go_enter Tryz.func164, Tryz.ntmps164
      go_wp2_with (first | (go_at_call 158; refine H.out.mono ?_; rintro e w1 ⟨rfl, rfl⟩) | (go_at_call 130; refine H2.out.mono ?_; rintro e w1 ⟨rfl, rfl⟩))
      go_ret
      exact ⟨by rw [Hf.out]; rfl, rfl⟩
  · have Hf := jJ0 (show R = 2 by rw [Hy.out, if_pos rfl])
    go_enter Tryz.func164, Tryz.ntmps164
    go_wp2_with (first | (go_at_call 158; refine H.out.mono ?_; rintro e w1 ⟨rfl, rfl⟩) | fail)
    go_ret
    exact ⟨by rw [Hf.out]; rfl, rfl⟩
theorem proper_any (w : World) (hg : Sg w) (s : ByteArray) (h0 : 0 < s.size) (hs : s.size <= 1000000) : Calls Tryz.prog 198 #[.string s] w fun e w' => e = .returned (.bool (jj (sb s))) /\ w = w' := by
  have Hy := jJ0 (show jj (sb s) = ((digC s[0] && jc (sb s)) || decide (kj (sb s) ≠ 0) || jq (sb s)) by unfold jj; rw [sb_head s h0])
  have H := jJ0 (yN w s[0])
  have H2 := jJ0 (word_any9 w hg s)
  have H3 := jJ0 (startsInt_any w s hs)
  have H4 := jJ0 (kJ w hg s)
  have b0 : (0 : Int) < (s.size : Int) := by omega
  unfold bv at H
  clear hg
  generalize jj (sb s) = R at *
  generalize kj (sb s) = n at *
  generalize jq (sb s) = l at *
  generalize jc (sb s) = i at *
  generalize hd : digC s[0] = d at *
  clear hd
  by_cases hn : n = 0
  · have b1 : ((n : Int) != 0) = false := by rw [hn]; rfl
    have Hf := jJ0 (show R = ((d && i) || l) by rw [Hy.out, hn]; simp)
    clear hn Hy
    cases d <;> cases i <;>
    · go_enter Tryz.func198, Tryz.ntmps198
      go_wp2_with (first | (go_at_call 158; refine H.out.mono ?_; rintro e w1 ⟨rfl, rfl⟩) | (go_at_call 130; refine H2.out.mono ?_; rintro e w1 ⟨rfl, rfl⟩) | (go_at_call 226; refine H3.out.mono ?_; rintro e w1 ⟨rfl, rfl⟩) | (go_at_call 20; refine H4.out.mono ?_; rintro e w1 ⟨rfl, rfl⟩))
      go_ret
      exact ⟨by rw [Hf.out]; rfl, rfl⟩
  · have b1 : ((n : Int) != 0) = true := bne_iff_ne.2 (by omega)
    have Hf := jJ0 (show R = true by rw [Hy.out, decide_eq_true hn]; simp)
    clear hn Hy
    cases d <;> cases i <;>
    · go_enter Tryz.func198, Tryz.ntmps198
      go_wp2_with (first | (go_at_call 158; refine H.out.mono ?_; rintro e w1 ⟨rfl, rfl⟩) | (go_at_call 130; refine H2.out.mono ?_; rintro e w1 ⟨rfl, rfl⟩) | (go_at_call 226; refine H3.out.mono ?_; rintro e w1 ⟨rfl, rfl⟩) | (go_at_call 20; refine H4.out.mono ?_; rintro e w1 ⟨rfl, rfl⟩))
      go_ret
      exact ⟨by rw [Hf.out]; rfl, rfl⟩
end Go.Proofs.YtmmjcbbogokmfaaGreatDoor

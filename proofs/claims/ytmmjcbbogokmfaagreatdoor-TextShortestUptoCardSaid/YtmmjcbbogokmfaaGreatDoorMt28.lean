import Derived.Test.YtmmjcbbogokmfaaGreatDoorMt01
import Derived.Test.YtmmjcbbogokmfaaGreatDoorMt16
import Derived.Defers
import Derived.Recover
set_option maxRecDepth 100000
set_option maxHeartbeats 25600000
namespace Go.Proofs.YtmmjcbbogokmfaaGreatDoor
open Go.RowKit
theorem stepN_len {m m' : Mc} {c : UInt8} {l : List UInt8} (h5 : ∀ n ∈ m.stack, n < 85) (h : vC m (c :: l) = .ok m') : m'.stack.length <= m.stack.length + 12 := by
  rw [vC] at h
  split at h
  · injection h with h
    rw [<- h]
    exact Nat.le_add_right _ _
  · split at h
    · unfold kg at h
      simp only at h
      injection h with h
      split at h <;> (rw [<- h]; exact Nat.le_add_right _ _)
    · split at h
      · unfold kW at h
        split at h
        · cases h
        · rename_i hm
          split at h
          · cases h
          · exact taken_len (by decide) h5 (by simpa using hm) h
          · injection h with h
            rw [<- h]
            exact Nat.le_add_right _ _
      · split at h
        · unfold ka at h
          simp only at h
          split at h
          · rename_i hc
            exact taken_len (kr _) h5 hc.2.2 h
          · unfold vI at h
            split at h
            · cases h
            · injection h with h
              rw [<- h]
              exact Nat.le_add_right _ _
        · unfold kc at h
          simp only at h
          split at h
          · rename_i hc
            split at h
            · rename_i hh
              exact taken_len (ja _) h5 hh.2.1 h
            · exact taken_len (ja _) h5 hc.2 h
          · split at h
            · cases h
            · rename_i hn
              split at h
              · injection h with h
                rw [<- h]
                exact Nat.le_add_right _ _
              · split at h
                · cases h
                · refine taken_len (ja _) h5 ?_ h
                  rw [not_or] at hn
                  simpa using hn.2
theorem sb_ne (s : ByteArray) (a : Nat) (h : a < s.size) : ¬ (sb s).length <= a := by rw [jA]; omega
structure RunSt (w : World) (g : Nat) (r : Option Nat) (src : ByteArray) (X : Out) (f : Nat) (m : Mc) (wr : World) (A : Option Addr) (c : Nat) (r' : Option Nat) : Prop where
  go : X = runN (sb src) f m
  fuel : src.size + 1 <= f + m.at_
  le : m.at_ <= src.size
  len : m.stack.length <= 5 + 12 * m.at_
  mac : Mac wr g r' src m A c
  kp : Kp (MX g r) w wr
  fr : MFr w r r'
theorem RunSt.next {w wr w' : World} {g : Nat} {r r' : Option Nat} {src : ByteArray} {X : Out} {f : Nat} {m m' : Mc} {A : Option Addr} {c : Nat} (h : RunSt w g r src X f m wr A c r') (hlt : m.at_ < src.size)
    (hs : vC m ((sb src).drop m.at_) = .ok m') (hst : MStep wr g r' w' src m') :
    (∃ f m' A c r', RunSt w g r src X f m' w' A c r') /\ src.size - atOf g w' < src.size - atOf g wr := by
  obtain ⟨r2, A2, c2, hM, hk, hf⟩ := hst
  have hgo := h.go
  have hfu := h.fuel
  obtain ⟨f', rfl⟩ : ∃ f', f = f' + 1 := ⟨f - 1, by omega⟩
  rw [runN, if_neg (sb_ne src m.at_ hlt), hs] at hgo
  have hs' := hs
  rw [vL src m.at_ hlt] at hs
  have h1 := stepN_on hs
  have h2 := stepN_len h.mac.sym hs
  have h3 := h.len
  rw [<- vL src m.at_ hlt, List.length_drop, jA] at h1
  refine ⟨⟨f', m', A2, c2, r2, hgo, by omega, by omega, by omega, hM, h.kp.trans hk (MX.trans h.fr), h.fr.trans h.kp.size hf⟩, ?_⟩
  rw [hM.atOf, h.mac.atOf]
  omega
theorem RunSt.wrong {w wr w' : World} {g : Nat} {r r' : Option Nat} {src : ByteArray} {X : Out} {f k : Nat} {m : Mc} {A : Option Addr} {c : Nat} (h : RunSt w g r src X f m wr A c r') (hlt : m.at_ < src.size)
    (hs : vC m ((sb src).drop m.at_) = .error k) (hk : Kp (MX g r') wr w') : X = .error k /\ Kp (MX g r) w w' := by
  have hgo := h.go
  have hfu := h.fuel
  obtain ⟨f', rfl⟩ : ∃ f', f = f' + 1 := ⟨f - 1, by omega⟩
  rw [runN, if_neg (sb_ne src m.at_ hlt), hs] at hgo
  exact ⟨hgo, h.kp.trans hk (MX.trans h.fr)⟩
theorem run_any (w : World) (hg : Sg w) (g : Nat) (r : Option Nat) (src : ByteArray) (A : Option Addr) (c : Nat) (h : Mac w g r src startM A c) (hs : src.size <= 60000) :
    Calls Tryz.prog 134 #[.pointer (some ⟨g, 0, none⟩)] w (MOut w g r src (kG (sb src))) := by
  have H0 := jJ0 (show RunSt w g r src (kG (sb src)) (src.size + 1) startM w A c r from ⟨by rw [kG, jA], Nat.le_refl _, Nat.zero_le _, by decide, h, Kp.refl _ _, .inl rfl⟩)
  have HG := jJ0 (fun W (hk : Kp (MX g r) w W) => hg.mx h hk)
  clear hg h
  generalize kG (sb src) = X at *
  go_enter Tryz.func134, Tryz.ntmps134
  go_wp2
  go_loopw [] (fun wr => ∃ f m A c r', RunSt w g r src X f m wr A c r') (fun wr => src.size - atOf g wr)
  case atStart => exact ⟨_, _, _, _, _, H0.out⟩
  case round =>
    clear H0
    obtain ⟨f, m, A, c, r', hSt⟩ := hrel
    have hc0 := hSt.mac.c0
    have hc1 := hSt.mac.c1
    have hz1 := hSt.mac.z 1
    have hlen : m.stack.length <= 1000000 := by have := hSt.len; have := hSt.le; omega
    by_cases hlt : m.at_ < src.size
    · have HSt := jJ0 hSt
      have HGr := jJ0 (HG.out wr hSt.kp)
      have a1 : (m.at_ : Int) < (src.size : Int) := by omega
      have a2 : (0 : Int) <= (m.at_ : Int) := by omega
      have a3 : (m.at_ : Int).toNat = m.at_ := by omega
      have a4 : IntKind.i64.wrap ((m.at_ : Int) + 1) = (m.at_ : Int) + 1 := IntWalk.i64_in _ (by omega)
      have hstep : vC m ((sb src).drop m.at_) = if ki src[m.at_] = true then .ok { m with at_ := m.at_ + 1 } else if src[m.at_].toNat = 35 then kg m ((sb src).drop m.at_) else if src[m.at_].toNat = 34 then kW m ((sb src).drop m.at_)
          else if jK src[m.at_] = true then ka m ((sb src).drop m.at_) else kc m src[m.at_] ((sb src).drop (m.at_ + 1)) := by
        rw [vL src m.at_ hlt, vC]
      by_cases hb : ki src[m.at_] = true
      · rw [if_pos hb] at hstep
        have hb' := of_decide_eq_true hb
        have Hn := jJ0 (fun W (hO : Old wr W) => by
          obtain ⟨m1, k1⟩ := (hSt.mac.old hO).setAt (m.at_ + 1)
          rw [show ((m.at_ + 1 : Nat) : Int) = (m.at_ : Int) + 1 by omega] at m1 k1
          exact hSt.next (w' := W.setCell ⟨g, 1, none⟩ (.int .i64 ((m.at_ : Int) + 1))) hlt hstep ⟨r', A, c, m1, (hO.mx).trans k1 (fun _ _ h => h), .inl rfl⟩)
        clear hstep hSt hb
        rcases hb' with hb' | hb' | hb' | hb'
        all_goals
          have d1 : ((src[m.at_].toNat : Int) == 32) = decide (src[m.at_].toNat = 32) := by rw [hb']; rfl
          have d2 : ((src[m.at_].toNat : Int) == 9) = decide (src[m.at_].toNat = 9) := by rw [hb']; rfl
          have d3 : ((src[m.at_].toNat : Int) == 10) = decide (src[m.at_].toNat = 10) := by rw [hb']; rfl
          have d4 : ((src[m.at_].toNat : Int) == 13) = decide (src[m.at_].toNat = 13) := by rw [hb']; rfl
          simp only [hb'] at d1 d2 d3 d4
          go_wp2
          go_quiet (fail)
          go_wp2
          go_quiet (fail)
          go_wp2
          exact Hn.out _ (by first | exact Kp.refl _ _ | exact (Kp.refl _ _).drewN _ | exact ((Kp.refl _ _).drewN _).drewN _)
      · rw [if_neg hb] at hstep
        have d1 : ((src[m.at_].toNat : Int) == 32) = false := beq_eq_false_iff_ne.2 (fun e => hb (decide_eq_true (by omega)))
        have d2 : ((src[m.at_].toNat : Int) == 9) = false := beq_eq_false_iff_ne.2 (fun e => hb (decide_eq_true (by omega)))
        have d3 : ((src[m.at_].toNat : Int) == 10) = false := beq_eq_false_iff_ne.2 (fun e => hb (decide_eq_true (by omega)))
        have d4 : ((src[m.at_].toNat : Int) == 13) = false := beq_eq_false_iff_ne.2 (fun e => hb (decide_eq_true (by omega)))
        clear hb
        by_cases h35 : src[m.at_].toNat = 35
        · rw [if_pos h35] at hstep
          have d5 : ((src[m.at_].toNat : Int) == 35) = true := by rw [h35]; rfl
          have HC := jJ0 (fun W (hO : Old wr W) => comment_any W g r' src m A c (hSt.mac.old hO) (by omega) (by omega))
          have HN := jJ0 (fun W (hO : Old wr W) w' m' (hm : kg m ((sb src).drop m.at_) = .ok m') (hX : MStep W g r' w' src m') => hSt.next (w' := w') hlt (hstep.trans hm) (MStep.trans hO.mx (.inl rfl) hX))
          clear hstep hSt h35
          go_wp2
          go_quiet (fail)
          go_wp2
          go_quiet (fail)
          go_wp2_with (go_at_call 160; refine (HC.out _ (by first | exact Kp.refl _ _ | exact (Kp.refl _ _).drewN _ | exact ((Kp.refl _ _).drewN _).drewN _)).mono ?_; rintro e w1 ⟨rfl, m', hm, hX⟩)
          exact HN.out _ (by first | exact Kp.refl _ _ | exact (Kp.refl _ _).drewN _ | exact ((Kp.refl _ _).drewN _).drewN _) _ _ hm hX
        · rw [if_neg h35] at hstep
          have d5 : ((src[m.at_].toNat : Int) == 35) = false := beq_eq_false_iff_ne.2 (by omega)
          clear h35
          by_cases h34 : src[m.at_].toNat = 34
          · rw [if_pos h34] at hstep
            have d6 : ((src[m.at_].toNat : Int) == 34) = true := by rw [h34]; rfl
            clear h34
            have HC := jJ0 (fun W (hO : Old wr W) => text_any W g r' src m A c (hSt.mac.old hO) (by omega) hlt hlen)
            generalize hSP : kW m ((sb src).drop m.at_) = SP at *
            cases SP with
            | ok m' =>
              have HN := jJ0 (fun W (hO : Old wr W) w' (hX : MStep W g r' w' src m') => hSt.next (w' := w') hlt hstep (MStep.trans hO.mx (.inl rfl) hX))
              clear hstep hSt hSP
              go_wp2
              go_quiet (fail)
              go_wp2
              go_quiet (fail)
              go_wp2_with (go_at_call 161; refine (HC.out _ (by first | exact Kp.refl _ _ | exact (Kp.refl _ _).drewN _ | exact ((Kp.refl _ _).drewN _).drewN _)).mono ?_; rintro e w1 ⟨rfl, hX⟩)
              exact HN.out _ (by first | exact Kp.refl _ _ | exact (Kp.refl _ _).drewN _ | exact ((Kp.refl _ _).drewN _).drewN _) _ hX
            | error k =>
              have HN := jJ0 (fun W (hO : Old wr W) w' (hX : Kp (MX g r') W w') => hSt.wrong (w' := w') hlt hstep ((hO.mx).trans hX (fun _ _ h => h)))
              clear hstep hSt hSP
              go_wp2
              go_quiet (fail)
              go_wp2
              go_quiet (fail)
              go_wp2_with (go_at_call 161; refine (HC.out _ (by first | exact Kp.refl _ _ | exact (Kp.refl _ _).drewN _ | exact ((Kp.refl _ _).drewN _).drewN _)).mono ?_; rintro e w1 ⟨rfl, hX⟩)
              refine ⟨rfl, ?_⟩
              obtain ⟨h1, h2⟩ := HN.out _ (by first | exact Kp.refl _ _ | exact (Kp.refl _ _).drewN _ | exact ((Kp.refl _ _).drewN _).drewN _) _ hX
              rw [h1]
              exact ⟨rfl, h2⟩
          · rw [if_neg h34] at hstep
            have d6 : ((src[m.at_].toNat : Int) == 34) = false := beq_eq_false_iff_ne.2 (by omega)
            clear h34
            have Hw := jJ0 (fun W => vB W src[m.at_])
            unfold bv at Hw
            by_cases hw : jK src[m.at_] = true
            · rw [if_pos hw] at hstep
              rw [hw] at Hw
              have HC := jJ0 (fun W (hO : Old wr W) => word_step W (HGr.out.old hO) g r' src m A c (hSt.mac.old hO) (by omega) hlt hw hlen)
              clear hw
              generalize hSP : ka m ((sb src).drop m.at_) = SP at *
              cases SP with
              | ok m' =>
                have HN := jJ0 (fun W (hO : Old wr W) w' (hX : MStep W g r' w' src m') => hSt.next (w' := w') hlt hstep (MStep.trans hO.mx (.inl rfl) hX))
                clear hstep hSt hSP
                go_wp2
                go_quiet (fail)
                go_wp2
                go_quiet (fail)
                go_wp2_with (first | (go_at_call 129; refine (Hw.out _).mono ?_; rintro e w1 ⟨rfl, rfl⟩) | (go_at_call 162; refine (HC.out _ (by first | exact Kp.refl _ _ | exact (Kp.refl _ _).drewN _ | exact ((Kp.refl _ _).drewN _).drewN _)).mono ?_; rintro e w1 ⟨rfl, hX⟩))
                exact HN.out _ (by first | exact Kp.refl _ _ | exact (Kp.refl _ _).drewN _ | exact ((Kp.refl _ _).drewN _).drewN _) _ hX
              | error k =>
                have HN := jJ0 (fun W (hO : Old wr W) w' (hX : Kp (MX g r') W w') => hSt.wrong (w' := w') hlt hstep ((hO.mx).trans hX (fun _ _ h => h)))
                clear hstep hSt hSP
                go_wp2
                go_quiet (fail)
                go_wp2
                go_quiet (fail)
                go_wp2_with (first | (go_at_call 129; refine (Hw.out _).mono ?_; rintro e w1 ⟨rfl, rfl⟩) | (go_at_call 162; refine (HC.out _ (by first | exact Kp.refl _ _ | exact (Kp.refl _ _).drewN _ | exact ((Kp.refl _ _).drewN _).drewN _)).mono ?_; rintro e w1 ⟨rfl, hX⟩))
                refine ⟨rfl, ?_⟩
                obtain ⟨h1, h2⟩ := HN.out _ (by first | exact Kp.refl _ _ | exact (Kp.refl _ _).drewN _ | exact ((Kp.refl _ _).drewN _).drewN _) _ hX
                rw [h1]
                exact ⟨rfl, h2⟩
            · rw [if_neg hw] at hstep
              rw [Bool.not_eq_true] at hw
              rw [hw] at Hw
              have HC := jJ0 (fun W (hO : Old wr W) => sign_any W (HGr.out.old hO) g r' src m A c (hSt.mac.old hO) (by omega) hlt hlen)
              clear hw
              generalize hSP : kc m src[m.at_] ((sb src).drop (m.at_ + 1)) = SP at *
              cases SP with
              | ok m' =>
                have HN := jJ0 (fun W (hO : Old wr W) w' (hX : MStep W g r' w' src m') => hSt.next (w' := w') hlt hstep (MStep.trans hO.mx (.inl rfl) hX))
                clear hstep hSt hSP
                go_wp2
                go_quiet (fail)
                go_wp2
                go_quiet (fail)
                go_wp2_with (first | (go_at_call 129; refine (Hw.out _).mono ?_; rintro e w1 ⟨rfl, rfl⟩) | (go_at_call 163; refine (HC.out _ (by first | exact Kp.refl _ _ | exact (Kp.refl _ _).drewN _ | exact ((Kp.refl _ _).drewN _).drewN _)).mono ?_; rintro e w1 ⟨rfl, hX⟩))
                exact HN.out _ (by first | exact Kp.refl _ _ | exact (Kp.refl _ _).drewN _ | exact ((Kp.refl _ _).drewN _).drewN _) _ hX
              | error k =>
                have HN := jJ0 (fun W (hO : Old wr W) w' (hX : Kp (MX g r') W w') => hSt.wrong (w' := w') hlt hstep ((hO.mx).trans hX (fun _ _ h => h)))
                clear hstep hSt hSP
                go_wp2
                go_quiet (fail)
                go_wp2
                go_quiet (fail)
                go_wp2_with (first | (go_at_call 129; refine (Hw.out _).mono ?_; rintro e w1 ⟨rfl, rfl⟩) | (go_at_call 163; refine (HC.out _ (by first | exact Kp.refl _ _ | exact (Kp.refl _ _).drewN _ | exact ((Kp.refl _ _).drewN _).drewN _)).mono ?_; rintro e w1 ⟨rfl, hX⟩))
                refine ⟨rfl, ?_⟩
                obtain ⟨h1, h2⟩ := HN.out _ (by first | exact Kp.refl _ _ | exact (Kp.refl _ _).drewN _ | exact ((Kp.refl _ _).drewN _).drewN _) _ hX
                rw [h1]
                exact ⟨rfl, h2⟩
    · have hge : src.size <= m.at_ := by omega
      have hgo := hSt.go
      have hfu := hSt.fuel
      have hle := hSt.le
      obtain ⟨f', rfl⟩ : ∃ f', f = f' + 1 := ⟨f - 1, by omega⟩
      rw [runN, if_pos (by rw [jA]; exact hge)] at hgo
      have HR := jJ0 hgo
      have a1 : ¬ (m.at_ : Int) < (src.size : Int) := by omega
      have Hs := jJ0 (fun n => (⟨r', A, c, hSt.mac.drewN n, hSt.kp.drewN n, hSt.fr⟩ : MStep w g r (wr.drewN n) src m))
      clear hSt hgo hlt
      go_wp2
      go_quiet (fail)
      go_wp2
      go_end0
      rw [HR.out]
      exact ⟨rfl, Hs.out _⟩
theorem Tryz.assertW (v : Value) (w : World) : (Instr.typeAssert (.iface 215 v) 20 215 true).run Tryz.prog w = .ok (.tuple #[v, .bool true]) w := by
  simp [Instr.typeAssert, run_underlying Tryz.underlying215]
theorem caught (w : World) (pa pb : Addr) (x : Int) (y : Bool) (k : Nat) (ha : w.cell? pa = some (.int .i64 x)) (hb : w.cell? pb = some (.bool y)) (hza : w.frozen? pa = false) (hzb : w.frozen? pb = false) (hne : pa.block ≠ pb.block) :
    CallsD Tryz.prog 133 #[.pointer (some pa), .pointer (some pb)] (.panicking (wrongV k)) w fun e u' w' =>
      e = .returned (.tuple #[]) /\ u' = .panicking [{ v := .iface 215 (.int .i64 (k : Int)), recovered := true }] /\ w' = (w.setCell pa (.int .i64 (k : Int))).setCell pb (.bool false) := by
  refine callsD_of_wpS Tryz.func133 rfl fun c₀ cs hu => ?_
  unfold wrongV at hu
  apply wpS_seq
  apply wpS_region
  simp [wpOpsS, go_sem, recoverD, hu, Tryz.ntmps133, Exit.thenS]
  refine wpS_of_wp ?_
  clear hu
  simp only [Array.replicate_succ, Array.replicate_zero, List.push_toArray, List.append_toArray, List.nil_append, List.cons_append, List.setIfInBounds_toArray, List.set_cons_zero, List.set_cons_succ]
  have hta := fun w => Tryz.assertW (.int .i64 (k : Int)) w
  have hb2 : (w.setCell pa (.int .i64 (k : Int))).cell? pb = some (.bool y) := (World.cell?_of_block (Below.heap_setCell w pa _ pb.block (Ne.symm hne))).trans hb
  have hzb2 : (w.setCell pa (.int .i64 (k : Int))).frozen? pb = false := (World.frozen?_of_block (Below.heap_setCell w pa _ pb.block (Ne.symm hne))).trans hzb
  go_wp2
  simp [bodyPostS, results, Tryz.results133]
theorem caught_not (w : World) (pa pb : Addr) :
    CallsD Tryz.prog 133 #[.pointer (some pa), .pointer (some pb)] .returning w fun e u' w' => e = .returned (.tuple #[]) /\ u' = .returning /\ w' = w := by
  refine callsD_of_wpS Tryz.func133 rfl fun c₀ cs hu => ?_
  apply wpS_seq
  apply wpS_region
  simp [wpOpsS, go_sem, recoverD, hu, Tryz.ntmps133, Exit.thenS]
  refine wpS_of_wp ?_
  simp only [Array.replicate_succ, Array.replicate_zero, List.push_toArray, List.append_toArray, List.nil_append, List.cons_append, List.setIfInBounds_toArray, List.set_cons_zero, List.set_cons_succ]
  go_wp2
  cases c₀
  simp_all [bodyPostS, results, Tryz.results133]
def Begun (w : World) (src : ByteArray) (o : Out) (e : Ending) (w' : World) : Prop :=
  match o with
  | .ok m => ∃ g r A c, e = .returned (.tuple #[.pointer (some ⟨g, 0, none⟩), .int .i64 (src.size : Int), .bool true]) /\ Mac w' g r src m A c /\ Old w w' /\ w.heap.size <= g /\ (∀ k, r = some k -> w.heap.size <= k)
  | .error k => ∃ p, e = .returned (.tuple #[.pointer p, .int .i64 (k : Int), .bool false]) /\ Old w w'
theorem mac_start (w : World) (src : ByteArray) (h8 : 8 <= w.heap.size) :
    Mac ((w.alloc (.cells #[.int .u8 5, .int .u8 58, .int .u8 4, .int .u8 1, .int .u8 23] 163)).alloc (.cells #[.string src, .int .i64 0, .slice (some ⟨w.heap.size, 0, none⟩) 5 5, .int .u8 0, .int .i64 0] 162)) (w.heap.size + 1) (some w.heap.size) src startM (some ⟨w.heap.size, 0, none⟩) 5 := by
  have e1 : (w.alloc (.cells #[.int .u8 5, .int .u8 58, .int .u8 4, .int .u8 1, .int .u8 23] 163)).heap.size = w.heap.size + 1 := by simp
  refine ⟨by omega, ?_, ?_, rfl, by decide⟩
  · rw [<- e1]
    exact Blk.new _ _ _
  · refine ⟨rfl, .inr ⟨w.heap.size, 5, #[.int .u8 5, .int .u8 58, .int .u8 4, .int .u8 1, .int .u8 23], rfl, h8, ?_, by decide, by decide, rfl, rfl⟩⟩
    exact (Blk.new w 163 #[.int .u8 5, .int .u8 58, .int .u8 4, .int .u8 1, .int .u8 23]).alloc _
theorem begun_any (w : World) (hg : Sg w) (src : ByteArray) (hs : src.size <= 60000) (h8 : 8 <= w.heap.size) : Calls Tryz.prog 76 #[.string src] w (Begun w src (kG (sb src))) := by
  have hmf : ∀ (fn : Fn) (first cap : Array Value) (w : World), (Instr.makeFunc fn first cap).run Tryz.prog w = .ok (.func fn first cap) w := fun _ _ _ _ => rfl
  go_enter_defers Tryz.func76, Tryz.ntmps76
  go_wp2_with fail
  have hA : ((w.alloc (.cells #[.int .i64 0] 3)).alloc (.cells #[.bool false] 4)).heap.size = w.heap.size + 1 + 1 := by simp
  have hM := mac_start ((w.alloc (.cells #[.int .i64 0] 3)).alloc (.cells #[.bool false] 4)) src (by omega)
  rw [hA] at hM
  have hO : Old w ((((w.alloc (.cells #[.int .i64 0] 3)).alloc (.cells #[.bool false] 4)).alloc (.cells #[.int .u8 5, .int .u8 58, .int .u8 4, .int .u8 1, .int .u8 23] 163)).alloc (.cells #[.string src, .int .i64 0, .slice (some ⟨w.heap.size + 1 + 1, 0, none⟩) 5 5, .int .u8 0, .int .i64 0] 162)) := ((((Kp.refl NoX w).alloc _).alloc _).alloc _).alloc _
  have hb1 : Blk ((((w.alloc (.cells #[.int .i64 0] 3)).alloc (.cells #[.bool false] 4)).alloc (.cells #[.int .u8 5, .int .u8 58, .int .u8 4, .int .u8 1, .int .u8 23] 163)).alloc (.cells #[.string src, .int .i64 0, .slice (some ⟨w.heap.size + 1 + 1, 0, none⟩) 5 5, .int .u8 0, .int .i64 0] 162)) w.heap.size 3 #[.int .i64 0] := (((Blk.new w 3 #[.int .i64 0]).alloc _).alloc _).alloc _
  have hb2 : Blk ((((w.alloc (.cells #[.int .i64 0] 3)).alloc (.cells #[.bool false] 4)).alloc (.cells #[.int .u8 5, .int .u8 58, .int .u8 4, .int .u8 1, .int .u8 23] 163)).alloc (.cells #[.string src, .int .i64 0, .slice (some ⟨w.heap.size + 1 + 1, 0, none⟩) 5 5, .int .u8 0, .int .i64 0] 162)) (w.heap.size + 1) 4 #[.bool false] := by
    have := Blk.new (w.alloc (.cells #[.int .i64 0] 3)) 4 #[.bool false]
    rw [show (w.alloc (.cells #[.int .i64 0] 3)).heap.size = w.heap.size + 1 by simp] at this
    exact (this.alloc _).alloc _
  generalize ((((w.alloc (.cells #[.int .i64 0] 3)).alloc (.cells #[.bool false] 4)).alloc (.cells #[.int .u8 5, .int .u8 58, .int .u8 4, .int .u8 1, .int .u8 23] 163)).alloc (.cells #[.string src, .int .i64 0, .slice (some ⟨w.heap.size + 1 + 1, 0, none⟩) 5 5, .int .u8 0, .int .i64 0] 162)) = W at *
  refine (run_any W (hg.old hO) _ _ src _ _ hM hs).mono ?_
  clear hM hA
  intro e w1 hout
  generalize kG (sb src) = X at *
  generalize hS : w.heap.size = S at *
  cases X with
  | ok m =>
    obtain ⟨rfl, r2, A2, c2, hM2, hk, hf⟩ := hout
    have hb1 := hb1.kp hk (fun h => by rcases h with e | e; omega; have := Option.some.inj e; omega)
    have hb2 := hb2.kp hk (fun h => by rcases h with e | e; omega; have := Option.some.inj e; omega)
    have q1 : w1.cell? ⟨S, 0, none⟩ = some (.int .i64 0) := hb1.at_ 0 rfl
    have q2 : w1.cell? ⟨S + 1, 0, none⟩ = some (.bool false) := hb2.at_ 0 rfl
    have z1 := hb1.frozen 0
    have z2 := hb2.frozen 0
    have hb1' := (hb1.set_ 0 (.int .i64 (src.size : Int))).far (p := ⟨S + 1, 0, none⟩) (by simp) (.bool true)
    have hb2' := (hb2.far (p := ⟨S, 0, none⟩) (by simp) (.int .i64 (src.size : Int))).set_ 0 (.bool true)
    have hk2 : Kp (fun k => k = S \/ k = S + 1) w1 ((w1.setCell ⟨S, 0, none⟩ (.int .i64 (src.size : Int))).setCell ⟨S + 1, 0, none⟩ (.bool true)) :=
      ((Kp.refl _ w1).setCell (p := ⟨S, 0, none⟩) (fun _ => .inl rfl) _).setCell (p := ⟨S + 1, 0, none⟩) (fun _ => .inr rfl) _
    have hrow : ∀ k, r2 = some k -> ¬ (k = S \/ k = S + 1) := by
      intro k hk' he
      rcases hf with rfl | ⟨k2, rfl, hle⟩
      · have := Option.some.inj hk'; omega
      · have := Option.some.inj hk'
        have := hb2.lt
        have h9 := (‹Blk W (S + 1) _ _›).lt
        omega
    have Hfin := jJ0 (show Begun w src (.ok m) (.returned (.tuple #[.pointer (some ⟨S + 1 + 1 + 1, 0, none⟩), .int .i64 (src.size : Int), .bool true])) ((w1.setCell ⟨S, 0, none⟩ (.int .i64 (src.size : Int))).setCell ⟨S + 1, 0, none⟩ (.bool true)) from by
      refine ⟨S + 1 + 1 + 1, r2, A2, c2, rfl, hM2.kp hk2 (by omega) hrow, ?_, by omega, fun k hk' => ?_⟩
      · refine (hO.trans hk (fun b hb hx => ?_)).trans hk2 (fun b hb hx => ?_)
        · rcases hx with hx | hx
          · omega
          · have := Option.some.inj hx; omega
        · rcases hx with hx | hx <;> omega
      · have := hrow k hk'
        rcases hf with rfl | ⟨k2, rfl, hle⟩
        · have := Option.some.inj hk'; omega
        · have := Option.some.inj hk'
          have := hO.size
          omega)
    clear hM2 hk hf hk2 hrow hO
    go_wp2
    generalize ((w1.setCell ⟨S, 0, none⟩ (.int .i64 (src.size : Int))).setCell ⟨S + 1, 0, none⟩ (.bool true)) = WF at *
    have f1 : WF.cell? ⟨S, 0, none⟩ = some (.int .i64 (src.size : Int)) := hb1'.at_ 0 rfl
    have f2 : WF.cell? ⟨S + 1, 0, none⟩ = some (.bool true) := hb2'.at_ 0 rfl
    refine leaves_cons (f := 133) (args := #[.pointer (some ⟨S, 0, none⟩), .pointer (some ⟨S + 1, 0, none⟩)]) (by simp) (by simp [go_sem]) ?_
    refine (caught_not WF ⟨S, 0, none⟩ ⟨S + 1, 0, none⟩).mono ?_
    rintro e u' w'' ⟨rfl, rfl, rfl⟩
    simp [Leaves, settle, results, Tryz.results76, go_sem, f1, f2]
    exact Hfin.out
  | error k =>
    obtain ⟨rfl, hk⟩ := hout
    have hb1 := hb1.kp hk (fun h => by rcases h with e | e; omega; have := Option.some.inj e; omega)
    have hb2 := hb2.kp hk (fun h => by rcases h with e | e; omega; have := Option.some.inj e; omega)
    have q1 : w1.cell? ⟨S, 0, none⟩ = some (.int .i64 0) := hb1.at_ 0 rfl
    have q2 : w1.cell? ⟨S + 1, 0, none⟩ = some (.bool false) := hb2.at_ 0 rfl
    have z1 := hb1.frozen 0
    have z2 := hb2.frozen 0
    have hb1' := (hb1.set_ 0 (.int .i64 (k : Int))).far (p := ⟨S + 1, 0, none⟩) (by simp) (.bool false)
    have hb2' := (hb2.far (p := ⟨S, 0, none⟩) (by simp) (.int .i64 (k : Int))).set_ 0 (.bool false)
    have hk2 : Kp (fun k => k = S \/ k = S + 1) w1 ((w1.setCell ⟨S, 0, none⟩ (.int .i64 (k : Int))).setCell ⟨S + 1, 0, none⟩ (.bool false)) :=
      ((Kp.refl _ w1).setCell (p := ⟨S, 0, none⟩) (fun _ => .inl rfl) _).setCell (p := ⟨S + 1, 0, none⟩) (fun _ => .inr rfl) _
    have Hfin := jJ0 (show Begun w src (.error k) (.returned (.tuple #[.pointer (some ⟨S + 1 + 1 + 1, 0, none⟩), .int .i64 (k : Int), .bool false])) ((w1.setCell ⟨S, 0, none⟩ (.int .i64 (k : Int))).setCell ⟨S + 1, 0, none⟩ (.bool false)) from by
      refine ⟨_, rfl, (hO.trans hk (fun b hb hx => ?_)).trans hk2 (fun b hb hx => ?_)⟩
      · rcases hx with hx | hx
        · omega
        · have := Option.some.inj hx; omega
      · rcases hx with hx | hx <;> omega)
    have Hc := jJ0 (caught w1 ⟨S, 0, none⟩ ⟨S + 1, 0, none⟩ 0 false k q1 q2 z1 z2 (by simp))
    clear hk hk2 hO
    go_wp2
    refine leaves_cons (f := 133) (args := #[.pointer (some ⟨S, 0, none⟩), .pointer (some ⟨S + 1, 0, none⟩)]) (by simp) (by simp [go_sem]) ?_
    refine Hc.out.mono ?_
    rintro e u' w'' ⟨rfl, rfl, rfl⟩
    generalize ((w1.setCell ⟨S, 0, none⟩ (.int .i64 (k : Int))).setCell ⟨S + 1, 0, none⟩ (.bool false)) = WF at *
    have f1 : WF.cell? ⟨S, 0, none⟩ = some (.int .i64 (k : Int)) := hb1'.at_ 0 rfl
    have f2 : WF.cell? ⟨S + 1, 0, none⟩ = some (.bool false) := hb2'.at_ 0 rfl
    simp [Leaves, settle, results, Tryz.results76, go_sem, f1, f2]
    exact Hfin.out
inductive Rp (w : World) : Option Addr -> List UInt8 -> Prop
  | nil : Rp w none []
  | cons (g : Nat) (p : ByteArray) (nx : Option Addr) (l : List UInt8) : 0 < p.size -> Blk w g 225 #[.string p, .pointer nx, .int .i64 ((sb p ++ l).length : Int)] -> Rp w nx l -> Rp w (some ⟨g, 0, none⟩) (sb p ++ l)
theorem Rp.old {w w1 : World} {a : Option Addr} {l : List UInt8} (h : Rp w a l) (ho : Old w w1) : Rp w1 a l := by
  induction h with
  | nil => exact .nil
  | cons g p nx l hp hb _ ih => exact .cons g p nx l hp (hb.old ho) ih
theorem Rp.kp {X : Nat -> Prop} {w w1 : World} {n : Nat} {a : Option Addr} {l : List UInt8} (h : Rp w a l) (hn : w.heap.size <= n) (ho : Kp X w w1) (hx : ∀ b, b < n -> ¬ X b) : Rp w1 a l := by
  induction h with
  | nil => exact .nil
  | cons g p nx l hp hb _ ih => exact .cons g p nx l hp (hb.kp ho (hx g (Nat.lt_of_lt_of_le hb.lt hn))) ih
theorem Rp.nil_of {w : World} {l : List UInt8} (h : Rp w none l) : l = [] := by cases h; rfl
theorem Rp.nil_iff {w : World} {a : Option Addr} {l : List UInt8} (h : Rp w a l) : a = none ↔ l = [] := by
  cases h with
  | nil => simp
  | cons g p nx l hp _ _ =>
    constructor
    · intro e; cases e
    · intro e
      have := congrArg List.length e
      rw [List.length_append, jA, List.length_nil] at this
      omega
theorem length_any (w : World) (a : Option Addr) (l : List UInt8) (h : Rp w a l) : Calls Tryz.prog 174 #[.pointer a] w fun e w' => e = .returned (.int .i64 (l.length : Int)) /\ w = w' := by
  cases h with
  | nil =>
    go_enter Tryz.func174, Tryz.ntmps174
    go_wp2
    go_ret
    exact ⟨rfl, rfl⟩
  | cons g p nx l hp hb _ =>
    have h2 := hb.at_ 2 (v := .int .i64 ((sb p ++ l).length : Int)) rfl
    generalize (sb p ++ l).length = n at *
    go_enter Tryz.func174, Tryz.ntmps174
    go_wp2
    go_ret
    exact ⟨rfl, rfl⟩
theorem jg (w : World) (a : Option Addr) (l : List UInt8) (h : Rp w a l) (p : ByteArray) (hl : p.size + l.length <= 1000000000000) :
    Calls Tryz.prog 142 #[.pointer a, .string p] w fun e w' => ∃ b, e = .returned (.pointer b) /\ Rp w' b (sb p ++ l) /\ Old w w' := by
  have HL := jJ0 (length_any w a l h)
  by_cases h0 : p.size = 0
  · have hp0 : p = ⟨#[]⟩ := sb_inj (List.eq_nil_of_length_eq_zero (by rw [jA]; exact h0))
    subst hp0
    have Hr := jJ0 h
    clear h h0 HL
    go_enter Tryz.func142, Tryz.ntmps142
    go_wp2
    go_ret
    exact ⟨a, rfl, Hr.out, Kp.refl _ _⟩
  · have hne : (p.toList == []) = false := beq_eq_false_iff_ne.2 (fun e => h0 (by rw [ByteArray.toList_eq] at e; rw [<- jA]; show (sb p).length = 0; unfold sb; rw [e]; rfl))
    have ew : IntKind.i64.wrap ((p.size : Int) + (l.length : Int)) = (p.size : Int) + (l.length : Int) := IntWalk.i64_in _ (by omega)
    have Hr := jJ0 (show Rp (w.alloc (.cells #[.string p, .pointer a, .int .i64 ((p.size : Int) + (l.length : Int))] 225)) (some ⟨w.heap.size, 0, none⟩) (sb p ++ l) from by
      refine .cons w.heap.size p a l (by omega) ?_ (h.old ((Kp.refl _ _).alloc _))
      rw [List.length_append, jA, show ((p.size + l.length : Nat) : Int) = (p.size : Int) + (l.length : Int) by omega]
      exact Blk.new _ _ _)
    clear h h0
    generalize l.length = n at *
    go_enter Tryz.func142, Tryz.ntmps142
    go_wp2_with (go_at_call 174; refine HL.out.mono ?_; rintro e w1 ⟨rfl, rfl⟩)
    go_ret
    exact ⟨_, rfl, Hr.out, (Kp.refl _ _).alloc _⟩
theorem Tryz.infoByte : (Tryz.prog.info? 5).map (fun i => (i.zero, i.size, i.bytes)) = some (some (.int .u8 0), 1, 1) := by kernel_rfl
def rlen (v : Value) (w : World) : Nat := match v with | .pointer (some ad) => (intOf ((w.cell? ⟨ad.block, 2, none⟩).getD undef)).toNat | _ => 0
theorem Rp.rlen {w : World} {a : Option Addr} {l : List UInt8} (h : Rp w a l) : rlen (.pointer a) w = l.length := by
  cases h with
  | nil => rfl
  | cons g p nx l hp hb _ =>
    show (intOf ((w.cell? ⟨g, 2, none⟩).getD undef)).toNat = _
    rw [hb.at_ 2 (v := .int .i64 ((sb p ++ l).length : Int)) rfl]
    exact Int.toNat_natCast _
structure RopSt (w : World) (l : List UInt8) (wr : World) (a : Option Addr) (acc rest : List UInt8) (A : Option Addr) (c : Nat) : Prop where
  eq : l = acc ++ rest
  own : wr.ownsRow w.heap.size 5 1 (.slice A acc.length c) acc.length (acc.map bv)
  old : Old w wr
  src : Rp w a rest
theorem rbytes_any (w : World) (a : Option Addr) (l : List UInt8) (h : Rp w a l) (hl : l.length <= 1000000000000) :
    Calls Tryz.prog 80 #[.pointer a] w fun e w' => ∃ A c, e = .returned (.slice A l.length c) /\ w'.ownsRow w.heap.size 5 1 (.slice A l.length c) l.length (l.map bv) /\ Old w w' := by
  obtain ⟨i0, hi, hz0, hz1', hz2'⟩ := info_parts Tryz.infoByte
  have H0 := jJ0 (show RopSt w l w a [] l none 0 from ⟨rfl, World.ownsRow_nil _ _ _ _, Kp.refl _ _, h⟩)
  clear h
  go_enter Tryz.func80, Tryz.ntmps80
  go_wp2
  go_loopw [0, 3] (fun p v wr => ∃ a acc rest A c, p = .pointer a /\ v = .slice A acc.length c /\ RopSt w l wr a acc rest A c) (fun p _ wr => rlen p wr)
  case atStart => exact ⟨a, [], l, none, 0, rfl, rfl, H0.out⟩
  case round =>
    clear H0
    obtain ⟨a, acc, rest, A, c, rfl, rfl, hst⟩ := hrel
    have Hme := jJ0 ((hst.src.old hst.old).rlen)
    have heq := hst.eq
    have hown := hst.own
    have hsrc := hst.src
    have Hold := jJ0 hst.old
    clear hst
    cases hsrc with
    | nil =>
      rw [List.append_nil] at heq
      subst heq
      have Hown := jJ0 hown
      clear hown
      go_wp2
      go_ret
      exact ⟨A, c, rfl, Hown.out, Hold.out⟩
    | cons g p nx l2 hp hb hn =>
      have hb' := hb.old Hold.out
      have hc0 := hb'.at_ 0 (v := .string p) rfl
      have Hb := jJ0 hb
      have Hn := jJ0 hn
      have Heq := jJ0 heq
      have hlen : acc.length + p.size <= 1000000000000 := by
        have := congrArg List.length heq
        rw [List.length_append, List.length_append, jA] at this
        omega
      clear hb hn heq hb'
      have H63 := jJ0 (show acc.length + p.size <= maxLen by unfold maxLen; omega)
      have Hle := jJ0 Hold.out.size
      generalize hk : acc.length = k at *
      go_wp2_with (at_builtin; refine kO _ rfl (.tmp 10) (.tmp 14) 33 9 rfl w.heap.size 5 i0 Tryz.underlying33 Tryz.underlying9 hi hz0 hz1' hz2' (.slice A k c) k (acc.map bv) rfl hown p rfl H63.out (by omega) Hle.out ?_; intro A' c' w3 hown3 hgrow hat; have hold3 : Old w w3 := Hold.out.grown hgrow (fun k e hlt => by have := (hown.lt k e).1; omega); have hc1' : w3.cell? ⟨g, 1, none⟩ = some (.pointer nx) := (Hb.out.old hold3).at_ 1 rfl; have Hold3 := jJ0 hold3; clear hold3)
      have hst : RopSt w l w3 nx (acc ++ sb p) l2 A' c' := ⟨by rw [Heq.out, List.append_assoc], by
        rw [List.length_append, jA, hk, List.map_append]
        exact hown3, Hold3.out, Hn.out⟩
      refine ⟨⟨nx, acc ++ sb p, l2, A', c', rfl, by rw [List.length_append, jA, hk], hst⟩, ?_⟩
      rw [Hme.out, (Hn.out.old Hold3.out).rlen, List.length_append, jA]
      omega
end Go.Proofs.YtmmjcbbogokmfaaGreatDoor

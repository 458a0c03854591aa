import Derived.Test.YtmmjcbbogokmfaaGreatDoorMt01
import Derived.Test.YtmmjcbbogokmfaaGreatDoorMt12
set_option maxRecDepth 100000
set_option maxHeartbeats 25600000
namespace Go.Proofs.YtmmjcbbogokmfaaGreatDoor
open Go.RowKit
def atOf (g : Nat) (w : World) : Nat := (intOf ((w.cell? ⟨g, 1, none⟩).getD undef)).toNat
section
variable {w w1 w2 : World} {g : Nat} {r : Option Nat} {src : ByteArray} {m : Mc} {A : Option Addr} {c : Nat}
theorem Mac.atOf (h : Mac w g r src m A c) : atOf g w = m.at_ := by
  unfold Go.Proofs.YtmmjcbbogokmfaaGreatDoor.atOf
  rw [h.c1]
  simp [intOf]
theorem Mac.drewN (h : Mac w g r src m A c) (n : Nat) : Mac (w.drewN n) g r src m A c := h.old ((Kp.refl _ _).drewN n)
end
theorem tw_lt (p : UInt8 -> Bool) : ∀ (l : List UInt8) (k : Nat), k < (l.takeWhile p).length -> ∃ c, l[k]? = some c /\ p c = true
  | [], k, h => by simp at h
  | a :: l, k, h => by
    rw [List.takeWhile_cons] at h
    split at h
    · rename_i hp
      cases k with
      | zero => exact ⟨a, rfl, hp⟩
      | succ k =>
        rw [List.length_cons] at h
        exact tw_lt p l k (by omega)
    · simp at h
theorem tw_end (p : UInt8 -> Bool) : ∀ (l : List UInt8), (l.takeWhile p).length < l.length -> ∃ c, l[(l.takeWhile p).length]? = some c /\ p c = false
  | [], h => by simp at h
  | a :: l, h => by
    rw [List.takeWhile_cons] at h ⊢
    split at h
    · rename_i hp
      rw [if_pos hp]
      rw [List.length_cons, List.length_cons] at h
      obtain ⟨c, h1, h2⟩ := tw_end p l (by omega)
      exact ⟨c, by rw [List.length_cons, List.getElem?_cons_succ]; exact h1, h2⟩
    · rename_i hp
      rw [if_neg hp]
      exact ⟨a, rfl, by simpa using hp⟩
theorem drop_at (s : ByteArray) (a k : Nat) (c : UInt8) (h : ((sb s).drop a)[k]? = some c) : ∃ hlt : a + k < s.size, s[a + k] = c := by
  rw [List.getElem?_drop] at h
  obtain ⟨h1, h2⟩ := List.getElem?_eq_some_iff.1 h
  rw [jA] at h1
  exact ⟨h1, h2⟩
theorem comment_any (w : World) (g : Nat) (r : Option Nat) (src : ByteArray) (m : Mc) (A : Option Addr) (c : Nat) (h : Mac w g r src m A c) (hs : src.size <= 1000000) (ha : m.at_ <= src.size) :
    Calls Tryz.prog 160 #[.pointer (some ⟨g, 0, none⟩)] w fun e w' => e = .returned (.tuple #[]) /\ ∃ m', kg m ((sb src).drop m.at_) = .ok m' /\ MStep w g r w' src m' := by
  have hl : ((sb src).drop m.at_).length = src.size - m.at_ := by rw [List.length_drop, jA]
  have hT := tw_lt (fun c => !lfC c) ((sb src).drop m.at_)
  have hE := tw_end (fun c => !lfC c) ((sb src).drop m.at_)
  have hTl : (((sb src).drop m.at_).takeWhile (fun c => !lfC c)).length <= src.size - m.at_ := by rw [<- hl]; exact ky _ _
  have Hres := jJ0 (show kg m ((sb src).drop m.at_) = .ok (if (((sb src).drop m.at_).takeWhile (fun c => !lfC c)).length = src.size - m.at_ then { m with at_ := src.size, fin := 1 } else { m with at_ := m.at_ + (((sb src).drop m.at_).takeWhile (fun c => !lfC c)).length }) by
    unfold kg
    rw [hl, show m.at_ + (src.size - m.at_) = src.size by omega])
  generalize hTT : (((sb src).drop m.at_).takeWhile (fun c => !lfC c)).length = T at *
  clear hTT
  generalize kg m ((sb src).drop m.at_) = R at *
  have HT := jJ0 (fun k (hk : k < T) => drop_at src m.at_ k _ (hT k hk).choose_spec.1)
  have HT2 := jJ0 (fun k (hk : k < T) => (hT k hk).choose_spec.2)
  have HE := jJ0 hE
  have Hl := jJ0 hl
  have H0 := jJ0 h
  clear hE hl h
  go_enter Tryz.func160, Tryz.ntmps160
  go_wp2
  go_loopw [] (fun wr => ∃ k A c r', k <= T /\ Mac wr g r' src { m with at_ := m.at_ + k } A c /\ Kp (MX g r) w wr /\ MFr w r r') (fun wr => src.size - atOf g wr)
  case atStart => exact ⟨0, A, c, r, Nat.zero_le _, H0.out, Kp.refl _ _, .inl rfl⟩
  case round =>
    obtain ⟨k, A, c, r', hk, hM, hkp, hfr⟩ := hrel
    have Hme := jJ0 hM.atOf
    have hc0 := hM.c0
    have hc1 := hM.c1
    have hc3 := hM.c3
    have hz1 := hM.z 1
    have hz3 := hM.z 3
    simp only at hc0 hc1 hc3
    by_cases hlt : k < T
    · obtain ⟨hin, hch⟩ := HT.out k hlt
      have hlf := HT2.out k hlt
      rw [<- hch] at hlf
      clear hch
      have b5 : ((src[m.at_ + k].toNat : Int) != 10) = true := bne_iff_ne.2 (fun e => by
        have : lfC src[m.at_ + k] = true := decide_eq_true (by omega)
        rw [this] at hlf; cases hlf)
      clear hlf hT HT HT2 HE
      have Hset := jJ0 (fun n => (hM.drewN n).setAt (m.at_ + (k + 1)))
      have Hkp := jJ0 hkp
      have Hfr := jJ0 hfr
      clear hM hkp hfr
      generalize hp : m.at_ + k = p at *
      have b1 : (p : Int) < (src.size : Int) := by omega
      have b2 : (0 : Int) <= (p : Int) := by omega
      have b3 : (p : Int).toNat = p := by omega
      have b4 : IntKind.i64.wrap ((p : Int) + 1) = (p : Int) + 1 := IntWalk.i64_in _ (by omega)
      go_wp2
      go_quiet (fail)
      go_wp2
      obtain ⟨hM, hk2⟩ := Hset.out nq
      rw [show ((m.at_ + (k + 1) : Nat) : Int) = (p : Int) + 1 by omega] at hM hk2
      exact ⟨⟨k + 1, A, c, r', by omega, hM, (Hkp.out.drewN nq).trans hk2 (MX.trans Hfr.out), Hfr.out⟩, by rw [hM.atOf, Hme.out]; simp only; omega⟩
    · obtain rfl : k = T := by omega
      have hkT := Hres.out
      clear hT HT HT2
      by_cases hend : k = src.size - m.at_
      · rw [if_pos hend] at hkT
        have HR := jJ0 hkT
        have Hset := jJ0 (fun n => (hM.drewN n).setFin 1)
        have Hkp := jJ0 hkp
        have Hfr := jJ0 hfr
        clear hM hkp hfr Hres hkT HE
        have hp : m.at_ + k = src.size := by omega
        rw [hp] at hc1
        have b1 : ¬ (src.size : Int) < (src.size : Int) := by omega
        have b2 : ((src.size : Int) == (src.size : Int)) = true := by simp
        have Hp := jJ0 hp
        clear hp hend
        go_wp2
        go_quiet (fail)
        go_wp2
        go_quiet (fail)
        go_wp2
        go_end0
        obtain ⟨hM, hk2⟩ := Hset.out _
        refine ⟨rfl, _, HR.out, r', A, c, ?_, (Hkp.out.drewN _).trans hk2 (MX.trans Hfr.out), Hfr.out⟩
        have := Hp.out
        simp only [this] at hM
        exact hM
      · rw [if_neg hend] at hkT
        have HR := jJ0 hkT
        obtain ⟨ch, h1, h2⟩ := HE.out (by rw [Hl.out]; omega)
        obtain ⟨hin, hch⟩ := drop_at src m.at_ k ch h1
        rw [<- hch] at h2
        have b5 : ((src[m.at_ + k].toNat : Int) != 10) = false := by
          have : lfC src[m.at_ + k] = true := by simpa using h2
          have := of_decide_eq_true this
          rw [this]; rfl
        have Hold := jJ0 (fun n n2 => (hM.drewN n).drewN n2)
        have Hkp := jJ0 hkp
        have Hfr := jJ0 hfr
        clear hM hkp hfr Hres hkT HE h1 h2 hch
        generalize hp : m.at_ + k = p at *
        have b1 : (p : Int) < (src.size : Int) := by omega
        have b2 : (0 : Int) <= (p : Int) := by omega
        have b3 : (p : Int).toNat = p := by omega
        have b6 : ((p : Int) == (src.size : Int)) = false := beq_eq_false_iff_ne.2 (by omega)
        go_wp2
        go_quiet (fail)
        go_wp2
        go_quiet (fail)
        go_wp2
        go_end0
        exact ⟨rfl, _, HR.out, r', A, c, Hold.out _ _, (Hkp.out.drewN _).drewN _, Hfr.out⟩
def wrongV (k : Nat) : List PanicEntry := [{ v := .iface 215 (.int .i64 (k : Int)), recovered := false }]
def MOut (w : World) (g : Nat) (r : Option Nat) (src : ByteArray) (o : Out) (e : Ending) (w' : World) : Prop :=
  match o with
  | .ok m' => e = .returned (.tuple #[]) /\ MStep w g r w' src m'
  | .error k => e = .panicked (wrongV k) /\ Kp (MX g r) w w'
def behindN (y : Nat) : Option Nat := if y = 120 then some 6 else if y = 34 \/ y = 92 \/ y = 110 \/ y = 116 then some 4 else none
def BehOut (k : Nat) (o : Option Nat) (e : Ending) : Prop := match o with
  | some x => e = .returned (.int .u8 (x : Int))
  | none => e = .panicked (wrongV k)
theorem behind_any (w : World) (y k : Nat) : Calls Tryz.prog 197 #[.int .u8 (y : Int), .int .i64 (k : Int)] w fun e w' => w = w' /\ BehOut k (behindN y) e := by
  have Hy := jJ0 (show behindN y = if y = 120 then some 6 else if y = 34 \/ y = 92 \/ y = 110 \/ y = 116 then some 4 else none from rfl)
  generalize behindN y = R at *
  by_cases h120 : y = 120
  · have Hr := jJ0 (show R = some 6 by rw [Hy.out, h120]; rfl)
    subst h120
    clear Hy
    go_enter Tryz.func197, Tryz.ntmps197
    go_wp2
    go_ret
    rw [Hr.out]
    exact ⟨rfl, rfl⟩
  by_cases h34 : y = 34
  · have Hr := jJ0 (show R = some 4 by rw [Hy.out, h34]; rfl)
    subst h34
    clear Hy
    go_enter Tryz.func197, Tryz.ntmps197
    go_wp2
    go_ret
    rw [Hr.out]
    exact ⟨rfl, rfl⟩
  by_cases h92 : y = 92
  · have Hr := jJ0 (show R = some 4 by rw [Hy.out, h92]; rfl)
    subst h92
    clear Hy
    go_enter Tryz.func197, Tryz.ntmps197
    go_wp2
    go_ret
    rw [Hr.out]
    exact ⟨rfl, rfl⟩
  by_cases h110 : y = 110
  · have Hr := jJ0 (show R = some 4 by rw [Hy.out, h110]; rfl)
    subst h110
    clear Hy
    go_enter Tryz.func197, Tryz.ntmps197
    go_wp2
    go_ret
    rw [Hr.out]
    exact ⟨rfl, rfl⟩
  by_cases h116 : y = 116
  · have Hr := jJ0 (show R = some 4 by rw [Hy.out, h116]; rfl)
    subst h116
    clear Hy
    go_enter Tryz.func197, Tryz.ntmps197
    go_wp2
    go_ret
    rw [Hr.out]
    exact ⟨rfl, rfl⟩
  have Hr := jJ0 (show R = none by rw [Hy.out, if_neg h120, if_neg (by omega)])
  have b120 : ((y : Int) == 120) = false := beq_eq_false_iff_ne.2 (by omega)
  have b34 : ((y : Int) == 34) = false := beq_eq_false_iff_ne.2 (by omega)
  have b92 : ((y : Int) == 92) = false := beq_eq_false_iff_ne.2 (by omega)
  have b110 : ((y : Int) == 110) = false := beq_eq_false_iff_ne.2 (by omega)
  have b116 : ((y : Int) == 116) = false := beq_eq_false_iff_ne.2 (by omega)
  clear Hy h120 h34 h92 h110 h116
  go_enter Tryz.func197, Tryz.ntmps197
  go_wp2
  refine ⟨rfl, rfl, ?_⟩
  rw [Hr.out]
  exact rfl
theorem sb_append (a b : ByteArray) : sb (a ++ b) = sb a ++ sb b := by
  unfold sb
  simp
theorem sb_one (s : ByteArray) (k : Nat) (h : k < s.size) : sb (s.extract k (k + 1)) = [s[k]] := by
  have h' : k < (sb s).length := by rw [jA]; exact h
  rw [jo, List.drop_eq_getElem_cons h', show k + 1 - k = 1 by omega, List.take_succ_cons, List.take_zero]
  rfl
theorem headD_drop (s : ByteArray) (k : Nat) (h : k < s.size) : ((sb s).drop k).headD 0 = s[k] := by
  have h' : k < (sb s).length := by rw [jA]; exact h
  rw [List.drop_eq_getElem_cons h']
  rfl
theorem taken_ready (t : Nat) (ht : t < 58) (m : Mc) (hl : m.stack.length <= 1000000) (h : mayN t m.stack = true) : ∃ n s, Takes t n m.stack s /\ m.stack.length + 11 * n <= 100000000 /\ ∀ k f, kw t { m with from_ := f } k = .ok { m with from_ := f, at_ := k, stack := s } := by
  obtain ⟨s, hs1, hs2⟩ := taken_may t ht m 0 h
  obtain ⟨n, hn, hT⟩ := takes_of hs1
  refine ⟨n, s, hT, by omega, fun k f => ?_⟩
  unfold kw
  rw [hs1]
theorem sign_any (w : World) (hg : Sg w) (g : Nat) (r : Option Nat) (src : ByteArray) (m : Mc) (A : Option Addr) (c : Nat) (h : Mac w g r src m A c) (hs : src.size <= 1000000) (ha : m.at_ < src.size) (hst : m.stack.length <= 1000000) :
    Calls Tryz.prog 163 #[.pointer (some ⟨g, 0, none⟩)] w (MOut w g r src (kc m src[m.at_] ((sb src).drop (m.at_ + 1)))) := by
  have Hs1 := jJ0 (fun W (hW : Old w W) => sign_any9 W (hg.old hW) (src.extract m.at_ (m.at_ + 1)))
  have Hs2 := jJ0 (fun W (hW : Old w W) => sign_any9 W (hg.old hW) (src.extract m.at_ (m.at_ + 1) ++ ⟨#[61]⟩))
  rw [sb_append, sb_one src m.at_ ha, show ([src[m.at_]] ++ sb ⟨#[61]⟩ : List UInt8) = [src[m.at_], 61] from rfl] at Hs2
  rw [sb_one src m.at_ ha] at Hs1
  have Hres := jJ0 (show kc m src[m.at_] ((sb src).drop (m.at_ + 1)) = (if jS [src[m.at_]] ≠ 0 /\ mayN (jS [src[m.at_]]) m.stack = true then
    (if jS [src[m.at_], 61] ≠ 0 /\ mayN (jS [src[m.at_], 61]) m.stack = true /\ ((sb src).drop (m.at_ + 1)).headD 0 = 61 then kw (jS [src[m.at_], 61]) { m with from_ := m.at_ } (m.at_ + 2) else kw (jS [src[m.at_]]) { m with from_ := m.at_ } (m.at_ + 1))
  else if jS [src[m.at_], 61] = 0 \/ mayN (jS [src[m.at_], 61]) m.stack = false then .error m.at_
  else if ((sb src).drop (m.at_ + 1)) = [] then .ok { m with from_ := m.at_, at_ := m.at_ + 1, fin := 3 }
  else if ((sb src).drop (m.at_ + 1)).headD 0 ≠ 61 then .error (m.at_ + 1)
  else kw (jS [src[m.at_], 61]) { m with from_ := m.at_ } (m.at_ + 2)) from rfl)
  have hO := ja [src[m.at_]]
  have hT := ja [src[m.at_], 61]
  generalize kc m src[m.at_] ((sb src).drop (m.at_ + 1)) = R at *
  generalize jS [src[m.at_]] = O at *
  generalize jS [src[m.at_], 61] = T at *
  generalize hsx : src.extract m.at_ (m.at_ + 1) = sx at *
  have hsz : sx.size = 1 := by rw [<- hsx, <- jA, sb_one src m.at_ ha]; rfl
  have hcat : ((sx.size + 1 : Nat) : Int) <= 9223372036854775807 := by omega
  generalize hsy : sx ++ ⟨#[61]⟩ = sy at *
  have hc0 := h.c0
  have hc1 := h.c1
  have hc4 := h.c4
  have hz4 := h.z 4
  have hz1 := h.z 1
  have hc3 := h.c3
  have hz3 := h.z 3
  have a1 : (m.at_ : Int) <= (m.at_ : Int) + 1 := by omega
  have a2 : (m.at_ : Int) + 1 <= (src.size : Int) := by omega
  have a3 : (0 : Int) <= (m.at_ : Int) := by omega
  have a4 : IntKind.i64.wrap ((m.at_ : Int) + 1) = (m.at_ : Int) + 1 := IntWalk.i64_in _ (by omega)
  have a5 : (m.at_ : Int).toNat = m.at_ := by omega
  have a6 : ((m.at_ : Int) + 1).toNat = m.at_ + 1 := by omega
  have a7 : (0 : Int) <= (m.at_ : Int) + 1 := by omega
  go_enter Tryz.func163, Tryz.ntmps163
  go_wp2
  go_quiet (fail)
  go_wp2_with fail
  refine (Hs1.out _ ((Kp.refl _ _).drewN _)).mono ?_
  rintro e w1 ⟨rfl, rfl⟩
  go_wp2_with fail
  refine (Hs2.out _ ((Kp.refl _ _).drewN _)).mono ?_
  rintro e w1 ⟨rfl, rfl⟩
  clear Hs1 Hs2 hsx hsy hsz hcat a1 a2 hg
  have h0 := h.drewN nq
  have hk0 : Kp (MX g r) w (w.drewN nq) := (Kp.refl _ _).drewN nq
  have hc0 := h0.c0
  have hc1 := h0.c1
  have hc3 := h0.c3
  have hc4 := h0.c4
  have hz1 := h0.z 1
  have hz3 := h0.z 3
  have hz4 := h0.z 4
  clear h
  generalize w.drewN nq = w0 at *
  obtain ⟨m1, k1⟩ := h0.setFrom m.at_
  have Hm1 := jJ0 m1
  have HmO := jJ0 (fun W (hW : Old (w0.setCell ⟨g, 4, none⟩ (.int .i64 (m.at_ : Int))) W) => may_any W g r src _ A c (m1.old hW) O)
  have HmT := jJ0 (fun W (hW : Old (w0.setCell ⟨g, 4, none⟩ (.int .i64 (m.at_ : Int))) W) => may_any W g r src _ A c (m1.old hW) T)
  have Hk1 := jJ0 (hk0.trans k1 (fun _ _ h => h))
  obtain ⟨m2, k2⟩ := m1.setAt (m.at_ + 1)
  rw [show ((m.at_ + 1 : Nat) : Int) = (m.at_ : Int) + 1 by omega] at m2 k2
  have Hm2 := jJ0 m2
  have Hk2 := jJ0 ((hk0.trans k1 (fun _ _ h => h)).trans k2 (fun _ _ h => h))
  have HmT2 := jJ0 (fun W (hW : Old ((w0.setCell ⟨g, 4, none⟩ (.int .i64 (m.at_ : Int))).setCell ⟨g, 1, none⟩ (.int .i64 ((m.at_ : Int) + 1))) W) => may_any W g r src _ A c (m2.old hW) T)
  obtain ⟨m3, k3⟩ := m2.setFin 3
  have Hm3 := jJ0 m3
  have Hk3 := jJ0 (((hk0.trans k1 (fun _ _ h => h)).trans k2 (fun _ _ h => h)).trans k3 (fun _ _ h => h))
  simp only at HmO HmT HmT2
  unfold yv at HmO HmT HmT2
  clear m1 k1 m2 k2 m3 k3 h0 hk0
  have HRO := jJ0 (taken_ready O hO m hst)
  have HRT := jJ0 (taken_ready T hT m hst)
  generalize hbO : mayN O m.stack = bO at *
  generalize hbT : mayN T m.stack = bT at *
  clear hbO hbT
  have Hd := jJ0 (fun (h : m.at_ + 1 < src.size) => headD_drop src (m.at_ + 1) h)
  have Hn := jJ0 (show m.at_ + 1 = src.size -> (sb src).drop (m.at_ + 1) = [] from fun h => List.drop_of_length_le (by rw [jA]; omega))
  have Hnn := jJ0 (show m.at_ + 1 < src.size -> (sb src).drop (m.at_ + 1) ≠ [] from fun h e => by
    have := congrArg List.length e
    rw [List.length_drop, jA] at this
    simp at this; omega)
  generalize (sb src).drop (m.at_ + 1) = rest at *
  have a8 : IntKind.i64.wrap ((m.at_ : Int) + 1 + 1) = (m.at_ : Int) + 2 := by rw [show (m.at_ : Int) + 1 + 1 = (m.at_ : Int) + 2 by omega]; exact IntWalk.i64_in _ (by omega)
  have a9 : IntKind.i64.wrap ((m.at_ : Int) + 2) = (m.at_ : Int) + 2 := IntWalk.i64_in _ (by omega)
  by_cases hOO : O ≠ 0 /\ bO = true
  · obtain ⟨O0, rfl⟩ := hOO
    have o1 : ((O : Int) != 0) = true := bne_iff_ne.2 (by omega)
    obtain ⟨n, s, hTk, hbd, htk⟩ := HRO.out rfl
    have HtO := jJ0 (fun W (hW : Old ((w0.setCell ⟨g, 4, none⟩ (.int .i64 (m.at_ : Int))).setCell ⟨g, 1, none⟩ (.int .i64 ((m.at_ : Int) + 1))) W) => vp W g r src _ A c (Hm2.out.old hW) O n s hO hTk hbd)
    unfold yv at HtO
    have Htk := jJ0 htk
    clear htk hTk hbd
    have Hres := jJ0 (show R = (if T ≠ 0 /\ bT = true /\ rest.headD 0 = 61 then kw T { m with from_ := m.at_ } (m.at_ + 2) else .ok { m with from_ := m.at_, at_ := m.at_ + 1, stack := s }) by rw [Hres.out, if_pos ⟨O0, rfl⟩, Htk.out])
    clear O0
    by_cases T0 : T = 0
    · have t1 : ((T : Int) != 0) = false := by rw [T0]; rfl
      have HR := jJ0 (show R = .ok { m with from_ := m.at_, at_ := m.at_ + 1, stack := s } by rw [Hres.out, if_neg (fun h => h.1 T0)])
      clear Hres T0
      go_wp2_with (go_at_call 176; refine (HmO.out _ (Kp.refl _ _)).mono ?_; rintro e w1 ⟨rfl, rfl⟩)
      go_quiet (fail)
      go_wp2_with (go_at_call 179; refine (HtO.out _ ((Kp.refl _ _).drewN _)).mono ?_; rintro e w1 ⟨rfl, hstep⟩)
      go_end0
      rw [HR.out]
      exact ⟨rfl, MStep.trans (Hk2.out.drewN _) (.inl rfl) hstep⟩
    · have t1 : ((T : Int) != 0) = true := bne_iff_ne.2 (by omega)
      cases bT
      · have HR := jJ0 (show R = .ok { m with from_ := m.at_, at_ := m.at_ + 1, stack := s } by rw [Hres.out, if_neg (fun h => by cases h.2.1)])
        clear Hres T0
        go_wp2_with (go_at_call 176; refine (HmO.out _ (Kp.refl _ _)).mono ?_; rintro e w1 ⟨rfl, rfl⟩)
        go_quiet ((go_at_call 176; refine Calls.quiet_of_same ((HmT2.out _ ((Kp.refl _ _).drewN _)).mono (fun _ _ h => ⟨h.1, h.2.symm⟩))))
        go_wp2_with (go_at_call 179; refine (HtO.out _ ((Kp.refl _ _).drewN _)).mono ?_; rintro e w1 ⟨rfl, hstep⟩)
        go_end0
        rw [HR.out]
        exact ⟨rfl, MStep.trans (Hk2.out.drewN _) (.inl rfl) hstep⟩
      · by_cases hend : m.at_ + 1 = src.size
        · have HR := jJ0 (show R = .ok { m with from_ := m.at_, at_ := m.at_ + 1, stack := s } by rw [Hres.out, if_neg (fun h => by have h2 := h.2.2; rw [Hn.out hend] at h2; exact absurd h2 (by decide))])
          have e1 : decide ((m.at_ : Int) + 1 < (src.size : Int)) = false := decide_eq_false (by omega)
          clear Hres T0 hend
          go_wp2_with (go_at_call 176; refine (HmO.out _ (Kp.refl _ _)).mono ?_; rintro e w1 ⟨rfl, rfl⟩)
          go_quiet ((go_at_call 176; refine Calls.quiet_of_same ((HmT2.out _ ((Kp.refl _ _).drewN _)).mono (fun _ _ h => ⟨h.1, h.2.symm⟩))))
          go_wp2_with (go_at_call 179; refine (HtO.out _ ((Kp.refl _ _).drewN _)).mono ?_; rintro e w1 ⟨rfl, hstep⟩)
          go_end0
          rw [HR.out]
          exact ⟨rfl, MStep.trans (Hk2.out.drewN _) (.inl rfl) hstep⟩
        · have hin : m.at_ + 1 < src.size := by omega
          have e1 : (m.at_ : Int) + 1 < (src.size : Int) := by omega
          have hd := Hd.out hin
          by_cases h61 : src[m.at_ + 1].toNat = 61
          · have e2 : ((src[m.at_ + 1].toNat : Int) == 61) = true := by rw [h61]; rfl
            have hd2 : rest.headD 0 = 61 := by rw [hd]; exact UInt8.toNat_inj.1 h61
            obtain ⟨n2, s2, hTk2, hbd2, htk2⟩ := HRT.out rfl
            have HR := jJ0 (show R = .ok { m with from_ := m.at_, at_ := m.at_ + 2, stack := s2 } by rw [Hres.out, if_pos ⟨T0, rfl, hd2⟩, htk2])
            have Hset := jJ0 (fun W (hW : Old ((w0.setCell ⟨g, 4, none⟩ (.int .i64 (m.at_ : Int))).setCell ⟨g, 1, none⟩ (.int .i64 ((m.at_ : Int) + 1))) W) => by
              have := (Hm2.out.old hW).setAt (m.at_ + 2)
              rwa [show ((m.at_ + 2 : Nat) : Int) = (m.at_ : Int) + 2 by omega] at this)
            have HtT := jJ0 (fun W (hW : Old ((w0.setCell ⟨g, 4, none⟩ (.int .i64 (m.at_ : Int))).setCell ⟨g, 1, none⟩ (.int .i64 ((m.at_ : Int) + 1))) W) => vp _ g r src _ A c (Hset.out W hW).1 T n2 s2 hT hTk2 hbd2)
            unfold yv at HtT
            clear Hres T0 hend hd hd2 h61 hTk2 hbd2 htk2
            go_wp2_with (go_at_call 176; refine (HmO.out _ (Kp.refl _ _)).mono ?_; rintro e w1 ⟨rfl, rfl⟩)
            go_quiet ((go_at_call 176; refine Calls.quiet_of_same ((HmT2.out _ ((Kp.refl _ _).drewN _)).mono (fun _ _ h => ⟨h.1, h.2.symm⟩))))
            go_wp2_with (go_at_call 179; refine (HtT.out _ ((Kp.refl _ _).drewN _)).mono ?_; rintro e w1 ⟨rfl, hstep⟩)
            go_end0
            rw [HR.out]
            exact ⟨rfl, MStep.trans ((Hk2.out.drewN _).trans (Hset.out _ ((Kp.refl _ _).drewN _)).2 (fun _ _ h => h)) (.inl rfl) hstep⟩
          · have e2 : ((src[m.at_ + 1].toNat : Int) == 61) = false := beq_eq_false_iff_ne.2 (by omega)
            have HR := jJ0 (show R = .ok { m with from_ := m.at_, at_ := m.at_ + 1, stack := s } by rw [Hres.out, if_neg (fun h => h61 (by have h2 := h.2.2; rw [hd] at h2; rw [h2]; rfl))])
            clear Hres T0 hend hd h61
            go_wp2_with (go_at_call 176; refine (HmO.out _ (Kp.refl _ _)).mono ?_; rintro e w1 ⟨rfl, rfl⟩)
            go_quiet ((go_at_call 176; refine Calls.quiet_of_same ((HmT2.out _ ((Kp.refl _ _).drewN _)).mono (fun _ _ h => ⟨h.1, h.2.symm⟩))))
            go_wp2_with (go_at_call 179; refine (HtO.out _ ((Kp.refl _ _).drewN _)).mono ?_; rintro e w1 ⟨rfl, hstep⟩)
            go_end0
            rw [HR.out]
            exact ⟨rfl, MStep.trans (Hk2.out.drewN _) (.inl rfl) hstep⟩
  · have HrB := jJ0 (show R = (if T = 0 \/ bT = false then .error m.at_ else if rest = [] then .ok { m with from_ := m.at_, at_ := m.at_ + 1, fin := 3 } else if rest.headD 0 ≠ 61 then .error (m.at_ + 1) else kw T { m with from_ := m.at_ } (m.at_ + 2)) by rw [Hres.out, if_neg hOO])
    have hO2 : O = 0 \/ O ≠ 0 /\ bO = false := by
      rcases Nat.eq_zero_or_pos O with h | h
      · exact .inl h
      · refine .inr ⟨by omega, ?_⟩
        cases bO
        · rfl
        · exact absurd ⟨by omega, rfl⟩ hOO
    clear hOO HRO Hres
    rcases hO2 with O0 | ⟨O0, rfl⟩
    · have o1 : ((O : Int) != 0) = false := by rw [O0]; rfl
      clear O0
      by_cases T0 : T = 0
      · have t1 : ((T : Int) == 0) = true := by rw [T0]; rfl
        have HR := jJ0 (show R = .error m.at_ by rw [HrB.out, if_pos (.inl T0)])
        clear HrB T0
        go_wp2_with fail
        refine ⟨rfl, ?_⟩
        rw [HR.out]
        exact ⟨rfl, Hk1.out⟩
      · have t1 : ((T : Int) == 0) = false := beq_eq_false_iff_ne.2 (by omega)
        cases bT
        · have HR := jJ0 (show R = .error m.at_ by rw [HrB.out, if_pos (.inr rfl)])
          clear HrB T0
          go_wp2_with (go_at_call_of 176 (Value.int .u8 (T : Int)); refine (HmT.out _ (Kp.refl _ _)).mono ?_; rintro e w1 ⟨rfl, rfl⟩)
          refine ⟨rfl, ?_⟩
          rw [HR.out]
          exact ⟨rfl, Hk1.out⟩
        · have HrC := jJ0 (show R = (if rest = [] then .ok { m with from_ := m.at_, at_ := m.at_ + 1, fin := 3 } else if rest.headD 0 ≠ 61 then .error (m.at_ + 1) else kw T { m with from_ := m.at_ } (m.at_ + 2)) by rw [HrB.out, if_neg (fun h => by rcases h with h | h; exact T0 h; cases h)])
          by_cases hend : m.at_ + 1 = src.size
          · have HR := jJ0 (show R = .ok { m with from_ := m.at_, at_ := m.at_ + 1, fin := 3 } by rw [HrC.out, if_pos (Hn.out hend)])
            have e1 : (((m.at_ : Int) + 1) == (src.size : Int)) = true := by rw [show (m.at_ : Int) + 1 = (src.size : Int) by omega]; simp
            clear HrB HrC T0 hend
            go_wp2_with (go_at_call_of 176 (Value.int .u8 (T : Int)); refine (HmT.out _ (Kp.refl _ _)).mono ?_; rintro e w1 ⟨rfl, rfl⟩)
            go_quiet (fail)
            go_wp2
            go_end0
            rw [HR.out]
            exact ⟨rfl, r, A, c, Hm3.out.drewN _, Hk3.out.drewN _, .inl rfl⟩
          · have hin : m.at_ + 1 < src.size := by omega
            have e1 : (((m.at_ : Int) + 1) == (src.size : Int)) = false := beq_eq_false_iff_ne.2 (by omega)
            have e1b : (m.at_ : Int) + 1 < (src.size : Int) := by omega
            have hd := Hd.out hin
            by_cases h61 : src[m.at_ + 1].toNat = 61
            · have e2 : ((src[m.at_ + 1].toNat : Int) != 61) = false := by rw [h61]; rfl
              have hd2 : rest.headD 0 = 61 := by rw [hd]; exact UInt8.toNat_inj.1 h61
              obtain ⟨n2, s2, hTk2, hbd2, htk2⟩ := HRT.out rfl
              have HR := jJ0 (show R = .ok { m with from_ := m.at_, at_ := m.at_ + 2, stack := s2 } by rw [HrC.out, if_neg (Hnn.out hin), if_neg (fun h => h hd2), htk2])
              have Hset := jJ0 (fun W (hW : Old (w0.setCell ⟨g, 4, none⟩ (.int .i64 (m.at_ : Int))) W) => by
                have := (Hm1.out.old hW).setAt (m.at_ + 2)
                rwa [show ((m.at_ + 2 : Nat) : Int) = (m.at_ : Int) + 2 by omega] at this)
              have HtT := jJ0 (fun W (hW : Old (w0.setCell ⟨g, 4, none⟩ (.int .i64 (m.at_ : Int))) W) => vp _ g r src _ A c (Hset.out W hW).1 T n2 s2 hT hTk2 hbd2)
              unfold yv at HtT
              clear HrB HrC T0 hend hd hd2 h61 hTk2 hbd2 htk2
              go_wp2_with (go_at_call_of 176 (Value.int .u8 (T : Int)); refine (HmT.out _ (Kp.refl _ _)).mono ?_; rintro e w1 ⟨rfl, rfl⟩)
              go_quiet (fail)
              go_wp2
              go_quiet (fail)
              go_wp2_with (go_at_call 179; refine (HtT.out _ (by first | exact (Kp.refl _ _).drewN _ | exact ((Kp.refl _ _).drewN _).drewN _)).mono ?_; rintro e w1 ⟨rfl, hstep⟩)
              go_end0
              rw [HR.out]
              exact ⟨rfl, MStep.trans (Hk1.out.trans (((Kp.refl (MX g r) _).old (by first | exact (Kp.refl _ _).drewN _ | exact ((Kp.refl _ _).drewN _).drewN _)).trans (Hset.out _ (by first | exact (Kp.refl _ _).drewN _ | exact ((Kp.refl _ _).drewN _).drewN _)).2 (fun _ _ h => h)) (fun _ _ h => h)) (.inl rfl) hstep⟩
            · have e2 : ((src[m.at_ + 1].toNat : Int) != 61) = true := bne_iff_ne.2 (by omega)
              have HR := jJ0 (show R = .error (m.at_ + 1) by rw [HrC.out, if_neg (Hnn.out hin), if_pos (fun h => h61 (by rw [<- hd, h]; rfl))])
              clear HrB HrC T0 hend hd h61
              go_wp2_with (go_at_call_of 176 (Value.int .u8 (T : Int)); refine (HmT.out _ (Kp.refl _ _)).mono ?_; rintro e w1 ⟨rfl, rfl⟩)
              go_quiet (fail)
              go_wp2
              go_quiet (fail)
              go_wp2
              refine ⟨rfl, ?_⟩
              rw [HR.out]
              exact ⟨by rw [wrongV, show ((m.at_ + 1 : Nat) : Int) = (m.at_ : Int) + 1 by omega], ⟨Hk1.out.os, Hk1.out.tape, Hk1.out.output, Hk1.out.size, Hk1.out.block⟩⟩
    · have o1 : ((O : Int) != 0) = true := bne_iff_ne.2 (by omega)
      clear O0
      by_cases T0 : T = 0
      · have t1 : ((T : Int) == 0) = true := by rw [T0]; rfl
        have HR := jJ0 (show R = .error m.at_ by rw [HrB.out, if_pos (.inl T0)])
        clear HrB T0
        go_wp2_with (go_at_call_of 176 (Value.int .u8 (O : Int)); refine (HmO.out _ (Kp.refl _ _)).mono ?_; rintro e w1 ⟨rfl, rfl⟩)
        refine ⟨rfl, ?_⟩
        rw [HR.out]
        exact ⟨rfl, Hk1.out⟩
      · have t1 : ((T : Int) == 0) = false := beq_eq_false_iff_ne.2 (by omega)
        cases bT
        · have HR := jJ0 (show R = .error m.at_ by rw [HrB.out, if_pos (.inr rfl)])
          clear HrB T0
          go_wp2_with (first | (go_at_call_of 176 (Value.int .u8 (O : Int)); refine (HmO.out _ (Kp.refl _ _)).mono ?_; rintro e w1 ⟨rfl, rfl⟩) | (go_at_call_of 176 (Value.int .u8 (T : Int)); refine (HmT.out _ (Kp.refl _ _)).mono ?_; rintro e w1 ⟨rfl, rfl⟩))
          refine ⟨rfl, ?_⟩
          rw [HR.out]
          exact ⟨rfl, Hk1.out⟩
        · have HrC := jJ0 (show R = (if rest = [] then .ok { m with from_ := m.at_, at_ := m.at_ + 1, fin := 3 } else if rest.headD 0 ≠ 61 then .error (m.at_ + 1) else kw T { m with from_ := m.at_ } (m.at_ + 2)) by rw [HrB.out, if_neg (fun h => by rcases h with h | h; exact T0 h; cases h)])
          by_cases hend : m.at_ + 1 = src.size
          · have HR := jJ0 (show R = .ok { m with from_ := m.at_, at_ := m.at_ + 1, fin := 3 } by rw [HrC.out, if_pos (Hn.out hend)])
            have e1 : (((m.at_ : Int) + 1) == (src.size : Int)) = true := by rw [show (m.at_ : Int) + 1 = (src.size : Int) by omega]; simp
            clear HrB HrC T0 hend
            go_wp2_with (first | (go_at_call_of 176 (Value.int .u8 (O : Int)); refine (HmO.out _ (Kp.refl _ _)).mono ?_; rintro e w1 ⟨rfl, rfl⟩) | (go_at_call_of 176 (Value.int .u8 (T : Int)); refine (HmT.out _ (Kp.refl _ _)).mono ?_; rintro e w1 ⟨rfl, rfl⟩))
            go_quiet (fail)
            go_wp2
            go_end0
            rw [HR.out]
            exact ⟨rfl, r, A, c, Hm3.out.drewN _, Hk3.out.drewN _, .inl rfl⟩
          · have hin : m.at_ + 1 < src.size := by omega
            have e1 : (((m.at_ : Int) + 1) == (src.size : Int)) = false := beq_eq_false_iff_ne.2 (by omega)
            have e1b : (m.at_ : Int) + 1 < (src.size : Int) := by omega
            have hd := Hd.out hin
            by_cases h61 : src[m.at_ + 1].toNat = 61
            · have e2 : ((src[m.at_ + 1].toNat : Int) != 61) = false := by rw [h61]; rfl
              have hd2 : rest.headD 0 = 61 := by rw [hd]; exact UInt8.toNat_inj.1 h61
              obtain ⟨n2, s2, hTk2, hbd2, htk2⟩ := HRT.out rfl
              have HR := jJ0 (show R = .ok { m with from_ := m.at_, at_ := m.at_ + 2, stack := s2 } by rw [HrC.out, if_neg (Hnn.out hin), if_neg (fun h => h hd2), htk2])
              have Hset := jJ0 (fun W (hW : Old (w0.setCell ⟨g, 4, none⟩ (.int .i64 (m.at_ : Int))) W) => by
                have := (Hm1.out.old hW).setAt (m.at_ + 2)
                rwa [show ((m.at_ + 2 : Nat) : Int) = (m.at_ : Int) + 2 by omega] at this)
              have HtT := jJ0 (fun W (hW : Old (w0.setCell ⟨g, 4, none⟩ (.int .i64 (m.at_ : Int))) W) => vp _ g r src _ A c (Hset.out W hW).1 T n2 s2 hT hTk2 hbd2)
              unfold yv at HtT
              clear HrB HrC T0 hend hd hd2 h61 hTk2 hbd2 htk2
              go_wp2_with (first | (go_at_call_of 176 (Value.int .u8 (O : Int)); refine (HmO.out _ (Kp.refl _ _)).mono ?_; rintro e w1 ⟨rfl, rfl⟩) | (go_at_call_of 176 (Value.int .u8 (T : Int)); refine (HmT.out _ (Kp.refl _ _)).mono ?_; rintro e w1 ⟨rfl, rfl⟩))
              go_quiet (fail)
              go_wp2
              go_quiet (fail)
              go_wp2_with (go_at_call 179; refine (HtT.out _ (by first | exact (Kp.refl _ _).drewN _ | exact ((Kp.refl _ _).drewN _).drewN _)).mono ?_; rintro e w1 ⟨rfl, hstep⟩)
              go_end0
              rw [HR.out]
              exact ⟨rfl, MStep.trans (Hk1.out.trans (((Kp.refl (MX g r) _).old (by first | exact (Kp.refl _ _).drewN _ | exact ((Kp.refl _ _).drewN _).drewN _)).trans (Hset.out _ (by first | exact (Kp.refl _ _).drewN _ | exact ((Kp.refl _ _).drewN _).drewN _)).2 (fun _ _ h => h)) (fun _ _ h => h)) (.inl rfl) hstep⟩
            · have e2 : ((src[m.at_ + 1].toNat : Int) != 61) = true := bne_iff_ne.2 (by omega)
              have HR := jJ0 (show R = .error (m.at_ + 1) by rw [HrC.out, if_neg (Hnn.out hin), if_pos (fun h => h61 (by rw [<- hd, h]; rfl))])
              clear HrB HrC T0 hend hd h61
              go_wp2_with (first | (go_at_call_of 176 (Value.int .u8 (O : Int)); refine (HmO.out _ (Kp.refl _ _)).mono ?_; rintro e w1 ⟨rfl, rfl⟩) | (go_at_call_of 176 (Value.int .u8 (T : Int)); refine (HmT.out _ (Kp.refl _ _)).mono ?_; rintro e w1 ⟨rfl, rfl⟩))
              go_quiet (fail)
              go_wp2
              go_quiet (fail)
              go_wp2
              refine ⟨rfl, ?_⟩
              rw [HR.out]
              exact ⟨by rw [wrongV, show ((m.at_ + 1 : Nat) : Int) = (m.at_ : Int) + 1 by omega], ⟨Hk1.out.os, Hk1.out.tape, Hk1.out.output, Hk1.out.size, Hk1.out.block⟩⟩
end Go.Proofs.YtmmjcbbogokmfaaGreatDoor

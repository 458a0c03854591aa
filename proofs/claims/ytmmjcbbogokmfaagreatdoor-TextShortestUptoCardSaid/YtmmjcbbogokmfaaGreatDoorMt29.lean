import Derived.Test.YtmmjcbbogokmfaaGreatDoorMt01
import Derived.Test.YtmmjcbbogokmfaaGreatDoorMt05
import Derived.Test.YtmmjcbbogokmfaaGreatDoorMt27
import Derived.Test.YtmmjcbbogokmfaaGreatDoorMt28
import Derived.Shelf.Strconv.Itoa3
import Derived.Shelf.Strconv.AtoiAll
import Derived.Ground.NamesProg
import Derived.Test.YtmmjcbbogokmfaaGreatDoorProg
set_option maxRecDepth 100000
set_option maxHeartbeats 25600000
namespace Go.Proofs.YtmmjcbbogokmfaaGreatDoor
open Go.RowKit
theorem parse_hex (w : World) (s : ByteArray) (a b : UInt8) (hs : sb s = [a, b]) (ha : hexC a = true) (hb : hexC b = true) :
    Calls Tryz.prog 253 #[.string s, .int .i64 16, .int .i64 8] w fun e w' => e = .returned (.tuple #[.int .u64 ((16 * hexV a + hexV b : Nat) : Int), .nilIface]) /\ Old w w' := by
  have H := jJ0 (parse_in w s a b hs ha hb)
  clear hs ha hb
  generalize 16 * hexV a + hexV b = n at *
  go_enter Tryz.func253, Tryz.ntmps253
  go_wp2_with (go_at_call 265; refine H.out.mono ?_; rintro e w1 ⟨rfl, hO⟩)
  go_ret2
  exact ⟨rfl, hO⟩
theorem sb_drop9 (s : ByteArray) (k : Nat) (h : k < s.size) : (sb s).drop k = s[k] :: (sb s).drop (k + 1) := by
  have h' : k < (sb s).length := by rw [jA]; exact h
  rw [List.drop_eq_getElem_cons h']
  rfl
structure Mean (w : World) (s : ByteArray) (v : List UInt8) (wr : World) (j : Nat) (acc : List UInt8) (A : Option Addr) (c : Nat) : Prop where
  le : j <= s.size
  rest : ∃ f r, meantN f ((sb s).drop j) = some r /\ acc ++ r = v
  own : wr.ownsRow w.heap.size 5 1 (.slice A acc.length c) acc.length (acc.map bv)
  old : Old w wr
  len : acc.length <= j
theorem Mean.put {w w2 : World} {s : ByteArray} {v : List UInt8} {wr w3 : World} {j n : Nat} {acc : List UInt8} {A A' : Option Addr} {c c' : Nat} (h : Mean w s v wr j acc A c) (z : UInt8) (hn : j < j + n /\ j + n <= s.size) (hr : ∃ f r, meantN f ((sb s).drop (j + n)) = some r /\ acc ++ z :: r = v)
    (ho : Old wr w2) (hg : w2.grownBy w3 ((Value.slice A acc.length c).ownBlock)) (hown : w3.ownsRow w.heap.size 5 1 (.slice A' (acc.length + 1) c') (acc.length + 1) (acc.map bv ++ [bv z])) : Mean w s v w3 (j + n) (acc ++ [z]) A' c' := by
  obtain ⟨f, r, h1, h2⟩ := hr
  refine ⟨hn.2, ⟨f, r, h1, by rw [List.append_assoc]; exact h2⟩, ?_, (h.old.trans ho (fun _ _ e => e)).grown hg (fun k e hlt => ?_), ?_⟩
  · rw [List.length_append, List.map_append]
    exact hown
  · have := (h.own.lt k e).1
    omega
  · rw [List.length_append, List.length_singleton]
    have := h.len
    omega
theorem meant_any (w : World) (s : ByteArray) (v : List UInt8) (f : Nat) (hv : meantN f (sb s) = some v) (hs : s.size <= 1000000000) :
    Calls Tryz.prog 244 #[.string s] w fun e w' => e = .returned (.string ⟨v.toArray⟩) /\ Old w w' := by
  obtain ⟨i0, hi, hz0, hz1', hz2'⟩ := info_parts Tryz.infoByte
  have H0 := jJ0 (show Mean w s v w 0 [] none 0 from ⟨Nat.zero_le _, ⟨f, v, hv, rfl⟩, World.ownsRow_nil _ _ _ _, Kp.refl _ _, Nat.le_refl _⟩)
  clear hv
  go_enter Tryz.func244, Tryz.ntmps244
  go_wp2
  go_loopw [3, 4] (fun b i wr => ∃ j acc A c, b = .slice A acc.length c /\ i = .int .i64 ((j : Nat) : Int) /\ Mean w s v wr j acc A c) (fun _ i _ => s.size - (intOf i).toNat)
  case atStart => exact ⟨0, [], none, 0, rfl, rfl, H0.out⟩
  case round =>
    clear H0
    obtain ⟨j, acc, A, c, rfl, rfl, hm⟩ := hrel
    have HM := jJ0 hm
    have hown := hm.own
    obtain ⟨f1, r1, hr1, hr2⟩ := hm.rest
    have hle := hm.le
    have hal := hm.len
    have Hbase := jJ0 hm.old.size
    clear hm
    by_cases hlt : j < s.size
    · have hd := sb_drop9 s j hlt
      rw [hd] at hr1
      have b1 : (0 : Int) <= (j : Int) := by omega
      have b2 : (j : Int) < (s.size : Int) := by omega
      have b3 : (j : Int).toNat = j := by omega
      have b4 : IntKind.i64.wrap ((j : Int) + 1) = (j : Int) + 1 := IntWalk.i64_in _ (by omega)
      have J63 := jJ0 (show acc.length + 1 <= maxLen by unfold maxLen; omega)
      have J47 := jJ0 (show (acc.length + 1) * 1 <= 140737488355328 by omega)
      have Hl1 := jJ0 (fun (z : UInt8) => (show (acc ++ [z]).length = acc.length + 1 by rw [List.length_append]; rfl))
      obtain ⟨f1, rfl⟩ : ∃ g, f1 = g + 1 := by
        cases f1 with
        | zero => cases hr1
        | succ g => exact ⟨g, rfl⟩
      have Hown := jJ0 hown
      generalize hx : s[j] = x at *
      by_cases h92 : x.toNat = 92
      · have e92 : ((x.toNat : Int) == 92) = true := beq_iff_eq.2 (by omega)
        have hlt2 : j + 1 < s.size := by
          rcases Nat.lt_or_ge (j + 1) s.size with h | h
          · exact h
          · rw [List.drop_eq_nil_of_le (by rw [jA]; exact h), mN_nil f1 x h92] at hr1
            cases hr1
        have hd2 := sb_drop9 s (j + 1) hlt2
        rw [hd2] at hr1
        have i1 : (0 : Int) <= (j : Int) + 1 := by omega
        have i2 : (j : Int) + 1 < (s.size : Int) := by omega
        have i3 : ((j : Int) + 1).toNat = j + 1 := by omega
        have i4 : IntKind.i64.wrap ((j : Int) + 1 + 1) = (j : Int) + 1 + 1 := IntWalk.i64_in _ (by omega)
        generalize hy : s[j + 1] = y at *
        by_cases h120 : y.toNat = 120
        · obtain ⟨L, hL⟩ : ∃ L, (sb s).drop (j + 2) = L := ⟨_, rfl⟩
          rw [show j + 1 + 1 = j + 2 from rfl, hL] at hr1
          obtain ⟨a, b, l2, hl2⟩ : ∃ a b l2, L = a :: b :: l2 := by
            match L, hr1 with
            | [], h => rw [mN_x0 f1 x y h92 h120] at h; cases h
            | [a], h => rw [mN_x1 f1 x y a h92 h120] at h; cases h
            | a :: b :: l, h => exact ⟨a, b, l, rfl⟩
          subst hl2
          rw [mN_x f1 x y a b l2 h92 h120] at hr1
          have hl2 := hL
          clear hL
          split at hr1
          case isFalse => cases hr1
          rename_i hab
          obtain ⟨r2, e2, e3⟩ := Option.map_eq_some_iff.1 hr1
          have hlen := congrArg List.length hl2
          rw [List.length_drop, jA, List.length_cons, List.length_cons] at hlen
          have hl4 : (sb s).drop (j + 4) = l2 := by rw [show j + 4 = (j + 2) + 2 from rfl, <- List.drop_drop, hl2]; rfl
          have hex : sb (s.extract (j + 2) (j + 4)) = [a, b] := by rw [jo, hl2, show j + 4 - (j + 2) = 2 by omega]; rfl
          have HC := jJ0 (fun W => parse_hex W (s.extract (j + 2) (j + 4)) a b hex hab.1 hab.2)
          have hva : hexV a <= 15 := by have := hexV_of hab.1; omega
          have hvb : hexV b <= 15 := by have := hexV_of hab.2; omega
          generalize hexV a = va at *
          generalize hexV b = vb at *
          generalize hz : 16 * va + vb = zn at *
          obtain ⟨z, hzn⟩ : ∃ z : UInt8, z.toNat = zn := ⟨UInt8.ofNat zn, UInt8.toNat_ofNat_of_lt' (show zn < 256 by omega)⟩
          rw [<- hzn, UInt8.ofNat_toNat] at e3
          have hz8 := z.toNat_lt
          have HR := jJ0 (show ∃ f r, meantN f ((sb s).drop (j + 4)) = some r /\ acc ++ z :: r = v from ⟨f1, r2, by rw [hl4]; exact e2, by rw [<- hr2, <- e3]⟩)
          have HB := jJ0 (show j < j + 4 /\ j + 4 <= s.size by omega)
          have z1 : IntKind.u8.wrap (z.toNat : Int) = (z.toNat : Int) := IntWalk.u8_in _ (by omega)
          subst hzn
          have k1 : IntKind.i64.wrap ((j : Int) + 1 + 1) = (j : Int) + 1 + 1 := IntWalk.i64_in _ (by omega)
          have k2 : IntKind.i64.wrap ((j : Int) + 1 + 3) = (j : Int) + 1 + 3 := IntWalk.i64_in _ (by omega)
          have k3 : (0 : Int) <= (j : Int) + 1 + 1 := by omega
          have k4 : (j : Int) + 1 + 3 <= (s.size : Int) := by omega
          have k5 : (j : Int) + 1 + 1 <= (j : Int) + 1 + 3 := by omega
          have k6 : ((j : Int) + 1 + 1).toNat = j + 2 := by omega
          have k7 : ((j : Int) + 1 + 3).toNat = j + 4 := by omega
          have k8 : IntKind.i64.wrap ((j : Int) + 1 + 2) = (j : Int) + 1 + 2 := IntWalk.i64_in _ (by omega)
          have k9 : IntKind.i64.wrap ((j : Int) + 1 + 2 + 1) = (j : Int) + 1 + 2 + 1 := IntWalk.i64_in _ (by omega)
          have e110 : ((y.toNat : Int) == 110) = false := beq_eq_false_iff_ne.2 (by omega)
          have e116 : ((y.toNat : Int) == 116) = false := beq_eq_false_iff_ne.2 (by omega)
          have e120 : ((y.toNat : Int) == 120) = true := beq_iff_eq.2 (by omega)
          generalize hk : acc.length = k at *
          clear hr1 hr2 e2 e3 hd hd2 h92 hle hal hown hl2 hl4 hex hab hva hvb hlen h120 hz hz8
          go_wp2_with (first | (go_at_call 253; refine (HC.out _).mono ?_; rintro e w2 ⟨rfl, hO⟩; have HO := jJ0 hO; clear hO) | (at_builtin; refine jF _ rfl (.tmp 45) (.tmp 47) 33 rfl w.heap.size 5 i0 (.int .u8 0) 1 1 Tryz.underlying33 hi hz0 hz1' hz2' rfl (by decide) (.slice A k c) k (acc.map bv) rfl (jX (jX Hown.out HO.out (fun _ _ e => e)) ((Kp.refl NoX _).alloc _) (fun _ _ e => e)) _ 1 1 [bv z] rfl (Rd.one_new _ _ _) (kL _ rfl) J63.out J47.out (Nat.le_trans (Nat.le_trans Hbase.out HO.out.size) ((Kp.refl NoX _).alloc _).size) ?_; intro A' c' w3 hown3 hgrow hat; subst hk; have HP := jJ0 (HM.out.put z HB.out HR.out (HO.out.alloc _) hgrow hown3); clear hown3 hgrow hat) | fail)
          exact ⟨⟨j + 4, _, A', c', by rw [Hl1.out], by rw [show ((j + 4 : Nat) : Int) = (j : Int) + 1 + 2 + 1 by omega], HP.out⟩, by have := HB.out; simp only [intOf]; omega⟩
        · rw [mN_esc f1 x y _ h92 h120] at hr1
          obtain ⟨r2, e2, e3⟩ := Option.map_eq_some_iff.1 hr1
          have HB := jJ0 (show j < j + 2 /\ j + 2 <= s.size by omega)
          have HR := jJ0 (show ∃ f r, meantN f ((sb s).drop (j + 2)) = some r /\ acc ++ escC y :: r = v from ⟨f1, r2, e2, by rw [<- hr2, <- e3]⟩)
          have e120 : ((y.toNat : Int) == 120) = false := beq_eq_false_iff_ne.2 (by omega)
          clear hr1 hr2 e2 e3
          by_cases h110 : y.toNat = 110
          · have e110 : ((y.toNat : Int) == 110) = true := beq_iff_eq.2 (by omega)
            rw [show escC y = 10 by unfold escC; rw [if_pos h110]] at HR
            generalize hk : acc.length = k at *
            clear hd hd2 h92 hle hal hown h120 h110
            go_wp2_with (at_builtin; refine jF _ rfl (.tmp 45) (.tmp 47) 33 rfl w.heap.size 5 i0 (.int .u8 0) 1 1 Tryz.underlying33 hi hz0 hz1' hz2' rfl (by decide) (.slice A k c) k (acc.map bv) rfl (jX Hown.out ((Kp.refl NoX _).alloc _) (fun _ _ e => e)) _ 1 1 [bv 10] rfl (Rd.one_new _ _ _) (kL _ rfl) J63.out J47.out (Nat.le_trans Hbase.out ((Kp.refl NoX _).alloc _).size) ?_; intro A' c' w3 hown3 hgrow hat; subst hk; have HP := jJ0 (HM.out.put 10 HB.out HR.out ((Kp.refl NoX _).alloc _) hgrow hown3); clear hown3 hgrow hat)
            exact ⟨⟨j + 2, _, A', c', by rw [Hl1.out], by rw [show ((j + 2 : Nat) : Int) = (j : Int) + 1 + 1 by omega], HP.out⟩, by have := HB.out; simp only [intOf]; omega⟩
          · have e110 : ((y.toNat : Int) == 110) = false := beq_eq_false_iff_ne.2 (by omega)
            by_cases h116 : y.toNat = 116
            · have e116 : ((y.toNat : Int) == 116) = true := beq_iff_eq.2 (by omega)
              rw [show escC y = 9 by unfold escC; rw [if_neg h110, if_pos h116]] at HR
              generalize hk : acc.length = k at *
              clear hd hd2 h92 hle hal hown h120 h110 h116
              go_wp2_with (at_builtin; refine jF _ rfl (.tmp 45) (.tmp 47) 33 rfl w.heap.size 5 i0 (.int .u8 0) 1 1 Tryz.underlying33 hi hz0 hz1' hz2' rfl (by decide) (.slice A k c) k (acc.map bv) rfl (jX Hown.out ((Kp.refl NoX _).alloc _) (fun _ _ e => e)) _ 1 1 [bv 9] rfl (Rd.one_new _ _ _) (kL _ rfl) J63.out J47.out (Nat.le_trans Hbase.out ((Kp.refl NoX _).alloc _).size) ?_; intro A' c' w3 hown3 hgrow hat; subst hk; have HP := jJ0 (HM.out.put 9 HB.out HR.out ((Kp.refl NoX _).alloc _) hgrow hown3); clear hown3 hgrow hat)
              exact ⟨⟨j + 2, _, A', c', by rw [Hl1.out], by rw [show ((j + 2 : Nat) : Int) = (j : Int) + 1 + 1 by omega], HP.out⟩, by have := HB.out; simp only [intOf]; omega⟩
            · have e116 : ((y.toNat : Int) == 116) = false := beq_eq_false_iff_ne.2 (by omega)
              rw [show escC y = y by unfold escC; rw [if_neg h110, if_neg h116]] at HR
              generalize hk : acc.length = k at *
              clear hd hd2 h92 hle hal hown h120 h110 h116
              go_wp2_with (at_builtin; refine jF _ rfl (.tmp 45) (.tmp 47) 33 rfl w.heap.size 5 i0 (.int .u8 0) 1 1 Tryz.underlying33 hi hz0 hz1' hz2' rfl (by decide) (.slice A k c) k (acc.map bv) rfl (jX Hown.out ((Kp.refl NoX _).alloc _) (fun _ _ e => e)) _ 1 1 [bv y] rfl (Rd.one_new _ _ _) (kL _ rfl) J63.out J47.out (Nat.le_trans Hbase.out ((Kp.refl NoX _).alloc _).size) ?_; intro A' c' w3 hown3 hgrow hat; subst hk; have HP := jJ0 (HM.out.put y HB.out HR.out ((Kp.refl NoX _).alloc _) hgrow hown3); clear hown3 hgrow hat)
              exact ⟨⟨j + 2, _, A', c', by rw [Hl1.out], by rw [show ((j + 2 : Nat) : Int) = (j : Int) + 1 + 1 by omega], HP.out⟩, by have := HB.out; simp only [intOf]; omega⟩
      · rw [mN_plain f1 x _ h92] at hr1
        obtain ⟨r2, e2, e3⟩ := Option.map_eq_some_iff.1 hr1
        have e92 : ((x.toNat : Int) == 92) = false := beq_eq_false_iff_ne.2 (by omega)
        have HR := jJ0 (show ∃ f r, meantN f ((sb s).drop (j + 1)) = some r /\ acc ++ x :: r = v from ⟨f1, r2, e2, by rw [<- hr2, <- e3]⟩)
        have HB := jJ0 (show j < j + 1 /\ j + 1 <= s.size by omega)
        generalize hk : acc.length = k at *
        clear hr1 hr2 e2 e3 hd h92 hle hal hown
        go_wp2_with (at_builtin; refine jF _ rfl (.tmp 45) (.tmp 47) 33 rfl w.heap.size 5 i0 (.int .u8 0) 1 1 Tryz.underlying33 hi hz0 hz1' hz2' rfl (by decide) (.slice A k c) k (acc.map bv) rfl (jX Hown.out ((Kp.refl NoX _).alloc _) (fun _ _ e => e)) _ 1 1 [bv x] rfl (Rd.one_new _ _ _) (kL _ rfl) J63.out J47.out (Nat.le_trans Hbase.out ((Kp.refl NoX _).alloc _).size) ?_; intro A' c' w3 hown3 hgrow hat; subst hk; have HP := jJ0 (HM.out.put x HB.out HR.out ((Kp.refl NoX _).alloc _) hgrow hown3); clear hown3 hgrow hat)
        exact ⟨⟨j + 1, _, A', c', by rw [Hl1.out], by rw [show ((j + 1 : Nat) : Int) = (j : Int) + 1 by omega], HP.out⟩, by have := HB.out; simp only [intOf]; omega⟩
    · obtain rfl : j = s.size := by omega
      rw [List.drop_eq_nil_of_le (by rw [jA]; exact Nat.le_refl _)] at hr1
      have hr3 : r1 = [] := by
        cases f1 with
        | zero => cases hr1
        | succ g => rw [meantN] at hr1; injection hr1 with hr1; exact hr1.symm
      rw [hr3, List.append_nil] at hr2
      subst hr2
      have hcv := vu (P := Tryz.prog) (w := wr) Tryz.underlying33 Tryz.underlying5 Tryz.underlying9 A acc.length c acc (Rd.of_own hown)
      have HO := jJ0 HM.out.old
      clear hr1 hown HM hle hal Hbase
      go_wp2
      go_ret
      exact ⟨rfl, HO.out⟩
end Go.Proofs.YtmmjcbbogokmfaaGreatDoor
namespace Go.Proofs
open Go.Shelf
def Tryz.itoaL_ren : Go.Shelf.Ren := ⟨fun | 171 => 221 | 243 => 235 | 246 => 242 | 283 => 247 | 284 => 248 | 285 => 249 | 286 => 250 | 129 => 256 | 317 => 255 | 318 => 257 | 319 => 258 | 320 => 259 | 337 => 268 | 338 => 269 | n => n, fun | 3 => 3 | 9 => 9 | 2 => 2 | 4 => 4 | 171 => 287 | 0 => 0 | 53 => 288 | 37 => 33 | 5 => 5 | 173 => 291 | 212 => 297 | 51 => 298 | 20 => 20 | 213 => 299 | 46 => 200 | 232 => 315 | 233 => 316 | n => n, fun | 17 => 3 | 18 => 6 | 19 => 7 | n => n⟩
theorem Tryz.itoaL : Go.Proofs.LaysM.n171 Tryz.prog Tryz.itoaL_ren := {
  mixed := by kernel_rfl
  f129 := Tryz.func256.trans (congrArg some (by kernel_rfl))
  f171 := Tryz.func221.trans (congrArg some (by kernel_rfl))
  f243 := Tryz.func235.trans (congrArg some (by kernel_rfl))
  f246 := Tryz.func242.trans (congrArg some (by kernel_rfl))
  f283 := Tryz.func247.trans (congrArg some (by kernel_rfl))
  f284 := Tryz.func248.trans (congrArg some (by kernel_rfl))
  f285 := Tryz.func249.trans (congrArg some (by kernel_rfl))
  f286 := Tryz.func250.trans (congrArg some (by kernel_rfl))
  f317 := Tryz.func255.trans (congrArg some (by kernel_rfl))
  f318 := Tryz.func257.trans (congrArg some (by kernel_rfl))
  f319 := Tryz.func258.trans (congrArg some (by kernel_rfl))
  f320 := Tryz.func259.trans (congrArg some (by kernel_rfl))
  f337 := Tryz.func268.trans (congrArg some (by kernel_rfl))
  f338 := Tryz.func269.trans (congrArg some (by kernel_rfl))
  t0 := Tryz.underlying0
  a0 := Tryz.isAgg0
  z0 := Tryz.sizeOf0
  v0 := Tryz.zeroValue0
  t2 := Tryz.underlying2
  a2 := Tryz.isAgg2
  z2 := Tryz.sizeOf2
  v2 := Tryz.zeroValue2
  t3 := Tryz.underlying3
  a3 := Tryz.isAgg3
  z3 := Tryz.sizeOf3
  v3 := Tryz.zeroValue3
  t4 := Tryz.underlying4
  a4 := Tryz.isAgg4
  z4 := Tryz.sizeOf4
  v4 := Tryz.zeroValue4
  t5 := Tryz.underlying5
  a5 := Tryz.isAgg5
  z5 := Tryz.sizeOf5
  v5 := Tryz.zeroValue5
  t9 := Tryz.underlying9
  a9 := Tryz.isAgg9
  z9 := Tryz.sizeOf9
  v9 := Tryz.zeroValue9
  t20 := Tryz.underlying20
  a20 := Tryz.isAgg20
  z20 := Tryz.sizeOf20
  v20 := Tryz.zeroValue20
  t37 := Tryz.underlying33
  a37 := Tryz.isAgg33
  z37 := Tryz.sizeOf33
  v37 := Tryz.zeroValue33
  t46 := Tryz.underlying200
  a46 := Tryz.isAgg200
  z46 := Tryz.sizeOf200
  v46 := Tryz.zeroValue200
  t51 := Tryz.underlying298
  a51 := Tryz.isAgg298
  z51 := Tryz.sizeOf298
  v51 := Tryz.zeroValue298
  t53 := Tryz.underlying288
  a53 := Tryz.isAgg288
  z53 := Tryz.sizeOf288
  v53 := Tryz.zeroValue288
  t171 := Tryz.underlying287
  a171 := Tryz.isAgg287
  z171 := Tryz.sizeOf287
  v171 := Tryz.zeroValue287
  t173 := Tryz.underlying291
  a173 := Tryz.isAgg291
  z173 := Tryz.sizeOf291
  v173 := Tryz.zeroValue291
  t212 := Tryz.underlying297
  a212 := Tryz.isAgg297
  z212 := Tryz.sizeOf297
  v212 := Tryz.zeroValue297
  t213 := Tryz.underlying299
  a213 := Tryz.isAgg299
  z213 := Tryz.sizeOf299
  t232 := Tryz.underlying315
  a232 := Tryz.isAgg315
  z232 := Tryz.sizeOf315
  v232 := Tryz.zeroValue315
  t233 := Tryz.underlying316
  a233 := Tryz.isAgg316
  z233 := Tryz.sizeOf316
  v233 := Tryz.zeroValue316
  g17 := by kernel_rfl
  g18 := by kernel_rfl
  g19 := by kernel_rfl
  i0 := by kernel_rfl
  i2 := by kernel_rfl
  i3 := by kernel_rfl
  i4 := by kernel_rfl
  i5 := by kernel_rfl
  i9 := by kernel_rfl
  i20 := by kernel_rfl
  i37 := by kernel_rfl
  i46 := by kernel_rfl
  i51 := by kernel_rfl
  i53 := by kernel_rfl
  i171 := by kernel_rfl
  i173 := by kernel_rfl
  i212 := by kernel_rfl
  i232 := by kernel_rfl
  i233 := by kernel_rfl
  m17 := by kernel_rfl
  m18 := by kernel_rfl
  m19 := by kernel_rfl }
def Tryz.atoiL_ren : Go.Shelf.Ren := ⟨fun | 172 => 243 | 244 => 251 | 245 => 252 | 247 => 260 | 279 => 261 | 280 => 262 | 281 => 263 | 282 => 264 | 287 => 265 | 316 => 270 | 171 => 221 | 205 => 271 | 321 => 272 | 322 => 273 | 243 => 235 | 246 => 242 | 283 => 247 | 284 => 248 | 285 => 249 | 286 => 250 | 129 => 256 | 317 => 255 | 318 => 257 | 319 => 258 | 320 => 259 | 337 => 268 | 338 => 269 | n => n, fun | 9 => 9 | 3 => 3 | 75 => 283 | 76 => 284 | 4 => 4 | 5 => 5 | 167 => 301 | 37 => 33 | 0 => 0 | 85 => 302 | 2 => 2 | 168 => 304 | 53 => 288 | 175 => 294 | 46 => 200 | 210 => 309 | 127 => 317 | 145 => 320 | 143 => 318 | 21 => 21 | 171 => 287 | 173 => 291 | 212 => 297 | 51 => 298 | 20 => 20 | 213 => 299 | 232 => 315 | 233 => 316 | 80 => 240 | n => n, fun | 15 => 4 | 16 => 5 | 17 => 3 | 18 => 6 | 19 => 7 | n => n⟩
theorem Tryz.atoiL : Go.Proofs.LaysC.n172 Tryz.prog Tryz.atoiL_ren := {
  mixed := by kernel_rfl
  f129 := Tryz.func256.trans (congrArg some (by kernel_rfl))
  f171 := Tryz.func221.trans (congrArg some (by kernel_rfl))
  f172 := Tryz.func243.trans (congrArg some (by kernel_rfl))
  f205 := Tryz.func271.trans (congrArg some (by kernel_rfl))
  f243 := Tryz.func235.trans (congrArg some (by kernel_rfl))
  f244 := Tryz.func251.trans (congrArg some (by kernel_rfl))
  f245 := Tryz.func252.trans (congrArg some (by kernel_rfl))
  f246 := Tryz.func242.trans (congrArg some (by kernel_rfl))
  f247 := Tryz.func260.trans (congrArg some (by kernel_rfl))
  f279 := Tryz.func261.trans (congrArg some (by kernel_rfl))
  f280 := Tryz.func262.trans (congrArg some (by kernel_rfl))
  f281 := Tryz.func263.trans (congrArg some (by kernel_rfl))
  f282 := Tryz.func264.trans (congrArg some (by kernel_rfl))
  f283 := Tryz.func247.trans (congrArg some (by kernel_rfl))
  f284 := Tryz.func248.trans (congrArg some (by kernel_rfl))
  f285 := Tryz.func249.trans (congrArg some (by kernel_rfl))
  f286 := Tryz.func250.trans (congrArg some (by kernel_rfl))
  f287 := Tryz.func265.trans (congrArg some (by kernel_rfl))
  f316 := Tryz.func270.trans (congrArg some (by kernel_rfl))
  f317 := Tryz.func255.trans (congrArg some (by kernel_rfl))
  f318 := Tryz.func257.trans (congrArg some (by kernel_rfl))
  f319 := Tryz.func258.trans (congrArg some (by kernel_rfl))
  f320 := Tryz.func259.trans (congrArg some (by kernel_rfl))
  f321 := Tryz.func272.trans (congrArg some (by kernel_rfl))
  f322 := Tryz.func273.trans (congrArg some (by kernel_rfl))
  f337 := Tryz.func268.trans (congrArg some (by kernel_rfl))
  f338 := Tryz.func269.trans (congrArg some (by kernel_rfl))
  t0 := Tryz.underlying0
  a0 := Tryz.isAgg0
  z0 := Tryz.sizeOf0
  v0 := Tryz.zeroValue0
  t2 := Tryz.underlying2
  a2 := Tryz.isAgg2
  z2 := Tryz.sizeOf2
  v2 := Tryz.zeroValue2
  t3 := Tryz.underlying3
  a3 := Tryz.isAgg3
  z3 := Tryz.sizeOf3
  v3 := Tryz.zeroValue3
  t4 := Tryz.underlying4
  a4 := Tryz.isAgg4
  z4 := Tryz.sizeOf4
  v4 := Tryz.zeroValue4
  t5 := Tryz.underlying5
  a5 := Tryz.isAgg5
  z5 := Tryz.sizeOf5
  v5 := Tryz.zeroValue5
  t9 := Tryz.underlying9
  a9 := Tryz.isAgg9
  z9 := Tryz.sizeOf9
  v9 := Tryz.zeroValue9
  t20 := Tryz.underlying20
  a20 := Tryz.isAgg20
  z20 := Tryz.sizeOf20
  v20 := Tryz.zeroValue20
  t21 := Tryz.underlying21
  a21 := Tryz.isAgg21
  z21 := Tryz.sizeOf21
  v21 := Tryz.zeroValue21
  t37 := Tryz.underlying33
  a37 := Tryz.isAgg33
  z37 := Tryz.sizeOf33
  v37 := Tryz.zeroValue33
  t46 := Tryz.underlying200
  a46 := Tryz.isAgg200
  z46 := Tryz.sizeOf200
  v46 := Tryz.zeroValue200
  t51 := Tryz.underlying298
  a51 := Tryz.isAgg298
  z51 := Tryz.sizeOf298
  v51 := Tryz.zeroValue298
  t53 := Tryz.underlying288
  a53 := Tryz.isAgg288
  z53 := Tryz.sizeOf288
  v53 := Tryz.zeroValue288
  t75 := Tryz.underlying283
  a75 := Tryz.isAgg283
  z75 := Tryz.sizeOf283
  v75 := Tryz.zeroValue283
  t76 := Tryz.underlying284
  a76 := Tryz.isAgg284
  z76 := Tryz.sizeOf284
  v76 := Tryz.zeroValue284
  t85 := Tryz.underlying302
  a85 := Tryz.isAgg302
  z85 := Tryz.sizeOf302
  v85 := Tryz.zeroValue302
  t127 := Tryz.underlying317
  a127 := Tryz.isAgg317
  z127 := Tryz.sizeOf317
  v127 := Tryz.zeroValue317
  t143 := Tryz.underlying318
  a143 := Tryz.isAgg318
  z143 := Tryz.sizeOf318
  v143 := Tryz.zeroValue318
  t145 := Tryz.underlying320
  a145 := Tryz.isAgg320
  z145 := Tryz.sizeOf320
  v145 := Tryz.zeroValue320
  t167 := Tryz.underlying301
  a167 := Tryz.isAgg301
  z167 := Tryz.sizeOf301
  v167 := Tryz.zeroValue301
  t168 := Tryz.underlying304
  a168 := Tryz.isAgg304
  z168 := Tryz.sizeOf304
  v168 := Tryz.zeroValue304
  t171 := Tryz.underlying287
  a171 := Tryz.isAgg287
  z171 := Tryz.sizeOf287
  v171 := Tryz.zeroValue287
  t173 := Tryz.underlying291
  a173 := Tryz.isAgg291
  z173 := Tryz.sizeOf291
  v173 := Tryz.zeroValue291
  t175 := Tryz.underlying294
  a175 := Tryz.isAgg294
  z175 := Tryz.sizeOf294
  v175 := Tryz.zeroValue294
  t210 := Tryz.underlying309
  a210 := Tryz.isAgg309
  z210 := Tryz.sizeOf309
  v210 := Tryz.zeroValue309
  t212 := Tryz.underlying297
  a212 := Tryz.isAgg297
  z212 := Tryz.sizeOf297
  v212 := Tryz.zeroValue297
  t213 := Tryz.underlying299
  a213 := Tryz.isAgg299
  z213 := Tryz.sizeOf299
  t232 := Tryz.underlying315
  a232 := Tryz.isAgg315
  z232 := Tryz.sizeOf315
  v232 := Tryz.zeroValue315
  t233 := Tryz.underlying316
  a233 := Tryz.isAgg316
  z233 := Tryz.sizeOf316
  v233 := Tryz.zeroValue316
  g15 := by kernel_rfl
  g16 := by kernel_rfl
  g17 := by kernel_rfl
  g18 := by kernel_rfl
  g19 := by kernel_rfl
  t80 := Tryz.underlying240
  a80 := Tryz.isAgg240
  z80 := Tryz.sizeOf240
  v80 := Tryz.zeroValue240
  i0 := by kernel_rfl
  i2 := by kernel_rfl
  i3 := by kernel_rfl
  i4 := by kernel_rfl
  i5 := by kernel_rfl
  i9 := by kernel_rfl
  i20 := by kernel_rfl
  i21 := by kernel_rfl
  i37 := by kernel_rfl
  i46 := by kernel_rfl
  i51 := by kernel_rfl
  i53 := by kernel_rfl
  i75 := by kernel_rfl
  i76 := by kernel_rfl
  i80 := by kernel_rfl
  i85 := by kernel_rfl
  i127 := by kernel_rfl
  i143 := by kernel_rfl
  i145 := by kernel_rfl
  i167 := by kernel_rfl
  i168 := by kernel_rfl
  i171 := by kernel_rfl
  i173 := by kernel_rfl
  i175 := by kernel_rfl
  i210 := by kernel_rfl
  i212 := by kernel_rfl
  i232 := by kernel_rfl
  i233 := by kernel_rfl
  m15 := by kernel_rfl
  m16 := by kernel_rfl
  m17 := by kernel_rfl
  m18 := by kernel_rfl
  m19 := by kernel_rfl
  c0 := by kernel_rfl
  c2 := by kernel_rfl
  c3 := by kernel_rfl
  c4 := by kernel_rfl
  c5 := by kernel_rfl
  c9 := by kernel_rfl
  c20 := by kernel_rfl
  c21 := by kernel_rfl
  c37 := by kernel_rfl
  c46 := by kernel_rfl
  c51 := by kernel_rfl
  c53 := by kernel_rfl
  c75 := by kernel_rfl
  c76 := by kernel_rfl
  c80 := by kernel_rfl
  c85 := by kernel_rfl
  c127 := by kernel_rfl
  c143 := by kernel_rfl
  c145 := by kernel_rfl
  c167 := by kernel_rfl
  c168 := by kernel_rfl
  c171 := by kernel_rfl
  c173 := by kernel_rfl
  c175 := by kernel_rfl
  c210 := by kernel_rfl
  c212 := by kernel_rfl
  c213 := by kernel_rfl
  c232 := by kernel_rfl
  c233 := by kernel_rfl }
end Go.Proofs
namespace Go.Proofs.YtmmjcbbogokmfaaGreatDoor
open Go.RowKit
theorem atoi_any (w : World) (s : ByteArray) (h : jc (sb s) = true) (hne : sb s ≠ []) (hs : s.size <= 1000000) :
    Calls Tryz.prog 243 #[.string s] w fun e w' => e = .returned (.tuple #[.int .i64 (decN (sb s) 0 : Nat), .nilIface]) /\ Old w w' :=
  Calls.mono (Any.strconv_Atoi_ok Tryz.atoiL s (by omega) _ (dec_atoi h hne) w) fun e w' ⟨he, hw⟩ => ⟨he, by
    rcases hw with rfl | ⟨t, rfl⟩
    · exact Kp.refl _ _
    · exact Kp.of_below (Lib.bytesWorld_below _ _ _)⟩
theorem lexeme_le {w : World} {g : Nat} {src : ByteArray} {r : Rdr} {s : Sl} (h : St w g src r s) : (kD (sb src) r).length <= 1000000 := by
  unfold kD
  rw [List.length_drop, List.length_take, jA]
  have := h.small
  omega
theorem lit_int (w : World) (g : Nat) (src : ByteArray) (r r1 r' : Rdr) (s : Sl) (x : Int) (at_ : Nat) (h : St w g src r s) (ht : r.t = 2) (h0 : kD (sb src) r ≠ []) (hd : jc (kD (sb src) r) = true) (hn : jy (sb src) r = some r1)
    (hx : vX ⟨1, ⟨#[]⟩, 1, (decN (kD (sb src) r) 0 : Nat), ⟨#[]⟩, [], []⟩ at_ r1 = some (x, r')) :
    Calls Tryz.prog 236 #[.pointer (some ⟨g, 0, none⟩), iv (at_ : Int)] w (Ex w g src s r' (iv x)) := by
  have hc3 := h.box.c3
  rw [ht] at hc3
  have HS := jJ0 h
  have HN := jJ0 hn
  have HL := jJ0 (fun n => vw (w.drewN n) g src r s (h.drewN n))
  obtain ⟨h1, h2, h3, h4⟩ := vm hx
  have hln := lexeme_le h
  generalize kD (sb src) r = lx at *
  have HA := jJ0 (fun W => atoi_any W ⟨lx.toArray⟩ (by rw [vr]; exact hd) (by rw [vr]; exact h0) (by rw [<- jA, vr]; exact hln))
  rw [vr] at HA
  generalize decN lx 0 = nv at *
  have HB := jJ0 h1
  have HT := jJ0 h2
  generalize hq : r1.tree.nodes.length = q at *
  subst h3
  clear h hn hx h1 h2 ht h0 hd hln
  unfold iv
  have f1 : (0 : Int) <= (q : Int) := by omega
  have f2 : (q : Int).toNat = q := by omega
  have f3 : (q : Int) < (q : Int) + 1 := by omega
  go_enter Tryz.func236, Tryz.ntmps236
  go_wp2
  go_quiet ((go_at_call 165; exact Calls.quiet_of (HL.out _)))
  go_wp2_with (first | (go_at_call 135; refine (jN _ g src _ _ s (HS.out.drewN _) HN.out).mono ?_; rintro e w1 ⟨rfl, hX⟩; have HX := jJ0 hX; clear hX) | (go_at_call 201; refine (kK _ g src _ _ s 4 _ _ none 0 [] HX.out.1 Rd.none_ (fun h0 => absurd h0 (Nat.lt_irrefl 0)) HB.out).mono ?_; rintro e w2 ⟨rfl, s2, hY, hYf⟩; obtain ⟨k, ns, xx, ps, hxn, hns, hLN, hc11⟩ := hY.lastC rfl hq; have d0 : w2.cell? ⟨k, q * 7, none⟩ = _ := (hLN.cell 0 rfl).1; have z0 : w2.frozen? ⟨k, q * 7, none⟩ = false := (hLN.cell 0 rfl).2; have d2 := (hLN.cell 2 rfl).1; have z2 := (hLN.cell 2 rfl).2; have d3 := (hLN.cell 3 rfl).1; have z3 := (hLN.cell 3 rfl).2; have d4 := (hLN.cell 4 rfl).1; have z4 := (hLN.cell 4 rfl).2; have d5 := (hLN.cell 5 rfl).1; have z5 := (hLN.cell 5 rfl).2; have HLN := jJ0 hLN; have HF := jJ0 hYf; clear hLN hY hYf; unfold iv) | (go_at_call 243; refine (HA.out _).mono ?_; rintro e w3 ⟨rfl, hO⟩; have HLN3 := jJ0 (HLN.out.old hO); have d0 : w3.cell? ⟨k, q * 7, none⟩ = _ := (HLN3.out.cell 0 rfl).1; have z0 : w3.frozen? ⟨k, q * 7, none⟩ = false := (HLN3.out.cell 0 rfl).2; have d2 := (HLN3.out.cell 2 rfl).1; have z2 := (HLN3.out.cell 2 rfl).2; have d3 := (HLN3.out.cell 3 rfl).1; have z3 := (HLN3.out.cell 3 rfl).2; have d4 := (HLN3.out.cell 4 rfl).1; have z4 := (HLN3.out.cell 4 rfl).2; have d5 := (HLN3.out.cell 5 rfl).1; have z5 := (HLN3.out.cell 5 rfl).2; clear hO) | fail)
  go_ret
  have HD := jJ0 ((((((HLN3.out.set_ 0 (.int .i64 1)).set_ 2 (.int .i64 1)).set_ 3 (.int .i64 (nv : Int))).set_ 4 (.string ⟨#[]⟩)).set_ 5 (.slice none 0 0)).lit hns HT.out rfl rfl none 0 (by simp only [ndC, hxn]; rfl))
  exact ⟨rfl, s2, HD.out.1, (((Fr.of_old s ((Kp.refl _ _).drewN _)).trans HX.out.2).trans HF.out).trans HD.out.2⟩
theorem lit_text (w : World) (g : Nat) (src : ByteArray) (r r1 r' : Rdr) (s : Sl) (x : Int) (at_ : Nat) (h : St w g src r s) (ht : r.t = 3) (v : List UInt8) (h0 : 2 <= (kD (sb src) r).length) (hd : meantN ((kD (sb src) r).length + 1) (((kD (sb src) r).drop 1).take ((kD (sb src) r).length - 2)) = some v) (hn : jy (sb src) r = some r1)
    (hx : vX ⟨3, ⟨#[]⟩, 3, 0, ⟨v.toArray⟩, [], []⟩ at_ r1 = some (x, r')) :
    Calls Tryz.prog 236 #[.pointer (some ⟨g, 0, none⟩), iv (at_ : Int)] w (Ex w g src s r' (iv x)) := by
  have hc3 := h.box.c3
  rw [ht] at hc3
  have HS := jJ0 h
  have HN := jJ0 hn
  have HL := jJ0 (fun n => vw (w.drewN n) g src r s (h.drewN n))
  obtain ⟨h1, h2, h3, h4⟩ := vm hx
  have hln := lexeme_le h
  generalize kD (sb src) r = lx at *
  obtain ⟨nl, hnl⟩ : ∃ n, lx.length = n + 2 := ⟨lx.length - 2, by omega⟩
  have hsz : (⟨lx.toArray⟩ : ByteArray).size = nl + 2 := by rw [<- jA, vr, hnl]
  rw [hnl, Nat.add_sub_cancel] at hd
  have HA := jJ0 (fun W => meant_any W ((⟨lx.toArray⟩ : ByteArray).extract 1 (nl + 1)) v _ (by rw [jo, vr, Nat.add_sub_cancel]; exact hd) (by rw [<- jA, jo, List.length_take, List.length_drop, vr]; omega))
  have HB := jJ0 h1
  have HT := jJ0 h2
  generalize hq : r1.tree.nodes.length = q at *
  subst h3
  have f4 : ((nl : Int) + 2 - 1) = (nl : Int) + 1 := by omega
  have f5 : IntKind.i64.wrap ((nl : Int) + 1) = (nl : Int) + 1 := IntWalk.i64_in _ (by omega)
  have f6 : (0 : Int) <= (nl : Int) + 1 := by omega
  have f7 : ((nl : Int) + 1).toNat = nl + 1 := by omega
  have f8 : (nl : Int) + 1 <= (nl : Int) + 2 := by omega
  have f9 : (1 : Int) <= (nl : Int) + 1 := by omega
  clear h hn hx h1 h2 ht h0 hd hln hnl
  unfold iv
  have f1 : (0 : Int) <= (q : Int) := by omega
  have f2 : (q : Int).toNat = q := by omega
  have f3 : (q : Int) < (q : Int) + 1 := by omega
  go_enter Tryz.func236, Tryz.ntmps236
  go_wp2
  go_quiet ((go_at_call 165; exact Calls.quiet_of (HL.out _)))
  go_wp2_with (first | (go_at_call 135; refine (jN _ g src _ _ s (HS.out.drewN _) HN.out).mono ?_; rintro e w1 ⟨rfl, hX⟩; have HX := jJ0 hX; clear hX) | (go_at_call 201; refine (kK _ g src _ _ s 4 _ _ none 0 [] HX.out.1 Rd.none_ (fun h0 => absurd h0 (Nat.lt_irrefl 0)) HB.out).mono ?_; rintro e w2 ⟨rfl, s2, hY, hYf⟩; obtain ⟨k, ns, xx, ps, hxn, hns, hLN, hc11⟩ := hY.lastC rfl hq; have d0 : w2.cell? ⟨k, q * 7, none⟩ = _ := (hLN.cell 0 rfl).1; have z0 : w2.frozen? ⟨k, q * 7, none⟩ = false := (hLN.cell 0 rfl).2; have d2 := (hLN.cell 2 rfl).1; have z2 := (hLN.cell 2 rfl).2; have d3 := (hLN.cell 3 rfl).1; have z3 := (hLN.cell 3 rfl).2; have d4 := (hLN.cell 4 rfl).1; have z4 := (hLN.cell 4 rfl).2; have d5 := (hLN.cell 5 rfl).1; have z5 := (hLN.cell 5 rfl).2; have HLN := jJ0 hLN; have HF := jJ0 hYf; clear hLN hY hYf; unfold iv) | (go_at_call 244; refine (HA.out _).mono ?_; rintro e w3 ⟨rfl, hO⟩; have HLN3 := jJ0 (HLN.out.old hO); have d0 : w3.cell? ⟨k, q * 7, none⟩ = _ := (HLN3.out.cell 0 rfl).1; have z0 : w3.frozen? ⟨k, q * 7, none⟩ = false := (HLN3.out.cell 0 rfl).2; have d2 := (HLN3.out.cell 2 rfl).1; have z2 := (HLN3.out.cell 2 rfl).2; have d3 := (HLN3.out.cell 3 rfl).1; have z3 := (HLN3.out.cell 3 rfl).2; have d4 := (HLN3.out.cell 4 rfl).1; have z4 := (HLN3.out.cell 4 rfl).2; have d5 := (HLN3.out.cell 5 rfl).1; have z5 := (HLN3.out.cell 5 rfl).2; clear hO) | fail)
  go_ret
  have HD := jJ0 ((((((HLN3.out.set_ 0 (.int .i64 3)).set_ 2 (.int .i64 3)).set_ 3 (.int .i64 0)).set_ 4 (.string ⟨v.toArray⟩)).set_ 5 (.slice none 0 0)).lit hns HT.out rfl rfl none 0 (by simp only [ndC, hxn]; rfl))
  exact ⟨rfl, s2, HD.out.1, (((Fr.of_old s ((Kp.refl _ _).drewN _)).trans HX.out.2).trans HF.out).trans HD.out.2⟩
theorem lit_nothing (w : World) (g : Nat) (src : ByteArray) (r r1 r' : Rdr) (s : Sl) (x : Int) (at_ : Nat) (h : St w g src r s) (ht : r.t = 48) (hn : jy (sb src) r = some r1)
    (hx : vX (kt 4 []) at_ r1 = some (x, r')) :
    Calls Tryz.prog 236 #[.pointer (some ⟨g, 0, none⟩), iv (at_ : Int)] w (Ex w g src s r' (iv x)) := by
  have hc3 := h.box.c3
  rw [ht] at hc3
  have HS := jJ0 h
  have HN := jJ0 hn
  have HL := jJ0 (fun n => vw (w.drewN n) g src r s (h.drewN n))
  obtain ⟨h1, h2, h3, h4⟩ := vm hx
  generalize kD (sb src) r = lx at *
  have HB := jJ0 h1
  have HT := jJ0 h2
  generalize hq : r1.tree.nodes.length = q at *
  subst h3
  clear h hn hx h1 h2 ht
  unfold iv
  have f1 : (0 : Int) <= (q : Int) := by omega
  have f2 : (q : Int).toNat = q := by omega
  have f3 : (q : Int) < (q : Int) + 1 := by omega
  go_enter Tryz.func236, Tryz.ntmps236
  go_wp2
  go_quiet ((go_at_call 165; exact Calls.quiet_of (HL.out _)))
  go_wp2_with (first | (go_at_call 135; refine (jN _ g src _ _ s (HS.out.drewN _) HN.out).mono ?_; rintro e w1 ⟨rfl, hX⟩; have HX := jJ0 hX; clear hX) | (go_at_call 201; refine (kK _ g src _ _ s 4 _ _ none 0 [] HX.out.1 Rd.none_ (fun h0 => absurd h0 (Nat.lt_irrefl 0)) HB.out).mono ?_; rintro e w2 ⟨rfl, s2, hY, hYf⟩; obtain ⟨k, ns, xx, ps, hxn, hns, hLN, hc11⟩ := hY.lastC rfl hq; have d0 : w2.cell? ⟨k, q * 7, none⟩ = _ := (hLN.cell 0 rfl).1; have z0 : w2.frozen? ⟨k, q * 7, none⟩ = false := (hLN.cell 0 rfl).2; have d1 := (hLN.cell 1 rfl).1; have z1 := (hLN.cell 1 rfl).2; have HLN := jJ0 hLN; have HF := jJ0 hYf; clear hLN hY hYf; unfold iv) | fail)
  go_ret
  have HD := jJ0 (HLN.out.lit hns HT.out rfl rfl xx.vA xx.vc (by simp only [ndC, hxn]))
  exact ⟨rfl, s2, HD.out.1, (((Fr.of_old s ((Kp.refl _ _).drewN _)).trans HX.out.2).trans HF.out).trans HD.out.2⟩
end Go.Proofs.YtmmjcbbogokmfaaGreatDoor

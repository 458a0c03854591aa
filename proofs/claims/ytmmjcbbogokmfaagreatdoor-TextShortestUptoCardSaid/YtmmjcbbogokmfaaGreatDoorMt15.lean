import Derived.Test.YtmmjcbbogokmfaaGreatDoorMt01
import Derived.Test.YtmmjcbbogokmfaaGreatDoorMt13
import Derived.Test.YtmmjcbbogokmfaaGreatDoorMt14
import Derived.Deep.CutRange
set_option maxRecDepth 100000
set_option maxHeartbeats 25600000
namespace Go.Proofs.YtmmjcbbogokmfaaGreatDoor
open Go.RowKit
theorem Tryz.infoStr : (Tryz.prog.info? 9).map (fun i => (i.zero, i.size, i.bytes)) = some (some (.string ByteArray.empty), 1, 16) := by kernel_rfl
theorem wordsN_drop (st : List Nat) (j : Nat) (hj : j < 35) : kQ st (resL.drop j) j = if mayN (23 + j) st = true then resL[j]'hj :: kQ st (resL.drop (j + 1)) (j + 1) else kQ st (resL.drop (j + 1)) (j + 1) := by
  rw [List.drop_eq_getElem_cons (show j < resL.length from hj), kQ]
  rfl
structure Wds (w : World) (j : Nat) (st : List Nat) (wr : World) (acc : List (List UInt8)) (A : Option Addr) (c : Nat) : Prop where
  go : kQ st resL 0 = acc ++ kQ st (resL.drop j) j
  own : wr.ownsRow w.heap.size 9 1 (.slice A acc.length c) acc.length (wvs acc)
  old : Old w wr
  len : acc.length <= j
theorem Wds.skip {w wr : World} {j : Nat} {st : List Nat} {acc : List (List UInt8)} {A : Option Addr} {c : Nat} (h : Wds w j st wr acc A c) (hj : j < 35) (hm : mayN (23 + j) st = false) : Wds w (j + 1) st wr acc A c :=
  ⟨by rw [h.go, wordsN_drop st j hj, if_neg (by rw [hm]; decide)], h.own, h.old, Nat.le_succ_of_le h.len⟩
theorem Wds.next {w wr wx w1 : World} {j k : Nat} {st : List Nat} {acc : List (List UInt8)} {A A' : Option Addr} {c c' : Nat} (h : Wds w j st wr acc A c) (hj : j < 35) (hm : mayN (23 + j) st = true) (hk : acc.length = k) (hx : Old wr wx)
    (hown : w1.ownsRow w.heap.size 9 1 (.slice A' (k + 1) c') (k + 1) (wvs acc ++ [.string ⟨(resL[j]'hj).toArray⟩])) (hg : wx.grownBy w1 (Value.slice A k c).ownBlock) :
    ∃ acc', Wds w (j + 1) st w1 acc' A' c' /\ acc'.length = k + 1 := by
  subst hk
  refine ⟨acc ++ [resL[j]'hj], ⟨by rw [h.go, wordsN_drop st j hj, if_pos hm, List.append_assoc]; rfl, ?_, ?_, by rw [List.length_append]; have := h.len; simp; omega⟩, by simp⟩
  · rw [List.length_append, wvs, List.map_append]
    exact hown
  · exact (h.old.old hx).grown hg (fun k e hlt => by have := (h.own.lt k e).1; omega)
theorem pre_eq : ∀ (u r : List UInt8), u.isPrefixOf r = (decide (u.length <= r.length) && (r.take u.length == u))
  | [], r => by simp
  | a :: u, [] => by simp
  | a :: u, b :: r => by
    rw [List.isPrefixOf, pre_eq u r]
    by_cases h : u.length <= r.length
    · by_cases e : a = b
      · subst e; simp [h]
      · have e1 : (a == b) = false := beq_eq_false_iff_ne.2 e
        have e2 : (b == a) = false := beq_eq_false_iff_ne.2 (fun h => e h.symm)
        simp [h, e1, e2]
    · simp [h]
theorem sb_take_on (s : ByteArray) (a p : Nat) (h1 : a <= p) (h2 : p < s.size) : ((sb s).drop a).take (p - a) ++ [s[p]] = ((sb s).drop a).take (p + 1 - a) := by
  have hl : p - a < ((sb s).drop a).length := by rw [List.length_drop, jA]; omega
  have he : ((sb s).drop a)[p - a]? = some s[p] := by
    rw [List.getElem?_drop, show a + (p - a) = p by omega]
    exact sb_at s p h2
  rw [show p + 1 - a = (p - a) + 1 by omega, List.take_succ_eq_append_getElem hl, (List.getElem?_eq_some_iff.1 he).2]
structure SpSt (w : World) (g : Nat) (r : Option Nat) (src : ByteArray) (m : Mc) (A : Option Addr) (c : Nat) (B : Option Addr) (ws : List (List UInt8)) (nm it : Bool) (X : Option Nat) (p : Nat) (wr : World) : Prop where
  le : m.at_ <= p /\ p <= src.size
  go : X = kU nm it ws (((sb src).drop m.at_).take (p - m.at_)) ((sb src).drop p) p
  mac : Mac wr g r src { m with at_ := p } A c
  kp : Kp (MX g r) w wr
  rd : Rd wr 1 B ws.length (wvs ws)
  av : Av (MX g r) ws.length B
theorem SpSt.next {w wr W : World} {g : Nat} {r : Option Nat} {src : ByteArray} {m : Mc} {A : Option Addr} {c : Nat} {B : Option Addr} {ws : List (List UInt8)} {nm it : Bool} {X : Option Nat} {p : Nat} (h : SpSt w g r src m A c B ws nm it X p wr) (hlt : p < src.size)
    (hX : X = kU nm it ws (((sb src).drop m.at_).take (p + 1 - m.at_)) ((sb src).drop (p + 1)) (p + 1)) (hW : Old wr W) :
    SpSt w g r src m A c B ws nm it X (p + 1) (W.setCell ⟨g, 1, none⟩ (.int .i64 ((p : Int) + 1))) /\ src.size - atOf g (W.setCell ⟨g, 1, none⟩ (.int .i64 ((p : Int) + 1))) < src.size - atOf g wr := by
  obtain ⟨m1, k1⟩ := (h.mac.old hW).setAt (p + 1)
  rw [show ((p + 1 : Nat) : Int) = (p : Int) + 1 by omega] at m1 k1
  refine ⟨⟨⟨by have := h.le.1; omega, hlt⟩, hX, m1, (h.kp.old hW).trans k1 (fun _ _ h => h), (h.rd.old hW).kp k1 h.av, h.av⟩, ?_⟩
  rw [m1.atOf, h.mac.atOf]
  simp only
  omega
theorem spell_any (w : World) (hg : Sg w) (g : Nat) (r : Option Nat) (src : ByteArray) (m : Mc) (A : Option Addr) (c : Nat) (h : Mac w g r src m A c) (hs : src.size <= 1000000) (ha : m.at_ < src.size) (hf : m.from_ = m.at_) :
    Calls Tryz.prog 199 #[.pointer (some ⟨g, 0, none⟩)] w (MOut w g r src (vI m ((sb src).drop m.at_))) := by
  obtain ⟨i0, hi, hz0, hz1', hz2'⟩ := info_parts Tryz.infoStr
  have Hmay := jJ0 (fun W (hO : Old w W) t => may_any W g r src m A c (h.old hO) t)
  have Hres := jJ0 hg.res
  have Hsz := jJ0 (show (Tryz.prog.info? 205).map (·.size) = some (wvs resL).length from Tryz.size35)
  have Hx := jJ0 (fun j (hj : j < 35) => wvs_at resL j hj)
  have H0 := jJ0 (show Wds w 0 m.stack w [] none 0 from ⟨rfl, World.ownsRow_nil _ _ _ _, Kp.refl _ _, Nat.le_refl _⟩)
  generalize hcs : wvs resL = cs at Hres Hsz Hx
  clear hcs
  generalize hRR : vI m ((sb src).drop m.at_) = R
  have HRR := jJ0 hRR
  clear hRR
  go_enter Tryz.func199, Tryz.ntmps199
  unfold yv at Hmay
  go_wp2_with (first | (go_at_call_of 176 (Value.int .u8 1); refine (Hmay.out _ (Kp.refl _ _) 1).mono ?_; rintro e w1 ⟨rfl, rfl⟩) | (go_at_call_of 176 (Value.int .u8 2); refine (Hmay.out _ (Kp.refl _ _) 2).mono ?_; rintro e w1 ⟨rfl, rfl⟩) | ((with_reducible refine at_loadE 205 (.global 0) ?_); refine Tryz.load_w rfl 205 (.global 0) rfl 0 0 rfl cs _ Hres.out Tryz.underlying205 rfl Hsz.out ?_) | fail)
  go_loopw [4, 16] (fun v i wr => ∃ (j : Nat) (acc : List (List UInt8)) (A : Option Addr) (c : Nat), j <= 35 /\ i = .int .i64 j /\ v = .slice A acc.length c /\ Wds w j m.stack wr acc A c) (fun _ i _ => 35 - (intOf i).toNat)
  case atStart => exact ⟨0, [], none, 0, by omega, rfl, rfl, H0.out⟩
  case round =>
    clear H0
    obtain ⟨j, acc, Aw, cw, hj, rfl, rfl, hw⟩ := hrel
    by_cases hlt : j < 35
    · have hix := fun w' => Tryz.index35 w' cs j _ (Hx.out j hlt) hlt
      have b1 : (j : Int) < 35 := by omega
      have b2 : (0 : Int) <= (j : Int) := by omega
      have b3 : (j : Int).toNat = j := by omega
      have b4 : IntKind.u8.wrap (j : Int) = (j : Int) := IntWalk.u8_in _ (by omega)
      have b5 : IntKind.u8.wrap (23 + (j : Int)) = 23 + (j : Int) := IntWalk.u8_in _ (by omega)
      have HM := jJ0 (Hmay.out wr hw.old (23 + j))
      rw [show ((23 + j : Nat) : Int) = 23 + (j : Int) by omega] at HM
      cases hm : mayN (23 + j) m.stack with
      | false =>
        have Hn := jJ0 (hw.skip hlt hm)
        rw [hm] at HM
        clear hw hm
        generalize resL[j]'hlt = rj at *
        go_wp2_with (go_at_call 176; refine HM.out.mono ?_; rintro e w1 ⟨rfl, rfl⟩)
        exact ⟨⟨j + 1, acc, Aw, cw, by omega, by go_num, rfl, Hn.out⟩, by simp [intOf]; omega⟩
      | true =>
        have Hn := jJ0 (fun wx w3 A' c' hx h1 h2 => hw.next (wx := wx) (w1 := w3) (A' := A') (c' := c') hlt hm rfl hx h1 h2)
        have hown := hw.own
        have Hold := jJ0 hw.old
        have Hlen := jJ0 hw.len
        rw [hm] at HM
        clear hw hm
        generalize hrj : resL[j]'hlt = rj at *
        clear hrj
        generalize hK : acc.length = K at *
        generalize wvs acc = wl at *
        clear hK
        have H63 := jJ0 (show K + 1 <= maxLen by have := Hlen.out; unfold maxLen; omega)
        have H47 := jJ0 (show (K + 1) * 16 <= 140737488355328 by have := Hlen.out; omega)
        go_wp2_with (first | (go_at_call 176; refine HM.out.mono ?_; rintro e w1 ⟨rfl, rfl⟩) | (at_builtin; refine jF _ rfl (.tmp 25) (.tmp 27) 42 rfl w.heap.size 9 i0 (.string ByteArray.empty) 1 16 Tryz.underlying42 hi hz0 hz1' hz2' rfl (by decide) (.slice Aw K cw) K wl rfl (hown.alloc _) _ 1 1 _ rfl (Rd.one_new _ _ _) (kL _ rfl) H63.out H47.out (Nat.le_trans Hold.out.size (by simp)) ?_; intro A' c' w3 hown3 hgrow hat) | fail)
        obtain ⟨acc', h1, h2⟩ := Hn.out _ _ _ _ ((Kp.refl _ _).alloc _) hown3 hgrow
        exact ⟨⟨j + 1, acc', A', c', by omega, by go_num, by rw [h2], h1⟩, by simp [intOf]; omega⟩
    · obtain rfl : j = 35 := by omega
      have hgo := hw.go
      rw [show kQ m.stack (resL.drop 35) 35 = [] from rfl, List.append_nil] at hgo
      have hRR := HRR.out
      unfold vI at hRR
      rw [hgo, List.length_drop, jA, show m.at_ + (src.size - m.at_) = src.size by omega] at hRR
      have Hst := jJ0 (show SpSt w g r src m A c Aw acc (mayN 1 m.stack) (mayN 2 m.stack) (kU (mayN 1 m.stack) (mayN 2 m.stack) acc [] ((sb src).drop m.at_) m.at_) m.at_ wr from by
        refine ⟨⟨Nat.le_refl _, by omega⟩, by rw [Nat.sub_self, List.take_zero], h.old hw.old, hw.old.mono (fun _ _ f => f.elim), Rd.of_own hw.own, fun hn ad e hx => ?_⟩
        have h1 := (hw.own.lt ad.block (by rw [jC, e]; rfl)).1
        have h2 := h.blk.lt
        rcases hx with hx | hx
        · omega
        · have := (h.lt _ hx.symm).2; omega)
      have HRx := jJ0 (show R = match kU (mayN 1 m.stack) (mayN 2 m.stack) acc [] ((sb src).drop m.at_) m.at_ with | some k => .error k | none => .ok { m with at_ := src.size, fin := 2 } from hRR.symm)
      have Hlen := jJ0 hw.len
      have Hfrom := jJ0 hf
      clear hRR HRR hw hgo Hmay Hres Hsz Hx hj hlt hi hz0 hz1' hz2' hf h
      generalize kU (mayN 1 m.stack) (mayN 2 m.stack) acc [] ((sb src).drop m.at_) m.at_ = X at *
      generalize mayN 1 m.stack = nm at *
      generalize mayN 2 m.stack = it at *
      generalize hn : acc.length = n at *
      have Hn := jJ0 hn
      clear hn
      go_wp2
      go_loopw [] (fun wr => ∃ p, SpSt w g r src m A c Aw acc nm it X p wr) (fun wr => src.size - atOf g wr)
      case atStart => exact ⟨_, Hst.out⟩
      case round =>
        clear Hst
        obtain ⟨p, hSt⟩ := hrel
        have hc0 := hSt.mac.c0
        have hc1 := hSt.mac.c1
        have hc3 := hSt.mac.c3
        have hc4 := hSt.mac.c4
        have hz1 := hSt.mac.z 1
        have hz3 := hSt.mac.z 3
        simp only [Hfrom.out] at hc0 hc1 hc3 hc4
        have hge := hSt.le.1
        by_cases hlt : p < src.size
        · have hgo := hSt.go
          rw [vL src p hlt, kU, sb_take_on src m.at_ p hge hlt] at hgo
          have a1 : (p : Int) < (src.size : Int) := by omega
          have a2 : (0 : Int) <= (p : Int) := by omega
          have a3 : (p : Int).toNat = p := by omega
          have a4 : IntKind.i64.wrap ((p : Int) + 1) = (p : Int) + 1 := IntWalk.i64_in _ (by omega)
          have Hw := jJ0 (fun W => vB W src[p])
          unfold bv at Hw
          cases hwc : jK src[p] with
          | false =>
            rw [if_pos hwc] at hgo
            rw [hwc] at Hw
            have HR := jJ0 (show R = .error p by rw [HRx.out, hgo])
            have Hkp := jJ0 hSt.kp
            have a5 : ((p : Int) == (src.size : Int)) = false := beq_eq_false_iff_ne.2 (by omega)
            clear hSt hgo HRx hwc
            go_wp2
            go_quiet ((go_at_call 129; refine Calls.quiet_of_same ((Hw.out _).mono (fun _ _ h => ⟨h.1, h.2.symm⟩))))
            go_wp2
            go_quiet (fail)
            go_wp2
            refine ⟨rfl, ?_⟩
            rw [HR.out]
            exact ⟨rfl, ⟨Hkp.out.os, Hkp.out.tape, Hkp.out.output, Hkp.out.size, Hkp.out.block⟩⟩
          | true =>
            rw [if_neg (by rw [hwc]; decide)] at hgo
            rw [hwc] at Hw
            have hsy := jo src m.at_ (p + 1)
            rw [<- hsy] at hgo
            have hsz : (src.extract m.at_ (p + 1)).size = p + 1 - m.at_ := by rw [<- jA, hsy, List.length_take, List.length_drop, jA]; omega
            have Hsy := jJ0 hsy
            clear hsy
            generalize hsx : src.extract m.at_ (p + 1) = sy at *
            have H1 := jJ0 (fun W => yG W sy)
            have H2 := jJ0 (fun W => startsInt_any W sy (by omega))
            have hfit : fitsB nm it acc (sb sy) = (nm && jQ (sb sy) || it && jc (sb sy) || acc.any (fun r => (sb sy).isPrefixOf r)) := rfl
            rw [hfit] at hgo
            clear hfit
            generalize jQ (sb sy) = sN at *
            generalize jc (sb sy) = sI at *
            obtain ⟨B0, hB0⟩ : ∃ B, B = (nm && sN || it && sI) := ⟨_, rfl⟩
            rw [<- hB0] at hgo
            have HB0 := jJ0 hB0
            have Hgo := jJ0 hgo
            have Hsz := jJ0 hsz
            have Hrd := jJ0 hSt.rd
            have HSt := jJ0 hSt
            have a6 : (m.at_ : Int) <= (p : Int) + 1 := by omega
            have a7 : (p : Int) + 1 <= (src.size : Int) := by omega
            have a8 : ((p : Int) + 1).toNat = p + 1 := by omega
            have a9 : (0 : Int) <= (p : Int) + 1 := by omega
            have a10 : (0 : Int) <= (m.at_ : Int) := by omega
            have a11 : (m.at_ : Int).toNat = m.at_ := by omega
            clear hSt hgo hB0 hsz hge hwc
            go_wp2
            go_quiet ((go_at_call 129; refine Calls.quiet_of_same ((Hw.out _).mono (fun _ _ h => ⟨h.1, h.2.symm⟩))))
            go_wp2
            go_quiet (fail)
            go_upto_region 11 with fail
            go_cut [8] from 30 to 114 (fun s8 wc => s8 = .bool B0 /\ Old wr wc)
            case first =>
              rcases (show (nm = false /\ it = false) \/ (nm = false /\ it = true) \/ (nm = true /\ sN = true) \/ (nm = true /\ sN = false /\ it = false) \/ (nm = true /\ sN = false /\ it = true) by cases nm <;> cases it <;> cases sN <;> simp) with ⟨rfl, rfl⟩ | ⟨rfl, rfl⟩ | ⟨rfl, rfl⟩ | ⟨rfl, rfl, rfl⟩ | ⟨rfl, rfl, rfl⟩
              all_goals
                go_wp2_with (first | (go_at_call 69; refine (H1.out _).mono ?_; rintro e w1 ⟨rfl, rfl⟩) | (go_at_call 226; refine (H2.out _).mono ?_; rintro e w1 ⟨rfl, rfl⟩))
                go_meet
                case rel => exact ⟨by rw [HB0.out]; simp, (by first | exact (Kp.refl _ _).drewN _ | exact ((Kp.refl _ _).drewN _).drewN _ | exact Kp.refl _ _)⟩
            case rest =>
              obtain ⟨rfl, hOldc⟩ := hcut
              have HOldc := jJ0 hOldc
              have Hrd := jJ0 (Hrd.out.old hOldc)
              have hc1 := (HSt.out.mac.old hOldc).c1
              have hz1 := (HSt.out.mac.old hOldc).z 1
              simp only at hc1
              clear hOldc
              go_wp2
              go_loop [8, 87] (fun b i => ∃ j : Nat, j <= n /\ i = .int .i64 j /\ b = .bool (B0 || (acc.take j).any (fun r => (sb sy).isPrefixOf r))) (fun _ i => n - (intOf i).toNat)
              case atStart => exact ⟨0, Nat.zero_le _, rfl, by simp⟩
              case round =>
                obtain ⟨j, hj, rfl, rfl⟩ := hrel
                by_cases hlt3 : j < n
                · obtain ⟨b, o, u, rfl, hu, hcell⟩ := Hrd.out.at_ (k := j) (by rw [Hn.out]; exact hlt3)
                  have hja : j < acc.length := by rw [Hn.out]; exact hlt3
                  rw [wvs_at acc j hja] at hu
                  simp only [Option.some.injEq] at hu
                  subst hu
                  have hnext : (B0 || (acc.take (j + 1)).any (fun r => (sb sy).isPrefixOf r)) = ((B0 || (acc.take j).any (fun r => (sb sy).isPrefixOf r)) || (sb sy).isPrefixOf (sb ⟨(acc[j]'hja).toArray⟩)) := by
                    rw [List.take_succ_eq_append_getElem hja, List.any_append, List.any_cons, List.any_nil, Bool.or_false, <- Bool.or_assoc]
                    rfl
                  generalize (⟨(acc[j]'hja).toArray⟩ : ByteArray) = xs at *
                  rw [pre_eq, jA, jA] at hnext
                  have Hnext := jJ0 hnext
                  clear hnext
                  generalize (B0 || (acc.take j).any (fun r => (sb sy).isPrefixOf r)) = q at *
                  have c1 : (j : Int) < (n : Int) := by omega
                  have c2 : (0 : Int) <= (j : Int) := by omega
                  have c3 : (j : Int).toNat = j := by omega
                  have c4 : IntKind.i64.wrap ((j : Int) + 1) = (j : Int) + 1 := IntWalk.i64_in _ (by have := Hlen.out; omega)
                  cases q
                  · by_cases hle : sy.size <= xs.size
                    · have d1 : (sy.size : Int) <= (xs.size : Int) := by omega
                      have d2 : (0 : Int) <= (sy.size : Int) := by omega
                      have he : ((xs.extract 0 sy.size).toList == sy.toList) = ((sb xs).take sy.size == sb sy) := by rw [ByteArray.toList_eq, ByteArray.toList_eq]; show (sb (xs.extract 0 sy.size) == sb sy) = _; rw [jo]; simp
                      have Hn2 := jJ0 (show (B0 || (acc.take (j + 1)).any (fun r => (sb sy).isPrefixOf r)) = ((xs.extract 0 sy.size).toList == sy.toList) by rw [Hnext.out, decide_eq_true hle, he]; rfl)
                      clear he hle Hnext
                      go_wp2
                      exact ⟨⟨j + 1, by omega, by go_num, by rw [Hn2.out]⟩, by simp [intOf]; omega⟩
                    · have d1 : ¬ (sy.size : Int) <= (xs.size : Int) := by omega
                      have Hn2 := jJ0 (show (B0 || (acc.take (j + 1)).any (fun r => (sb sy).isPrefixOf r)) = false by rw [Hnext.out, decide_eq_false hle]; rfl)
                      clear hle Hnext
                      go_wp2
                      exact ⟨⟨j + 1, by omega, by go_num, by rw [Hn2.out]⟩, by simp [intOf]; omega⟩
                  · have Hn2 := jJ0 (show (B0 || (acc.take (j + 1)).any (fun r => (sb sy).isPrefixOf r)) = true by rw [Hnext.out]; rfl)
                    clear Hnext
                    go_wp2
                    exact ⟨⟨j + 1, by omega, by go_num, by rw [Hn2.out]⟩, by simp [intOf]; omega⟩
                · obtain rfl : j = n := by omega
                  rw [List.take_of_length_le (by rw [Hn.out]; exact Nat.le_refl _)]
                  have c1 : ¬ (j : Int) < (j : Int) := by omega
                  have Hgo2 := jJ0 Hgo.out
                  clear Hgo
                  generalize (B0 || acc.any (fun r => (sb sy).isPrefixOf r)) = F at *
                  cases F
                  · have HR := jJ0 (show R = .error p by rw [HRx.out, Hgo2.out]; rfl)
                    clear Hgo2 HRx
                    go_wp2
                    refine ⟨rfl, ?_⟩
                    rw [HR.out]
                    exact ⟨rfl, HSt.out.kp.old HOldc.out⟩
                  · have Hs := jJ0 (fun W (hO : Old wr W) => HSt.out.next hlt (by rw [Hgo2.out, if_pos rfl, Hsy.out]) hO)
                    clear Hgo2 HRx
                    go_wp2
                    go_roundw
                    case rel => exact ⟨_, (Hs.out _ HOldc.out).1⟩
                    case measure => exact (Hs.out _ HOldc.out).2
        · have hp : p = src.size := by have := hSt.le.2; omega
          subst hp
          have hgo := hSt.go
          rw [show (sb src).drop src.size = [] from List.drop_of_length_le (by rw [jA]; exact Nat.le_refl _), kU] at hgo
          have HR := jJ0 (show R = .ok { m with at_ := src.size, fin := 2 } by rw [HRx.out, hgo])
          have Hs := jJ0 (fun W (hO : Old wr W) => (hSt.mac.old hO).setFin 2)
          have Hkp := jJ0 hSt.kp
          have a1 : ¬ (src.size : Int) < (src.size : Int) := by omega
          have a5 : ((src.size : Int) == (src.size : Int)) = true := by simp
          clear hSt hgo HRx hlt hge
          go_wp2
          go_quiet (fail)
          go_wp2
          go_quiet (fail)
          go_wp2
          refine bodyPost_ret (results_none rfl _ _ _) rfl ?_
          rw [HR.out]
          have HH := fun n => Hs.out (wr.drewN n) ((Kp.refl _ _).drewN n)
          exact ⟨rfl, r, A, c, (HH _).1, (Hkp.out.drewN _).trans (HH _).2 (fun _ _ h => h), .inl rfl⟩
end Go.Proofs.YtmmjcbbogokmfaaGreatDoor

import Derived.Test.YtnaolhjbapgjgaaGreatMg05
import Derived.Test.YtnaolhjbapgjgaaGreatMg16
import Derived.Test.YtnaolhjbapgjgaaGreatMg18
import Derived.Test.YtnaolhjbapgjgaaGreatMg22
import Derived.Deep.CutBlock
import Derived.Deep.DeepCutAuto
set_option maxRecDepth 100000
set_option maxHeartbeats 3200000
namespace Go.Proofs.YtnaolhjbapgjgaaGreat
open Go.RowKit
structure ToldC (cs : List Value) (m : MReply) : Prop where
  c5 : cs[5]? = some (.slice m.hA m.hap.length m.hC)
  c6 : cs[6]? = some (.string m.case_.name)
  c7 : cs[7]? = some (.string m.case_.type_)
  c41 : cs[41]? = some (.slice m.case_.vA m.case_.values.length m.case_.vC)
  c42 : cs[42]? = some (.slice m.case_.open_.A m.case_.open_.l.length m.case_.open_.c)
  c43 : cs[43]? = some (.slice m.case_.closed.A m.case_.closed.l.length m.case_.closed.c)
  c44 : cs[44]? = some (.slice m.case_.reached.A m.case_.reached.l.length m.case_.reached.c)
  c45 : cs[45]? = some (.slice m.raw.A m.raw.l.length m.raw.c)
  c145 : cs[145]? = some (.slice m.note.A m.note.signs.length m.note.c)
  c148 : cs[148]? = some (.slice m.inc.A m.inc.ds.length m.inc.c)
  c151 : cs[151]? = some (.slice m.con.A m.con.ds.length m.con.c)
  c219 : cs[219]? = some (.slice m.iA m.idx.way.length m.iC)
  c254 : cs[254]? = some (.slice m.pie.eA m.pie.evs.length m.pie.eC)
  c255 : cs[255]? = some (.slice m.pie.pA m.pie.pfs.length m.pie.pC)
theorem MReply.Ok.told {w : World} {X : Nat -> Prop} {m : MReply} (h : m.Ok w X) : ToldC m.cells m := by
  have hc := h.case_.chain
  have e35 : m.case_.cells[35]? = some (.slice m.case_.vA m.case_.values.length m.case_.vC) := kB [.string m.case_.name, .string m.case_.type_, .int .i64 m.case_.count] _ m.case_.chain hc 35 0 rfl
  have e36 : m.case_.cells[36]? = some (.slice m.case_.open_.A m.case_.open_.l.length m.case_.open_.c) := kB [.string m.case_.name, .string m.case_.type_, .int .i64 m.case_.count] _ m.case_.chain hc 35 1 rfl
  have e37 : m.case_.cells[37]? = some (.slice m.case_.closed.A m.case_.closed.l.length m.case_.closed.c) := kB [.string m.case_.name, .string m.case_.type_, .int .i64 m.case_.count] _ m.case_.chain hc 35 2 rfl
  have e38 : m.case_.cells[38]? = some (.slice m.case_.reached.A m.case_.reached.l.length m.case_.reached.c) := kB [.string m.case_.name, .string m.case_.type_, .int .i64 m.case_.count] _ m.case_.chain hc 35 3 rfl
  have n98 : m.note.cells[98]? = some (.slice m.note.A m.note.signs.length m.note.c) := by
    have := (Sub.end_ m.note.head.cells [.slice m.note.A m.note.signs.length m.note.c] 98 h.note.head.len) 0 _ rfl
    exact this
  have hi := h.idx
  have i67 : (m.idx.cells m.iA m.iC)[67]? = some (.slice m.iA m.idx.way.length m.iC) := by
    have := (Sub.end_ ([.string m.idx.case_, .bool m.idx.found, .int .i64 m.idx.count] ++ (jB m.idx.chain ++ jB m.idx.bitmap)) [.slice m.iA m.idx.way.length m.iC] 67 (by simp [jD, hi.chain, hi.bitmap])) 0 _ rfl
    simpa [Idx.cells] using this
  exact ⟨MReply.s5, MReply.c6 0 _ rfl, MReply.c6 1 _ rfl, MReply.c6 35 _ e35, MReply.c6 36 _ e36, MReply.c6 37 _ e37, MReply.c6 38 _ e38, h.r45 0 _ rfl, h.n47 98 _ n98, h.i146 2 _ rfl, h.c149 2 _ rfl, h.x152 67 _ i67, h.p220 34 _ (MPiece.s34 h.pie.before), h.p220 35 _ (MPiece.s35 h.pie.before)⟩
theorem MTexts.Ok.each {w : World} {X : Nat -> Prop} {m : MTexts} (h : m.Ok w X) : ∀ x ∈ m.l, x.size <= 9223372036854775807 := by
  intro x hx
  obtain ⟨k, hk, rfl⟩ := List.getElem_of_mem hx
  have := h.small k hk
  rw [List.getD, List.getElem?_eq_getElem hk] at this
  simp only [Option.getD_some] at this
  omega
theorem told_some (w : World) (left : Int) (m : MReply) (h1 : -1 <= left) (h2 : left <= 2147483647) (hok : m.Ok w NoX) (hv : ∀ v ∈ m.case_.values, vR v.v.v) :
    Calls Tryz.prog 11 #[.int .i64 left, .agg m.cells.toArray] w (SomeNum w) := by
  have Hn := jJ0 (show (Tryz.prog.info? 63).map (·.size) = some m.cells.length by rw [hok.len]; kernel_rfl)
  have HT := jJ0 hok.told
  have Hok := jJ0 hok
  have Hv := jJ0 hv
  clear hok hv
  generalize m.cells = cs at *
  have Hb := jJ0 (Blk.new w 63 cs.toArray)
  have Ho := jJ0 ((Kp.refl NoX w).alloc (.cells cs.toArray 63))
  go_enter Tryz.func11, Tryz.ntmps11
  go_upto_region 1 with (fail)
  generalize w.alloc _ = W at *
  have c45 := Hb.out.at_ 45 (by rw [List.getElem?_toArray]; exact HT.out.c45)
  have hraw := Hok.out.raw.big
  have e1 : IntKind.i64.wrap (1000 + (m.raw.l.length : Int)) = 1000 + (m.raw.l.length : Int) := IntWalk.i64_in _ (by omega)
  go_wp2_with fail
  refine (ki W left (1000 + (m.raw.l.length : Int)) h1 h2 (by omega)).mono ?_
  rintro e w' ⟨r1, rfl, a1, a1', rfl⟩
  clear c45 e1 hraw
  go_upto_block 0 with fail
  go_cut [0] (fun x wx => ∃ r : Int, x = .int .i64 r /\ -1 <= r /\ r <= 2147483647 /\ Old W wx)
  case first =>
    go_wp2_with fail
    go_loopw [0, 5] (fun x i wr => ∃ (j : Nat) (r : Int), j <= m.hap.length /\ i = .int .i64 j /\ x = .int .i64 r /\ -1 <= r /\ r <= 2147483647 /\ wr = W) (fun _ i _ => m.hap.length - (intOf i).toNat)
    case atStart => exact ⟨0, r1, Nat.zero_le _, rfl, rfl, a1, a1', rfl⟩
    case round =>
      obtain ⟨j, r, hj, rfl, rfl, hr1, hr2, rfl⟩ := hrel
      have c5 := Hb.out.at_ 5 (by rw [List.getElem?_toArray]; exact HT.out.c5)
      have hjb : (j : Int) <= 1000000000000 := by have := Hok.out.bigH.2; omega
      by_cases hlt : j < m.hap.length
      · have hltI : (j : Int) < (m.hap.length : Int) := by omega
        by_cases hneg : r < 0
        · have hge : ¬ (0 : Int) <= r := by omega
          go_wp2_with fail
          go_meet
          case rel => exact ⟨r, rfl, hr1, hr2, Kp.refl _ _⟩
        · have hge : (0 : Int) <= r := by omega
          obtain ⟨b, o, hAe, hrg⟩ := (Hok.out.rdH.old Ho.out).elem (f := MHap.cells) (fun _ _ => rfl) rfl hlt
          have hbn := Hok.out.bigH.1 _ (List.getElem_mem hlt)
          have q1 := hrg 1 _ rfl
          generalize m.hap[j] = y at *
          rw [hAe] at c5
          have e1 : IntKind.i64.wrap (10 + (y.name.size : Int)) = 10 + (y.name.size : Int) := IntWalk.i64_in _ (by omega)
          clear hrg hAe
          go_wp2_with fail
          refine (ki wr r (10 + (y.name.size : Int)) hr1 hr2 (by omega)).mono ?_
          rintro e w' ⟨r2, rfl, b1, b2, rfl⟩
          clear e1 q1
          go_wp2
          go_roundw
          case rel => exact ⟨j + 1, r2, by omega, by go_num, rfl, b1, b2, trivial⟩
          case measure => simp [intOf]; omega
      · obtain rfl : j = m.hap.length := by omega
        go_wp2_with fail
        go_meet
        case rel => exact ⟨r, rfl, hr1, hr2, Kp.refl _ _⟩
  case rest =>
    obtain ⟨r2, rfl, a2, a2', ho2⟩ := hcut
    have Ho2 := jJ0 ho2
    have c6 := jx (Hb.out.at_ 6 (by rw [List.getElem?_toArray]; exact HT.out.c6)) ho2
    have c7 := jx (Hb.out.at_ 7 (by rw [List.getElem?_toArray]; exact HT.out.c7)) ho2
    have hbc := Hok.out.case_.big
    have e1 : IntKind.i64.wrap ((m.case_.type_.size : Int) + (m.case_.name.size : Int)) = (m.case_.type_.size : Int) + (m.case_.name.size : Int) := IntWalk.i64_in _ (by omega)
    clear ho2
    go_wp2_with fail
    refine (ki wc r2 ((m.case_.type_.size : Int) + (m.case_.name.size : Int)) a2 a2' (by omega)).mono ?_
    rintro e w' ⟨r3, rfl, a3, a3', rfl⟩
    clear c6 c7 e1 hbc
    go_upto_block 2 with fail
    go_cut [0] (fun x wx => ∃ r : Int, x = .int .i64 r /\ -1 <= r /\ r <= 2147483647 /\ Old W wx)
    case first =>
      go_wp2_with fail
      go_loopw [0, 6] (fun x i wr => ∃ (j : Nat) (r : Int), j <= m.case_.values.length /\ i = .int .i64 j /\ x = .int .i64 r /\ -1 <= r /\ r <= 2147483647 /\ Old W wr) (fun _ i _ => m.case_.values.length - (intOf i).toNat)
      case atStart => exact ⟨0, r3, Nat.zero_le _, rfl, rfl, a3, a3', Ho2.out⟩
      case round =>
        obtain ⟨j, r, hj, rfl, rfl, hr1, hr2, hor⟩ := hrel
        have c41 := jx (Hb.out.at_ 41 (by rw [List.getElem?_toArray]; exact HT.out.c41)) hor
        have hjb : (j : Int) <= 1000000000000 := by have := Hok.out.case_.big.1; omega
        have Hor := jJ0 hor
        clear hor
        by_cases hlt : j < m.case_.values.length
        · have hltI : (j : Int) < (m.case_.values.length : Int) := by omega
          by_cases hneg : r < 0
          · have hge : ¬ (0 : Int) <= r := by omega
            go_wp2_with fail
            go_meet
            case rel => exact ⟨r, rfl, hr1, hr2, Hor.out⟩
          · have hge : (0 : Int) <= r := by omega
            obtain ⟨b, o, hAe, hrg⟩ := ((Hok.out.case_.rdV.old Ho.out).old Hor.out).elem (f := MBind.cells) (fun _ _ => rfl) rfl hlt
            have hbn := Hok.out.case_.values _ (List.getElem_mem hlt)
            have hsm := Hv.out _ (List.getElem_mem hlt)
            have hbs := hbn.small
            generalize m.case_.values[j] = y at *
            obtain ⟨name, ⟨⟨vk, vn, vt, vs⟩, mA, mc⟩⟩ := y
            have q0 := hrg 0 _ rfl
            have q1 := hrg 1 _ rfl
            have q2 := hrg 2 _ rfl
            have q3 := hrg 3 _ rfl
            have q4 := hrg 4 _ rfl
            simp only [Nat.add_zero] at q0 q1 q2 q3 q4 hbs hsm
            have hle := yC (n := (name.size : Int)) hr2 (by omega)
            have HR := jJ0 (fun W' => room_any W' r (name.size : Int) hr1 hr2 (by omega))
            have HV := jJ0 (fun W' (hw : Old wr W') => lvalue_some W' (vQ r (name.size : Int)) ⟨vk, vn, vt, vs⟩ mA mc hle.2 hle.1 (((hbn.v.rd.old Ho.out).old Hor.out).old hw) hsm)
            simp only [vV] at HV
            rw [hAe] at c41
            clear hrg hAe hbn hsm hle
            go_upto_region 10 with (fail)
            have HVd := jJ0 (HV.out wr.drew (Kp.refl NoX wr).drew)
            go_region_held3 (fun w' => w'.cell? ⟨w.heap.size, 41, none⟩ = some (.slice (some ⟨b, o, none⟩) m.case_.values.length m.case_.vC) /\ w'.cell? ⟨b, o + j * 5, none⟩ = some (.string name) /\ w'.cell? ⟨b, o + j * 5 + 1, none⟩ = some (.int .i64 vk) /\ w'.cell? ⟨b, o + j * 5 + 2, none⟩ = some (.int .i64 vn) /\ w'.cell? ⟨b, o + j * 5 + 3, none⟩ = some (.string vt) /\ w'.cell? ⟨b, o + j * 5 + 4, none⟩ = some (.slice mA vs.length mc)) (first | exact ⟨c41, q0, q1, q2, q3, q4⟩ | exact ⟨jx c41 ho5, jx q0 ho5, jx q1 ho5, jx q2 ho5, jx q3 ho5, jx q4 ho5⟩ | fail)
              (first
                | (go_at_call 10; refine (HR.out _).mono ?_; rintro e w4 ⟨rfl, rfl⟩)
                | (go_at_call_of 29 (Value.string vt); refine HVd.out.mono ?_; rintro e w5 ⟨r5, rfl, b5, b5', ho5d⟩; have ho5 : Old wr w5 := (Kp.refl NoX wr).drew.old ho5d)
                | fail)
            all_goals
              have Ho5 := jJ0 (Hor.out.old ho5)
              clear ho5 ho5d c41 q0 q1 q2 q3 q4
              go_wp2
              go_roundw
              case rel => exact ⟨j + 1, r5, by omega, by go_num, rfl, b5, b5', Ho5.out⟩
              case measure => simp [intOf]; omega
        · obtain rfl : j = m.case_.values.length := by omega
          go_wp2_with fail
          go_meet
          case rel => exact ⟨r, rfl, hr1, hr2, Hor.out⟩
    case rest =>
      obtain ⟨r4, rfl, a4, a4', ho4⟩ := hcut
      have Ho4 := jJ0 ho4
      have c42 := jx (Hb.out.at_ 42 (by rw [List.getElem?_toArray]; exact HT.out.c42)) ho4
      have c43 := jx (Hb.out.at_ 43 (by rw [List.getElem?_toArray]; exact HT.out.c43)) ho4
      have c44 := jx (Hb.out.at_ 44 (by rw [List.getElem?_toArray]; exact HT.out.c44)) ho4
      have k1 := textsR_le m.case_.open_.l r4 a4 a4'
      have k2 := textsR_le m.case_.closed.l _ k1.1 k1.2
      have k3 := textsR_le m.case_.reached.l _ k2.1 k2.2
      have T1 := jJ0 (fun W' (hw : Old wc W') => texts_any W' r4 m.case_.open_.A m.case_.open_.c m.case_.open_.l.length m.case_.open_.l a4 a4' (((Hok.out.case_.open_.rd.old Ho.out).old Ho4.out).old hw) rfl (Hok.out.case_.open_.each))
      have T2 := jJ0 (fun W' (hw : Old wc W') => texts_any W' (kw r4 m.case_.open_.l) m.case_.closed.A m.case_.closed.c m.case_.closed.l.length m.case_.closed.l k1.1 k1.2 (((Hok.out.case_.closed.rd.old Ho.out).old Ho4.out).old hw) rfl (Hok.out.case_.closed.each))
      have T3 := jJ0 (fun W' (hw : Old wc W') => texts_any W' (kw (kw r4 m.case_.open_.l) m.case_.closed.l) m.case_.reached.A m.case_.reached.c m.case_.reached.l.length m.case_.reached.l k2.1 k2.2 (((Hok.out.case_.reached.rd.old Ho.out).old Ho4.out).old hw) rfl (Hok.out.case_.reached.each))
      clear ho4
      generalize kw r4 m.case_.open_.l = x1 at *
      generalize kw x1 m.case_.closed.l = x2 at *
      generalize kw x2 m.case_.reached.l = r5 at *
      go_wp2_with fail
      go_quiet (first | (go_at_call_of 30 (Value.int .i64 r4); refine Calls.quiet_of_same ((T1.out _ ((Kp.refl NoX wc).drewN _)).mono (fun _ _ h => ⟨h.1, h.2.symm⟩))) | (go_at_call_of 30 (Value.int .i64 x1); refine Calls.quiet_of_same ((T2.out _ ((Kp.refl NoX wc).drewN _)).mono (fun _ _ h => ⟨h.1, h.2.symm⟩))) | (go_at_call_of 30 (Value.int .i64 x2); refine Calls.quiet_of_same ((T3.out _ ((Kp.refl NoX wc).drewN _)).mono (fun _ _ h => ⟨h.1, h.2.symm⟩))) | fail)
      clear T1 T2 T3 c42 c43 c44
      clear k1 k2
      have Ho5 := jJ0 (Ho4.out.drewN nq)
      generalize wc.drewN nq = w5 at *
      have c254 := jx (Hb.out.at_ 254 (by rw [List.getElem?_toArray]; exact HT.out.c254)) Ho5.out
      have HL := jJ0 (lists_some w5 r5 m.pie.eA m.pie.eC m.pie.evs.length m.pie.evs k3.1 k3.2 ((Hok.out.pie.rdE.old Ho.out).old Ho5.out) (fun p hp => (Hok.out.pie.evs p hp).big) (by have := Hok.out.pie.big; omega))
      go_wp2_with fail
      refine HL.out.mono ?_
      rintro e w' ⟨r6, rfl, a6, a6', rfl⟩
      clear HL c254
      go_upto_block 4 with fail
      go_cut [0] (fun x wx => ∃ r : Int, x = .int .i64 r /\ -1 <= r /\ r <= 2147483647 /\ Old W wx)
      case first =>
        go_wp2_with fail
        go_loopw [0, 7] (fun x i wr => ∃ (j : Nat) (r : Int), j <= m.pie.pfs.length /\ i = .int .i64 j /\ x = .int .i64 r /\ -1 <= r /\ r <= 2147483647 /\ Old W wr) (fun _ i _ => m.pie.pfs.length - (intOf i).toNat)
        case atStart => exact ⟨0, r6, Nat.zero_le _, rfl, rfl, a6, a6', Ho5.out⟩
        case round =>
          obtain ⟨j, r, hj, rfl, rfl, hr1, hr2, hor⟩ := hrel
          have c255 := jx (Hb.out.at_ 255 (by rw [List.getElem?_toArray]; exact HT.out.c255)) hor
          have hjb : (j : Int) <= 1000000000000 := by have := Hok.out.pie.big; omega
          have Hor := jJ0 hor
          clear hor
          by_cases hlt : j < m.pie.pfs.length
          · have hltI : (j : Int) < (m.pie.pfs.length : Int) := by omega
            by_cases hneg : r < 0
            · have hge : ¬ (0 : Int) <= r := by omega
              go_wp2_with fail
              go_meet
              case rel => exact ⟨r, rfl, hr1, hr2, Hor.out⟩
            · have hge : (0 : Int) <= r := by omega
              obtain ⟨b, o, hAe, hrg⟩ := ((Hok.out.pie.rdP.old Ho.out).old Hor.out).elem (f := MWay.cells) (fun _ _ => rfl) rfl hlt
              have hbn := (Hok.out.pie.pfs _ (List.getElem_mem hlt)).big
              have q2 := hrg 2 _ rfl
              generalize m.pie.pfs[j] = y at *
              rw [hAe] at c255
              have e1 : IntKind.i64.wrap (50 + (y.ds.length : Int)) = 50 + (y.ds.length : Int) := IntWalk.i64_in _ (by omega)
              clear hrg hAe
              go_wp2_with fail
              refine (ki wr r (50 + (y.ds.length : Int)) hr1 hr2 (by omega)).mono ?_
              rintro e w' ⟨r7, rfl, b1, b2, rfl⟩
              clear e1 q2
              go_wp2
              go_roundw
              case rel => exact ⟨j + 1, r7, by omega, by go_num, rfl, b1, b2, Hor.out⟩
              case measure => simp [intOf]; omega
          · obtain rfl : j = m.pie.pfs.length := by omega
            go_wp2_with fail
            go_meet
            case rel => exact ⟨r, rfl, hr1, hr2, Hor.out⟩
      case rest =>
        obtain ⟨r8, rfl, a8, a8', ho8⟩ := hcut
        have c145 := jx (Hb.out.at_ 145 (by rw [List.getElem?_toArray]; exact HT.out.c145)) ho8
        have c148 := jx (Hb.out.at_ 148 (by rw [List.getElem?_toArray]; exact HT.out.c148)) ho8
        have c151 := jx (Hb.out.at_ 151 (by rw [List.getElem?_toArray]; exact HT.out.c151)) ho8
        have c219 := jx (Hb.out.at_ 219 (by rw [List.getElem?_toArray]; exact HT.out.c219)) ho8
        have Ho8 := jJ0 ho8
        have hb1 := Hok.out.note.big
        have hb2 := Hok.out.inc.big
        have hb3 := Hok.out.con.big
        have hb4 := Hok.out.idx.big.1
        have e1 : IntKind.i64.wrap ((m.note.signs.length : Int) + (m.inc.ds.length : Int)) = (m.note.signs.length : Int) + (m.inc.ds.length : Int) := IntWalk.i64_in _ (by omega)
        have e2 : IntKind.i64.wrap ((m.con.ds.length : Int) + (m.idx.way.length : Int)) = (m.con.ds.length : Int) + (m.idx.way.length : Int) := IntWalk.i64_in _ (by omega)
        clear ho8
        go_wp2_with fail
        refine (ki wc r8 ((m.note.signs.length : Int) + (m.inc.ds.length : Int)) a8 a8' (by omega)).mono ?_
        rintro e w' ⟨r9, rfl, a9, a9', rfl⟩
        go_wp2_with fail
        refine (ki wc r9 ((m.con.ds.length : Int) + (m.idx.way.length : Int)) a9 a9' (by omega)).mono ?_
        rintro e w' ⟨r10, rfl, a10, a10', rfl⟩
        go_wp2
        go_ret
        exact ⟨r10, rfl, a10, a10', Ho.out.old Ho8.out⟩
theorem bytesN_len (bs : List UInt8) (most : Int) (s : Rs) : (jf bs most s).1.length <= bs.length := by
  unfold jf
  split
  · simp
  · split
    · simp
    · split
      · simp
      · split
        · simp
        · simp only [List.length_take, List.length_drop]; omega
def jI (bs : List UInt8) (s : Rs) : ByteArray × Rs := (⟨(jf bs 4194304 s).1.toArray⟩, (jf bs 4194304 s).2)
theorem kC (bs : List UInt8) (s : Rs) : (jI bs s).1.size <= bs.length := by
  have := bytesN_len bs 4194304 s
  rw [<- jF]
  exact this
def numN (bs : List UInt8) (s : Rs) : Int × Rs := (i64 (tkN bs 8 s).1, (tkN bs 8 s).2)
theorem kc (w : World) (g : Nat) (bs : List UInt8) (s : Rs) (h : Rr w g bs s) :
    Calls Tryz.prog 42 #[.pointer (some ⟨g, 0, none⟩)] w fun e w' => e = .returned (.string (jI bs s).1) /\ Rr w' g bs (jI bs s).2 /\ Kp (RX g) w w' := by
  have HW := jJ0 (show jI bs s = (⟨(jf bs 4194304 s).1.toArray⟩, (jf bs 4194304 s).2) from rfl)
  generalize jI bs s = W at HW ⊢
  go_enter Tryz.func42, Tryz.ntmps42
  go_wp2_with fail
  refine (rbytes_any w g bs 4194304 s h (by omega)).mono ?_
  rintro e w1 ⟨A, c, rfl, hrd, hav, hcap, hr, hk⟩
  have hcv := yL (P := Tryz.prog) w1 Tryz.underlying22 Tryz.underlying5 Tryz.underlying9 A _ c _ hrd
  generalize (jf bs 4194304 s).1 = l at *
  generalize (jf bs 4194304 s).2 = s2 at *
  go_wp2
  go_ret
  rw [HW.out]
  exact ⟨rfl, hr, hk⟩
theorem kZ (w : World) (g : Nat) (bs : List UInt8) (s : Rs) (h : Rr w g bs s) :
    Calls Tryz.prog 43 #[.pointer (some ⟨g, 0, none⟩)] w fun e w' => e = .returned (.int .i64 (numN bs s).1) /\ Rr w' g bs (numN bs s).2 /\ Kp (RX g) w w' := by
  go_enter Tryz.func43, Tryz.ntmps43
  go_wp2_with fail
  refine (vd w g bs s h).mono ?_
  rintro e w1 ⟨rfl, hr, hk⟩
  go_wp2
  go_ret
  exact ⟨rfl, hr, hk⟩
def kb (bs : List UInt8) : Nat -> Rs -> List Val -> List Val × Rs
  | 0, s, acc => (acc, s)
  | n + 1, s, acc => kb bs n (jN bs s).2 (acc ++ [(jN bs s).1])
def kI : Opn := ⟨0, ⟨#[]⟩, ⟨#[]⟩, ⟨#[]⟩, ⟨0, 0, ⟨#[]⟩, []⟩, [], [], 0⟩
def opN (bs : List UInt8) (k : Nat) (s : Rs) : Opn × Rs :=
  if k = 1 then ({ kI with op := 1, type_ := (jI bs s).1, source := (jf bs 4194304 (jI bs s).2).1 }, (jf bs 4194304 (jI bs s).2).2)
  else if k = 2 then ({ kI with op := 2, case_ := (jI bs s).1, type_ := (jI bs (jI bs s).2).1 }, (jI bs (jI bs s).2).2)
  else if k = 3 then ({ kI with op := 3, case_ := (jI bs s).1, name := (jI bs (jI bs s).2).1, value := (jN bs (jI bs (jI bs s).2).2).1 }, (jN bs (jI bs (jI bs s).2).2).2)
  else if k = 4 then ({ kI with op := 4, case_ := (jI bs s).1, name := (jI bs (jI bs s).2).1, args := (kb bs (tkN bs 1 (jI bs (jI bs s).2).2).1 (tkN bs 1 (jI bs (jI bs s).2).2).2 []).1 }, (kb bs (tkN bs 1 (jI bs (jI bs s).2).2).1 (tkN bs 1 (jI bs (jI bs s).2).2).2 []).2)
  else if k = 5 then ({ kI with op := 5, clock := (numN bs s).1 }, (numN bs s).2)
  else ({ kI with op := k }, s)
def jv (bs : List UInt8) (s : Rs) : Opn × Rs := opN bs (tkN bs 1 s).1 (tkN bs 1 s).2
def TookO (w : World) (g : Nat) (bs : List UInt8) (os : Opn × Rs) (e : Ending) (w' : World) : Prop :=
  ∃ m : MOp, m.data = os.1 /\ e = .returned (.agg m.cells.toArray) /\ m.Ok w' (fun k => k < w.heap.size) /\ Rr w' g bs os.2 /\ Kp (RX g) w w'
theorem zeroM_ok (w : World) (X : Nat -> Prop) (v : Val) (hv : v.s = []) : MVal.Ok w X ⟨v, none, 0⟩ :=
  ⟨by rw [hv]; exact Rd.none_, (fun h => by rw [hv] at h; simp at h), by rw [hv]; simp, by rw [hv]; simp⟩
end Go.Proofs.YtnaolhjbapgjgaaGreat

import Derived.Test.YtnaolhjbapgjgaaGreatMg05
import Derived.Test.YtnaolhjbapgjgaaGreatMg06
import Derived.Test.YtnaolhjbapgjgaaGreatMg13
import Derived.Test.YtnaolhjbapgjgaaGreatMg17
import Derived.Deep.DeepCutAuto
set_option maxRecDepth 100000
set_option maxHeartbeats 3200000
namespace Go.Proofs.YtnaolhjbapgjgaaGreat
open Go.RowKit
structure MTexts where
  l : List ByteArray
  A : Option Addr
  c : Nat
def MTexts.sl (m : MTexts) : Value := .slice m.A m.l.length m.c
structure MTexts.Ok (w : World) (X : Nat -> Prop) (m : MTexts) : Prop where
  rd : Rd w 1 m.A m.l.length (m.l.map sv)
  av : Av X m.l.length m.A
  cap : m.l.length <= m.c
  small : ∀ k, k < m.l.length -> (m.l.getD k ByteArray.empty).size <= 2147483647
  big : m.l.length <= 1000000000000
structure MBind where
  name : ByteArray
  v : MVal
def MBind.cells (m : MBind) : List Value := .string m.name :: m.v.cells
structure MBind.Ok (w : World) (X : Nat -> Prop) (m : MBind) : Prop where
  v : m.v.Ok w X
  small : m.name.size <= 2147483647
structure MCase where
  name : ByteArray
  type_ : ByteArray
  count : Int
  chain : List UInt8
  values : List MBind
  vA : Option Addr
  vC : Nat
  open_ : MTexts
  closed : MTexts
  reached : MTexts
def MCase.cells (m : MCase) : List Value := [.string m.name, .string m.type_, .int .i64 m.count] ++ (jB m.chain ++ [.slice m.vA m.values.length m.vC, m.open_.sl, m.closed.sl, m.reached.sl])
structure MCase.Ok (w : World) (X : Nat -> Prop) (m : MCase) : Prop where
  chain : m.chain.length = 32
  values : ∀ v ∈ m.values, MBind.Ok w X v
  rdV : Rd w 5 m.vA m.values.length (m.values.flatMap MBind.cells)
  avV : Av X m.values.length m.vA
  open_ : m.open_.Ok w X
  closed : m.closed.Ok w X
  reached : m.reached.Ok w X
  big : m.values.length <= 1000000000000 /\ m.type_.size <= 2147483647 /\ m.name.size <= 2147483647
section
variable {w w1 : World} {g : Nat} {r r1 : Option Nat} {X : Nat -> Prop}
theorem KF.val {m : MVal} (h : KF w g r w1 r1) (k : m.Ok w (WX g r)) : m.Ok w1 (WX g r1) := k.step h.kp h.fr
theorem KF.texts {m : MTexts} (h : KF w g r w1 r1) (k : m.Ok w (WX g r)) : m.Ok w1 (WX g r1) := ⟨h.rd k.rd k.av, h.av k.rd (by decide) k.av, k.cap, k.small, k.big⟩
theorem KF.bind_ {m : MBind} (h : KF w g r w1 r1) (k : m.Ok w (WX g r)) : m.Ok w1 (WX g r1) := ⟨h.val k.v, k.small⟩
theorem KF.case_ {m : MCase} (h : KF w g r w1 r1) (k : m.Ok w (WX g r)) : m.Ok w1 (WX g r1) :=
  ⟨k.chain, fun v hv => h.bind_ (k.values v hv), h.rd k.rdV k.avV, h.av k.rdV (by decide) k.avV, h.texts k.open_, h.texts k.closed, h.texts k.reached, k.big⟩
end
structure Cas where
  name : ByteArray
  type_ : ByteArray
  count : Int
  chain : List UInt8
  values : List (ByteArray × Val)
  open_ : List ByteArray
  closed : List ByteArray
  reached : List ByteArray
def MBind.data (m : MBind) : ByteArray × Val := (m.name, m.v.v)
def MCase.data (m : MCase) : Cas := ⟨m.name, m.type_, m.count, m.chain, m.values.map MBind.data, m.open_.l, m.closed.l, m.reached.l⟩
def yH (b : ByteArray × Val) : List UInt8 := lp 4 (sb b.1) ++ valB b.2
def okBind (b : ByteArray × Val) : Bool := decide (b.1.size <= 4194304 /\ jP b.2 = 0)
def caseHead (c : Cas) : List UInt8 := lp 4 (sb c.type_) ++ (be8 c.count ++ (c.chain ++ (be 1 c.values.length ++ c.values.flatMap yH)))
def three (a b c : Option (List UInt8)) : Option (List UInt8) := a.bind fun x => b.bind fun y => c.map fun z => x ++ (y ++ z)
def caseB (c : Cas) : Option (List UInt8) :=
  if c.type_.size <= 4194304 /\ c.values.length <= 255 /\ c.values.all okBind = true then (three (vO c.open_) (vO c.closed) (vO c.reached)).map fun l => caseHead c ++ l else none
theorem binds_len (l : List (ByteArray × Val)) : ∀ k, k <= l.length -> (l.take k).all okBind = true -> ((l.take k).flatMap yH).length <= k * 4294308 := by
  intro k
  induction k with
  | zero => intro _ _; simp
  | succ k ih =>
    intro hk h
    have hkl : k < l.length := by omega
    rw [List.take_succ_eq_append_getElem hkl, List.all_append, Bool.and_eq_true] at h
    have h1 := ih (by omega) h.1
    have h2 := h.2
    simp only [List.all_cons, List.all_nil, Bool.and_true, okBind, decide_eq_true_eq] at h2
    have h3 := valB_length _ h2.2
    rw [kK yH l k hkl, List.length_append, yH, List.length_append, jL, jF]
    omega
theorem kB (pre post : List Value) (d : List UInt8) (hd : d.length = 32) (n i : Nat) (hn : pre.length + 32 = n) : (pre ++ (jB d ++ post))[n + i]? = post[i]? := by
  rw [<- List.append_assoc, List.getElem?_append_right (by rw [List.length_append, jD, hd]; omega), List.length_append, jD, hd]
  congr 1
  omega
theorem caseof_any (w : World) (g : Nat) (r : Option Nat) (bs : List UInt8) (m : MCase) (hW : Wr w g r bs) (hl : bs.length <= 200000000000) (hok : m.Ok w (WX g r)) :
    Calls Tryz.prog 55 #[.pointer (some ⟨g, 0, none⟩), .agg m.cells.toArray] w (LayP w g r bs (caseB m.data) 6000000000) := by
  obtain ⟨hbV, hbT, _⟩ := hok.big
  have Hl := jJ0 hl
  have s1 : m.cells[1]? = some (.string m.type_) := rfl
  have s2 : m.cells[2]? = some (.int .i64 m.count) := rfl
  have S3 := jJ0 (show Sub m.cells 3 (jB m.chain) from Sub.mid_ _ _ _ 3 rfl)
  have s35 : m.cells[35]? = some (.slice m.vA m.values.length m.vC) := kB [.string m.name, .string m.type_, .int .i64 m.count] _ m.chain hok.chain 35 0 rfl
  have s36 : m.cells[36]? = some m.open_.sl := kB [.string m.name, .string m.type_, .int .i64 m.count] _ m.chain hok.chain 35 1 rfl
  have s37 : m.cells[37]? = some m.closed.sl := kB [.string m.name, .string m.type_, .int .i64 m.count] _ m.chain hok.chain 35 2 rfl
  have s38 : m.cells[38]? = some m.reached.sl := kB [.string m.name, .string m.type_, .int .i64 m.count] _ m.chain hok.chain 35 3 rfl
  have Hsz := jJ0 (show (Tryz.prog.info? 40).map (·.size) = some (jB m.chain).length by rw [jD, hok.chain]; exact Tryz.sizeDigest)
  have Hb := jJ0 (Blk.new w 43 m.cells.toArray)
  have Ho := jJ0 ((Kp.refl NoX w).alloc (.cells m.cells.toArray 43))
  have Hx := jJ0 (kW hW (Nat.le_refl w.heap.size))
  have Hok := jJ0 hok
  have HokW := jJ0 ((KF.of Ho.out).case_ hok)
  have HS := jJ0 (And.intro s1 (And.intro s2 (And.intro s35 (And.intro s36 (And.intro s37 s38)))))
  clear s1 s2 s35 s36 s37 s38 hok hl
  generalize m.cells = cs at *
  go_enter Tryz.func55, Tryz.ntmps55
  have hc1 := Hb.out.at_ 1 (by rw [List.getElem?_toArray]; exact HS.out.1)
  have hc35 := Hb.out.at_ 35 (by rw [List.getElem?_toArray]; exact HS.out.2.2.1)
  have Hno := jJ0 (show ¬ (m.type_.size <= 4194304 /\ m.values.length <= 255 /\ (m.values.map MBind.data).all okBind = true) -> caseB m.data = none from fun h => by
    rw [caseB, if_neg]
    simpa [MCase.data] using h)
  have Hyes := jJ0 (show m.type_.size <= 4194304 /\ m.values.length <= 255 /\ (m.values.map MBind.data).all okBind = true -> caseB m.data = (three (vO m.open_.l) (vO m.closed.l) (vO m.reached.l)).map fun l => caseHead m.data ++ l from fun h => by
    rw [caseB, if_pos (by simpa [MCase.data] using h)]
    rfl)
  have Hhead := jJ0 (show caseHead m.data = lp 4 (sb m.type_) ++ (be8 m.count ++ (m.chain ++ (be 1 m.values.length ++ (m.values.map MBind.data).flatMap yH))) by simp [caseHead, MCase.data])
  generalize caseB m.data = CB at *
  generalize caseHead m.data = CH at *
  have hrd0 := Rd.arr_new (w.alloc (.cells cs.toArray 43)) 9 [.string m.type_]
  have hav0 := Av.new (n := 1) (hW.old Ho.out)
  rw [show (w.alloc (.cells cs.toArray 43)).heap.size = w.heap.size + 1 by simp] at hrd0 hav0
  have Hrd0 := jJ0 hrd0
  have Hav0 := jJ0 hav0
  clear hrd0 hav0
  go_wp2_with fail
  refine (vB _ g r bs _ 1 [m.type_] ((hW.old Ho.out).old ((Kp.refl _ _).alloc _)) (by have := Hl.out; omega) Hrd0.out Hav0.out (by simp) (fun j hj => by
    simp only [List.length_cons, List.length_nil] at hj
    obtain rfl : j = 0 := by omega
    exact hbT)).mono ?_
  intro e w1 ht
  have hF0 := KF.of (g := g) (r := r) ((Kp.refl NoX (w.alloc (.cells cs.toArray 43))).alloc (.cells #[.string m.type_] 9))
  rcases ht.one with ⟨rfl, hs, hst⟩ | ⟨rfl, hs, hst⟩
  · obtain ⟨r1, hW1, f1⟩ := hst.kf
    have F := jJ0 (hF0.trans f1)
    clear ht hst f1 hF0 hc1 hc35 Hrd0 Hav0
    generalize w.alloc _ = W at *
    have hb1 := F.out.blk Hb.out Hx.out
    have hc35 := hb1.at_ 35 (by rw [List.getElem?_toArray]; exact HS.out.2.2.1)
    by_cases hmany : m.values.length <= 255
    · have hm1 : ¬ ((255 : Int) < (m.values.length : Int)) := by omega
      have hc2 := hb1.at_ 2 (by rw [List.getElem?_toArray]; exact HS.out.2.1)
      have HW1 := jJ0 hW1
      have Hlen1 := jJ0 (show (bs ++ lp 4 (sb m.type_)).length <= 300000000000 by
        have := Hl.out
        rw [List.length_append, jL, jF]
        omega)
      clear hW1 hb1
      go_wp2_with fail
      refine (kG _ g r1 _ _ 1 1 [m.count] rfl (HW1.out.old ((Kp.refl _ _).alloc _)) (by have := Hlen1.out; omega) (Rd.arr_new _ _ [.int .i64 m.count]) (Av.new HW1.out) (by omega)).mono ?_
      rintro e w2 ⟨rfl, hst⟩
      obtain ⟨r2, hW2, f2⟩ := hst.kf
      have F2 := jJ0 (F.out.trans ((KF.of ((Kp.refl NoX w1).alloc _)).trans f2))
      have HW2 := jJ0 hW2
      clear hst f2 hW2 hc2 hc35 F HW1
      rw [show nums [m.count] = be8 m.count by simp [nums]] at HW2
      have hb2 := F2.out.blk Hb.out Hx.out
      have Hrg := jJ0 (S3.out.range hb2)
      go_wp2_with (first | refine Tryz.load_w rfl 40 (.tmp 25) rfl w.heap.size 3 rfl (jB m.chain) _ Hrg.out Tryz.underlying40 rfl Hsz.out ?_ | refine Tryz.wl_dig1 rfl (.tmp 26) rfl m.chain Hok.out.chain rfl ?_ | fail)
      refine (vj _ g r2 _ _ 1 1 [m.chain] rfl (fun d hd => by rw [List.mem_singleton.1 hd]; exact Hok.out.chain) (HW2.out.old ((Kp.refl _ _).alloc _)) (by have := Hlen1.out; rw [List.length_append, jG]; omega) (by omega) (by
        have := Rd.row_new w2 40 32 1 (jB m.chain) (by rw [jD, Hok.out.chain])
        simpa using this) (Av.new HW2.out)).mono ?_
      rintro e w3 ⟨rfl, hst⟩
      obtain ⟨r3, hW3, f3⟩ := hst.kf
      have F3 := jJ0 (F2.out.trans ((KF.of ((Kp.refl NoX w2).alloc _)).trans f3))
      rw [List.flatten_singleton] at hW3
      have HW3 := jJ0 hW3
      clear hst f3 hW3 hb2 Hrg F2 HW2
      have hb3 := F3.out.blk Hb.out Hx.out
      have hc35 := hb3.at_ 35 (by rw [List.getElem?_toArray]; exact HS.out.2.2.1)
      have e8 : IntKind.u8.wrap (m.values.length : Int) = m.values.length := IntWalk.u8_in _ (by omega)
      have Hlen3 := jJ0 (show (bs ++ lp 4 (sb m.type_) ++ be8 m.count ++ m.chain).length <= 310000000000 by
        have := Hlen1.out
        rw [List.length_append, List.length_append, jG, Hok.out.chain]
        omega)
      clear hb3
      go_wp2_with fail
      refine (jV _ g r3 _ (m.values.length : Int) (by omega) (by omega) HW3.out (by have := Hlen3.out; omega)).mono ?_
      rintro e w4 ⟨rfl, hst⟩
      obtain ⟨r4, hW4, f4⟩ := hst.kf
      have F4 := jJ0 (F3.out.trans f4)
      rw [Int.toNat_natCast] at hW4
      have Hst4 := jJ0 (F4.out.step hW4)
      clear hst f4 hW4 hc35 F3 HW3
      have hb4 := F4.out.blk Hb.out Hx.out
      have hc35 := hb4.at_ 35 (by rw [List.getElem?_toArray]; exact HS.out.2.2.1)
      generalize hpp : bs ++ lp 4 (sb m.type_) ++ be8 m.count ++ m.chain ++ be 1 m.values.length = pp at *
      have Hpp := jJ0 hpp
      have Hppl := jJ0 (show pp.length <= 320000000000 by
        have := Hlen3.out
        rw [<- hpp, List.length_append, jC]
        omega)
      clear hpp hb4
      go_wp2
      go_loopw [38] (fun i wr => ∃ k : Nat, k <= m.values.length /\ i = .int .i64 k /\ ((m.values.map MBind.data).take k).all okBind = true /\ WStep W g r wr (pp ++ ((m.values.map MBind.data).take k).flatMap yH)) (fun i _ => m.values.length - (intOf i).toNat)
      case atStart => exact ⟨0, by omega, rfl, rfl, by simpa using Hst4.out⟩
      case round =>
        clear hc35
        obtain ⟨k, hk, rfl, hgood, hst⟩ := hrel
        have hkm : k <= (m.values.map MBind.data).length := by simpa using hk
        have hlen := binds_len _ k hkm hgood
        have Hlenk := jJ0 (show (pp ++ ((m.values.map MBind.data).take k).flatMap yH).length <= 330000000000 by
          have := Hppl.out
          rw [List.length_append]
          omega)
        by_cases hlt : k < m.values.length
        · obtain ⟨r', hW', f'⟩ := hst.kf
          have hokr := f'.case_ HokW.out
          obtain ⟨b, o, hAe, hrg⟩ := hokr.rdV.elem (f := MBind.cells) (fun _ _ => rfl) rfl hlt
          have hltm : k < (m.values.map MBind.data).length := by simpa using hlt
          have hgk : (m.values.map MBind.data)[k] = m.values[k].data := by simp
          have Hfin := jJ0 (show pp ++ ((m.values.map MBind.data).take (k + 1)).flatMap yH = ((pp ++ ((m.values.map MBind.data).take k).flatMap yH) ++ lp 4 (sb m.values[k].name)) ++ valB m.values[k].v.v by
            rw [kK yH _ k hltm, hgk, yH, MBind.data]; simp)
          have Hgood := jJ0 (show ((m.values.map MBind.data).take (k + 1)).all okBind = decide (m.values[k].name.size <= 4194304 /\ jP m.values[k].v.v = 0) by
            rw [List.take_succ_eq_append_getElem hltm, List.all_append, hgood, hgk]; simp [okBind, MBind.data])
          have HnoK := jJ0 (show ¬ (m.values[k].name.size <= 4194304 /\ jP m.values[k].v.v = 0) -> CB = none from fun hno => Hno.out (fun h => by
            have h1 := h.2.2
            rw [List.all_eq_true] at h1
            have h2 := h1 _ (List.getElem_mem hltm)
            rw [hgk] at h2
            simp only [okBind, MBind.data] at h2
            exact hno (of_decide_eq_true h2)))
          have Hcs := jJ0 (show ∃ x, pp ++ ((m.values.map MBind.data).take k).flatMap yH = bs ++ x from ⟨lp 4 (sb m.type_) ++ (be8 m.count ++ (m.chain ++ (be 1 m.values.length ++ ((m.values.map MBind.data).take k).flatMap yH))), by rw [<- Hpp.out]; simp only [List.append_assoc]⟩)
          have hokv := hokr.values _ (List.getElem_mem hlt)
          generalize m.values[k] = y at *
          obtain ⟨name, ⟨⟨vk, vn, vt, vs⟩, mA, mc⟩⟩ := y
          have hby := hokv.small
          have q0 := hrg 0 _ rfl
          have q1 := hrg 1 _ rfl
          have q2 := hrg 2 _ rfl
          have q3 := hrg 3 _ rfl
          have q4 := hrg 4 _ rfl
          simp only [Nat.add_zero] at q0 q1 q2 q3 q4 Hfin Hgood HnoK hby
          generalize pp ++ ((m.values.map MBind.data).take k).flatMap yH = cc at *
          have HokV := jJ0 hokv.v
          have F := jJ0 f'
          have hvA := hAe
          clear hgood hrg hlen hokr hokv hgk hst f' hAe
          rw [hvA]
          have b1 : (0 : Int) <= (k : Int) := by omega
          have b2 : (k : Int) < (m.values.length : Int) := by omega
          have b3 : (k : Int).toNat = k := by omega
          have b5 : (k : Int) <= 255 := by omega
          have ho := (Kp.refl NoX wr).alloc (.cells #[.string name, .int .i64 vk, .int .i64 vn, .string vt, .slice mA vs.length mc] 108)
          have hbx := Blk.new wr 108 #[.string name, .int .i64 vk, .int .i64 vn, .string vt, .slice mA vs.length mc]
          have hrd0 := Rd.arr_new (wr.alloc (.cells #[.string name, .int .i64 vk, .int .i64 vn, .string vt, .slice mA vs.length mc] 108)) 9 [.string name]
          have hav0 := Av.new (n := 1) (hW'.old ho)
          rw [show (wr.alloc (.cells #[.string name, .int .i64 vk, .int .i64 vn, .string vt, .slice mA vs.length mc] 108)).heap.size = wr.heap.size + 1 by simp] at hrd0 hav0
          have Hrd0 := jJ0 hrd0
          have Hav0 := jJ0 hav0
          have Hob := jJ0 ho
          have Hbx := jJ0 hbx
          have Hxb := jJ0 (kW hW' (Nat.le_refl wr.heap.size))
          have HW' := jJ0 hW'
          clear hrd0 hav0 ho hbx hW' hvA
          go_wp2_with fail
          refine (vB _ g r' cc _ 1 [name] ((HW'.out.old Hob.out).old ((Kp.refl _ _).alloc _)) (by have := Hlenk.out; omega) Hrd0.out Hav0.out (by simp) (fun j hj => by
            simp only [List.length_cons, List.length_nil] at hj
            obtain rfl : j = 0 := by omega
            exact hby)).mono ?_
          intro e w5 ht
          have hF0 := KF.of (g := g) (r := r') (Hob.out.alloc (.cells #[.string name] 9))
          rcases ht.one with ⟨rfl, hs, hst⟩ | ⟨rfl, hs, hst⟩
          · obtain ⟨r5, hW5, f5⟩ := hst.kf
            have hb5 := ((Hbx.out.alloc (.cells #[.string name] 9))).kp f5.kp Hxb.out
            have d1 := hb5.at_ 1 (v := .int .i64 vk) rfl
            have d2 := hb5.at_ 2 (v := .int .i64 vn) rfl
            have d3 := hb5.at_ 3 (v := .string vt) rfl
            have d4 := hb5.at_ 4 (v := .slice mA vs.length mc) rfl
            have Fx := jJ0 (hF0.trans f5)
            have F5 := jJ0 (F.out.trans Fx.out)
            have hokv := Fx.out.val HokV.out
            have Hlen5 := jJ0 (show (cc ++ lp 4 (sb name)).length <= 340000000000 by
              have := Hlenk.out
              rw [List.length_append, jL, jF]
              omega)
            have Hs := jJ0 hs
            clear ht hst f5 hF0 hb5 hs Hrd0 Hav0 q0 q1 q2 q3 q4
            by_cases hR : jP ⟨vk, vn, vt, vs⟩ = 0
            · have HP := jJ0 (putv_ok ⟨vk, vn, vt, vs⟩ mA mc g r5 _ _ hW5 (Nat.le_trans Hlen5.out (by decide)) hokv.rd hokv.av hokv.cap hokv.big hR)
              simp only [vV] at HP
              clear hokv hW5
              go_wp2_with fail
              refine HP.out.mono ?_
              rintro e w6 ⟨rfl, hst⟩
              obtain ⟨r6, hW6, f6⟩ := hst.kf
              have Hst := jJ0 ((F5.out.trans f6).step hW6)
              have HR := jJ0 hR
              clear hst f6 hW6 d1 d2 d3 d4 HP hR
              go_wp2
              go_roundw
              case rel => exact ⟨k + 1, by omega, by go_num, by rw [Hgood.out]; exact decide_eq_true ⟨Hs.out, HR.out⟩, by rw [Hfin.out]; exact Hst.out⟩
              case measure => simp [intOf]; omega
            · have HP := jJ0 (putv_bad ⟨vk, vn, vt, vs⟩ mA mc g w5 hokv.rd hokv.cap hokv.big hR)
              simp only [vV] at HP
              have hRb : (jP ⟨vk, vn, vt, vs⟩ != 0) = true := by simpa using hR
              have HC := jJ0 (HnoK.out (fun h => hR h.2))
              clear hokv HnoK Hgood
              generalize jP ⟨vk, vn, vt, vs⟩ = z at hRb HP
              go_wp2_with fail
              refine HP.out.mono ?_
              rintro e w6 ⟨rfl, ho6⟩
              have Hend := jJ0 (show LayP w g r bs CB 6000000000 (.returned (.bool false)) w6 from by
                obtain ⟨x, hx⟩ := Hcs.out
                rw [hx, List.append_assoc] at hW5
                exact .inr ⟨HC.out, rfl, _, WStep.after Ho.out ((F5.out.old ho6).step (hW5.old ho6))⟩)
              clear ho6 hW5 d1 d2 d3 d4 HP
              go_wp2
              go_ret
              exact Hend.out
          · have Hend := jJ0 (show LayP w g r bs CB 6000000000 (.returned (.bool false)) w5 from by
              obtain ⟨r5, hW5, f5⟩ := hst.kf
              obtain ⟨x, hx⟩ := Hcs.out
              rw [hx] at hW5
              exact .inr ⟨HnoK.out (fun h => by omega), rfl, x, WStep.after Ho.out ((F.out.trans (hF0.trans f5)).step hW5)⟩)
            clear ht hst hF0 q0 q1 q2 q3 q4
            go_wp2
            go_ret
            exact Hend.out
        · obtain rfl : k = m.values.length := by omega
          rw [List.take_of_length_le (by simp)] at hst hgood hlen Hlenk
          obtain ⟨r', hW', f'⟩ := hst.kf
          have HY := jJ0 (Hyes.out ⟨hs, hmany, hgood⟩)
          have Hhl := jJ0 (show CH.length <= 1200000000 by
            rw [Hhead.out]
            simp only [List.length_append, jL, jF, jG, jC, Hok.out.chain]
            omega)
          have Hcs := jJ0 (show pp ++ (m.values.map MBind.data).flatMap yH = bs ++ CH by rw [<- Hpp.out, Hhead.out]; simp only [List.append_assoc])
          rw [Hcs.out] at hW'
          have hokr := f'.case_ HokW.out
          have hbr := f'.blk Hb.out Hx.out
          have hc36 := hbr.at_ 36 (by rw [List.getElem?_toArray]; exact HS.out.2.2.2.1)
          have Hlen0 := jJ0 (show (bs ++ CH).length <= 330000000000 by rw [<- Hcs.out]; exact Hlenk.out)
          have HN := jJ0 (names_any wr g r' _ m.open_.A m.open_.c m.open_.l hW' (by have := Hlen0.out; omega) hokr.open_.rd hokr.open_.av hokr.open_.small hokr.open_.big)
          have F := jJ0 f'
          simp only [MTexts.sl] at hc36
          clear hst hgood hlen hokr hbr hW' f' Hyes Hno Hst4 F4 hs
          go_wp2_with fail
          refine HN.out.mono ?_
          rintro e w7 (⟨l7, hl7, hn7, rfl, hst7⟩ | ⟨hno7, rfl, l7, hst7⟩)
          · obtain ⟨r7, hW7, f7⟩ := hst7.kf
            have F7 := jJ0 (F.out.trans f7)
            have hokr := F7.out.case_ HokW.out
            have hc37 := (F7.out.blk Hb.out Hx.out).at_ 37 (by rw [List.getElem?_toArray]; exact HS.out.2.2.2.2.1)
            have HN := jJ0 (names_any w7 g r7 _ m.closed.A m.closed.c m.closed.l hW7 (by have := Hlen0.out; rw [List.length_append]; omega) hokr.closed.rd hokr.closed.av hokr.closed.small hokr.closed.big)
            simp only [MTexts.sl] at hc37
            have H7 := jJ0 (And.intro hl7 hn7)
            clear hst7 f7 hW7 hokr F hl7 hn7 hc36
            go_wp2_with fail
            refine HN.out.mono ?_
            rintro e w8 (⟨l8, hl8, hn8, rfl, hst8⟩ | ⟨hno8, rfl, l8, hst8⟩)
            · obtain ⟨r8, hW8, f8⟩ := hst8.kf
              have F8 := jJ0 (F7.out.trans f8)
              have hokr := F8.out.case_ HokW.out
              have hc38 := (F8.out.blk Hb.out Hx.out).at_ 38 (by rw [List.getElem?_toArray]; exact HS.out.2.2.2.2.2)
              have HN := jJ0 (names_any w8 g r8 _ m.reached.A m.reached.c m.reached.l hW8 (by have := Hlen0.out; have := H7.out.2; rw [List.length_append, List.length_append]; omega) hokr.reached.rd hokr.reached.av hokr.reached.small hokr.reached.big)
              simp only [MTexts.sl] at hc38
              have H8 := jJ0 (And.intro hl8 hn8)
              clear hst8 f8 hW8 hokr F7 hl8 hn8 hc37
              go_wp2_with fail
              refine HN.out.mono ?_
              rintro e w9 (⟨l9, hl9, hn9, rfl, hst9⟩ | ⟨hno9, rfl, l9, hst9⟩)
              · have Hend := jJ0 (show LayP w g r bs CB 6000000000 (.returned (.bool true)) w9 from by
                  obtain ⟨r9, hW9, f9⟩ := hst9.kf
                  refine .inl ⟨CH ++ (l7 ++ (l8 ++ l9)), by rw [HY.out, H7.out.1, H8.out.1, hl9]; rfl, ?_, rfl, ?_⟩
                  · have := Hhl.out
                    have := H7.out.2
                    have := H8.out.2
                    simp only [List.length_append]
                    omega
                  · simp only [List.append_assoc] at hW9
                    exact WStep.after Ho.out ((F8.out.trans f9).step hW9))
                clear hst9 hl9 hn9 hc38
                go_wp2
                go_ret
                exact Hend.out
              · have Hend := jJ0 (show LayP w g r bs CB 6000000000 (.returned (.bool false)) w9 from by
                  obtain ⟨r9, hW9, f9⟩ := hst9.kf
                  simp only [List.append_assoc] at hW9
                  exact .inr ⟨by rw [HY.out, H7.out.1, H8.out.1, hno9]; rfl, rfl, _, WStep.after Ho.out ((F8.out.trans f9).step hW9)⟩)
                clear hst9 hno9 hc38
                go_wp2
                go_ret
                exact Hend.out
            · have Hend := jJ0 (show LayP w g r bs CB 6000000000 (.returned (.bool false)) w8 from by
                obtain ⟨r9, hW9, f9⟩ := hst8.kf
                simp only [List.append_assoc] at hW9
                exact .inr ⟨by rw [HY.out, H7.out.1, hno8]; rfl, rfl, _, WStep.after Ho.out ((F7.out.trans f9).step hW9)⟩)
              clear hst8 hno8 hc37
              go_wp2
              go_ret
              exact Hend.out
          · have Hend := jJ0 (show LayP w g r bs CB 6000000000 (.returned (.bool false)) w7 from by
              obtain ⟨r9, hW9, f9⟩ := hst7.kf
              simp only [List.append_assoc] at hW9
              exact .inr ⟨by rw [HY.out, hno7]; rfl, rfl, _, WStep.after Ho.out ((F.out.trans f9).step hW9)⟩)
            clear hst7 hno7 hc36
            go_wp2
            go_ret
            exact Hend.out
    · have hm1 : (255 : Int) < (m.values.length : Int) := by omega
      have Hend := jJ0 (show LayP w g r bs CB 6000000000 (.returned (.bool false)) w1 from
        .inr ⟨Hno.out (fun h => hmany h.2.1), rfl, _, WStep.after Ho.out (F.out.step hW1)⟩)
      clear hb1
      go_wp2
      go_ret
      exact Hend.out
  · have Hend := jJ0 (show LayP w g r bs CB 6000000000 (.returned (.bool false)) w1 from
      .inr ⟨Hno.out (fun h => by omega), rfl, [], by rw [List.append_nil]; exact WStep.after (Ho.out.alloc _) hst⟩)
    clear ht hst hF0
    go_wp2
    go_ret
    exact Hend.out
structure MPiece where
  case_ : ByteArray
  first : Int
  before : List UInt8
  evs : List Part
  eA : Option Addr
  eC : Nat
  pfs : List MWay
  pA : Option Addr
  pC : Nat
def MPiece.cells (m : MPiece) : List Value := [.string m.case_, .int .i64 m.first] ++ (jB m.before ++ [.slice m.eA m.evs.length m.eC, .slice m.pA m.pfs.length m.pC])
structure Part.Ok (w : World) (X : Nat -> Prop) (p : Part) : Prop where
  rd : Rd w 1 p.A p.l.length (p.l.map bv)
  av : Av X p.l.length p.A
  big : p.l.length <= 2147483647
structure MPiece.Ok (w : World) (X : Nat -> Prop) (m : MPiece) : Prop where
  before : m.before.length = 32
  evs : ∀ p ∈ m.evs, Part.Ok w X p
  rdE : Rd w 1 m.eA m.evs.length (m.evs.map Part.sl)
  avE : Av X m.evs.length m.eA
  pfs : ∀ p ∈ m.pfs, MWay.Ok w X p
  rdP : Rd w 3 m.pA m.pfs.length (m.pfs.flatMap MWay.cells)
  avP : Av X m.pfs.length m.pA
  big : m.evs.length <= 2147483647 /\ m.pfs.length <= 2147483647 /\ m.case_.size <= 2147483647
structure Pie where
  case_ : ByteArray
  first : Int
  before : List UInt8
  evs : List (List UInt8)
  pfs : List Way
def MPiece.data (m : MPiece) : Pie := ⟨m.case_, m.first, m.before, m.evs.map Part.l, m.pfs.map MWay.data⟩
def prow (e : List UInt8) (p : Way) : Prow := ⟨none, e.length, 0, p.a, p.b, none, p.ds.length, 0⟩
def mrow (e : Part) (p : MWay) : Prow := ⟨e.A, e.l.length, e.c, p.a, p.b, p.A, p.ds.length, p.c⟩
def strip (r : Prow) : Prow := ⟨none, r.n, 0, r.size, r.num, none, r.k, 0⟩
def rowB (e : List UInt8) (p : Way) : List UInt8 := be8 p.b ++ (lp 4 e ++ p.ds.flatten)
def size0W : List Way -> Int
  | [] => 0
  | x :: _ => x.a
def pieHead (p : Pie) : List UInt8 := be 1 51 ++ (lp 1 (sb p.case_) ++ ((be8 p.first ++ p.before) ++ (be8 (size0W p.pfs) ++ be 4 p.evs.length)))
def pieOk (p : Pie) : Bool := decide (p.evs.length ≠ 0 /\ p.evs.length = p.pfs.length /\ vw p.case_ p.first p.before (List.zipWith prow p.evs p.pfs) = p.evs.length)
def pieceB (p : Pie) : Option (List UInt8) := if pieOk p = true then some (pieHead p ++ (List.zipWith rowB p.evs p.pfs).flatten) else none
theorem reachGo_strip (f sz : Int) : ∀ (rs : List Prow) (i b : Nat) (prev : Int), vK f sz i b prev (rs.map strip) = vK f sz i b prev rs
  | [], _, _, _ => rfl
  | r :: rs, i, b, prev => by
    simp only [List.map_cons, vK]
    rw [reachGo_strip f sz rs]
    rfl
theorem size0_strip (rs : List Prow) : vP (rs.map strip) = vP rs := by cases rs <;> rfl
theorem reachN_strip (s : ByteArray) (f : Int) (d : List UInt8) (rs : List Prow) : vw s f d (rs.map strip) = vw s f d rs := by
  unfold vw
  rw [reachGo_strip, size0_strip]
theorem strip_rows : ∀ (es : List Part) (ps : List MWay), (List.zipWith mrow es ps).map strip = List.zipWith prow (es.map Part.l) (ps.map MWay.data)
  | [], _ => by simp
  | _ :: _, [] => by simp
  | e :: es, p :: ps => by
    simp only [List.zipWith_cons_cons, List.map_cons, strip_rows es ps]
    rfl
theorem reachGo_all (f sz : Int) : ∀ (rs : List Prow) (i b : Nat) (prev : Int), vK f sz i b prev rs = i + rs.length -> (∀ r ∈ rs, rowOk r.n r.size r.num r.k sz = true) /\ (i <= 1000 -> i + rs.length <= 1000)
  | [], i, _, _, _ => ⟨(fun r hr => by cases hr), fun h => by simpa using h⟩
  | r :: rs, i, b, prev, h => by
    rw [vK] at h
    split at h
    · simp at h
    · next hs =>
      have h1 := reachGo_all f sz rs (i + 1) (b + (12 + r.n + 32 * r.k)) r.num (by rw [h, List.length_cons]; omega)
      have hs' : stopsAt f sz i (b + (12 + r.n + 32 * r.k)) prev r = false := by simpa using hs
      unfold stopsAt at hs'
      have hs2 := of_decide_eq_false hs'
      have a1 : rowOk r.n r.size r.num r.k sz = true := by
        cases hh : rowOk r.n r.size r.num r.k sz with
        | true => rfl
        | false => exact absurd (.inr (.inr (.inl hh))) hs2
      have a2 : i ≠ 1000 := fun e => hs2 (.inl e)
      refine ⟨fun x hx => ?_, fun hi => ?_⟩
      · rcases List.mem_cons.1 hx with rfl | hx
        · exact a1
        · exact h1.1 x hx
      · have := h1.2 (by omega)
        rw [List.length_cons]
        omega
theorem rowOk_parts {n k : Nat} {a b size : Int} (h : rowOk n a b k size = true) : k <= 41 /\ n <= 65536 /\ 1 <= n /\ besN a b = some k /\ a = size := by
  have h' := of_decide_eq_true h
  obtain ⟨h1, h2, h3, h4⟩ := h'
  have : k <= 41 := by
    unfold besN at h1
    split at h1
    · injection h1 with h1
      have := besGo_le a.toNat b.toNat 41 0 0
      omega
    · cases h1
  exact ⟨this, h4, h3, h1, h2⟩
theorem reachN_all {s : ByteArray} {f : Int} {d : List UInt8} {rs : List Prow} (h : vw s f d rs = rs.length) (h0 : rs.length ≠ 0) : beginsB s f d = true /\ rs.length <= 1000 /\ ∀ r ∈ rs, r.k <= 41 /\ r.n <= 65536 /\ 1 <= r.n /\ besN r.size r.num = some r.k /\ r.size = vP rs := by
  unfold vw at h
  split at h
  · next hb =>
    have h1 := reachGo_all f (vP rs) rs 0 (54 + s.size) 0 (by rw [h]; omega)
    exact ⟨hb, by have := h1.2 (by omega); omega, fun r hr => rowOk_parts (h1.1 r hr)⟩
  · omega
theorem beginsB_small {s : ByteArray} {f : Int} {d : List UInt8} (h : beginsB s f d = true) : s.size <= 64 := by
  unfold beginsB vU at h
  simp only [Bool.and_eq_true, decide_eq_true_eq] at h
  exact h.1.1
section
variable {m : MPiece}
theorem MPiece.s0 (m : MPiece) : m.cells[0]? = some (.string m.case_) := rfl
theorem MPiece.s1 (m : MPiece) : m.cells[1]? = some (.int .i64 m.first) := rfl
theorem MPiece.s2 (m : MPiece) : Sub m.cells 2 (jB m.before) := Sub.mid_ [.string m.case_, .int .i64 m.first] _ _ 2 rfl
theorem MPiece.len (h : m.before.length = 32) : m.cells.length = 36 := by simp [MPiece.cells, jD, h]
theorem MPiece.s34 (h : m.before.length = 32) : m.cells[34]? = some (.slice m.eA m.evs.length m.eC) := kB [.string m.case_, .int .i64 m.first] _ m.before h 34 0 rfl
theorem MPiece.s35 (h : m.before.length = 32) : m.cells[35]? = some (.slice m.pA m.pfs.length m.pC) := kB [.string m.case_, .int .i64 m.first] _ m.before h 34 1 rfl
theorem MPiece.one (m : MPiece) : m.cells.toArray.all (·.oneCell') = true := by
  refine all_oneCell_toArray (fun v hv => ?_)
  simp only [MPiece.cells, List.mem_append, List.mem_cons, List.not_mem_nil, or_false] at hv
  rcases hv with (rfl | rfl) | hv | rfl | rfl
  · rfl
  · rfl
  · exact jr _ v hv
  · rfl
  · rfl
end
theorem vS (es : List Part) (ps : List MWay) (h : es.length = ps.length) : (List.zipWith mrow es ps).length = es.length := by rw [List.length_zipWith]; omega
theorem rows_ev : ∀ (es : List Part) (ps : List MWay), es.length = ps.length -> (List.zipWith mrow es ps).map Prow.ev = es.map Part.sl
  | [], [], _ => rfl
  | [], _ :: _, h => by simp at h
  | _ :: _, [], h => by simp at h
  | e :: es, p :: ps, h => by
    simp only [List.zipWith_cons_cons, List.map_cons, rows_ev es ps (by simpa using h)]
    rfl
theorem rows_pf : ∀ (es : List Part) (ps : List MWay), es.length = ps.length -> (List.zipWith mrow es ps).flatMap Prow.pf = ps.flatMap MWay.cells
  | [], [], _ => rfl
  | [], _ :: _, h => by simp at h
  | _ :: _, [], h => by simp at h
  | e :: es, p :: ps, h => by
    simp only [List.zipWith_cons_cons, List.flatMap_cons, rows_pf es ps (by simpa using h)]
    rfl
theorem rows_ok (es : List Part) (ps : List MWay) (he : ∀ p ∈ es, p.l.length <= 2147483647) (hp : ∀ p ∈ ps, p.ds.length <= 2147483647) : ∀ r ∈ List.zipWith mrow es ps, r.Ok := by
  intro r hr
  obtain ⟨k, hk, rfl⟩ := List.getElem_of_mem hr
  rw [List.getElem_zipWith]
  rw [List.length_zipWith] at hk
  exact ⟨he _ (List.getElem_mem (by omega)), hp _ (List.getElem_mem (by omega))⟩
def rowsB (es : List Part) (ps : List MWay) (k : Nat) : List UInt8 := ((List.zipWith rowB (es.map Part.l) (ps.map MWay.data)).take k).flatten
theorem rowsB_succ (es : List Part) (ps : List MWay) (k : Nat) (he : k < es.length) (hp : k < ps.length) : rowsB es ps (k + 1) = rowsB es ps k ++ rowB es[k].l ps[k].data := by
  unfold rowsB
  have hl : k < (List.zipWith rowB (es.map Part.l) (ps.map MWay.data)).length := by simp only [List.length_zipWith, List.length_map]; omega
  rw [List.take_succ_eq_append_getElem hl, List.flatten_append, List.flatten_singleton, List.getElem_zipWith, List.getElem_map, List.getElem_map]
theorem rowsB_all (es : List Part) (ps : List MWay) (h : es.length = ps.length) : rowsB es ps es.length = (List.zipWith rowB (es.map Part.l) (ps.map MWay.data)).flatten := by
  unfold rowsB
  rw [List.take_of_length_le (by simp only [List.length_zipWith, List.length_map]; omega)]
def SomeRoom (w : World) (e : Ending) (w' : World) : Prop := ∃ r : Int, e = .returned (.int .i64 r) /\ -1 <= r /\ r <= 2147483647 /\ w = w'
theorem Rd.partL {w : World} {A : Option Addr} {n : Nat} {l : List Part} (h : Rd w 1 A n (l.map Part.sl)) {k : Nat} (hk : k < n) : ∃ b o p, A = some ⟨b, o, none⟩ /\ p ∈ l /\ w.cell? ⟨b, o + k, none⟩ = some (.slice p.A p.l.length p.c) := by
  obtain ⟨b, o, u, rfl, hu, hc⟩ := h.at_ hk
  rw [List.getElem?_map, Option.map_eq_some_iff] at hu
  obtain ⟨p, hp, rfl⟩ := hu
  exact ⟨b, o, p, rfl, List.mem_of_getElem? hp, hc⟩
theorem lists_some (w : World) (left : Int) (A : Option Addr) (c n : Nat) (l : List Part) (h1 : -1 <= left) (h2 : left <= 2147483647) (hr : Rd w 1 A n (l.map Part.sl)) (hx : ∀ p ∈ l, p.l.length <= 2147483647) (hbig : n <= 1000000000000) :
    Calls Tryz.prog 31 #[.int .i64 left, .slice A n c] w (SomeRoom w) := by
  have Hx := jJ0 hx
  clear hx
  go_enter Tryz.func31, Tryz.ntmps31
  go_wp2_with fail
  go_loop [0, 5] (fun x i => ∃ (j : Nat) (lf : Int), j <= n /\ i = .int .i64 j /\ x = .int .i64 lf /\ -1 <= lf /\ lf <= 2147483647) (fun _ i => n - (intOf i).toNat)
  case atStart => exact ⟨0, left, Nat.zero_le _, rfl, rfl, h1, h2⟩
  case round =>
    obtain ⟨j, lf, hj, rfl, rfl, hl1, hl2⟩ := hrel
    by_cases hlt : j < n
    · have hltI : (j : Int) < (n : Int) := by omega
      by_cases hneg : lf < 0
      · have hge : ¬ (0 : Int) <= lf := by omega
        go_wp2
        go_ret
        exact ⟨lf, rfl, hl1, hl2, rfl⟩
      · have hge : (0 : Int) <= lf := by omega
        obtain ⟨b, o, p, rfl, hp, hcell⟩ := hr.partL (k := j) hlt
        have Hp := jJ0 (Hx.out p hp)
        obtain ⟨pA, pl, pc⟩ := p
        simp only at hcell Hp
        clear hp
        go_wp2_with fail
        refine (ki w lf 1 hl1 hl2 (by decide)).mono ?_
        rintro e w' ⟨r1, rfl, a1, a2, rfl⟩
        go_wp2_with fail
        refine (ki w r1 pl.length a1 a2 (by omega)).mono ?_
        rintro e w' ⟨r2, rfl, b1, b2, rfl⟩
        have hj1 : IntKind.i64.wrap ((j : Int) + 1) = (j : Int) + 1 := IntWalk.i64_in _ (by omega)
        go_wp2
        go_round
        case rel => exact ⟨j + 1, r2, by omega, by go_num, rfl, b1, b2⟩
        case measure => simp [intOf]; omega
    · obtain rfl : j = n := by omega
      go_wp2
      go_ret
      exact ⟨lf, rfl, hl1, hl2, rfl⟩
end Go.Proofs.YtnaolhjbapgjgaaGreat

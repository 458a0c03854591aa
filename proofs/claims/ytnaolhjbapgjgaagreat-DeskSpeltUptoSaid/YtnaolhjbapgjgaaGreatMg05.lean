import Derived.Test.YtnaolhjbapgjgaaGreatMg01
import Derived.Test.YtnaolhjbapgjgaaGreatMg02
import Derived.Test.YtnaolhjbapgjgaaGreatMg04
import Derived.Deep.DeepCutAuto
import Derived.Deep.MidRow
import Derived.Deep.RegionLaw
set_option maxRecDepth 100000
set_option maxHeartbeats 3200000
namespace Go.Proofs.YtnaolhjbapgjgaaGreat
open Go.RowKit
theorem oper_4 (m : MOp) (g : Nat) (r : Option Nat) (bs : List UInt8) (w : World) (hW : Wr w g r bs) (hl : bs.length <= 500000000000) (hok : m.Ok w (WX g r)) (hop : m.op = 4) :
    Calls Tryz.prog 20 #[.pointer (some ⟨g, 0, none⟩), .agg m.cells.toArray] w (OpPost w g r bs m.data) := by
  have Hl := jJ0 hl
  clear hl
  obtain ⟨op, case_, type_, name, value, args, argsA, argsC, source, srcA, srcC, clock⟩ := m
  obtain ⟨hbA, hbS, hbC, hbT, hbN⟩ := hok.big
  simp only [MOp.cells, MOp.data] at *
  subst hop
  go_enter Tryz.func20, Tryz.ntmps20
  go_wp2_with fail
  have ho : Kp NoX w (w.alloc (.cells #[.int .i64 4, .string case_, .string type_, .string name, .int .i64 value.v.kind, .int .i64 value.v.n, .string value.v.t, .slice value.A value.v.s.length value.c, .slice argsA args.length argsC, .slice srcA source.length srcC, .int .i64 clock] 32)) := (Kp.refl NoX w).alloc _
  have hb := Blk.new w 32 #[.int .i64 4, .string case_, .string type_, .string name, .int .i64 value.v.kind, .int .i64 value.v.n, .string value.v.t, .slice value.A value.v.s.length value.c, .slice argsA args.length argsC, .slice srcA source.length srcC, .int .i64 clock]
  have hW1 := hW.old ho
  refine (jV _ g r bs _ (by omega) (by omega) hW1 (Nat.le_trans Hl.out (by decide))).mono ?_
  rintro e w2 ⟨rfl, r2, hW2, hk2, hf2⟩
  have hb2 := hb.kp hk2 (kW hW (Nat.le_refl _))
  have hkp := (ho.mono (Y := WX g r) (fun _ _ f => f.elim)).trans hk2 (fun _ _ h => h)
  have hfr : Fr w r r2 := by
    rcases hf2 with rfl | ⟨k, rfl, hle⟩
    · exact .inl rfl
    · exact .inr ⟨k, rfl, Nat.le_trans ho.size hle⟩
  have hok2 := hok.step hkp hfr
  have hbx : ¬ WX g r2 w.heap.size := by
    rintro (e | e)
    · have := hW.lt.1; omega
    · rcases hf2 with rfl | ⟨k, rfl, hle⟩
      · exact kW hW (Nat.le_refl _) (.inr e)
      · injection e with e; simp at hle; omega
  have d0 := hb2.at_ 0 rfl
  have d1 := hb2.at_ 1 rfl
  have d3 := hb2.at_ 3 rfl
  have hcl : (bs ++ be 1 ((4 : Int)).toNat).length <= 510000000000 := by rw [List.length_append, jC]; have := Hl.out; omega
  have Hcl := jJ0 hcl
  clear hcl hb hf2 hk2 hW1 ho
  go_wp2_with fail
  refine (vB _ g r2 _ _ 2 [case_, name] (hW2.old ((Kp.refl _ _).alloc _)) (Nat.le_trans Hcl.out (by decide)) (Rd.arr_new _ _ [.string case_, .string name]) (Av.new hW2) (by simp) ?_).mono ?_
  · intro k hk
    simp only [List.length_cons, List.length_nil] at hk
    have : k = 0 \/ k = 1 := by omega
    rcases this with rfl | rfl
    · exact hbC
    · exact hbN
  intro e w3 ht
  rcases ht.two with ⟨rfl, hs1, hs2, hst⟩ | ⟨rfl, hbig, bs', hbl, hst⟩
  ·
    obtain ⟨r3, hW3, hk3, hf3⟩ := hst
    have hb3 := (hb2.alloc _).kp hk3 hbx
    have hok3 := (hok2.old ((Kp.refl _ _).alloc _)).step hk3 hf3
    have hst1 : Kp (WX g r2) w2 w3 := (((Kp.refl NoX w2).alloc _).mono (Y := WX g r2) (fun _ _ f => f.elim)).trans hk3 (fun _ _ h => h)
    have hf3' : Fr w2 r2 r3 := by
      rcases hf3 with rfl | ⟨k, rfl, hle⟩
      · exact .inl rfl
      · exact .inr ⟨k, rfl, Nat.le_trans (by simp) hle⟩
    have hcl3 : (bs ++ be 1 (4 : Int).toNat ++ (lp 4 (sb case_) ++ lp 4 (sb name))).length <= 520000000000 := by
      have := Hcl.out
      simp only [List.length_append, jL, jF, jC] at *
      omega
    have Hcl3 := jJ0 hcl3
    clear hcl3
    have e8 := hb3.at_ 8 rfl
    by_cases hmany : args.length <= 255
    · have hm1 : ¬ ((255 : Int) < (args.length : Int)) := by omega
      have e8 : IntKind.u8.wrap (args.length : Int) = args.length := IntWalk.u8_in _ (by omega)
      go_wp2_with fail
      refine (jV _ g r3 _ _ (by omega) (by omega) hW3 (Nat.le_trans Hcl3.out (by decide))).mono ?_
      rintro e w4 ⟨rfl, r4, hW4, hk4, hf4⟩
      have hbx3 : ¬ WX g r3 w.heap.size := by
        rintro (e | e)
        · exact hbx (.inl e)
        · rcases hf3' with rfl | ⟨k, rfl, hle⟩
          · exact hbx (.inr e)
          · injection e with e
            have := hb2.lt
            omega
      have hb4 := hb3.kp hk4 hbx3
      have f8 := hb4.at_ 8 rfl
      rw [Int.toNat_natCast] at hW4
      have hall : WStep w g r w4 (bs ++ be 1 (4 : Int).toNat ++ (lp 4 (sb case_) ++ lp 4 (sb name)) ++ be 1 args.length) := WStep.trans hkp hfr (WStep.trans hst1 hf3' ⟨r4, hW4, hk4, hf4⟩)
      generalize hpp : bs ++ be 1 (4 : Int).toNat ++ (lp 4 (sb case_) ++ lp 4 (sb name)) ++ be 1 args.length = pp at hall
      have hppl : pp.length <= 530000000000 := by
        rw [<- hpp]
        have := Hcl3.out
        rw [List.length_append, jC]
        omega
      have Hppl := jJ0 hppl
      have Hpp := jJ0 hpp
      clear hppl hpp hb4 hb3 hb2 hW4 hk4 hf4 hW3 hk3 hf3 hst1 hf3' hbx hbx3 hok3 hok2 hW2 hkp hfr d0 d1 d3 e8 Hcl Hcl3
      go_wp2
      go_loopw [74] (fun i wr => ∃ k : Nat, k <= args.length /\ i = .int .i64 k /\ (∀ j (hj : j < args.length), j < k -> jP args[j].v = 0) /\ WStep w g r wr (pp ++ vM ((args.map (·.v)).take k))) (fun i _ => args.length - (intOf i).toNat)
      case atStart => exact ⟨0, by omega, rfl, (fun j hj h => by omega), by simpa [vM] using hall⟩
      case round =>
        obtain ⟨k, hk, rfl, hright, hst⟩ := hrel
        have Hright := jJ0 hright
        have hvl := valsB_length (args.map (·.v)) k (by simpa using hk) (fun j hj hjk => by simpa using hright j (by simpa using hj) hjk)
        clear hright
        by_cases hlt : k < args.length
        · obtain ⟨r5, hW5, hk5, hf5⟩ := hst
          have hok5 := hok.step hk5 hf5
          obtain ⟨b, o, hAe, q0, q1, q2, q3⟩ := hok5.rdArgs.mval hlt
          simp only at hAe q0 q1 q2 q3
          subst hAe
          have hokv := hok5.args args[k] (List.getElem_mem hlt)
          have hcl5 : (pp ++ vM ((args.map (·.v)).take k)).length <= 600000000000 := by
            have := Hppl.out
            rw [List.length_append]
            omega
          have Hfin := jJ0 (show pp ++ vM ((args.map (·.v)).take (k + 1)) = (pp ++ vM ((args.map (·.v)).take k)) ++ valB args[k].v by
            rw [valsB_take_succ _ k (by simpa using hlt)]; simp)
          generalize hmm : args[k] = mv at q0 q1 q2 q3 hokv Hfin
          generalize hcc : pp ++ vM ((args.map (·.v)).take k) = cs at hW5 hcl5 Hfin
          have Hcc := jJ0 hcc
          have Hvl := jJ0 hvl
          clear hcc
          have Hmm := jJ0 hmm
          have Hcl5 := jJ0 hcl5
          clear hmm hcl5 hvl hall
          have b5 : (k : Int) <= 255 := by omega
          obtain ⟨⟨vk, vn, vt, vs⟩, mA, mc⟩ := mv
          simp only at q0 q1 q2 q3 Hmm
          by_cases hR : jP ⟨vk, vn, vt, vs⟩ = 0
          · go_wp2_with fail
            refine (putv_ok ⟨vk, vn, vt, vs⟩ mA mc g r5 cs _ (hW5.old ((Kp.refl _ _).alloc _)) (Nat.le_trans Hcl5.out (by decide)) (hokv.rd.alloc _) hokv.av hokv.cap hokv.big hR).mono ?_
            rintro e w6 ⟨rfl, hst⟩
            have Hst := jJ0 (WStep.trans hk5 hf5 (WStep.after ((Kp.refl _ _).alloc _) hst))
            have HR := jJ0 hR
            clear hst hR
            go_wp2
            go_roundw
            case rel =>
              refine ⟨k + 1, by omega, by go_num, fun j hj hjk => ?_, by rw [Hfin.out]; exact Hst.out⟩
              by_cases e : j = k
              · subst e; rw [Hmm.out]; exact HR.out
              · exact Hright.out j hj (by omega)
            case measure => simp [intOf]; omega
          · go_wp2_with fail
            refine (putv_bad ⟨vk, vn, vt, vs⟩ mA mc g _ (hokv.rd.alloc _) hokv.cap hokv.big hR).mono ?_
            rintro e w6 ⟨rfl, ho6⟩
            have Hst := jJ0 (WStep.trans hk5 hf5 (WStep.after ((Kp.refl _ _).alloc _) ((hW5.old ((Kp.refl _ _).alloc _)).step.old ho6)))
            have HR := jJ0 hR
            have hRb : (jP ⟨vk, vn, vt, vs⟩ != 0) = true := by simpa using hR
            generalize jP ⟨vk, vn, vt, vs⟩ = z at hRb
            clear hR ho6
            go_wp2
            go_ret
            refine ⟨false, be 1 (4 : Int).toNat ++ (lp 4 (sb case_) ++ lp 4 (sb name)) ++ be 1 args.length ++ vM ((args.map (·.v)).take k), rfl, ?_, ?_, (fun h => by cases h), fun _ => .inl ?_⟩
            · have h := Hst.out
              rw [<- Hcc.out, <- Hpp.out] at h
              simpa only [List.append_assoc] using h
            · have := Hvl.out
              simp only [List.length_append, jC, jL, jF]
              omega
            · rw [opB, vZ, if_neg (by simp), if_neg (by simp), if_neg (by simp), if_pos rfl, if_neg]
              · rfl
              · rintro ⟨_, ha⟩
                rw [List.all_eq_true] at ha
                have := ha args[k].v (List.mem_map.2 ⟨args[k], List.getElem_mem hlt, rfl⟩)
                rw [Hmm.out] at this
                exact HR.out (by simpa using this)
        · have Hst := jJ0 hst
          have Hvl := jJ0 hvl
          clear hst hvl hall
          obtain rfl : k = args.length := by omega
          go_wp2
          go_ret
          have htake : (args.map (·.v)).take args.length = args.map (·.v) := List.take_of_length_le (by simp)
          refine ⟨true, be 1 (4 : Int).toNat ++ (lp 4 (sb case_) ++ lp 4 (sb name) ++ (be 1 args.length ++ vM (args.map (·.v)))), rfl, ?_, ?_, fun _ => ?_, fun h => by cases h⟩
          · have h := Hst.out
            rw [<- Hpp.out, htake] at h
            simpa only [List.append_assoc] using h
          · have := Hvl.out
            rw [htake] at this
            simp only [List.length_append, jC, jL, jF]
            omega
          · rw [opB, vZ, if_neg (by simp), if_neg (by simp), if_neg (by simp), if_pos rfl, if_pos]
            · simp [vM]
            · refine ⟨by simpa using hmany, ?_⟩
              rw [List.all_eq_true]
              intro v hv
              obtain ⟨m, hm, rfl⟩ := List.mem_map.1 hv
              obtain ⟨j, hj, rfl⟩ := List.getElem_of_mem hm
              simpa using Hright.out j hj hj
    · have hm1 : (255 : Int) < (args.length : Int) := by omega
      have Hst := jJ0 (WStep.trans hkp hfr (WStep.trans hst1 hf3' hW3.step))
      clear hst1 hf3'
      go_wp2
      go_ret
      refine ⟨false, be 1 (4 : Int).toNat ++ (lp 4 (sb case_) ++ lp 4 (sb name)), rfl, ?_, ?_, (fun h => by cases h), fun _ => .inl ?_⟩
      · have h := Hst.out
        simpa only [List.append_assoc] using h
      · simp only [List.length_append, jC, jL, jF]
        omega
      · rw [opB, vZ, if_neg (by simp), if_neg (by simp), if_neg (by simp), if_pos rfl, if_neg]
        · rfl
        · rintro ⟨h, _⟩
          simp at h
          omega
  · have hst1 := WStep.after ((Kp.refl _ _).alloc _) hst
    have Hst := jJ0 (WStep.trans hkp hfr hst1)
    have Hbig := jJ0 hbig
    clear hst hst1 hbig
    go_wp2
    go_ret
    refine ⟨false, be 1 (4 : Int).toNat ++ bs', rfl, by rw [<- List.append_assoc]; exact Hst.out, by rw [List.length_append, jC]; omega, (fun h => by cases h), fun _ => ?_⟩
    have hbig := Hbig.out
    by_cases hR : (args.map (·.v)).length <= 255 /\ ((args.map (·.v)).all fun v => jP v == 0) = true
    · refine .inr ⟨_, by rw [opB, vZ, if_neg (by simp), if_neg (by simp), if_neg (by simp), if_pos rfl, if_pos hR]; rfl, ?_⟩
      simp only [List.length_append, jC, jL, jF]
      omega
    · refine .inl ?_
      rw [opB, vZ, if_neg (by simp), if_neg (by simp), if_neg (by simp), if_pos rfl, if_neg hR]; rfl
theorem oper_any (m : MOp) (g : Nat) (r : Option Nat) (bs : List UInt8) (w : World) (hW : Wr w g r bs) (hl : bs.length <= 500000000000) (hok : m.Ok w (WX g r)) :
    Calls Tryz.prog 20 #[.pointer (some ⟨g, 0, none⟩), .agg m.cells.toArray] w (OpPost w g r bs m.data) := by
  by_cases h : m.op < 1 \/ 5 < m.op
  · exact oper_far m g r bs w hW hl hok h
  · have hk : m.op = 1 \/ m.op = 2 \/ m.op = 3 \/ m.op = 4 \/ m.op = 5 := by omega
    rcases hk with h | h | h | h | h
    · exact oper_1 m g r bs w hW hl hok h
    · exact oper_2 m g r bs w hW hl hok h
    · exact oper_3 m g r bs w hW hl hok h
    · exact oper_4 m g r bs w hW hl hok h
    · exact oper_5 m g r bs w hW hl hok h
structure Req where
  op : Int
  do_ : Opn
  name : ByteArray
  number : Int
  size : Int
  from_ : Int
  to_ : Int
  first : Int
def MReq.data (m : MReq) : Req := ⟨m.op, m.do_.data, m.name, m.number, m.size, m.from_, m.to_, m.first⟩
structure MReq.Ok (w : World) (m : MReq) : Prop where
  do_ : m.do_.Ok w NoX
  name : m.name.size <= 2147483647
def jq (q : Req) : Option (List UInt8) :=
  if q.op = 1 \/ q.op = 2 then opB q.do_
  else if q.op = 3 then some (lp 4 (sb q.name))
  else if q.op = 4 then some (be8 q.number)
  else if q.op = 5 \/ q.op = 6 \/ q.op = 7 \/ q.op = 12 then some []
  else if q.op = 8 then some (be8 q.number ++ be8 q.size)
  else if q.op = 9 then some (be8 q.from_ ++ be8 q.to_)
  else if q.op = 10 then some (lp 4 (sb q.name) ++ be8 q.size)
  else if q.op = 11 then some (lp 4 (sb q.name) ++ (be8 q.size ++ be8 q.first))
  else none
def reqB (q : Req) : Option (List UInt8) := (jq q).map fun b => be 1 q.op.toNat ++ b
def jy (q : Req) : Option (List UInt8) := (reqB q).bind fun b => if b.length <= 1048576 then some b else none
theorem kL {q : Req} {b : List UInt8} (h : reqB q = some b) (hl : b.length <= 1048576) : jy q = some b := by rw [jy, h]; simp [hl]
theorem jm {q : Req} {b : List UInt8} (h : reqB q = some b) (hl : 1048576 < b.length) : jy q = none := by rw [jy, h]; simp; omega
theorem encReq_none {q : Req} (h : jq q = none) : jy q = none := by rw [jy, reqB, h]; rfl
def EncPost (w : World) (b : Option (List UInt8)) (e : Ending) (w' : World) : Prop :=
  (∃ l A c, b = some l /\ e = .returned (.tuple #[.slice A l.length c, .int .i64 0]) /\ w'.ownsRow w.heap.size 5 1 (.slice A l.length c) l.length (l.map bv) /\ Old w w') \/
  (b = none /\ e = .returned (.tuple #[.slice none 0 0, .int .i64 240]) /\ Old w w')
theorem WStep.own {w w1 w2 : World} {g : Nat} {bs : List UInt8} (h : WStep w1 g none w2 bs) (ho : Old w w1) (hg : w.heap.size <= g) : Old w w2 := by
  obtain ⟨r, _, hk, _⟩ := h
  refine ho.trans hk (fun b hb hx => ?_)
  rcases hx with rfl | hx
  · omega
  · cases hx
theorem Av.own {w : World} {g n size : Nat} {A : Option Addr} {xs : List Value} (hr : Rd w size A n xs) (hs : 0 < size) (hg : w.heap.size <= g) : Av (WX g none) n A := by
  intro hn ad e hx
  have := hr.lt hs hn e
  rcases hx with hx | hx
  · omega
  · cases hx
theorem MVal.Ok.own {w : World} {X : Nat -> Prop} {m : MVal} (h : m.Ok w X) {g : Nat} (hg : w.heap.size <= g) : m.Ok w (WX g none) := ⟨h.rd, Av.own h.rd (by decide) hg, h.cap, h.big⟩
theorem MOp.Ok.own {w : World} {X : Nat -> Prop} {m : MOp} (h : m.Ok w X) {g : Nat} (hg : w.heap.size <= g) : m.Ok w (WX g none) :=
  ⟨h.value.own hg, fun v hv => (h.args v hv).own hg, h.rdArgs, Av.own h.rdArgs (by decide) hg, h.capArgs, h.rdSrc, Av.own h.rdSrc (by decide) hg, h.big⟩
def vR (v : Val) : Prop := v.t.size <= 2147483647 /\ ∀ x ∈ v.s, x.size <= 9223372036854775807
theorem lval_le {left : Int} {v : Val} (h2 : left <= 2147483647) : -1 <= kw (vQ left (100 + (v.t.size : Int))) v.s /\ kw (vQ left (100 + (v.t.size : Int))) v.s <= 2147483647 := by
  have a := yC (n := 100 + (v.t.size : Int)) h2 (by omega)
  exact textsR_le _ _ a.2 a.1
def SomeNum (w : World) (e : Ending) (w' : World) : Prop := ∃ r : Int, e = .returned (.int .i64 r) /\ -1 <= r /\ r <= 2147483647 /\ Old w w'
theorem lvalue_some (w : World) (left : Int) (v : Val) (A : Option Addr) (c : Nat) (h1 : -1 <= left) (h2 : left <= 2147483647) (hr : Rd w 1 A v.s.length (v.s.map sv)) (hs : vR v) :
    Calls Tryz.prog 29 #[.int .i64 left, vV v A c] w (SomeNum w) := by
  refine (lvalue_ex w left v A c h1 h2 hr hs.1 hs.2).mono ?_
  rintro e w' ⟨rfl, ho⟩
  exact ⟨_, rfl, (lval_le h2).1, (lval_le h2).2, ho⟩
theorem ki (w : World) (left n : Int) (h1 : -1 <= left) (h2 : left <= 2147483647) (hn : 0 <= n) : Calls Tryz.prog 10 #[.int .i64 left, .int .i64 n] w fun e w' => ∃ r : Int, e = .returned (.int .i64 r) /\ -1 <= r /\ r <= 2147483647 /\ w = w' := by
  refine (room_any w left n h1 h2 hn).mono ?_
  rintro e w' ⟨rfl, rfl⟩
  exact ⟨_, rfl, (yC h2 hn).2, (yC h2 hn).1, rfl⟩
theorem asked_some (w : World) (m : MReq) (hok : m.Ok w) (hv : vR m.do_.value.v) (ha : ∀ v ∈ m.do_.args, vR v.v) :
    Calls Tryz.prog 15 #[.int .i64 2147483647, .agg m.cells.toArray] w (SomeNum w) := by
  obtain ⟨op, ⟨dop, ca, ty, na, ⟨⟨vk, vn, vt, vs⟩, vA, vc⟩, args, aA, aC, src, sA, sC, clk⟩, nm, no, si, fr, to_, fi⟩ := m
  obtain ⟨hokd, hnm⟩ := hok
  simp only at hokd hnm hv ha
  obtain ⟨hbA, hbS, hbC, hbT, hbN⟩ := hokd.big
  simp only at hbA hbS hbC hbT hbN
  simp only [MReq.cells, MOp.cells, List.cons_append, List.nil_append]
  have hb := Blk.new w 34 (List.toArray [.int .i64 op, .int .i64 dop, .string ca, .string ty, .string na, .int .i64 vk, .int .i64 vn, .string vt, .slice vA vs.length vc, .slice aA args.length aC, .slice sA src.length sC, .int .i64 clk, .string nm, .int .i64 no, .int .i64 si, .int .i64 fr, .int .i64 to_, .int .i64 fi])
  have Ho := jJ0 ((Kp.refl NoX w).alloc (.cells (List.toArray [.int .i64 op, .int .i64 dop, .string ca, .string ty, .string na, .int .i64 vk, .int .i64 vn, .string vt, .slice vA vs.length vc, .slice aA args.length aC, .slice sA src.length sC, .int .i64 clk, .string nm, .int .i64 no, .int .i64 si, .int .i64 fr, .int .i64 to_, .int .i64 fi]) 34))
  have Hok := jJ0 hokd
  have Hv := jJ0 hv
  have Ha := jJ0 ha
  have Hb := jJ0 hb
  clear hokd hv ha hb
  go_enter Tryz.func15, Tryz.ntmps15
  go_upto_region 1 with (fail)
  generalize w.alloc _ = W at *
  have c12 := Hb.out.at_ 12 (v := .string nm) rfl
  have c2 := Hb.out.at_ 2 (v := .string ca) rfl
  have c3 := Hb.out.at_ 3 (v := .string ty) rfl
  have c4 := Hb.out.at_ 4 (v := .string na) rfl
  have c10 := Hb.out.at_ 10 (v := .slice sA src.length sC) rfl
  have c5 := Hb.out.at_ 5 (v := .int .i64 vk) rfl
  have c6 := Hb.out.at_ 6 (v := .int .i64 vn) rfl
  have c7 := Hb.out.at_ 7 (v := .string vt) rfl
  have c8 := Hb.out.at_ 8 (v := .slice vA vs.length vc) rfl
  have e1 : IntKind.i64.wrap (100 + (nm.size : Int)) = 100 + (nm.size : Int) := IntWalk.i64_in _ (by omega)
  have e2 : IntKind.i64.wrap ((ca.size : Int) + (ty.size : Int)) = (ca.size : Int) + (ty.size : Int) := IntWalk.i64_in _ (by omega)
  have e3 : IntKind.i64.wrap ((na.size : Int) + (src.length : Int)) = (na.size : Int) + (src.length : Int) := IntWalk.i64_in _ (by omega)
  go_wp2_with fail
  refine (ki W 2147483647 (100 + (nm.size : Int)) (by decide) (by decide) (by omega)).mono ?_
  rintro e w' ⟨r1, rfl, h1, h1', rfl⟩
  go_wp2_with fail
  refine (ki W r1 ((ca.size : Int) + (ty.size : Int)) h1 h1' (by omega)).mono ?_
  rintro e w' ⟨r2, rfl, h2, h2', rfl⟩
  go_wp2_with fail
  refine (ki W r2 ((na.size : Int) + (src.length : Int)) h2 h2' (by omega)).mono ?_
  rintro e w' ⟨r3, rfl, h3, h3', rfl⟩
  have HV := jJ0 (lvalue_some W r3 ⟨vk, vn, vt, vs⟩ vA vc h3 h3' (Hok.out.value.rd.old Ho.out) Hv.out)
  simp only [vV] at HV
  go_wp2_with fail
  refine HV.out.mono ?_
  rintro e w2 ⟨r4, rfl, h4, h4', ho2⟩
  have Ho2 := jJ0 ho2
  clear ho2 c12 c2 c3 c4 c10 c5 c6 c7 c8 e1 e2 e3
  go_wp2_with fail
  go_loopw [0, 5] (fun x i wr => ∃ (j : Nat) (r : Int), j <= args.length /\ i = .int .i64 j /\ x = .int .i64 r /\ -1 <= r /\ r <= 2147483647 /\ Old W wr) (fun _ i _ => args.length - (intOf i).toNat)
  case atStart => exact ⟨0, r4, Nat.zero_le _, rfl, rfl, h4, h4', Ho2.out⟩
  case round =>
    obtain ⟨j, r, hj, rfl, rfl, hr1, hr2, hor⟩ := hrel
    have c9 := jx (Hb.out.at_ 9 (v := .slice aA args.length aC) rfl) hor
    have Hor := jJ0 hor
    have Howr := jJ0 (Ho.out.old hor)
    clear hor
    have hjb : (j : Int) <= 1000000000000 := by omega
    by_cases hlt : j < args.length
    · have hltI : (j : Int) < (args.length : Int) := by omega
      by_cases hneg : r < 0
      · have hge : ¬ (0 : Int) <= r := by omega
        go_wp2
        go_ret
        exact ⟨r, rfl, hr1, hr2, Howr.out⟩
      · have hge : (0 : Int) <= r := by omega
        obtain ⟨p, o, hAe, q0, q1, q2, q3⟩ := (Hok.out.rdArgs.old Howr.out).mval hlt
        simp only at hAe q0 q1 q2 q3
        subst hAe
        have hokv := (Hok.out.args args[j] (List.getElem_mem hlt)).old Howr.out
        have hsm := Ha.out args[j] (List.getElem_mem hlt)
        generalize args[j] = mv at *
        obtain ⟨⟨k1, n1, t1, s1⟩, A1, c1⟩ := mv
        simp only at q0 q1 q2 q3 hsm
        have HV1 := jJ0 (lvalue_some wr r ⟨k1, n1, t1, s1⟩ A1 c1 hr1 hr2 hokv.rd hsm)
        simp only [vV] at HV1
        clear hokv hsm
        go_wp2_with fail
        refine HV1.out.mono ?_
        rintro e w5 ⟨r5, rfl, h5, h5', ho5⟩
        have Ho5 := jJ0 (Hor.out.old ho5)
        clear ho5 q0 q1 q2 q3 c9
        go_wp2
        go_roundw
        case rel => exact ⟨j + 1, r5, by omega, by go_num, rfl, h5, h5', Ho5.out⟩
        case measure => simp [intOf]; omega
    · obtain rfl : j = args.length := by omega
      go_wp2
      go_ret
      exact ⟨r, rfl, hr1, hr2, Howr.out⟩
def setL (w : World) (g : Nat) : Nat -> List Value -> World
  | _, [] => w
  | i, v :: vs => setL (w.setCell ⟨g, i, none⟩ v) g (i + 1) vs
theorem Kp.setL (g : Nat) : ∀ (vs : List Value) (w : World) (i : Nat), Kp (fun k => k = g) w (setL w g i vs)
  | [], w, _ => Kp.refl _ w
  | v :: vs, w, i => ((Kp.refl (fun k => k = g) w).setCell (p := ⟨g, i, none⟩) (fun _ => rfl) v).trans (Kp.setL g vs _ (i + 1)) (fun _ _ h => h)
theorem Blk.setL_from {g : Nat} {t : TypeId} : ∀ (vs pre rest : List Value) (w : World), Blk w g t (pre ++ rest).toArray -> rest.length = vs.length -> Blk (setL w g pre.length vs) g t (pre ++ vs).toArray
  | [], pre, rest, w, h, hl => by
    have : rest = [] := List.eq_nil_of_length_eq_zero (by simpa using hl)
    subst this
    simpa [Go.Proofs.YtnaolhjbapgjgaaGreat.setL] using h
  | v :: vs, pre, [], w, h, hl => by simp at hl
  | v :: vs, pre, r :: rest, w, h, hl => by
    have h1 := h.set_ pre.length v
    have e : (pre ++ r :: rest).toArray.setIfInBounds pre.length v = ((pre ++ [v]) ++ rest).toArray := by
      rw [List.setIfInBounds_toArray, List.set_append_right _ _ (Nat.le_refl _)]
      simp
    rw [e] at h1
    have h2 := Blk.setL_from vs (pre ++ [v]) rest _ h1 (by simpa using hl)
    simp only [List.length_append, List.length_singleton] at h2
    simpa [Go.Proofs.YtnaolhjbapgjgaaGreat.setL] using h2
theorem Blk.setAll {w : World} {g : Nat} {t : TypeId} {cs : List Value} (h : Blk w g t cs.toArray) (vs : List Value) (hl : cs.length = vs.length) : Blk (setL w g 0 vs) g t vs.toArray := by
  have := Blk.setL_from vs [] cs w (by simpa using h) hl
  simpa using this
theorem setL_eq (g : Nat) : ∀ (vs : List Value) (w : World) (i : Nat), setL w g i vs = w.setCells g i vs
  | [], _, _ => rfl
  | v :: vs, w, i => setL_eq g vs (w.setCell ⟨g, i, none⟩ v) (i + 1)
theorem Kp.setCells (g o : Nat) (vs : List Value) (w : World) : Kp (fun k => k = g) w (w.setCells g o vs) := by
  rw [<- setL_eq]
  exact Kp.setL g vs w o
theorem Blk.setCells {w : World} {g : Nat} {t : TypeId} {pre mid post : List Value} (h : Blk w g t (pre ++ (mid ++ post)).toArray) (vs : List Value) (hl : mid.length = vs.length) :
    Blk (w.setCells g pre.length vs) g t (pre ++ (vs ++ post)).toArray := by
  rw [<- setL_eq]
  induction vs generalizing w pre mid with
  | nil =>
    have : mid = [] := List.eq_nil_of_length_eq_zero (by simpa using hl)
    subst this
    simpa [setL] using h
  | cons v vs ih =>
    cases mid with
    | nil => simp at hl
    | cons r rest =>
      have h1 := h.set_ pre.length v
      have e : (pre ++ (r :: rest ++ post)).toArray.setIfInBounds pre.length v = ((pre ++ [v]) ++ (rest ++ post)).toArray := by
        rw [List.setIfInBounds_toArray, List.set_append_right _ _ (Nat.le_refl _)]
        simp
      rw [e] at h1
      have h2 := ih h1 (by simpa using hl)
      simp only [List.length_append, List.length_singleton] at h2
      simpa [setL] using h2
theorem Blk.setWhole {w : World} {g : Nat} {t : TypeId} {cs : List Value} (h : Blk w g t cs.toArray) (vs : List Value) (hl : cs.length = vs.length) : Blk (w.setCells g 0 vs) g t vs.toArray := by
  have := Blk.setCells (pre := []) (mid := cs) (post := []) (by simpa using h) vs hl
  simpa using this
theorem Blk.range {w : World} {g : Nat} {t : TypeId} {cs : List Value} (h : Blk w g t cs.toArray) : w.rangeAt g 0 cs := by
  intro j v hv
  rw [Nat.zero_add, h.cell, List.getElem?_toArray, hv]
theorem Blk.there {w : World} {g : Nat} {t : TypeId} {cs : Array Value} (h : Blk w g t cs) (o n : Nat) (hn : o + n <= cs.size) : w.there g o n := by
  intro j hj
  refine ⟨?_, h.frozen _⟩
  rw [h.cell, Array.getElem?_eq_getElem (by omega)]
  rfl
theorem jK {l : List Value} (h : l.all (·.oneCell') = true) : l.toArray.all (·.oneCell') = true := by simpa using h
section
variable {α : Type}
theorem vG (f : α -> List Value) (s : Nat) : ∀ (xs : List α), (∀ x ∈ xs, (f x).length = s) -> (xs.flatMap f).length = xs.length * s
  | [], _ => by simp
  | x :: xs, h => by
    rw [List.flatMap_cons, List.length_append, vG f s xs (fun y hy => h y (List.mem_cons_of_mem _ hy)), h x (List.mem_cons_self), List.length_cons, Nat.add_mul]
    omega
theorem flat_get (f : α -> List Value) (s : Nat) : ∀ (xs : List α), (∀ x ∈ xs, (f x).length = s) -> ∀ (k : Nat) (hk : k < xs.length) (j : Nat), j < s -> (xs.flatMap f)[k * s + j]? = (f xs[k])[j]?
  | [], _, k, hk, _, _ => by simp at hk
  | x :: xs, h, 0, _, j, hj => by
    rw [List.flatMap_cons, Nat.zero_mul, Nat.zero_add, List.getElem?_append_left (by rw [h x List.mem_cons_self]; exact hj)]
    rfl
  | x :: xs, h, k + 1, hk, j, hj => by
    have h0 := h x List.mem_cons_self
    rw [List.flatMap_cons, List.getElem?_append_right (by rw [h0, Nat.add_mul]; omega), h0, show (k + 1) * s + j - s = k * s + j by rw [Nat.add_mul]; omega]
    rw [flat_get f s xs (fun y hy => h y (List.mem_cons_of_mem _ hy)) k (by simpa using hk) j hj]
    rfl
theorem Rd.elem {w : World} {s n : Nat} {A : Option Addr} {xs : List α} {f : α -> List Value} (h : Rd w s A n (xs.flatMap f)) (hf : ∀ x ∈ xs, (f x).length = s) (hn : xs.length = n) {k : Nat} (hk : k < xs.length) :
    ∃ b o, A = some ⟨b, o, none⟩ /\ w.rangeAt b (o + k * s) (f xs[k]) := by
  obtain ⟨b, o, e, hc⟩ := h.2 (by omega)
  refine ⟨b, o, e, fun j v hv => ?_⟩
  have hj : j < s := by
    have := (List.getElem?_eq_some_iff.1 hv).1
    rw [hf _ (List.getElem_mem hk)] at this
    exact this
  rw [Nat.add_assoc]
  exact hc _ v (by rw [flat_get f s xs hf k hk j hj, hv])
end
def jB (d : List UInt8) : List Value := d.map bv
theorem jD (d : List UInt8) : (jB d).length = d.length := List.length_map _
theorem kn (d : List UInt8) : (jB d).toArray.all (·.oneCell') = true := all_oneCell_toArray (jr d)
def Dgs (ds : List (List UInt8)) : Prop := ∀ d ∈ ds, d.length = 32
theorem Dgs.cells {ds : List (List UInt8)} (h : Dgs ds) : ∀ d ∈ ds, (jB d).length = 32 := fun d hd => by rw [jD, h d hd]
theorem Dgs.flat {ds : List (List UInt8)} (h : Dgs ds) : ds.flatten.length = ds.length * 32 := by
  induction ds with
  | nil => rfl
  | cons d ds ih =>
    rw [List.flatten_cons, List.length_append, ih (fun x hx => h x (List.mem_cons_of_mem _ hx)), h d List.mem_cons_self, List.length_cons]
    omega
theorem Dgs.take {ds : List (List UInt8)} (h : Dgs ds) (k : Nat) : Dgs (ds.take k) := fun d hd => h d (List.mem_of_mem_take hd)
theorem flatten_take_succ (l : List (List UInt8)) (k : Nat) (h : k < l.length) : (l.take (k + 1)).flatten = (l.take k).flatten ++ l[k] := by
  rw [List.take_succ_eq_append_getElem h, List.flatten_append]
  simp
theorem Tryz.sizeDigest : (Tryz.prog.info? 40).map (·.size) = some 32 := by kernel_rfl
theorem Tryz.load_w {ops : Array Oper} {rest : List Oper} {op : Oper} {a : Act} {w : World} {Q : Exit -> Act -> World -> Prop} (hw : Region.wanted op (yielded ops a.tmps) = true) (ty : TypeId) (x : Operand) (ho : op.op = .load ty x)
    (b o : Nat) (hx : a.eval x = .pointer (some ⟨b, o, none⟩)) (cs : List Value) (d : TypeDesc) (hc : w.rangeAt b o cs)
    (hu : Tryz.prog.underlying ty = some d) (hd : d.isRow = true) (hi : (Tryz.prog.info? ty).map (·.size) = some cs.length)
    (h : wpList Tryz.prog ops Q rest (a.put op.dst (.agg cs.toArray)) w) : wpList Tryz.prog ops Q (op :: rest) a w :=
  wpList_step fun K hK => by simp only [hw, if_true]; exact wp_load_mid ty x ho b o hx cs d hc hu hd hi (hK _ _ h)
def zero32 : List Value := [.int .u8 0, .int .u8 0, .int .u8 0, .int .u8 0, .int .u8 0, .int .u8 0, .int .u8 0, .int .u8 0, .int .u8 0, .int .u8 0, .int .u8 0, .int .u8 0, .int .u8 0, .int .u8 0, .int .u8 0, .int .u8 0, .int .u8 0, .int .u8 0, .int .u8 0, .int .u8 0, .int .u8 0, .int .u8 0, .int .u8 0, .int .u8 0, .int .u8 0, .int .u8 0, .int .u8 0, .int .u8 0, .int .u8 0, .int .u8 0, .int .u8 0, .int .u8 0]
theorem vj (w : World) (g : Nat) (r : Option Nat) (bs : List UInt8) (A : Option Addr) (n c : Nat) (ds : List (List UInt8)) (hn : ds.length = n) (hd : Dgs ds) (hW : Wr w g r bs) (hl : bs.length <= 900000000000) (hle : n <= 2147483647)
    (hrd : Rd w 32 A n (ds.flatMap jB)) (hav : Av (WX g r) n A) :
    Calls Tryz.prog 103 #[.pointer (some ⟨g, 0, none⟩), .slice A n c] w fun e w' => e = .returned (.tuple #[]) /\ WStep w g r w' (bs ++ ds.flatten) := by
  have Hl := jJ0 hl
  have Hd := jJ0 hd
  have Hn := jJ0 hn
  clear hl hd hn
  obtain ⟨i0, hi, hz0, hz1, hz2⟩ := info_parts Tryz.infoByte
  go_enter Tryz.func103, Tryz.ntmps103
  go_wp2
  go_loopw [8] (fun i wr => ∃ k : Nat, k <= n /\ i = .int .i64 k /\ WStep w g r wr (bs ++ (ds.take k).flatten)) (fun i _ => n - (intOf i).toNat)
  case atStart => exact ⟨0, by omega, rfl, by simpa using hW.step⟩
  case round =>
    obtain ⟨k, hk, rfl, hst⟩ := hrel
    by_cases hlt : k < n
    · obtain ⟨r', ⟨A1, c1, hb, ho, hr1⟩, hkp, hfr⟩ := hst
      have hkl : k < ds.length := by have := Hn.out; omega
      obtain ⟨b, o, rfl, hrg⟩ := (hrd.kp hkp hav).elem Hd.out.cells Hn.out (k := k) hkl
      have hd32 := Hd.out ds[k] (List.getElem_mem hkl)
      have hcl : (bs ++ (ds.take k).flatten).length + 32 <= 1000000000000 := by
        have h1 := Hl.out
        have h2 := (Hd.out.take k).flat
        rw [List.length_take] at h2
        rw [List.length_append]
        omega
      have Hfin := jJ0 (show bs ++ (ds.take (k + 1)).flatten = (bs ++ (ds.take k).flatten) ++ ds[k] by
        rw [flatten_take_succ ds k hkl]; simp)
      generalize ds[k] = d at *
      generalize hcc : bs ++ (ds.take k).flatten = cs at *
      have Hr1 := jJ0 hr1
      have Hrg := jJ0 hrg
      have Hsz := jJ0 (show (Tryz.prog.info? 40).map (·.size) = some (jB d).length by rw [jD, hd32]; exact Tryz.sizeDigest)
      have HbZ := jJ0 (Blk.new wr 40 zero32.toArray)
      have HbD := jJ0 (HbZ.out.setWhole (jB d) (by rw [jD, hd32]; rfl))
      have Ho3 := jJ0 (show Old wr ((wr.alloc (.cells zero32.toArray 40)).setCells wr.heap.size 0 (jB d)) from ((Kp.refl NoX wr).alloc _).trans (Kp.setCells _ _ _ _) (fun b hb e => by omega))
      have Hth := jJ0 (show (wr.alloc (.cells zero32.toArray 40)).there wr.heap.size 0 (jB d).toArray.size from HbZ.out.there 0 _ (by rw [List.size_toArray, jD, hd32]; decide))
      have H63 := jJ0 (show cs.length + 32 <= maxLen by unfold maxLen; omega)
      have H47 := jJ0 (show (cs.length + 32) * 1 <= 140737488355328 by omega)
      have Hd32 := jJ0 hd32
      clear hr1 hcc hrg hcl hd32
      unfold zero32 at HbZ HbD Ho3 Hth
      have b5 : (k : Int) <= 2147483647 := by omega
      have b1 : (0 : Int) <= (k : Int) := by omega
      have b2 : (k : Int) < (n : Int) := by omega
      have b3 : (k : Int).toNat = k := by omega
      go_wp2_with (first | refine Tryz.load_w rfl 40 (.tmp 10) rfl b (o + k * 32) rfl (jB d) _ Hrg.out Tryz.underlying40 rfl Hsz.out ?_ | refine wpList_store_mid rfl 40 (.tmp 5) (.tmp 11) rfl wr.heap.size 0 (jB d).toArray rfl rfl Hth.out Hsz.out (kn d) ?_ | fail)
      generalize (wr.alloc _).setCells _ _ _ = W at *
      have hb' := hb.old Ho3.out
      have ho' := vr ho Ho3.out (fun _ _ f => f)
      have hc := hb'.cell 0
      have hz := hb'.frozen 0
      have hltb := hb'.lt
      simp only [List.getElem?_toArray, List.getElem?_cons_zero] at hc
      have hne : some g ≠ (Value.slice A1 cs.length c1).ownBlock := by
        have := vF ho' hb' (by decide)
        exact fun h => this h.symm
      have HRd := jJ0 (show Rd W 1 (some ⟨wr.heap.size, 0, none⟩) 32 (d.map bv) from ⟨by rw [List.length_map, Hd32.out], fun _ => ⟨_, _, rfl, HbD.out.range⟩⟩)
      go_region_law ((refine jZ _ rfl (.tmp 16) (.tmp 17) 22 rfl 0 5 i0 (.int .u8 0) 1 1 Tryz.underlying22 hi hz0 hz1 hz2 rfl (by decide) (.slice A1 cs.length c1) cs.length (cs.map bv) rfl ho' (some ⟨wr.heap.size, 0, none⟩) 32 32 (d.map bv) rfl HRd.out (jr _) H63.out H47.out (Nat.zero_le _) ?_; intro A' c' w2 hown hgrow hat; have hc1 := hgrow.cell (a := ⟨g, 0, none⟩) hc hne; have hz1 : w2.frozen? ⟨g, 0, none⟩ = false := (World.frozen?_of_block (hgrow.block g hltb hne)).trans hz))
      all_goals
        have hst := Wr.put hb' ho' (Kp.refl _ _).drew (news := d) (m := 32) Hd32.out rfl hown hgrow hat
        have hst := WStep.trans (Ho3.out.mono (Y := WX g (A1.map (·.block))) (fun _ _ f => f.elim)) (.inl rfl) hst
        have Hst := jJ0 (WStep.trans hkp (Hr1.out ▸ hfr) hst)
        clear hst hown hgrow hat hc hz hc1 hz1 hb ho hb' ho' hne HbD HbZ Hth HRd Ho3
        go_wp2
        go_roundw
        case rel => exact ⟨k + 1, by omega, by go_num, by rw [Hfin.out]; exact Hst.out⟩
        case measure => simp [intOf]; omega
    · obtain rfl : k = n := by omega
      go_wp2
      go_end0
      refine ⟨rfl, ?_⟩
      rw [List.take_of_length_le (by rw [Hn.out]; omega)] at hst
      exact hst
end Go.Proofs.YtnaolhjbapgjgaaGreat

import Derived.Test.YtnaolhjbapgjgaaMg10
import Derived.Test.YtnaolhjbapgjgaaMg14
import Derived.Test.YtnaolhjbapgjgaaMg15
/- Contract of desk.operation: an operation laid down. -/
namespace Go.Proofs.Ytnaolhjbapgjgaa
open Go.RowKit

set_option maxRecDepth 100000 in
set_option maxHeartbeats 1600000 in
theorem oper_4 (m : MOp) (g : Nat) (r : Option Nat) (bs : List UInt8) (w : World) (hW : Wr w g r bs) (hl : bs.length ≤ 500000000000) (hok : m.Ok w (WX g r)) (hop : m.op = 4) :
    Calls Try.prog 13 #[.pointer (some ⟨g, 0, none⟩), .agg m.cells.toArray] w (OpPost w g r bs m.data) := by
  have Hl := Lib.hid hl
  clear hl
  obtain ⟨op, case_, type_, name, value, args, argsA, argsC, source, srcA, srcC, clock⟩ := m
  obtain ⟨hbA, hbS, hbC, hbT, hbN⟩ := hok.big
  simp only [MOp.cells, MOp.data] at *
  subst hop
  go_enter Try.func13, Try.ntmps13
  go_wp2_with fail
  have ho : Kp NoX w (w.alloc (.cells #[.int .i64 4, .string case_, .string type_, .string name, .int .i64 value.v.kind, .int .i64 value.v.n, .string value.v.t, .slice value.A value.v.s.length value.c, .slice argsA args.length argsC, .slice srcA source.length srcC, .int .i64 clock] 29)) := (Kp.refl NoX w).alloc _
  have hb := Blk.new w 29 #[.int .i64 4, .string case_, .string type_, .string name, .int .i64 value.v.kind, .int .i64 value.v.n, .string value.v.t, .slice value.A value.v.s.length value.c, .slice argsA args.length argsC, .slice srcA source.length srcC, .int .i64 clock]
  have hW1 := hW.old ho
  refine (put8_any _ g r bs _ (by omega) (by omega) hW1 (Nat.le_trans Hl.out (by decide))).mono ?_
  rintro e w2 ⟨rfl, r2, hW2, hk2, hf2⟩
  have hb2 := hb.kp hk2 (wx_new hW (Nat.le_refl _))
  have hkp := (ho.mono (Y := WX g r) (fun _ _ f => f.elim)).trans hk2 (fun _ _ h => h)
  have hfr : Fr w r r2 := by
    rcases hf2 with rfl | ⟨k, rfl, hle⟩
    · exact .inl rfl
    · exact .inr ⟨k, rfl, Nat.le_trans ho.size hle⟩
  have hok2 := hok.step hkp hfr
  have hbx : ¬ WX g r2 w.heap.size := by
    rintro (e | e)
    · have := hW.lt.1; omega
    · rcases hf2 with rfl | ⟨k, rfl, hle⟩
      · exact wx_new hW (Nat.le_refl _) (.inr e)
      · injection e with e; simp at hle; omega
  have d0 := hb2.at_ 0 rfl
  have d1 := hb2.at_ 1 rfl
  have d3 := hb2.at_ 3 rfl
  have hcl : (bs ++ be 1 ((4 : Int)).toNat).length ≤ 510000000000 := by rw [List.length_append, be_length]; have := Hl.out; omega
  have Hcl := Lib.hid hcl
  clear hcl hb hf2 hk2 hW1 ho
  go_wp2_with fail
  refine (dtext_any _ g r2 _ _ 2 [case_, name] (hW2.old ((Kp.refl _ _).alloc _)) (Nat.le_trans Hcl.out (by decide)) (Rd.arr_new _ _ [.string case_, .string name]) (Av.new hW2) (by simp) ?_).mono ?_
  · intro k hk
    simp only [List.length_cons, List.length_nil] at hk
    have : k = 0 ∨ k = 1 := by omega
    rcases this with rfl | rfl
    · exact hbC
    · exact hbN
  intro e w3 ht
  rcases ht.two with ⟨rfl, hs1, hs2, hst⟩ | ⟨rfl, hbig, bs', hbl, hst⟩
  ·
    obtain ⟨r3, hW3, hk3, hf3⟩ := hst
    have hb3 := (hb2.alloc _).kp hk3 hbx
    have hok3 := (hok2.old ((Kp.refl _ _).alloc _)).step hk3 hf3
    have hst1 : Kp (WX g r2) w2 w3 := (((Kp.refl NoX w2).alloc _).mono (Y := WX g r2) (fun _ _ f => f.elim)).trans hk3 (fun _ _ h => h)
    have hf3' : Fr w2 r2 r3 := by
      rcases hf3 with rfl | ⟨k, rfl, hle⟩
      · exact .inl rfl
      · exact .inr ⟨k, rfl, Nat.le_trans (by simp) hle⟩
    have hcl3 : (bs ++ be 1 (4 : Int).toNat ++ (lp 4 (sb case_) ++ lp 4 (sb name))).length ≤ 520000000000 := by
      have := Hcl.out
      simp only [List.length_append, lp_length, sb_length, be_length] at *
      omega
    have Hcl3 := Lib.hid hcl3
    clear hcl3
    have e8 := hb3.at_ 8 rfl
    by_cases hmany : args.length ≤ 255
    · have hm1 : ¬ ((255 : Int) < (args.length : Int)) := by omega
      have e8 : IntKind.u8.wrap (args.length : Int) = args.length := IntWalk.u8_in _ (by omega)
      go_wp2_with fail
      refine (put8_any _ g r3 _ _ (by omega) (by omega) hW3 (Nat.le_trans Hcl3.out (by decide))).mono ?_
      rintro e w4 ⟨rfl, r4, hW4, hk4, hf4⟩
      have hbx3 : ¬ WX g r3 w.heap.size := by
        rintro (e | e)
        · exact hbx (.inl e)
        · rcases hf3' with rfl | ⟨k, rfl, hle⟩
          · exact hbx (.inr e)
          · injection e with e
            have := hb2.lt
            omega
      have hb4 := hb3.kp hk4 hbx3
      have f8 := hb4.at_ 8 rfl
      rw [Int.toNat_natCast] at hW4
      have hall : WStep w g r w4 (bs ++ be 1 (4 : Int).toNat ++ (lp 4 (sb case_) ++ lp 4 (sb name)) ++ be 1 args.length) := WStep.trans hkp hfr (WStep.trans hst1 hf3' ⟨r4, hW4, hk4, hf4⟩)
      generalize hpp : bs ++ be 1 (4 : Int).toNat ++ (lp 4 (sb case_) ++ lp 4 (sb name)) ++ be 1 args.length = pp at hall
      have hppl : pp.length ≤ 530000000000 := by
        rw [← hpp]
        have := Hcl3.out
        rw [List.length_append, be_length]
        omega
      have Hppl := Lib.hid hppl
      have Hpp := Lib.hid hpp
      clear hppl hpp hb4 hb3 hb2 hW4 hk4 hf4 hW3 hk3 hf3 hst1 hf3' hbx hbx3 hok3 hok2 hW2 hkp hfr d0 d1 d3 e8 Hcl Hcl3
      go_wp2
      go_loopw [74] (fun i wr => ∃ k : Nat, k ≤ args.length ∧ i = .int .i64 k ∧ (∀ j (hj : j < args.length), j < k → rightE args[j].v = 0) ∧ WStep w g r wr (pp ++ valsB ((args.map (·.v)).take k))) (fun i _ => args.length - (intOf i).toNat)
      case atStart => exact ⟨0, by omega, rfl, (fun j hj h => by omega), by simpa [valsB] using hall⟩
      case round =>
        obtain ⟨k, hk, rfl, hright, hst⟩ := hrel
        have Hright := Lib.hid hright
        have hvl := valsB_length (args.map (·.v)) k (by simpa using hk) (fun j hj hjk => by simpa using hright j (by simpa using hj) hjk)
        clear hright
        by_cases hlt : k < args.length
        · obtain ⟨r5, hW5, hk5, hf5⟩ := hst
          have hok5 := hok.step hk5 hf5
          obtain ⟨b, o, hAe, q0, q1, q2, q3⟩ := hok5.rdArgs.mval hlt
          simp only at hAe q0 q1 q2 q3
          subst hAe
          have hokv := hok5.args args[k] (List.getElem_mem hlt)
          have hcl5 : (pp ++ valsB ((args.map (·.v)).take k)).length ≤ 600000000000 := by
            have := Hppl.out
            rw [List.length_append]
            omega
          have Hfin := Lib.hid (show pp ++ valsB ((args.map (·.v)).take (k + 1)) = (pp ++ valsB ((args.map (·.v)).take k)) ++ valB args[k].v by
            rw [valsB_take_succ _ k (by simpa using hlt)]; simp)
          generalize hmm : args[k] = mv at q0 q1 q2 q3 hokv Hfin
          generalize hcc : pp ++ valsB ((args.map (·.v)).take k) = cs at hW5 hcl5 Hfin
          have Hcc := Lib.hid hcc
          have Hvl := Lib.hid hvl
          clear hcc
          have Hmm := Lib.hid hmm
          have Hcl5 := Lib.hid hcl5
          clear hmm hcl5 hvl hall
          have b5 : (k : Int) ≤ 255 := by omega
          obtain ⟨⟨vk, vn, vt, vs⟩, mA, mc⟩ := mv
          simp only at q0 q1 q2 q3 Hmm
          by_cases hR : rightE ⟨vk, vn, vt, vs⟩ = 0
          · go_wp2_with fail
            refine (putv_ok ⟨vk, vn, vt, vs⟩ mA mc g r5 cs _ (hW5.old ((Kp.refl _ _).alloc _)) (Nat.le_trans Hcl5.out (by decide)) (hokv.rd.alloc _) hokv.av hokv.cap hokv.big hR).mono ?_
            rintro e w6 ⟨rfl, hst⟩
            have Hst := Lib.hid (WStep.trans hk5 hf5 (WStep.after ((Kp.refl _ _).alloc _) hst))
            have HR := Lib.hid hR
            clear hst hR
            go_wp2
            go_roundw
            case rel =>
              refine ⟨k + 1, by omega, by go_num, fun j hj hjk => ?_, by rw [Hfin.out]; exact Hst.out⟩
              by_cases e : j = k
              · subst e; rw [Hmm.out]; exact HR.out
              · exact Hright.out j hj (by omega)
            case measure => simp [intOf]; omega
          · go_wp2_with fail
            refine (putv_bad ⟨vk, vn, vt, vs⟩ mA mc g _ (hokv.rd.alloc _) hokv.cap hokv.big hR).mono ?_
            rintro e w6 ⟨rfl, ho6⟩
            have Hst := Lib.hid (WStep.trans hk5 hf5 (WStep.after ((Kp.refl _ _).alloc _) ((hW5.old ((Kp.refl _ _).alloc _)).step.old ho6)))
            have HR := Lib.hid hR
            have hRb : (rightE ⟨vk, vn, vt, vs⟩ != 0) = true := by simpa using hR
            generalize rightE ⟨vk, vn, vt, vs⟩ = z at hRb
            clear hR ho6
            go_wp2
            go_ret
            refine ⟨false, be 1 (4 : Int).toNat ++ (lp 4 (sb case_) ++ lp 4 (sb name)) ++ be 1 args.length ++ valsB ((args.map (·.v)).take k), rfl, ?_, ?_, (fun h => by cases h), fun _ => .inl ?_⟩
            · have h := Hst.out
              rw [← Hcc.out, ← Hpp.out] at h
              simpa only [List.append_assoc] using h
            · have := Hvl.out
              simp only [List.length_append, be_length, lp_length, sb_length]
              omega
            · rw [opB, opTail, if_neg (by simp), if_neg (by simp), if_neg (by simp), if_pos rfl, if_neg]
              · rfl
              · rintro ⟨_, ha⟩
                rw [List.all_eq_true] at ha
                have := ha args[k].v (List.mem_map.2 ⟨args[k], List.getElem_mem hlt, rfl⟩)
                rw [Hmm.out] at this
                exact HR.out (by simpa using this)
        · have Hst := Lib.hid hst
          have Hvl := Lib.hid hvl
          clear hst hvl hall
          obtain rfl : k = args.length := by omega
          go_wp2
          go_ret
          have htake : (args.map (·.v)).take args.length = args.map (·.v) := List.take_of_length_le (by simp)
          refine ⟨true, be 1 (4 : Int).toNat ++ (lp 4 (sb case_) ++ lp 4 (sb name) ++ (be 1 args.length ++ valsB (args.map (·.v)))), rfl, ?_, ?_, fun _ => ?_, fun h => by cases h⟩
          · have h := Hst.out
            rw [← Hpp.out, htake] at h
            simpa only [List.append_assoc] using h
          · have := Hvl.out
            rw [htake] at this
            simp only [List.length_append, be_length, lp_length, sb_length]
            omega
          · rw [opB, opTail, if_neg (by simp), if_neg (by simp), if_neg (by simp), if_pos rfl, if_pos]
            · simp [valsB]
            · refine ⟨by simpa using hmany, ?_⟩
              rw [List.all_eq_true]
              intro v hv
              obtain ⟨m, hm, rfl⟩ := List.mem_map.1 hv
              obtain ⟨j, hj, rfl⟩ := List.getElem_of_mem hm
              simpa using Hright.out j hj hj
    · have hm1 : (255 : Int) < (args.length : Int) := by omega
      have Hst := Lib.hid (WStep.trans hkp hfr (WStep.trans hst1 hf3' hW3.step))
      clear hst1 hf3'
      go_wp2
      go_ret
      refine ⟨false, be 1 (4 : Int).toNat ++ (lp 4 (sb case_) ++ lp 4 (sb name)), rfl, ?_, ?_, (fun h => by cases h), fun _ => .inl ?_⟩
      · have h := Hst.out
        simpa only [List.append_assoc] using h
      · simp only [List.length_append, be_length, lp_length, sb_length]
        omega
      · rw [opB, opTail, if_neg (by simp), if_neg (by simp), if_neg (by simp), if_pos rfl, if_neg]
        · rfl
        · rintro ⟨h, _⟩
          simp at h
          omega
  · have hst1 := WStep.after ((Kp.refl _ _).alloc _) hst
    have Hst := Lib.hid (WStep.trans hkp hfr hst1)
    have Hbig := Lib.hid hbig
    clear hst hst1 hbig
    go_wp2
    go_ret
    refine ⟨false, be 1 (4 : Int).toNat ++ bs', rfl, by rw [← List.append_assoc]; exact Hst.out, by rw [List.length_append, be_length]; omega, (fun h => by cases h), fun _ => ?_⟩
    have hbig := Hbig.out
    by_cases hR : (args.map (·.v)).length ≤ 255 ∧ ((args.map (·.v)).all fun v => rightE v == 0) = true
    · refine .inr ⟨_, by rw [opB, opTail, if_neg (by simp), if_neg (by simp), if_neg (by simp), if_pos rfl, if_pos hR]; rfl, ?_⟩
      simp only [List.length_append, be_length, lp_length, sb_length]
      omega
    · refine .inl ?_
      rw [opB, opTail, if_neg (by simp), if_neg (by simp), if_neg (by simp), if_pos rfl, if_neg hR]; rfl

end Go.Proofs.Ytnaolhjbapgjgaa

/- A request, plain, and its bytes. What encoding one leaves. -/
namespace Go.Proofs.Ytnaolhjbapgjgaa
open Go.RowKit

theorem oper_any (m : MOp) (g : Nat) (r : Option Nat) (bs : List UInt8) (w : World) (hW : Wr w g r bs) (hl : bs.length ≤ 500000000000) (hok : m.Ok w (WX g r)) :
    Calls Try.prog 13 #[.pointer (some ⟨g, 0, none⟩), .agg m.cells.toArray] w (OpPost w g r bs m.data) := by
  by_cases h : m.op < 1 ∨ 5 < m.op
  · exact oper_far m g r bs w hW hl hok h
  · have hk : m.op = 1 ∨ m.op = 2 ∨ m.op = 3 ∨ m.op = 4 ∨ m.op = 5 := by omega
    rcases hk with h | h | h | h | h
    · exact oper_1 m g r bs w hW hl hok h
    · exact oper_2 m g r bs w hW hl hok h
    · exact oper_3 m g r bs w hW hl hok h
    · exact oper_4 m g r bs w hW hl hok h
    · exact oper_5 m g r bs w hW hl hok h

structure Req where
  op : Int
  do_ : Opn
  name : ByteArray
  number : Int
  size : Int
  from_ : Int
  to_ : Int
  first : Int
def MReq.data (m : MReq) : Req := ⟨m.op, m.do_.data, m.name, m.number, m.size, m.from_, m.to_, m.first⟩
structure MReq.Ok (w : World) (m : MReq) : Prop where
  do_ : m.do_.Ok w NoX
  name : m.name.size ≤ 2147483647

/-- a request's bytes behind its op -/
def reqTail (q : Req) : Option (List UInt8) :=
  if q.op = 1 ∨ q.op = 2 then opB q.do_
  else if q.op = 3 then some (lp 4 (sb q.name))
  else if q.op = 4 then some (be8 q.number)
  else if q.op = 5 ∨ q.op = 6 ∨ q.op = 7 ∨ q.op = 12 then some []
  else if q.op = 8 then some (be8 q.number ++ be8 q.size)
  else if q.op = 9 then some (be8 q.from_ ++ be8 q.to_)
  else if q.op = 10 then some (lp 4 (sb q.name) ++ be8 q.size)
  else if q.op = 11 then some (lp 4 (sb q.name) ++ (be8 q.size ++ be8 q.first))
  else none
def reqB (q : Req) : Option (List UInt8) := (reqTail q).map fun b => be 1 q.op.toNat ++ b
/-- its bytes, if it can be laid down -/
def encReq (q : Req) : Option (List UInt8) := (reqB q).bind fun b => if b.length ≤ 1048576 then some b else none

theorem encReq_of {q : Req} {b : List UInt8} (h : reqB q = some b) (hl : b.length ≤ 1048576) : encReq q = some b := by rw [encReq, h]; simp [hl]
theorem encReq_long {q : Req} {b : List UInt8} (h : reqB q = some b) (hl : 1048576 < b.length) : encReq q = none := by rw [encReq, h]; simp; omega
theorem encReq_none {q : Req} (h : reqTail q = none) : encReq q = none := by rw [encReq, reqB, h]; rfl

/-- what encoding leaves: the bytes in new memory, or nothing and ErrFrame -/
def EncPost (w : World) (b : Option (List UInt8)) (e : Ending) (w' : World) : Prop :=
  (∃ l A c, b = some l ∧ e = .returned (.tuple #[.slice A l.length c, .int .i64 0]) ∧ w'.ownsRow w.heap.size 5 1 (.slice A l.length c) l.length (l.map bv) ∧ Old w w') ∨
  (b = none ∧ e = .returned (.tuple #[.slice none 0 0, .int .i64 240]) ∧ Old w w')

/-- a Writer of the call's own turns nothing that was there -/
theorem WStep.own {w w1 w2 : World} {g : Nat} {bs : List UInt8} (h : WStep w1 g none w2 bs) (ho : Old w w1) (hg : w.heap.size ≤ g) : Old w w2 := by
  obtain ⟨r, _, hk, _⟩ := h
  refine ho.trans hk (fun b hb hx => ?_)
  rcases hx with rfl | hx
  · omega
  · cases hx
theorem Av.own {w : World} {g n size : Nat} {A : Option Addr} {xs : List Value} (hr : Rd w size A n xs) (hs : 0 < size) (hg : w.heap.size ≤ g) : Av (WX g none) n A := by
  intro hn ad e hx
  have := hr.lt hs hn e
  rcases hx with hx | hx
  · omega
  · cases hx
theorem MVal.Ok.own {w : World} {X : Nat → Prop} {m : MVal} (h : m.Ok w X) {g : Nat} (hg : w.heap.size ≤ g) : m.Ok w (WX g none) := ⟨h.rd, Av.own h.rd (by decide) hg, h.cap, h.big⟩
theorem MOp.Ok.own {w : World} {X : Nat → Prop} {m : MOp} (h : m.Ok w X) {g : Nat} (hg : w.heap.size ≤ g) : m.Ok w (WX g none) :=
  ⟨h.value.own hg, fun v hv => (h.args v hv).own hg, h.rdArgs, Av.own h.rdArgs (by decide) hg, h.capArgs, h.rdSrc, Av.own h.rdSrc (by decide) hg, h.big⟩
end Go.Proofs.Ytnaolhjbapgjgaa

/- Contracts of desk.word, desk.take; an operation that is read, plain. -/
namespace Go.Proofs.Ytnaolhjbapgjgaa
open Go.RowKit

theorem bytesN_len (bs : List UInt8) (most : Int) (s : Rs) : (bytesN bs most s).1.length ≤ bs.length := by
  unfold bytesN
  split
  · simp
  · split
    · simp
    · split
      · simp
      · split
        · simp
        · simp only [List.length_take, List.length_drop]; omega
/-- a text of the desk is taken -/
def wordN (bs : List UInt8) (s : Rs) : ByteArray × Rs := (⟨(bytesN bs 4194304 s).1.toArray⟩, (bytesN bs 4194304 s).2)
theorem wordN_size (bs : List UInt8) (s : Rs) : (wordN bs s).1.size ≤ bs.length := by
  have := bytesN_len bs 4194304 s
  rw [← sb_length]
  exact this
/-- a number of the desk is taken -/
def numN (bs : List UInt8) (s : Rs) : Int × Rs := (i64 (tkN bs 8 s).1, (tkN bs 8 s).2)

set_option maxRecDepth 100000 in
set_option maxHeartbeats 800000 in
theorem word_any (w : World) (g : Nat) (bs : List UInt8) (s : Rs) (h : Rr w g bs s) :
    Calls Try.prog 37 #[.pointer (some ⟨g, 0, none⟩)] w fun e w' => e = .returned (.string (wordN bs s).1) ∧ Rr w' g bs (wordN bs s).2 ∧ Kp (RX g) w w' := by
  have HW := Lib.hid (show wordN bs s = (⟨(bytesN bs 4194304 s).1.toArray⟩, (bytesN bs 4194304 s).2) from rfl)
  generalize wordN bs s = W at HW ⊢
  go_enter Try.func37, Try.ntmps37
  go_wp2_with fail
  refine (rbytes_any w g bs 4194304 s h (by omega)).mono ?_
  rintro e w1 ⟨A, c, rfl, hrd, hav, hcap, hr, hk⟩
  have hcv := run_conv_bs (P := Try.prog) w1 Try.underlying27 Try.underlying5 Try.underlying9 A _ c _ hrd
  generalize (bytesN bs 4194304 s).1 = l at *
  generalize (bytesN bs 4194304 s).2 = s2 at *
  go_wp2
  go_ret
  rw [HW.out]
  exact ⟨rfl, hr, hk⟩

set_option maxRecDepth 100000 in
set_option maxHeartbeats 800000 in
theorem dtake_any (w : World) (g : Nat) (bs : List UInt8) (s : Rs) (h : Rr w g bs s) :
    Calls Try.prog 38 #[.pointer (some ⟨g, 0, none⟩)] w fun e w' => e = .returned (.int .i64 (numN bs s).1) ∧ Rr w' g bs (numN bs s).2 ∧ Kp (RX g) w w' := by
  go_enter Try.func38, Try.ntmps38
  go_wp2_with fail
  refine (take64_any w g bs s h).mono ?_
  rintro e w1 ⟨rfl, hr, hk⟩
  go_wp2
  go_ret
  exact ⟨rfl, hr, hk⟩

/-- so many values are taken -/
def valsGo (bs : List UInt8) : Nat → Rs → List Val → List Val × Rs
  | 0, s, acc => (acc, s)
  | n + 1, s, acc => valsGo bs n (takeVal bs s).2 (acc ++ [(takeVal bs s).1])
def zeroOpn : Opn := ⟨0, ⟨#[]⟩, ⟨#[]⟩, ⟨#[]⟩, ⟨0, 0, ⟨#[]⟩, []⟩, [], [], 0⟩
/-- an operation of this op is taken -/
def opN (bs : List UInt8) (k : Nat) (s : Rs) : Opn × Rs :=
  if k = 1 then ({ zeroOpn with op := 1, type_ := (wordN bs s).1, source := (bytesN bs 4194304 (wordN bs s).2).1 }, (bytesN bs 4194304 (wordN bs s).2).2)
  else if k = 2 then ({ zeroOpn with op := 2, case_ := (wordN bs s).1, type_ := (wordN bs (wordN bs s).2).1 }, (wordN bs (wordN bs s).2).2)
  else if k = 3 then ({ zeroOpn with op := 3, case_ := (wordN bs s).1, name := (wordN bs (wordN bs s).2).1, value := (takeVal bs (wordN bs (wordN bs s).2).2).1 }, (takeVal bs (wordN bs (wordN bs s).2).2).2)
  else if k = 4 then ({ zeroOpn with op := 4, case_ := (wordN bs s).1, name := (wordN bs (wordN bs s).2).1, args := (valsGo bs (tkN bs 1 (wordN bs (wordN bs s).2).2).1 (tkN bs 1 (wordN bs (wordN bs s).2).2).2 []).1 }, (valsGo bs (tkN bs 1 (wordN bs (wordN bs s).2).2).1 (tkN bs 1 (wordN bs (wordN bs s).2).2).2 []).2)
  else if k = 5 then ({ zeroOpn with op := 5, clock := (numN bs s).1 }, (numN bs s).2)
  else ({ zeroOpn with op := k }, s)
def askedN (bs : List UInt8) (s : Rs) : Opn × Rs := opN bs (tkN bs 1 s).1 (tkN bs 1 s).2

/-- an operation in new memory is told -/
def TookO (w : World) (g : Nat) (bs : List UInt8) (os : Opn × Rs) (e : Ending) (w' : World) : Prop :=
  ∃ m : MOp, m.data = os.1 ∧ e = .returned (.agg m.cells.toArray) ∧ m.Ok w' (fun k => k < w.heap.size) ∧ Rr w' g bs os.2 ∧ Kp (RX g) w w'

theorem zeroM_ok (w : World) (X : Nat → Prop) (v : Val) (hv : v.s = []) : MVal.Ok w X ⟨v, none, 0⟩ :=
  ⟨by rw [hv]; exact Rd.none_, (fun h => by rw [hv] at h; simp at h), by rw [hv]; simp, by rw [hv]; simp⟩
end Go.Proofs.Ytnaolhjbapgjgaa

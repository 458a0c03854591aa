import Derived.Test.YtnaolhjbapgjgaaGreatMg25
import Derived.Test.YtnaolhjbapgjgaaGreatMg36
import Derived.Deep.DeepCutAuto
set_option maxRecDepth 100000
set_option maxHeartbeats 3200000
namespace Go.Proofs.YtnaolhjbapgjgaaGreat
open Go.RowKit
theorem reachGo_sum (f sz : Int) : ∀ (rs : List Prow) (i b : Nat) (prev : Int), vK f sz i b prev rs = i + rs.length ->
    (b <= 2097152 -> b + (rs.map fun r => 12 + r.n + 32 * r.k).sum <= 2097152) /\ (rs ≠ [] -> f <= sz - i - 1)
  | [], i, b, prev, _ => ⟨by simp, fun h => absurd rfl h⟩
  | r :: rs, i, b, prev, h => by
    rw [vK] at h
    split at h
    · simp at h
    · next hs =>
      have h1 := reachGo_sum f sz rs (i + 1) (b + (12 + r.n + 32 * r.k)) r.num (by rw [h, List.length_cons]; omega)
      have hs' : stopsAt f sz i (b + (12 + r.n + 32 * r.k)) prev r = false := by simpa using hs
      unfold stopsAt at hs'
      have hs2 := of_decide_eq_false hs'
      have a2 : ¬ 2097152 < b + (12 + r.n + 32 * r.k) := fun e => hs2 (.inr (.inl e))
      have a3 : ¬ sz - i - 1 < f := fun e => hs2 (.inr (.inr (.inr (.inl e))))
      refine ⟨fun _ => ?_, fun _ => by omega⟩
      have := h1.1 (by omega)
      rw [List.map_cons, List.sum_cons]
      omega
theorem rows_bytes : ∀ (es : List (List UInt8)) (ps : List Way), (∀ p ∈ ps, Dgs p.ds) -> (List.zipWith rowB es ps).flatten.length = ((List.zipWith prow es ps).map fun r => 12 + r.n + 32 * r.k).sum
  | [], _, _ => by simp
  | _ :: _, [], _ => by simp
  | e :: es, p :: ps, h => by
    simp only [List.zipWith_cons_cons, List.flatten_cons, List.length_append, List.map_cons, List.sum_cons, rows_bytes es ps (fun q hq => h q (List.mem_cons_of_mem _ hq)), rowB, jG, jL, (h p List.mem_cons_self).flat, prow]
    omega
section
variable {bs : List UInt8}
theorem rowN_at {size : Int} {e : List UInt8} {x : Way} {p : Nat} (h : At bs p (rowB e x)) (ha : x.a = size) (hb : besN size x.b = some x.ds.length) (he : e.length <= 65536) (hd : Dgs x.ds) :
    rowN bs size ⟨p, 0⟩ = some (e, x, ⟨p + (rowB e x).length, 0⟩) := by
  obtain ⟨_, hB, _⟩ := small_bes _ _ _ hb
  unfold rowB at h
  have h1 := h.fst.ptk hB
  have a1 := h.snd' (q := p + 8) (by rw [jG])
  have h2 := a1.fst.bytes (most := 65536) (by omega) (by omega)
  have h3 := (a1.snd' (q := p + 8 + (4 + e.length)) (by rw [jL])).digs hd
  unfold rowN
  rw [h1]
  simp only
  rw [if_pos trivial, hb]
  simp only
  rw [h2]
  simp only
  rw [if_pos trivial, h3]
  obtain ⟨a, b, ds⟩ := x
  simp only at ha
  subst ha
  simp only [rowB, List.length_append, jG, jL, hd.flat, Option.some.injEq, Prod.mk.injEq, true_and, Rs.mk.injEq, and_true]
  omega
theorem rowsGo_at {size : Int} : ∀ (es : List (List UInt8)) (ps : List Way) (p : Nat) (ae : List (List UInt8)) (ap : List Way), es.length = ps.length ->
    (∀ r ∈ List.zipWith prow es ps, r.n <= 65536 /\ besN r.size r.num = some r.k /\ r.size = size) -> (∀ q ∈ ps, Dgs q.ds) -> At bs p (List.zipWith rowB es ps).flatten ->
    rowsGo bs size es.length ⟨p, 0⟩ ae ap = some (ae ++ es, ap ++ ps, ⟨p + (List.zipWith rowB es ps).flatten.length, 0⟩)
  | [], [], p, ae, ap, _, _, _, _ => by simp [rowsGo]
  | [], _ :: _, _, _, _, h, _, _, _ => by simp at h
  | _ :: _, [], _, _, _, h, _, _, _ => by simp at h
  | e :: es, x :: ps, p, ae, ap, hl, hr, hd, h => by
    rw [List.zipWith_cons_cons, List.flatten_cons] at h
    rw [List.zipWith_cons_cons] at hr
    obtain ⟨r1, r2, r3⟩ := hr _ List.mem_cons_self
    simp only [prow] at r1 r2 r3
    have h1 := rowN_at (size := size) h.fst r3 (by rw [<- r3]; exact r2) r1 (hd x List.mem_cons_self)
    have ih := rowsGo_at (size := size) es ps (p + (rowB e x).length) (ae ++ [e]) (ap ++ [x]) (by simpa using hl) (fun r hq => hr r (List.mem_cons_of_mem _ hq)) (fun q hq => hd q (List.mem_cons_of_mem _ hq)) (h.snd' rfl)
    rw [List.length_cons, rowsGo, h1]
    simp only [Option.bind_some]
    rw [ih]
    simp [Nat.add_assoc]
theorem decPie_fwd {x : Pie} (hb : x.before.length = 32) (hds : ∀ q ∈ x.pfs, Dgs q.ds) (h : pieceB x = some bs) : decPie bs = some x := by
  unfold pieceB at h
  split at h
  · rename_i hok
    injection h with h
    obtain ⟨h0, hl, hr⟩ := of_decide_eq_true hok
    have hzl : (List.zipWith prow x.evs x.pfs).length = x.evs.length := by rw [List.length_zipWith]; omega
    have hr' : vw x.case_ x.first x.before (List.zipWith prow x.evs x.pfs) = (List.zipWith prow x.evs x.pfs).length := by rw [hzl]; exact hr
    obtain ⟨hbg, hk, hrows⟩ := reachN_all hr' (by rw [hzl]; exact h0)
    have hnm := beginsB_small hbg
    have hs0 : vP (List.zipWith prow x.evs x.pfs) = size0W x.pfs := by
      cases he : x.evs with
      | nil => rw [he] at h0; exact absurd rfl h0
      | cons e es =>
        cases hp : x.pfs with
        | nil => rw [he, hp] at hl; simp at hl
        | cons q ps => rfl
    have hgo := hr'
    unfold vw at hgo
    rw [if_pos hbg] at hgo
    obtain ⟨hsum, hfst⟩ := reachGo_sum _ _ _ _ _ _ (by rw [hgo]; omega)
    have hsum' := hsum (by omega)
    have hne : List.zipWith prow x.evs x.pfs ≠ [] := by
      intro e
      rw [e] at hzl
      exact h0 hzl.symm
    have hfst' := hfst hne
    have hf0 : 0 <= x.first := by
      unfold beginsB at hbg
      simp only [Bool.and_eq_true, decide_eq_true_eq] at hbg
      exact hbg.2.1
    have hsz : 0 <= size0W x.pfs /\ size0W x.pfs <= 1099511627776 := by
      obtain ⟨r, hrm⟩ := List.exists_mem_of_ne_nil _ hne
      obtain ⟨_, _, _, b4, b5⟩ := hrows r hrm
      rw [b5, hs0] at b4
      exact (small_bes _ _ _ b4).1
    rw [hs0] at hfst' hrows
    have hA := At.all bs
    have hA' : At bs 0 (be 1 51 ++ (lp 1 (sb x.case_) ++ (be8 x.first ++ (x.before ++ (be8 (size0W x.pfs) ++ (be 4 x.evs.length ++ (List.zipWith rowB x.evs x.pfs).flatten)))))) := by
      have : At bs 0 (pieHead x ++ (List.zipWith rowB x.evs x.pfs).flatten) := by rw [h]; exact hA
      rw [pieHead] at this
      simpa only [List.append_assoc] using this
    have hlen : bs.length = 54 + x.case_.size + (List.zipWith rowB x.evs x.pfs).flatten.length := by
      rw [<- h, pieHead]
      simp only [List.length_append, jC, jL, jF, jG, hb]
      omega
    have hbytes := rows_bytes x.evs x.pfs hds
    have a1 := hA'.snd' (q := 1) (by rw [jC])
    have a2 := a1.snd' (q := 1 + (1 + x.case_.size)) (by rw [jL, jF])
    have a3 := a2.snd' (q := 1 + (1 + x.case_.size) + 8) (by rw [jG])
    have a4 := a3.snd' (q := 1 + (1 + x.case_.size) + 8 + 32) (by rw [hb])
    have a5 := a4.snd' (q := 1 + (1 + x.case_.size) + 8 + 32 + 8) (by rw [jG])
    have a6 := a5.snd' (q := 1 + (1 + x.case_.size) + 8 + 32 + 8 + 4) (by rw [jC])
    unfold decPie
    rw [hA'.begun (by decide) (by omega)]
    simp only [Option.bind_some]
    unfold pieN
    rw [a1.fst.pname (by omega)]
    simp only
    rw [a2.fst.ptk (by omega)]
    unfold pieN2
    simp only
    rw [a3.fst.dig hb]
    unfold pieN3
    simp only
    rw [a4.fst.ptk hsz]
    unfold pieN4
    simp only
    rw [a5.fst.tk (by rw [p256_4]; omega)]
    unfold pieMid
    simp only
    rw [if_pos ⟨trivial, trivial, trivial, by omega, by omega⟩, rowsGo_at (size := size0W x.pfs) x.evs x.pfs _ [] [] hl (fun r hq => ⟨(hrows r hq).2.1, (hrows r hq).2.2.2.1, (hrows r hq).2.2.2.2⟩) hds a6]
    simp only [Option.bind_some, List.nil_append]
    unfold pieEnd
    simp only
    rw [if_pos ⟨done_at (by omega), hr⟩]
  · cases h
theorem restN_at {e : List UInt8} {p : Nat} (h : At bs p e) (hl : p + e.length = bs.length) : js bs ⟨p, 0⟩ = (e, ⟨p + e.length, 0⟩) := by
  unfold js
  simp only
  rw [show bs.length - p = e.length by omega]
  exact h.raw
end
structure RepOk (p : Rep) : Prop where
  chain : p.case_.chain.length = 32
  head : p.head.Ok
  inc : Dgs p.inc.ds
  con : Dgs p.con.ds
  idx : p.idx.Ok
  before : p.pie.before.length = 32
  pfs : ∀ q ∈ p.pie.pfs, Dgs q.ds
theorem MReply.Ok.rep {w : World} {X : Nat -> Prop} {m : MReply} (h : m.Ok w X) : RepOk m.data :=
  ⟨h.case_.chain, h.note.head, h.inc.dgs, h.con.dgs, h.idx, h.pie.before, fun q hq => by
    obtain ⟨x, hx, rfl⟩ := List.mem_map.1 hq
    exact (h.pie.pfs x hx).dgs⟩
section
variable {bs : List UInt8}
theorem ansN_at {op : Nat} {p : Rep} {e : List UInt8} {q : Nat} (hok : RepOk p) (he : repB op p = some e) (h : At bs q e) (hl : q + e.length = bs.length) :
    ∃ x, ansN bs op ⟨q, 0⟩ = some x /\ x.2 = ⟨q + e.length, 0⟩ := by
  unfold repB at he
  unfold ansN
  by_cases h1 : op = 1 \/ op = 2
  · rw [if_pos h1] at he ⊢
    exact ⟨_, rfl, ansHap_at he h⟩
  rw [if_neg h1] at he ⊢
  by_cases h3 : op = 3
  · rw [if_pos h3] at he ⊢
    exact ⟨_, rfl, toldN_at hok.chain he h⟩
  rw [if_neg h3] at he ⊢
  by_cases h4 : op = 4
  · rw [if_pos h4] at he ⊢
    injection he with he
    subst he
    exact ⟨_, rfl, by rw [restN_at h hl]⟩
  rw [if_neg h4] at he ⊢
  by_cases h5 : op = 5
  · rw [if_pos h5] at he ⊢
    injection he with he
    subst he
    exact ⟨_, rfl, by rw [h.num, jG]⟩
  rw [if_neg h5] at he ⊢
  by_cases h6 : op = 6
  · rw [if_pos h6] at he ⊢
    rw [restN_at h hl, decNote_fwd hok.head he]
    exact ⟨_, rfl, rfl⟩
  rw [if_neg h6] at he ⊢
  by_cases h7 : op = 7
  · rw [if_pos h7] at he ⊢
    unfold pubB at he
    split at he
    · cases hb : noteB p.head p.signs with
      | none => rw [hb] at he; cases he
      | some y =>
        rw [hb] at he
        simp only [Option.map_some, Option.some.injEq] at he
        subst he
        have h' : At bs q ([if true = true then 1 else 0] ++ y) := h
        rw [h'.fst.flag]
        simp only
        rw [if_pos trivial, restN_at (h'.snd' (q := q + 1) rfl) (by rw [List.length_cons] at hl; omega), decNote_fwd hok.head hb]
        exact ⟨_, rfl, by simp only [List.length_cons, Rs.mk.injEq, and_true]; omega⟩
    · injection he with he
      subst he
      have h' : At bs q [if false = true then 1 else 0] := h
      rw [h'.flag]
      exact ⟨_, rfl, rfl⟩
  rw [if_neg h7] at he ⊢
  by_cases h8 : op = 8
  · rw [if_pos h8] at he ⊢
    rw [restN_at h hl, decInc_fwd hok.inc he]
    exact ⟨_, rfl, rfl⟩
  rw [if_neg h8] at he ⊢
  by_cases h9 : op = 9
  · rw [if_pos h9] at he ⊢
    rw [restN_at h hl, decCon_fwd hok.con he]
    exact ⟨_, rfl, rfl⟩
  rw [if_neg h9] at he ⊢
  by_cases h10 : op = 10
  · rw [if_pos h10] at he ⊢
    rw [restN_at h hl, decIdx_fwd hok.idx he]
    exact ⟨_, rfl, rfl⟩
  rw [if_neg h10] at he ⊢
  by_cases h11 : op = 11
  · rw [if_pos h11] at he ⊢
    rw [restN_at h hl, decPie_fwd hok.before hok.pfs he]
    exact ⟨_, rfl, rfl⟩
  rw [if_neg h11] at he ⊢
  injection he with he
  subst he
  exact ⟨_, rfl, rfl⟩
theorem encRep_read {op : Int} {p : Rep} (hok : RepOk p) (h : encRep op p = some bs) : ∃ y, decRep op bs = some y /\ encRep op y = some bs /\ y.err = p.err := by
  suffices hs : ∃ y, decRep op bs = some y /\ y.err = p.err by
    obtain ⟨y, h1, h2⟩ := hs
    exact ⟨y, h1, decRep_back h1, h2⟩
  unfold encRep at h
  split at h
  · rename_i hop
    cases hb : bodyB op.toNat p with
    | none => rw [hb] at h; cases h
    | some e =>
      rw [hb] at h
      simp only [Option.bind_some] at h
      split at h
      · rename_i hlen
        injection h with h
        have hA : At bs 0 (be 2 p.err.toNat ++ e) := by rw [h]; exact At.all bs
        have hl : bs.length = 2 + e.length := by rw [<- h, List.length_append, jC]
        have a1 := hA.snd' (q := 2) (by rw [jC])
        have ht := hA.fst.tk (by rw [p256_2]; omega)
        rw [Nat.zero_add] at ht
        unfold decRep
        rw [if_pos ⟨hop.1, hop.2.1, by omega⟩, ht]
        unfold repMid
        simp only
        rw [if_neg (by simp)]
        unfold bodyB at hb
        by_cases h0 : p.err = 0
        · rw [if_pos h0] at hb
          obtain ⟨x, hx, hx2⟩ := ansN_at hok hb a1 (by omega)
          rw [if_pos (by omega), hx]
          simp only [Option.bind_some]
          rw [repEnd, hx2, if_pos (done_at (by omega))]
          exact ⟨_, rfl, by rw [(ansN_back hx (by rw [hx2]) (by simp only; omega)).1, h0]⟩
        · rw [if_neg h0] at hb
          have hcast : ((p.err.toNat : Nat) : Int) = p.err := by omega
          rw [if_neg (by omega), hcast]
          by_cases h2 : op.toNat <= 2 /\ bareB p.err = false
          · rw [if_pos h2] at hb ⊢
            unfold placeB at hb
            split at hb
            · rename_i hall
              simp only [List.all_cons, List.all_nil, Bool.and_true, Bool.and_eq_true, decide_eq_true_eq] at hall
              injection hb with hb
              have hb' : be 4 p.pa.toNat ++ (be 4 p.pb.toNat ++ be 4 p.pc.toNat) = e := by rw [<- hb]; simp
              rw [<- hb'] at a1
              have b1 := a1.snd' (q := 2 + 4) (by rw [jC])
              have b2 := b1.snd' (q := 2 + 4 + 4) (by rw [jC])
              have hle : e.length = 12 := by rw [<- hb']; simp only [List.length_append, jC]
              rw [a1.fst.tk (by rw [p256_4]; omega)]
              simp only
              rw [b1.fst.tk (by rw [p256_4]; omega)]
              simp only
              rw [b2.tk (by rw [p256_4]; omega)]
              simp only
              rw [repEnd, if_pos (done_at (by omega))]
              exact ⟨_, rfl, rfl⟩
            · cases hb
          · rw [if_neg h2] at hb ⊢
            injection hb with hb
            subst hb
            rw [repEnd, if_pos (done_at (by simpa using hl.symm))]
            exact ⟨_, rfl, rfl⟩
      · cases h
  · cases h
end
theorem encReq_small {q : Req} (h1 : 3 <= q.op) (h2 : q.op <= 12) (hn : q.name.size < 1000) : jy q ≠ none := by
  have hk : ∃ e, jq q = some e /\ e.length <= 2000 := by
    unfold jq
    rw [if_neg (by omega)]
    by_cases h3 : q.op = 3
    · rw [if_pos h3]; exact ⟨_, rfl, by rw [jb]; omega⟩
    rw [if_neg h3]
    by_cases h4 : q.op = 4
    · rw [if_pos h4]; exact ⟨_, rfl, by rw [jG]; omega⟩
    rw [if_neg h4]
    by_cases h5 : q.op = 5 \/ q.op = 6 \/ q.op = 7 \/ q.op = 12
    · rw [if_pos h5]; exact ⟨_, rfl, by simp⟩
    rw [if_neg h5]
    by_cases h8 : q.op = 8
    · rw [if_pos h8]; exact ⟨_, rfl, by rw [List.length_append, jG, jG]; omega⟩
    rw [if_neg h8]
    by_cases h9 : q.op = 9
    · rw [if_pos h9]; exact ⟨_, rfl, by rw [List.length_append, jG, jG]; omega⟩
    rw [if_neg h9]
    by_cases h10 : q.op = 10
    · rw [if_pos h10]; exact ⟨_, rfl, by rw [List.length_append, jb, jG]; omega⟩
    rw [if_neg h10, if_pos (by omega)]
    exact ⟨_, rfl, by rw [List.length_append, List.length_append, jb, jG, jG]; omega⟩
  obtain ⟨e, he, hl⟩ := hk
  rw [kL (b := be 1 q.op.toNat ++ e) (by rw [reqB, he]; rfl) (by rw [List.length_append, jC]; omega)]
  simp
theorem ku (w : World) (X : Nat -> Prop) : MOp.Ok w X ⟨0, ⟨#[]⟩, ⟨#[]⟩, ⟨#[]⟩, ⟨⟨0, 0, ⟨#[]⟩, []⟩, none, 0⟩, [], none, 0, [], none, 0, 0⟩ :=
  ⟨zeroM_ok _ _ _ rfl, fun v hv => by simp at hv, Rd.none_, fun h => absurd h (by simp), Nat.le_refl _, Rd.none_, fun h => absurd h (by simp), by refine ⟨?_, ?_, ?_, ?_, ?_⟩ <;> first | exact jg | exact Nat.zero_le _⟩
theorem dec_long (w : World) (A : Option Addr) (c : Nat) (bs : List UInt8) (hl : 1048576 < bs.length) :
    Calls Tryz.prog 16 #[.slice A bs.length c] w (DecPost w (jS bs)) := by
  have HT := jJ0 (show jS bs = none by rw [jS, if_pos hl])
  generalize jS bs = TV at HT ⊢
  have hlI : (1048576 : Int) < (bs.length : Int) := by omega
  have hb := Blk.new w 34 zeroReqC.toArray
  have Hb := jJ0 hb
  have Hz := jJ0 (hb.setWhole zeroReqC rfl)
  have Ho := jJ0 (show Old w ((w.alloc (.cells zeroReqC.toArray 34)).setCells w.heap.size 0 zeroReqC) from ((Kp.refl NoX w).alloc _).trans (Kp.setCells _ _ _ _) (fun b hb e => by omega))
  clear hb
  go_enter Tryz.func16, Tryz.ntmps16
  go_wp2_with (refine wpList_store_mid rfl 34 (.tmp 2) (.tmp 10) rfl w.heap.size 0 _ rfl rfl (Hb.out.there 0 18 (by decide)) Tryz.sizeRequest (jK rfl) ?_)
  refine jA (g := w.heap.size) (cs := zeroReqC.toArray) rfl rfl Hz.out Tryz.underlying34 rfl (by kernel_rfl) rfl ?_
  exact .inr ⟨HT.out, rfl, Ho.out⟩
theorem dec_0 (w : World) (A : Option Addr) (c : Nat) (bs : List UInt8) (hrd : Rd w 1 A bs.length (bs.map bv)) (hl : bs.length <= 1048576) (hk : (tkN bs 1 ⟨0, 0⟩).1 = 0) :
    Calls Tryz.prog 16 #[.slice A bs.length c] w (DecPost w (jS bs)) := by
  have HT := jJ0 (show jS bs = jc bs (decN bs 0 (tkN bs 1 ⟨0, 0⟩).2) by rw [jS, if_neg (by omega), hk])
  generalize jS bs = TV at HT ⊢
  have Hk := jJ0 hk
  clear hk
  have hlI : (bs.length : Int) <= 1048576 := by omega
  go_enter Tryz.func16, Tryz.ntmps16
  go_wp2_with fail
  refine (kS _ A bs.length c bs (hrd.alloc _) (by omega)).mono ?_
  rintro e w1 ⟨g, rfl, hg, hr1, ho1⟩
  have hbR := (Blk.new w 34 zeroReqC.toArray).old ho1
  have hold1 : Old w w1 := ((Kp.refl NoX w).alloc _).old ho1
  have hgR : w.heap.size < g := by simp at hg; omega
  clear ho1 hg
  go_wp2_with fail
  refine (jQ w1 g bs _ hr1).mono ?_
  rintro e w2 ⟨rfl, hr2, hk2⟩
  rw [Hk.out]
  generalize (tkN bs 1 ⟨0, 0⟩).2 = s1 at *
  have hD : DecSt w w.heap.size g w2.heap.size bs [.int .i64 0, .int .i64 0, .string ⟨#[]⟩, .string ⟨#[]⟩, .string ⟨#[]⟩, .int .i64 0, .int .i64 0, .string ⟨#[]⟩, .slice none 0 0, .slice none 0 0, .slice none 0 0, .int .i64 0, .string ⟨#[]⟩, .int .i64 0, .int .i64 0, .int .i64 0, .int .i64 0, .int .i64 0] s1 (w2.alloc (.cells (List.toArray [.int .i64 0, .int .i64 0, .string ⟨#[]⟩, .string ⟨#[]⟩, .string ⟨#[]⟩, .int .i64 0, .int .i64 0, .string ⟨#[]⟩, .slice none 0 0, .slice none 0 0, .slice none 0 0, .int .i64 0, .string ⟨#[]⟩, .int .i64 0, .int .i64 0, .int .i64 0, .int .i64 0, .int .i64 0]) 34)) :=
    ⟨Blk.new w2 _ _, (hbR.kp hk2 (fun e => by have : w.heap.size = g := e; omega)).alloc _, hr2.old ((Kp.refl NoX w2).alloc _),
      (hold1.trans hk2 (fun b hb e => by have : b = g := e; omega)).alloc _, Nat.le_refl _, hgR, hr2.lt⟩
  clear hk2 hold1 hbR hr2 hr1
  have HD := jJ0 hD
  have Hrd := jJ0 hrd
  clear hD hrd
  go_upto_region 5 with (fail)
  generalize w2.alloc _ = w3 at *
  generalize w2.heap.size = Q at *
  have HE := jJ0 (show jc bs (decN bs 0 s1) = none by simp [decN, jc])
  rw [HE.out] at HT
  clear HE
  have c0 := HD.out.boxQ.at_ 0 rfl
  go_upto_region 23 with (fail)
  clear c0
  have Hz := jJ0 (HD.out.told zeroReqC rfl)
  go_wp2_with (refine wpList_store_mid rfl 34 (.tmp 2) (.tmp 95) rfl w.heap.size 0 _ rfl rfl (HD.out.boxR.there 0 18 (by decide)) Tryz.sizeRequest (jK rfl) ?_)
  refine jA (g := w.heap.size) (cs := zeroReqC.toArray) rfl rfl Hz.out.1 Tryz.underlying34 rfl (by kernel_rfl) rfl ?_
  exact .inr ⟨HT.out, rfl, Hz.out.2.1⟩
theorem dec_far (w : World) (A : Option Addr) (c : Nat) (bs : List UInt8) (hrd : Rd w 1 A bs.length (bs.map bv)) (hl : bs.length <= 1048576) (k : Nat) (hk : (tkN bs 1 ⟨0, 0⟩).1 = k) (h13 : 13 <= k) :
    Calls Tryz.prog 16 #[.slice A bs.length c] w (DecPost w (jS bs)) := by
  have HT := jJ0 (show jS bs = jc bs (decN bs k (tkN bs 1 ⟨0, 0⟩).2) by rw [jS, if_neg (by omega), hk])
  generalize jS bs = TV at HT ⊢
  have Hk := jJ0 hk
  clear hk
  have hlI : (bs.length : Int) <= 1048576 := by omega
  go_enter Tryz.func16, Tryz.ntmps16
  go_wp2_with fail
  refine (kS _ A bs.length c bs (hrd.alloc _) (by omega)).mono ?_
  rintro e w1 ⟨g, rfl, hg, hr1, ho1⟩
  have hbR := (Blk.new w 34 zeroReqC.toArray).old ho1
  have hold1 : Old w w1 := ((Kp.refl NoX w).alloc _).old ho1
  have hgR : w.heap.size < g := by simp at hg; omega
  clear ho1 hg
  go_wp2_with fail
  refine (jQ w1 g bs _ hr1).mono ?_
  rintro e w2 ⟨rfl, hr2, hk2⟩
  rw [Hk.out]
  have hlt := kE bs 1 ⟨0, 0⟩
  rw [Hk.out] at hlt
  have hwk : IntKind.i64.wrap (k : Int) = (k : Int) := IntWalk.i64_in _ (by omega)
  have hwk2 : wrap64 (k : Int) = (k : Int) := by unfold wrap64; omega
  clear hlt
  generalize (tkN bs 1 ⟨0, 0⟩).2 = s1 at *
  have hD : DecSt w w.heap.size g w2.heap.size bs [.int .i64 (k : Int), .int .i64 0, .string ⟨#[]⟩, .string ⟨#[]⟩, .string ⟨#[]⟩, .int .i64 0, .int .i64 0, .string ⟨#[]⟩, .slice none 0 0, .slice none 0 0, .slice none 0 0, .int .i64 0, .string ⟨#[]⟩, .int .i64 0, .int .i64 0, .int .i64 0, .int .i64 0, .int .i64 0] s1 (w2.alloc (.cells (List.toArray [.int .i64 (k : Int), .int .i64 0, .string ⟨#[]⟩, .string ⟨#[]⟩, .string ⟨#[]⟩, .int .i64 0, .int .i64 0, .string ⟨#[]⟩, .slice none 0 0, .slice none 0 0, .slice none 0 0, .int .i64 0, .string ⟨#[]⟩, .int .i64 0, .int .i64 0, .int .i64 0, .int .i64 0, .int .i64 0]) 34)) :=
    ⟨Blk.new w2 _ _, (hbR.kp hk2 (fun e => by have : w.heap.size = g := e; omega)).alloc _, hr2.old ((Kp.refl NoX w2).alloc _),
      (hold1.trans hk2 (fun b hb e => by have : b = g := e; omega)).alloc _, Nat.le_refl _, hgR, hr2.lt⟩
  clear hk2 hold1 hbR hr2 hr1
  have HD := jJ0 hD
  have Hrd := jJ0 hrd
  clear hD hrd
  go_upto_region 5 with (fail)
  generalize w2.alloc _ = w3 at *
  generalize w2.heap.size = Q at *
  have HE := jJ0 (show jc bs (decN bs k s1) = none by
    unfold decN
    rw [if_neg (by omega), if_neg (by omega), if_neg (by omega), if_neg (by omega), if_neg (by omega), if_neg (by omega), if_neg (by omega)]
    simp [jc]
    omega)
  rw [HE.out] at HT
  clear HE
  have c0 := HD.out.boxQ.at_ 0 rfl
  have o1 : (1 : Int) <= (k : Int) := by omega
  have o2 : (12 : Int) < (k : Int) := by omega
  have n1 : ((k : Int) == 1) = false := beq_eq_false_iff_ne.2 (by omega)
  have n2 : ((k : Int) == 2) = false := beq_eq_false_iff_ne.2 (by omega)
  have n3 : ((k : Int) == 3) = false := beq_eq_false_iff_ne.2 (by omega)
  have n4 : ((k : Int) == 4) = false := beq_eq_false_iff_ne.2 (by omega)
  have n5 : ((k : Int) == 5) = false := beq_eq_false_iff_ne.2 (by omega)
  have n6 : ((k : Int) == 6) = false := beq_eq_false_iff_ne.2 (by omega)
  have n7 : ((k : Int) == 7) = false := beq_eq_false_iff_ne.2 (by omega)
  have n8 : ((k : Int) == 8) = false := beq_eq_false_iff_ne.2 (by omega)
  have n9 : ((k : Int) == 9) = false := beq_eq_false_iff_ne.2 (by omega)
  have n10 : ((k : Int) == 10) = false := beq_eq_false_iff_ne.2 (by omega)
  have n11 : ((k : Int) == 11) = false := beq_eq_false_iff_ne.2 (by omega)
  have n12 : ((k : Int) == 12) = false := beq_eq_false_iff_ne.2 (by omega)
  clear h13
  go_upto_region 23 with (fail)
  clear c0
  have Hz := jJ0 (HD.out.told zeroReqC rfl)
  go_wp2_with (refine wpList_store_mid rfl 34 (.tmp 2) (.tmp 95) rfl w.heap.size 0 _ rfl rfl (HD.out.boxR.there 0 18 (by decide)) Tryz.sizeRequest (jK rfl) ?_)
  refine jA (g := w.heap.size) (cs := zeroReqC.toArray) rfl rfl Hz.out.1 Tryz.underlying34 rfl (by kernel_rfl) rfl ?_
  exact .inr ⟨HT.out, rfl, Hz.out.2.1⟩
theorem dec_1 (w : World) (A : Option Addr) (c : Nat) (bs : List UInt8) (hrd : Rd w 1 A bs.length (bs.map bv)) (hl : bs.length <= 1048576) (hk : (tkN bs 1 ⟨0, 0⟩).1 = 1) :
    Calls Tryz.prog 16 #[.slice A bs.length c] w (DecPost w (jS bs)) := by
  have HT := jJ0 (show jS bs = jc bs (decN bs 1 (tkN bs 1 ⟨0, 0⟩).2) by rw [jS, if_neg (by omega), hk])
  generalize jS bs = TV at HT ⊢
  have Hk := jJ0 hk
  clear hk
  have hlI : (bs.length : Int) <= 1048576 := by omega
  go_enter Tryz.func16, Tryz.ntmps16
  go_wp2_with fail
  refine (kS _ A bs.length c bs (hrd.alloc _) (by omega)).mono ?_
  rintro e w1 ⟨g, rfl, hg, hr1, ho1⟩
  have hbR := (Blk.new w 34 zeroReqC.toArray).old ho1
  have hold1 : Old w w1 := ((Kp.refl NoX w).alloc _).old ho1
  have hgR : w.heap.size < g := by simp at hg; omega
  clear ho1 hg
  go_wp2_with fail
  refine (jQ w1 g bs _ hr1).mono ?_
  rintro e w2 ⟨rfl, hr2, hk2⟩
  rw [Hk.out]
  generalize (tkN bs 1 ⟨0, 0⟩).2 = s1 at *
  have hD : DecSt w w.heap.size g w2.heap.size bs [.int .i64 1, .int .i64 0, .string ⟨#[]⟩, .string ⟨#[]⟩, .string ⟨#[]⟩, .int .i64 0, .int .i64 0, .string ⟨#[]⟩, .slice none 0 0, .slice none 0 0, .slice none 0 0, .int .i64 0, .string ⟨#[]⟩, .int .i64 0, .int .i64 0, .int .i64 0, .int .i64 0, .int .i64 0] s1 (w2.alloc (.cells (List.toArray [.int .i64 1, .int .i64 0, .string ⟨#[]⟩, .string ⟨#[]⟩, .string ⟨#[]⟩, .int .i64 0, .int .i64 0, .string ⟨#[]⟩, .slice none 0 0, .slice none 0 0, .slice none 0 0, .int .i64 0, .string ⟨#[]⟩, .int .i64 0, .int .i64 0, .int .i64 0, .int .i64 0, .int .i64 0]) 34)) :=
    ⟨Blk.new w2 _ _, (hbR.kp hk2 (fun e => by have : w.heap.size = g := e; omega)).alloc _, hr2.old ((Kp.refl NoX w2).alloc _),
      (hold1.trans hk2 (fun b hb e => by have : b = g := e; omega)).alloc _, Nat.le_refl _, hgR, hr2.lt⟩
  clear hk2 hold1 hbR hr2 hr1
  have HD := jJ0 hD
  have Hrd := jJ0 hrd
  clear hD hrd
  go_upto_region 5 with (fail)
  generalize w2.alloc _ = w3 at *
  generalize w2.heap.size = Q at *
  have hV : ∀ m : MOp, m.data = (jv bs s1).1 -> decN bs 1 s1 = (MReq.data (⟨1, m, ⟨#[]⟩, 0, 0, 0, 0, 0⟩ : MReq), decide (1 <= m.op /\ m.op <= 5), (jv bs s1).2) := by
    intro m hm
    have h2 : (jv bs s1).1.op = m.op := by rw [<- hm]; rfl
    simp [decN, MReq.data, hm, ju, h2]
  have HV := jJ0 hV
  clear hV
  have c0 := HD.out.boxQ.at_ 0 rfl
  go_wp2_with fail
  refine (asked_any _ g bs _ HD.out.rr).mono ?_
  rintro e w4 ⟨m, hm, rfl, hok, hr4, hk4⟩
  rw [HV.out m hm] at HT
  clear HV hm
  have hQ3 : Q < w3.heap.size := HD.out.boxQ.lt
  have hR3 : w.heap.size < Q := by have := HD.out.lt; have := HD.out.gt; omega
  have Hok := jJ0 hok
  have HD := jJ0 (HD.out.step hr4 hk4)
  clear hr4 hk4 hok c0
  generalize (jv bs s1).2 = sz at *
  have Hkp := jJ0 (Kp.setCells Q 1 m.cells w4)
  have HD2 : Hid (DecSt w w.heap.size g Q bs [.int .i64 1, .int .i64 m.op, .string m.case_, .string m.type_, .string m.name, .int .i64 m.value.v.kind, .int .i64 m.value.v.n, .string m.value.v.t, .slice m.value.A m.value.v.s.length m.value.c, .slice m.argsA m.args.length m.argsC, .slice m.srcA m.source.length m.srcC, .int .i64 m.clock, .string ⟨#[]⟩, .int .i64 0, .int .i64 0, .int .i64 0, .int .i64 0, .int .i64 0] sz (w4.setCells Q 1 m.cells)) := jJ0 (HD.out.put Hkp.out (Blk.setCells (pre := [.int .i64 1]) (mid := [.int .i64 0, .string ⟨#[]⟩, .string ⟨#[]⟩, .string ⟨#[]⟩, .int .i64 0, .int .i64 0, .string ⟨#[]⟩, .slice none 0 0, .slice none 0 0, .slice none 0 0, .int .i64 0]) (post := [.string ⟨#[]⟩, .int .i64 0, .int .i64 0, .int .i64 0, .int .i64 0, .int .i64 0]) HD.out.boxQ m.cells rfl))
  have Hok := jJ0 ((Hok.out.sub Hkp.out (fun k e => by omega)).weak (Y := fun k => k <= w.heap.size) (fun k e => by omega))
  clear hQ3 hR3 Hkp
  generalize hwz : w4.setCells Q 1 m.cells = wz at HD2 Hok
  have c0 := HD2.out.boxQ.at_ 0 rfl
  have c1 := HD2.out.boxQ.at_ 1 rfl
  by_cases ho : 1 <= m.op /\ m.op <= 5
  · rw [decide_eq_true ho] at HT
    have o1 : (1 : Int) <= m.op := ho.1
    have o2 : m.op <= 5 := ho.2
    have o3 : (decide (m.op >= 1)) = true := decide_eq_true o1
    clear ho
    have HE2 := jJ0 (show jc bs (MReq.data (⟨1, m, ⟨#[]⟩, 0, 0, 0, 0, 0⟩ : MReq), true, sz) = if jo bs sz = 0 then some (MReq.data (⟨1, m, ⟨#[]⟩, 0, 0, 0, 0, 0⟩ : MReq)) else none by simp [jc])
    go_upto_region 23 with (first | (refine wpList_store_mid rfl 32 (.tmp 32) (.tmp 31) rfl Q 1 _ rfl rfl (HD.out.boxQ.there 1 11 (by decide)) Tryz.sizeOperation (jK rfl) ?_; rw [hwz]) | fail)
    clear c0 c1 o1 o2 o3 hwz HD
    have HD := HD2
    clear HD2
    go_wp2_with fail
    refine (jw _ g bs _ HD.out.rr).mono ?_
    rintro e w9 ⟨rfl, ho9⟩
    have HD := jJ0 (HD.out.still ho9)
    have HE := jJ0 HE2.out
    have Hok := jJ0 (Hok.out.sub ho9 (fun k e => e.elim))
    clear ho9
    generalize jo bs sz = dn at *
    by_cases hdn : dn = 0
    · subst hdn
      have Hz := jJ0 (HD.out.told [.int .i64 1, .int .i64 m.op, .string m.case_, .string m.type_, .string m.name, .int .i64 m.value.v.kind, .int .i64 m.value.v.n, .string m.value.v.t, .slice m.value.A m.value.v.s.length m.value.c, .slice m.argsA m.args.length m.argsC, .slice m.srcA m.source.length m.srcC, .int .i64 m.clock, .string ⟨#[]⟩, .int .i64 0, .int .i64 0, .int .i64 0, .int .i64 0, .int .i64 0] rfl)
      go_wp2_with (first | refine wpList_load_mid rfl 34 (.tmp 5) rfl Q 0 rfl [.int .i64 1, .int .i64 m.op, .string m.case_, .string m.type_, .string m.name, .int .i64 m.value.v.kind, .int .i64 m.value.v.n, .string m.value.v.t, .slice m.value.A m.value.v.s.length m.value.c, .slice m.argsA m.args.length m.argsC, .slice m.srcA m.source.length m.srcC, .int .i64 m.clock, .string ⟨#[]⟩, .int .i64 0, .int .i64 0, .int .i64 0, .int .i64 0, .int .i64 0] _ HD.out.boxQ.range Tryz.underlying34 rfl Tryz.sizeRequest ?_ | refine wpList_store_mid rfl 34 (.tmp 2) (.tmp 96) rfl w.heap.size 0 _ rfl rfl (HD.out.boxR.there 0 18 (by decide)) Tryz.sizeRequest (jK rfl) ?_)
      refine jA (g := w.heap.size) (cs := List.toArray [.int .i64 1, .int .i64 m.op, .string m.case_, .string m.type_, .string m.name, .int .i64 m.value.v.kind, .int .i64 m.value.v.n, .string m.value.v.t, .slice m.value.A m.value.v.s.length m.value.c, .slice m.argsA m.args.length m.argsC, .slice m.srcA m.source.length m.srcC, .int .i64 m.clock, .string ⟨#[]⟩, .int .i64 0, .int .i64 0, .int .i64 0, .int .i64 0, .int .i64 0]) rfl rfl Hz.out.1 Tryz.underlying34 rfl (by kernel_rfl) rfl ?_
      refine .inl ⟨(⟨1, m, ⟨#[]⟩, 0, 0, 0, 0, 0⟩ : MReq), ?_, rfl, ?_, ?_, Hz.out.2.1⟩
      · rw [HT.out, HE.out]; exact if_pos (by trivial)
      · exact (Hok.out.sub Hz.out.2.2 (fun k e => by omega)).weak (fun k e => by omega)
      · exact jg
    · have hdn' : (dn != 0) = true := bne_iff_ne.2 hdn
      have Hz := jJ0 (HD.out.told zeroReqC rfl)
      go_wp2_with (refine wpList_store_mid rfl 34 (.tmp 2) (.tmp 95) rfl w.heap.size 0 _ rfl rfl (HD.out.boxR.there 0 18 (by decide)) Tryz.sizeRequest (jK rfl) ?_)
      refine jA (g := w.heap.size) (cs := zeroReqC.toArray) rfl rfl Hz.out.1 Tryz.underlying34 rfl (by kernel_rfl) rfl ?_
      exact .inr ⟨by rw [HT.out, HE.out, if_neg hdn], rfl, Hz.out.2.1⟩
  · have HE := jJ0 (show jc bs (MReq.data (⟨1, m, ⟨#[]⟩, 0, 0, 0, 0, 0⟩ : MReq), decide (1 <= m.op /\ m.op <= 5), sz) = none by rw [decide_eq_false ho]; simp [jc])
    rw [HE.out] at HT
    clear HE
    have hc : m.op < 1 \/ (1 <= m.op /\ 5 < m.op) := by omega
    clear ho
    rcases hc with o1 | ⟨o1, o2⟩
    all_goals
      go_upto_region 23 with (first | (refine wpList_store_mid rfl 32 (.tmp 32) (.tmp 31) rfl Q 1 _ rfl rfl (HD.out.boxQ.there 1 11 (by decide)) Tryz.sizeOperation (jK rfl) ?_; rw [hwz]) | fail)
      clear c0 c1 hwz HD
      have HD := HD2
      clear HD2
      have Hz := jJ0 (HD.out.told zeroReqC rfl)
      go_wp2_with (refine wpList_store_mid rfl 34 (.tmp 2) (.tmp 95) rfl w.heap.size 0 _ rfl rfl (HD.out.boxR.there 0 18 (by decide)) Tryz.sizeRequest (jK rfl) ?_)
      refine jA (g := w.heap.size) (cs := zeroReqC.toArray) rfl rfl Hz.out.1 Tryz.underlying34 rfl (by kernel_rfl) rfl ?_
      exact .inr ⟨HT.out, rfl, Hz.out.2.1⟩
theorem dec_2 (w : World) (A : Option Addr) (c : Nat) (bs : List UInt8) (hrd : Rd w 1 A bs.length (bs.map bv)) (hl : bs.length <= 1048576) (hk : (tkN bs 1 ⟨0, 0⟩).1 = 2) :
    Calls Tryz.prog 16 #[.slice A bs.length c] w (DecPost w (jS bs)) := by
  have HT := jJ0 (show jS bs = jc bs (decN bs 2 (tkN bs 1 ⟨0, 0⟩).2) by rw [jS, if_neg (by omega), hk])
  generalize jS bs = TV at HT ⊢
  have Hk := jJ0 hk
  clear hk
  have hlI : (bs.length : Int) <= 1048576 := by omega
  go_enter Tryz.func16, Tryz.ntmps16
  go_wp2_with fail
  refine (kS _ A bs.length c bs (hrd.alloc _) (by omega)).mono ?_
  rintro e w1 ⟨g, rfl, hg, hr1, ho1⟩
  have hbR := (Blk.new w 34 zeroReqC.toArray).old ho1
  have hold1 : Old w w1 := ((Kp.refl NoX w).alloc _).old ho1
  have hgR : w.heap.size < g := by simp at hg; omega
  clear ho1 hg
  go_wp2_with fail
  refine (jQ w1 g bs _ hr1).mono ?_
  rintro e w2 ⟨rfl, hr2, hk2⟩
  rw [Hk.out]
  generalize (tkN bs 1 ⟨0, 0⟩).2 = s1 at *
  have hD : DecSt w w.heap.size g w2.heap.size bs [.int .i64 2, .int .i64 0, .string ⟨#[]⟩, .string ⟨#[]⟩, .string ⟨#[]⟩, .int .i64 0, .int .i64 0, .string ⟨#[]⟩, .slice none 0 0, .slice none 0 0, .slice none 0 0, .int .i64 0, .string ⟨#[]⟩, .int .i64 0, .int .i64 0, .int .i64 0, .int .i64 0, .int .i64 0] s1 (w2.alloc (.cells (List.toArray [.int .i64 2, .int .i64 0, .string ⟨#[]⟩, .string ⟨#[]⟩, .string ⟨#[]⟩, .int .i64 0, .int .i64 0, .string ⟨#[]⟩, .slice none 0 0, .slice none 0 0, .slice none 0 0, .int .i64 0, .string ⟨#[]⟩, .int .i64 0, .int .i64 0, .int .i64 0, .int .i64 0, .int .i64 0]) 34)) :=
    ⟨Blk.new w2 _ _, (hbR.kp hk2 (fun e => by have : w.heap.size = g := e; omega)).alloc _, hr2.old ((Kp.refl NoX w2).alloc _),
      (hold1.trans hk2 (fun b hb e => by have : b = g := e; omega)).alloc _, Nat.le_refl _, hgR, hr2.lt⟩
  clear hk2 hold1 hbR hr2 hr1
  have HD := jJ0 hD
  have Hrd := jJ0 hrd
  clear hD hrd
  go_upto_region 5 with (fail)
  generalize w2.alloc _ = w3 at *
  generalize w2.heap.size = Q at *
  have hV : ∀ m : MOp, m.data = (jv bs s1).1 -> decN bs 2 s1 = (MReq.data (⟨2, m, ⟨#[]⟩, 0, 0, 0, 0, 0⟩ : MReq), decide (1 <= m.op /\ m.op <= 5), (jv bs s1).2) := by
    intro m hm
    have h2 : (jv bs s1).1.op = m.op := by rw [<- hm]; rfl
    simp [decN, MReq.data, hm, ju, h2]
  have HV := jJ0 hV
  clear hV
  have c0 := HD.out.boxQ.at_ 0 rfl
  go_wp2_with fail
  refine (asked_any _ g bs _ HD.out.rr).mono ?_
  rintro e w4 ⟨m, hm, rfl, hok, hr4, hk4⟩
  rw [HV.out m hm] at HT
  clear HV hm
  have hQ3 : Q < w3.heap.size := HD.out.boxQ.lt
  have hR3 : w.heap.size < Q := by have := HD.out.lt; have := HD.out.gt; omega
  have Hok := jJ0 hok
  have HD := jJ0 (HD.out.step hr4 hk4)
  clear hr4 hk4 hok c0
  generalize (jv bs s1).2 = sz at *
  have Hkp := jJ0 (Kp.setCells Q 1 m.cells w4)
  have HD2 : Hid (DecSt w w.heap.size g Q bs [.int .i64 2, .int .i64 m.op, .string m.case_, .string m.type_, .string m.name, .int .i64 m.value.v.kind, .int .i64 m.value.v.n, .string m.value.v.t, .slice m.value.A m.value.v.s.length m.value.c, .slice m.argsA m.args.length m.argsC, .slice m.srcA m.source.length m.srcC, .int .i64 m.clock, .string ⟨#[]⟩, .int .i64 0, .int .i64 0, .int .i64 0, .int .i64 0, .int .i64 0] sz (w4.setCells Q 1 m.cells)) := jJ0 (HD.out.put Hkp.out (Blk.setCells (pre := [.int .i64 2]) (mid := [.int .i64 0, .string ⟨#[]⟩, .string ⟨#[]⟩, .string ⟨#[]⟩, .int .i64 0, .int .i64 0, .string ⟨#[]⟩, .slice none 0 0, .slice none 0 0, .slice none 0 0, .int .i64 0]) (post := [.string ⟨#[]⟩, .int .i64 0, .int .i64 0, .int .i64 0, .int .i64 0, .int .i64 0]) HD.out.boxQ m.cells rfl))
  have Hok := jJ0 ((Hok.out.sub Hkp.out (fun k e => by omega)).weak (Y := fun k => k <= w.heap.size) (fun k e => by omega))
  clear hQ3 hR3 Hkp
  generalize hwz : w4.setCells Q 1 m.cells = wz at HD2 Hok
  have c0 := HD2.out.boxQ.at_ 0 rfl
  have c1 := HD2.out.boxQ.at_ 1 rfl
  by_cases ho : 1 <= m.op /\ m.op <= 5
  · rw [decide_eq_true ho] at HT
    have o1 : (1 : Int) <= m.op := ho.1
    have o2 : m.op <= 5 := ho.2
    have o3 : (decide (m.op >= 1)) = true := decide_eq_true o1
    clear ho
    have HE2 := jJ0 (show jc bs (MReq.data (⟨2, m, ⟨#[]⟩, 0, 0, 0, 0, 0⟩ : MReq), true, sz) = if jo bs sz = 0 then some (MReq.data (⟨2, m, ⟨#[]⟩, 0, 0, 0, 0, 0⟩ : MReq)) else none by simp [jc])
    go_upto_region 23 with (first | (refine wpList_store_mid rfl 32 (.tmp 32) (.tmp 31) rfl Q 1 _ rfl rfl (HD.out.boxQ.there 1 11 (by decide)) Tryz.sizeOperation (jK rfl) ?_; rw [hwz]) | fail)
    clear c0 c1 o1 o2 o3 hwz HD
    have HD := HD2
    clear HD2
    go_wp2_with fail
    refine (jw _ g bs _ HD.out.rr).mono ?_
    rintro e w9 ⟨rfl, ho9⟩
    have HD := jJ0 (HD.out.still ho9)
    have HE := jJ0 HE2.out
    have Hok := jJ0 (Hok.out.sub ho9 (fun k e => e.elim))
    clear ho9
    generalize jo bs sz = dn at *
    by_cases hdn : dn = 0
    · subst hdn
      have Hz := jJ0 (HD.out.told [.int .i64 2, .int .i64 m.op, .string m.case_, .string m.type_, .string m.name, .int .i64 m.value.v.kind, .int .i64 m.value.v.n, .string m.value.v.t, .slice m.value.A m.value.v.s.length m.value.c, .slice m.argsA m.args.length m.argsC, .slice m.srcA m.source.length m.srcC, .int .i64 m.clock, .string ⟨#[]⟩, .int .i64 0, .int .i64 0, .int .i64 0, .int .i64 0, .int .i64 0] rfl)
      go_wp2_with (first | refine wpList_load_mid rfl 34 (.tmp 5) rfl Q 0 rfl [.int .i64 2, .int .i64 m.op, .string m.case_, .string m.type_, .string m.name, .int .i64 m.value.v.kind, .int .i64 m.value.v.n, .string m.value.v.t, .slice m.value.A m.value.v.s.length m.value.c, .slice m.argsA m.args.length m.argsC, .slice m.srcA m.source.length m.srcC, .int .i64 m.clock, .string ⟨#[]⟩, .int .i64 0, .int .i64 0, .int .i64 0, .int .i64 0, .int .i64 0] _ HD.out.boxQ.range Tryz.underlying34 rfl Tryz.sizeRequest ?_ | refine wpList_store_mid rfl 34 (.tmp 2) (.tmp 96) rfl w.heap.size 0 _ rfl rfl (HD.out.boxR.there 0 18 (by decide)) Tryz.sizeRequest (jK rfl) ?_)
      refine jA (g := w.heap.size) (cs := List.toArray [.int .i64 2, .int .i64 m.op, .string m.case_, .string m.type_, .string m.name, .int .i64 m.value.v.kind, .int .i64 m.value.v.n, .string m.value.v.t, .slice m.value.A m.value.v.s.length m.value.c, .slice m.argsA m.args.length m.argsC, .slice m.srcA m.source.length m.srcC, .int .i64 m.clock, .string ⟨#[]⟩, .int .i64 0, .int .i64 0, .int .i64 0, .int .i64 0, .int .i64 0]) rfl rfl Hz.out.1 Tryz.underlying34 rfl (by kernel_rfl) rfl ?_
      refine .inl ⟨(⟨2, m, ⟨#[]⟩, 0, 0, 0, 0, 0⟩ : MReq), ?_, rfl, ?_, ?_, Hz.out.2.1⟩
      · rw [HT.out, HE.out]; exact if_pos (by trivial)
      · exact (Hok.out.sub Hz.out.2.2 (fun k e => by omega)).weak (fun k e => by omega)
      · exact jg
    · have hdn' : (dn != 0) = true := bne_iff_ne.2 hdn
      have Hz := jJ0 (HD.out.told zeroReqC rfl)
      go_wp2_with (refine wpList_store_mid rfl 34 (.tmp 2) (.tmp 95) rfl w.heap.size 0 _ rfl rfl (HD.out.boxR.there 0 18 (by decide)) Tryz.sizeRequest (jK rfl) ?_)
      refine jA (g := w.heap.size) (cs := zeroReqC.toArray) rfl rfl Hz.out.1 Tryz.underlying34 rfl (by kernel_rfl) rfl ?_
      exact .inr ⟨by rw [HT.out, HE.out, if_neg hdn], rfl, Hz.out.2.1⟩
  · have HE := jJ0 (show jc bs (MReq.data (⟨2, m, ⟨#[]⟩, 0, 0, 0, 0, 0⟩ : MReq), decide (1 <= m.op /\ m.op <= 5), sz) = none by rw [decide_eq_false ho]; simp [jc])
    rw [HE.out] at HT
    clear HE
    have hc : m.op < 1 \/ (1 <= m.op /\ 5 < m.op) := by omega
    clear ho
    rcases hc with o1 | ⟨o1, o2⟩
    all_goals
      go_upto_region 23 with (first | (refine wpList_store_mid rfl 32 (.tmp 32) (.tmp 31) rfl Q 1 _ rfl rfl (HD.out.boxQ.there 1 11 (by decide)) Tryz.sizeOperation (jK rfl) ?_; rw [hwz]) | fail)
      clear c0 c1 hwz HD
      have HD := HD2
      clear HD2
      have Hz := jJ0 (HD.out.told zeroReqC rfl)
      go_wp2_with (refine wpList_store_mid rfl 34 (.tmp 2) (.tmp 95) rfl w.heap.size 0 _ rfl rfl (HD.out.boxR.there 0 18 (by decide)) Tryz.sizeRequest (jK rfl) ?_)
      refine jA (g := w.heap.size) (cs := zeroReqC.toArray) rfl rfl Hz.out.1 Tryz.underlying34 rfl (by kernel_rfl) rfl ?_
      exact .inr ⟨HT.out, rfl, Hz.out.2.1⟩
end Go.Proofs.YtnaolhjbapgjgaaGreat

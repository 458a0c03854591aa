import Derived.Test.YtnaolhjbapgjgaaGreatMg23
import Derived.Test.YtnaolhjbapgjgaaGreatMg37
import Derived.Test.YtnaolhjbapgjgaaGreatMg39
import Derived.Test.YtnaolhjbapgjgaaGreatMg41
import Derived.Deep.RegionHeld3
set_option maxRecDepth 100000
set_option maxHeartbeats 3200000
namespace Go.Proofs.YtnaolhjbapgjgaaGreat
open Go.RowKit
theorem exec_load_mid {P : Program} {op : Oper} {a : Act} {w : World} (ty : TypeId) (x : Operand) (ho : op.op = .load ty x)
    (b o : Nat) (hx : a.eval x = .pointer (some ⟨b, o, none⟩)) (cs : List Value) (d : TypeDesc) (hc : w.rangeAt b o cs)
    (hu : P.underlying ty = some d) (hd : d.isRow = true) (hi : (P.info? ty).map (·.size) = some cs.length) : (execOp a.eval op).run P w = .ok (.value (.agg cs.toArray)) w := by
  unfold execOp
  simp only [ho, hx, Instr.loadAt, Instr.sureAddr, Sem.run_bind, Sem.run_pure, Result.andThen_ok, run_loadVar_mid w b o ty cs d hc hu hd hi]
theorem MReply.Ok.old {w w' : World} {X : Nat -> Prop} {m : MReply} (h : m.Ok w X) (ho : Old w w') : m.Ok w' X := h.turn ho (fun _ _ f => f.elim) (fun _ _ f => f)
theorem MReply.Ok.nox {w : World} {X : Nat -> Prop} {m : MReply} (h : m.Ok w X) : m.Ok w NoX := h.turn (Kp.refl NoX w) (fun _ _ f => f.elim) (fun _ _ f => f.elim)
def EncOut (w : World) (o : Option (List UInt8)) (v : Value) (n : Int) : Prop := (∃ l A c, o = some l /\ l.length <= 4194304 /\ v = .slice A l.length c /\ n = 0 /\ Rd w 1 A l.length (l.map bv) /\ l.length <= c) \/ (o = none /\ n = 240)
theorem EncPost.told {w w' : World} {q : Req} {e : Ending} (h : EncPost w (jy q) e w') : ∃ v n, e = .returned (.tuple #[v, .int .i64 n]) /\ Old w w' /\ EncOut w' (jy q) v n := by
  rcases h with ⟨l, A, c, h1, h2, h3, h4⟩ | ⟨h1, h2, h3⟩
  · exact ⟨_, _, h2, h4, .inl ⟨l, A, c, h1, by have := encReq_le h1; omega, rfl, rfl, Rd.of_own h3, own_cap h3⟩⟩
  · exact ⟨_, _, h2, h3, .inr ⟨h1, rfl⟩⟩
theorem RepPost.told {w w' : World} {o : Option (List UInt8)} {e : Ending} (h : RepPost w o e w') : ∃ v n, e = .returned (.tuple #[v, .int .i64 n]) /\ Old w w' /\ EncOut w' o v n := by
  rcases h with ⟨l, A, c, h1, hl, h2, h3, _, hc, h4⟩ | ⟨h1, h2, h3⟩
  · exact ⟨_, _, h2, h4, .inl ⟨l, A, c, h1, hl, rfl, rfl, h3, hc⟩⟩
  · exact ⟨_, _, h2, h3, .inr ⟨h1, rfl⟩⟩
theorem DecPost.told {w w' : World} {o : Option Req} {e : Ending} (h : DecPost w o e w') : ∃ (m : MReq) (n : Int), e = .returned (.tuple #[.agg m.cells.toArray, .int .i64 n]) /\ Old w w' /\ m.Ok w' /\ ((o = some m.data /\ n = 0) \/ (o = none /\ n = 240)) := by
  rcases h with ⟨m, h1, h2, h3, h4, h5⟩ | ⟨h1, h2, h3⟩
  · exact ⟨m, 0, h2, h5, ⟨h3.weak (fun k e => e.elim), h4⟩, .inl ⟨h1, rfl⟩⟩
  · exact ⟨⟨0, ⟨0, ⟨#[]⟩, ⟨#[]⟩, ⟨#[]⟩, ⟨⟨0, 0, ⟨#[]⟩, []⟩, none, 0⟩, [], none, 0, [], none, 0, 0⟩, ⟨#[]⟩, 0, 0, 0, 0, 0⟩, 240, h2, h3, ⟨ku _ _, by decide⟩, .inr ⟨h1, rfl⟩⟩
theorem DecRP.told {w w' : World} {o : Option Rep} {e : Ending} (h : DecRP w o e w') : ∃ (m : MReply) (n : Int), e = .returned (.tuple #[.agg m.cells.toArray, .int .i64 n]) /\ Old w w' /\ m.Ok w' NoX /\ ((o = some m.data /\ n = 0) \/ (o = none /\ n = 240)) := by
  rcases h with ⟨m, h1, h2, h3, h5⟩ | ⟨h1, h2, h3⟩
  · exact ⟨m, 0, h2, h5, h3.nox, .inl ⟨h1, rfl⟩⟩
  · exact ⟨zeroMR, 240, h2, h3, jM _ _, .inr ⟨h1, rfl⟩⟩
theorem boxed (T : TypeId) (zc : Array Value) (cs : List Value) (hl : zc.size = cs.length) (W : World) :
    (W.alloc (.cells zc T)).there W.heap.size 0 cs.toArray.size /\ Blk ((W.alloc (.cells zc T)).setCells W.heap.size 0 cs) W.heap.size T cs.toArray /\ Old W ((W.alloc (.cells zc T)).setCells W.heap.size 0 cs) := by
  have hb := Blk.new W T zc
  refine ⟨hb.there 0 _ (by rw [List.size_toArray]; omega), Blk.setWhole (cs := zc.toList) (by simpa using hb) cs (by simpa using hl), ?_⟩
  exact ((Kp.refl NoX W).alloc _).trans (Kp.setCells _ _ _ _) (fun b hb e => by omega)
theorem EncOut.the {w : World} {o : Option (List UInt8)} {v : Value} {n : Int} {l : List UInt8} (h : EncOut w o v n) (ho : o = some l) : ∃ A c, v = .slice A l.length c /\ n = 0 /\ Rd w 1 A l.length (l.map bv) := by
  rcases h with ⟨l', A, c, h1, _, h2, h3, h4, _⟩ | ⟨h1, _⟩
  · obtain rfl : l = l' := Option.some.inj (ho.symm.trans h1)
    exact ⟨A, c, h2, h3, h4⟩
  · rw [ho] at h1; cases h1
theorem same_true (w : World) (A B : Option Addr) (c d : Nat) (x : List UInt8) (hx : Rd w 1 A x.length (x.map bv)) (hy : Rd w 1 B x.length (x.map bv)) (hl : x.length <= 1000000000000) :
    Calls Tryz.prog 9 #[.slice A x.length c, .slice B x.length d] w fun e w' => e = .returned (.bool true) /\ Old w w' := by
  have h := sameb_any w A B c d x x hx hy hl
  rwa [decide_eq_true rfl] at h
theorem at_app {P : Program} {ops : Array Oper} {rest : List Oper} {d : Option Tmp} {ty : TypeId} {pos : String} {after : Array Edge} {gd : Option (Nat × Bool)} {a : Act} {w : World} {Q : Exit -> Act -> World -> Prop} (s x : Operand) (t : TypeId)
    (h : wpList P ops Q (⟨d, .call { callee := .builtin .append, args := #[s, x], argTypes := #[t, t] }, ty, pos, after, gd⟩ :: rest) a w) : wpList P ops Q (⟨d, .call { callee := .builtin .append, args := #[s, x], argTypes := #[t, t] }, ty, pos, after, gd⟩ :: rest) a w := h
theorem vo {w w' : World} {g : Nat} {T : TypeId} {cs : List Value} (h : Blk w g T cs.toArray) (ho : Old w w') {i : Nat} {v : Value} (hi : cs[i]? = some v) : w'.cell? ⟨g, i, none⟩ = some v := (h.old ho).at_ i (by rw [List.getElem?_toArray]; exact hi)
theorem dspelt_any (w : World) (q : MReq) (op : Int) (m : MReply) (A : Option Addr) (c : Nat) (bs : List UInt8) (hq : q.Ok w) (hv : vR q.do_.value.v) (ha : ∀ v ∈ q.do_.args, vR v.v) (hok : m.Ok w NoX) (hmv : ∀ v ∈ m.case_.values, vR v.v.v) (hrd : Rd w 1 A bs.length (bs.map bv)) (hl : bs.length <= 2147483647) :
    Calls Tryz.prog 5 #[.agg q.cells.toArray, .int .i64 op, .agg m.cells.toArray, .slice A bs.length c] w fun e w' => e = .returned (.bool true) /\ Old w w' := by
  have HA := jJ0 (fun W (ho : Old w W) => asked_some W q ⟨hq.do_.old ho, hq.name⟩ hv ha)
  have HTo := jJ0 (fun W (ho : Old w W) (r : Int) (h1 : -1 <= r) (h2 : r <= 2147483647) => told_some W r m h1 h2 (hok.old ho) hmv)
  have HE := jJ0 (fun W (ho : Old w W) => enc_any q W ⟨hq.do_.old ho, hq.name⟩)
  have HP := jJ0 (fun W (ho : Old w W) => encrep_any W op m NoX (hok.old ho))
  have HDq := jJ0 (fun W (ho : Old w W) => dec_any W A c bs (hrd.old ho))
  have HDp := jJ0 (fun W (ho : Old w W) => decrep_any W op A c bs (hrd.old ho))
  have HSb := jJ0 (fun W (ho : Old w W) (B : Option Addr) (d : Nat) (hy : Rd W 1 B bs.length (bs.map bv)) => same_true W B A d c bs hy (hrd.old ho) (by omega))
  have Hrep := jJ0 hok.rep
  have Hq0 := jJ0 (show q.cells[0]? = some (.int .i64 q.op) from rfl)
  have Hq12 := jJ0 (show q.cells[12]? = some (.string q.name) from rfl)
  have Hp0 := jJ0 (show m.cells[0]? = some (.int .i64 m.err) from rfl)
  have hn1 : (Tryz.prog.info? 34).map (·.size) = some q.cells.length := Tryz.sizeRequest
  have hn2 : (Tryz.prog.info? 63).map (·.size) = some m.cells.length := by rw [hok.len]; kernel_rfl
  generalize q.cells = cq at *
  generalize m.cells = cs at *
  have Hb1 := jJ0 ((Blk.new w 34 cq.toArray).old ((Kp.refl NoX _).alloc (.cells cs.toArray 63)))
  have Hb2 := jJ0 (Blk.new (w.alloc (.cells cq.toArray 34)) 63 cs.toArray)
  have Ho := jJ0 (((Kp.refl NoX w).alloc (.cells cq.toArray 34)).old ((Kp.refl NoX _).alloc (.cells cs.toArray 63)))
  go_enter Tryz.func5, Tryz.ntmps5
  go_upto_region 1 with (fail)
  generalize (w.alloc _).alloc _ = W at *
  have Hb2 := jJ0 (show Blk W (w.heap.size + 1) 63 cs.toArray by have := Hb2.out; rwa [show (w.alloc (.cells cq.toArray 34)).heap.size = w.heap.size + 1 by simp] at this)
  have D1 := (Hb1.out.old (Kp.refl NoX W).drew).range
  have D2 := (Hb2.out.old (Kp.refl NoX W).drew).range
  have HAd := jJ0 (HA.out W.drew (Ho.out.old (Kp.refl NoX W).drew))
  refine wp_region_held_drew (S := fun w' => w'.rangeAt w.heap.size 0 cq /\ w'.rangeAt (w.heap.size + 1) 0 cs) (by kernel_rfl) ⟨D1, D2⟩ (fun hHeld => ?_)
  refine' jJ 0 rfl rfl (by kernel_rfl) (by kernel_rfl) (by kernel_rfl) (fun _ _ _ h => h) rfl hHeld (fun w' hSw => exec_load_mid 34 (.tmp 4) rfl w.heap.size 0 rfl cq _ hSw.1 Tryz.underlying34 rfl hn1) ?_
  simp only [Act.put, List.setIfInBounds_toArray, List.set_cons_zero, List.set_cons_succ]
  refine' jJ 2 rfl rfl (by kernel_rfl) (by kernel_rfl) (by kernel_rfl) (fun _ _ _ h => h) rfl hHeld (fun w' hSw => exec_load_mid 63 (.tmp 6) rfl (w.heap.size + 1) 0 rfl cs _ hSw.2 Tryz.underlying63 rfl hn2) ?_
  simp only [Act.put, List.setIfInBounds_toArray, List.set_cons_zero, List.set_cons_succ]
  refine' jJ 4 rfl rfl (by kernel_rfl) (by kernel_rfl) (by kernel_rfl) (fun _ _ _ h => h) rfl hHeld (fun w' hSw => ?_) ?_
  rotate_left
  · (clear hSw; go_simp <;> with_reducible rfl)
  simp only [Act.put, List.setIfInBounds_toArray, List.set_cons_zero, List.set_cons_succ]
  refine' jJ 5 rfl rfl (by kernel_rfl) (by kernel_rfl) (by kernel_rfl) (fun _ _ _ h => h) rfl hHeld (fun w' hSw => ?_) ?_
  rotate_left
  · (clear hSw; go_simp <;> with_reducible rfl)
  simp only [Act.put, List.setIfInBounds_toArray, List.set_cons_zero, List.set_cons_succ]
  refine je 1 rfl (by kernel_rfl) (fun K hK => ?_)
  go_simp
  go_at_call 15
  refine HAd.out.mono ?_
  rintro e w1 ⟨r1, rfl, a1, a1', ho1⟩
  have Ho1 := jJ0 ((Ho.out.old (Kp.refl NoX W).drew).old ho1)
  have HB1 := jJ0 ((Hb1.out.old (Kp.refl NoX W).drew).old ho1)
  have HB2 := jJ0 ((Hb2.out.old (Kp.refl NoX W).drew).old ho1)
  clear ho1 D1 D2
  go_simp
  refine hK.out _ _ ⟨HB1.out.range, HB2.out.range⟩ (fun hHeld => ?_)
  clear hK K
  refine je 3 rfl (by kernel_rfl) (fun K hK => ?_)
  go_simp
  go_at_call 11
  refine (HTo.out _ Ho1.out r1 a1 a1').mono ?_
  rintro e w2 ⟨r2, rfl, a2, a2', ho2⟩
  have Ho2 := jJ0 (Ho1.out.old ho2)
  have HC1 := jJ0 (HB1.out.old ho2)
  have HC2 := jJ0 (HB2.out.old ho2)
  clear ho2 Ho1 HB1 HB2
  go_simp
  refine hK.out _ _ ⟨HC1.out.range, HC2.out.range⟩ (fun hHeld => ?_)
  clear hK K
  refine je 6 rfl (by kernel_rfl) (fun K hK => ?_)
  go_simp
  go_at_call 10
  refine (ki _ r2 bs.length a2 a2' (by omega)).mono ?_
  rintro e w3 ⟨r3, rfl, a3, a3', rfl⟩
  go_simp
  refine hK.out _ _ ⟨HC1.out.range, HC2.out.range⟩ (fun hHeld => ?_)
  clear hK K
  refine je 7 rfl (by kernel_rfl) (fun K hK => ?_)
  go_simp
  refine hK.out _ _ hHeld (fun hHeld => ?_)
  clear hK K
  refine wpAnyH_done (by kernel_rfl) ?_ _
  by_cases hneg : r3 < 0
  · go_wp2
    go_ret
    exact ⟨rfl, Ho2.out⟩
  have Hn1 := jJ0 hn1
  have Hn2 := jJ0 hn2
  have HE2 := jJ0 (HE.out w2 Ho2.out)
  clear hn1 hn2 a1 a1' a2 a2' a3 a3' hq hv ha hok hmv hrd HA HTo HAd
  go_wp2_with (first | ((with_reducible refine jW 34 (.tmp 4) ?_); refine Tryz.load_w rfl 34 (.tmp 4) rfl w.heap.size 0 rfl cq _ HC1.out.range Tryz.underlying34 rfl Hn1.out ?_) | fail)
  refine HE2.out.mono ?_
  intro e w3 henc
  obtain ⟨v9, n10, rfl, ho3, hcase⟩ := EncPost.told henc
  have Hcase := jJ0 hcase
  have HC1 := jJ0 (HC1.out.old ho3)
  have HC2 := jJ0 (HC2.out.old ho3)
  have Ho3 := jJ0 (Ho2.out.old ho3)
  clear hcase ho3 henc HE HE2 Ho2
  go_upto_if 42 with (fail)
  go_cut [] (fun wx => Old w3 wx)
  case first =>
    rcases Hcase.out with ⟨l, A1, c1, hl1, hle1, rfl, rfl, hr1, hcap1⟩ | ⟨hno, rfl⟩
    · obtain ⟨x, hx1, hx2, hx3⟩ := encReq_read hl1
      have Hless := jJ0 (fun k (hk : k < l.length) => encReq_less hl1 k hk)
      have Hmore := jJ0 (encReq_more (post := [0]) hl1 (by simp))
      have HR3 := jJ0 hr1
      have HD3 := jJ0 (dec_any w3 A1 c1 l hr1)
      have Hle := jJ0 hle1
      have Hcap := jJ0 hcap1
      clear hr1 hle1 hcap1 hl1
      go_wp2_with fail
      refine HD3.out.mono ?_
      intro e w4 hd
      obtain ⟨m1, n1, rfl, ho4, hm1, hc1⟩ := DecPost.told hd
      obtain ⟨hd1, rfl⟩ : jS l = some m1.data /\ n1 = 0 := by
        rcases hc1 with h | ⟨h, _⟩
        · exact h
        · rw [hx1] at h; cases h
      obtain rfl : x = m1.data := Option.some.inj (hx1.symm.trans hd1)
      have Hx0 := jJ0 (show m1.cells[0]? = some (.int .i64 q.op) by rw [<- show m1.op = q.op from hx3]; rfl)
      have HE4 := jJ0 (fun W (ho : Old w4 W) => enc_any m1 W ⟨hm1.do_.old ho, hm1.name⟩)
      have Hx2 := jJ0 hx2
      obtain ⟨hth, hblk, hob⟩ := boxed 34 zeroReqC.toArray m1.cells rfl w4
      have Hth := jJ0 hth
      have Hblk := jJ0 hblk
      have Hob := jJ0 hob
      have Hone := jJ0 (show m1.cells.toArray.all (·.oneCell') = true from jK rfl)
      have Hsz := jJ0 (show (Tryz.prog.info? 34).map (·.size) = some m1.cells.toArray.size from Tryz.sizeRequest)
      have Hsl := jJ0 (show (Tryz.prog.info? 34).map (·.size) = some m1.cells.length from Tryz.sizeRequest)
      have Ho4 := jJ0 ho4
      clear hd hc1 hd1 hx1 hx2 hx3 hth hblk hob hm1 ho4 HD3
      unfold zeroReqC at Hth Hblk Hob
      generalize m1.cells = cs1 at *
      go_wp2_with (first | ((with_reducible refine jE 34 (.tmp 11) (.tmp 46) ?_); refine wpList_store_mid rfl 34 (.tmp 11) (.tmp 46) rfl w4.heap.size 0 cs1.toArray rfl rfl Hth.out Hsz.out Hone.out ?_) | ((with_reducible refine jW 34 (.tmp 11) ?_); refine Tryz.load_w rfl 34 (.tmp 11) rfl w4.heap.size 0 rfl cs1 _ Hblk.out.range Tryz.underlying34 rfl Hsl.out ?_) | fail)
      refine (HE4.out _ Hob.out).mono ?_
      intro e w5 he
      obtain ⟨v5, n5, rfl, ho5, hc5⟩ := EncPost.told he
      obtain ⟨A5, c5, rfl, rfl, hr5⟩ := hc5.the Hx2.out
      have Ho5 := jJ0 (Ho4.out.old (Hob.out.old ho5))
      have k1 := vo Hblk.out ho5 Hx0.out
      have k2 := vo HC1.out Ho5.out Hq0.out
      have HS5 := jJ0 (same_true w5 A1 A5 c1 c5 l (HR3.out.old Ho5.out) hr5 (by have := Hle.out; omega))
      have Hk1 := jJ0 k1
      have Hk2 := jJ0 k2
      clear he hc5 hr5 ho5 k1 k2 HE4 Hth Hob Hone Hsz Hsl Hblk
      go_wp2_with fail
      refine HS5.out.mono ?_
      rintro e w6 ⟨rfl, ho6⟩
      have k1 := jx Hk1.out ho6
      have k2 := jx Hk2.out ho6
      have Ho6 := jJ0 (Ho5.out.old ho6)
      clear ho6 Ho5 HS5 Hk1 Hk2
      go_wp2_with fail
      go_loopw [15] (fun i wr => ∃ k : Nat, k <= l.length /\ k <= 2000 /\ i = .int .i64 k /\ Old w6 wr) (fun i _ => 2000 - (intOf i).toNat)
      case atStart => exact ⟨0, by omega, by omega, rfl, Kp.refl _ _⟩
      case round =>
        obtain ⟨k, hk, hk2, rfl, hold⟩ := hrel
        have Hwr := jJ0 (Ho6.out.old hold)
        have Hold := jJ0 hold
        clear hold k1 k2
        have hkb : (k : Int) <= 2000 := by omega
        have hk0 : (0 : Int) <= (k : Int) := by omega
        by_cases hlt : k < l.length
        · have hltI : (k : Int) < (l.length : Int) := by omega
          by_cases h2 : k < 2000
          · have h2I : (k : Int) < 2000 := by omega
            have hlk : (l.take k).length = k := by rw [List.length_take]; omega
            have hnone := Hless.out k hlt
            have hsl := fun W => cut_h (P := Tryz.prog) Tryz.elemBytes Tryz.sizeBytes A1 l.length c1 k .i64 (k : Int) rfl (by have := Hcap.out; omega) W
            have HDk := jJ0 (by
              have h := dec_any wr A1 c1 (l.take k) (by
                rw [hlk]
                have h := (HR3.out.old Hwr.out).take_ (k := k) (by omega)
                rwa [Nat.mul_one, <- List.map_take] at h)
              rw [hlk] at h
              exact h)
            clear hlk hlt hk
            go_wp2_with fail
            refine HDk.out.mono ?_
            intro e w7 hd
            obtain ⟨m2, n2, rfl, ho7, hm2, hc2⟩ := DecPost.told hd
            obtain rfl : n2 = 240 := by
              rcases hc2 with ⟨h, _⟩ | ⟨_, h⟩
              · rw [hnone] at h; cases h
              · exact h
            obtain ⟨hth, hblk, hob⟩ := boxed 34 zeroReqC.toArray m2.cells rfl w7
            have Hth := jJ0 hth
            have Hob := jJ0 (Hold.out.old (ho7.old hob))
            have Hone := jJ0 (show m2.cells.toArray.all (·.oneCell') = true from jK rfl)
            have Hsz := jJ0 (show (Tryz.prog.info? 34).map (·.size) = some m2.cells.toArray.size from Tryz.sizeRequest)
            clear hd hc2 hth hblk hob hm2 ho7 HDk hsl hnone
            unfold zeroReqC at Hth Hob
            generalize m2.cells = cs2 at *
            go_wp2_with (first | ((with_reducible refine jE 34 (.tmp 16) (.tmp 87) ?_); refine wpList_store_mid rfl 34 (.tmp 16) (.tmp 87) rfl w7.heap.size 0 cs2.toArray rfl rfl Hth.out Hsz.out Hone.out ?_) | fail)
            go_roundw
            case rel => exact ⟨k + 1, by omega, by omega, by go_num, Hob.out⟩
            case measure => simp [intOf]; omega
          · obtain rfl : k = 2000 := by omega
            have hge : ¬ ((2000 : Nat) : Int) < 2000 := by omega
            have Hrd := jJ0 (HR3.out.old Hwr.out)
            have Hlit := jJ0 (World.ownsRow_lit (e := 5) (size := 1) (base := wr.heap.size) wr #[] 0 (Nat.le_refl _) (by decide) rfl)
            have H63 := jJ0 (show 0 + l.length <= maxLen by have := Hle.out; unfold maxLen; omega)
            have H47 := jJ0 (show (0 + l.length) * 1 <= 140737488355328 by have := Hle.out; omega)
            have G63 := jJ0 (show l.length + 1 <= maxLen by have := Hle.out; unfold maxLen; omega)
            have G47 := jJ0 (show (l.length + 1) * 1 <= 140737488355328 by have := Hle.out; omega)
            obtain ⟨i0, hi, hz0, hz1, hz2⟩ := info_parts Tryz.infoByte
            go_wp2_with (first
              | ((with_reducible refine at_app (.tmp 92) (.tmp 93) 22 ?_); refine jO _ rfl (.tmp 92) (.tmp 93) 22 rfl wr.heap.size 5 i0 (.int .u8 0) 1 1 Tryz.underlying22 hi hz0 hz1 hz2 rfl (by decide) (.slice (some ⟨wr.heap.size, 0, none⟩) 0 0) 0 [] rfl Hlit.out A1 l.length c1 (l.map bv) rfl (Hrd.out.alloc _) (jr _) H63.out H47.out (by simp) ?_; intro A8 c8 w8 hown8 hgr8 hb8; rw [Nat.zero_add, List.nil_append] at hown8; rw [Nat.zero_add]; have Hown8 := jJ0 hown8; have Ho8 := jJ0 (show Old wr w8 from ((Kp.refl NoX wr).alloc _).grown hgr8 (fun k e hk => by simp [Value.ownBlock] at e; omega)); clear hown8 hgr8 hb8)
              | ((with_reducible refine at_app (.tmp 94) (.tmp 95) 22 ?_); refine jO _ rfl (.tmp 94) (.tmp 95) 22 rfl wr.heap.size 5 i0 (.int .u8 0) 1 1 Tryz.underlying22 hi hz0 hz1 hz2 rfl (by decide) (.slice A8 l.length c8) l.length (l.map bv) rfl (Hown8.out.alloc _) (some ⟨w8.heap.size, 0, none⟩) 1 1 [.int .u8 0] rfl (Rd.one_new _ _ _) (kz _ rfl) G63.out G47.out (by have := Ho8.out.size; simp; omega) ?_; intro A9 c9 w9 hown9 hgr9 hb9; have Hown9 := jJ0 hown9; have Ho9 := jJ0 (show Old wr w9 from (Ho8.out.alloc _).grown hgr9 (fun k e hk => by rw [jH] at e; have := (ja Hown8.out e).1; omega)); clear hown9 hgr9 hb9)
              | fail)
            have HD9 := jJ0 (by
              have h := dec_any w9 A9 c9 (l ++ [0]) (by
                have h := Rd.of_own Hown9.out
                rw [List.length_append, List.map_append]
                exact h)
              rw [List.length_append] at h
              exact h)
            refine HD9.out.mono ?_
            intro e w10 hd
            obtain ⟨m2, n2, rfl, ho10, hm2, hc2⟩ := DecPost.told hd
            obtain rfl : n2 = 240 := by
              rcases hc2 with ⟨h, _⟩ | ⟨_, h⟩
              · rw [Hmore.out] at h; cases h
              · exact h
            have Hend := jJ0 ((Hold.out.old Ho9.out).old ho10)
            clear hd hc2 hm2 ho10 HD9
            generalize m2.cells = cs2 at *
            go_wp2_with fail
            go_meet
            case rel => exact (Ho6.out.old Hend.out)
        · obtain rfl : k = l.length := by omega
          have Hrd := jJ0 (HR3.out.old Hwr.out)
          have Hlit := jJ0 (World.ownsRow_lit (e := 5) (size := 1) (base := wr.heap.size) wr #[] 0 (Nat.le_refl _) (by decide) rfl)
          have H63 := jJ0 (show 0 + l.length <= maxLen by have := Hle.out; unfold maxLen; omega)
          have H47 := jJ0 (show (0 + l.length) * 1 <= 140737488355328 by have := Hle.out; omega)
          have G63 := jJ0 (show l.length + 1 <= maxLen by have := Hle.out; unfold maxLen; omega)
          have G47 := jJ0 (show (l.length + 1) * 1 <= 140737488355328 by have := Hle.out; omega)
          obtain ⟨i0, hi, hz0, hz1, hz2⟩ := info_parts Tryz.infoByte
          go_wp2_with (first
            | ((with_reducible refine at_app (.tmp 92) (.tmp 93) 22 ?_); refine jO _ rfl (.tmp 92) (.tmp 93) 22 rfl wr.heap.size 5 i0 (.int .u8 0) 1 1 Tryz.underlying22 hi hz0 hz1 hz2 rfl (by decide) (.slice (some ⟨wr.heap.size, 0, none⟩) 0 0) 0 [] rfl Hlit.out A1 l.length c1 (l.map bv) rfl (Hrd.out.alloc _) (jr _) H63.out H47.out (by simp) ?_; intro A8 c8 w8 hown8 hgr8 hb8; rw [Nat.zero_add, List.nil_append] at hown8; rw [Nat.zero_add]; have Hown8 := jJ0 hown8; have Ho8 := jJ0 (show Old wr w8 from ((Kp.refl NoX wr).alloc _).grown hgr8 (fun k e hk => by simp [Value.ownBlock] at e; omega)); clear hown8 hgr8 hb8)
            | ((with_reducible refine at_app (.tmp 94) (.tmp 95) 22 ?_); refine jO _ rfl (.tmp 94) (.tmp 95) 22 rfl wr.heap.size 5 i0 (.int .u8 0) 1 1 Tryz.underlying22 hi hz0 hz1 hz2 rfl (by decide) (.slice A8 l.length c8) l.length (l.map bv) rfl (Hown8.out.alloc _) (some ⟨w8.heap.size, 0, none⟩) 1 1 [.int .u8 0] rfl (Rd.one_new _ _ _) (kz _ rfl) G63.out G47.out (by have := Ho8.out.size; simp; omega) ?_; intro A9 c9 w9 hown9 hgr9 hb9; have Hown9 := jJ0 hown9; have Ho9 := jJ0 (show Old wr w9 from (Ho8.out.alloc _).grown hgr9 (fun k e hk => by rw [jH] at e; have := (ja Hown8.out e).1; omega)); clear hown9 hgr9 hb9)
            | fail)
          have HD9 := jJ0 (by
            have h := dec_any w9 A9 c9 (l ++ [0]) (by
              have h := Rd.of_own Hown9.out
              rw [List.length_append, List.map_append]
              exact h)
            rw [List.length_append] at h
            exact h)
          refine HD9.out.mono ?_
          intro e w10 hd
          obtain ⟨m2, n2, rfl, ho10, hm2, hc2⟩ := DecPost.told hd
          obtain rfl : n2 = 240 := by
            rcases hc2 with ⟨h, _⟩ | ⟨_, h⟩
            · rw [Hmore.out] at h; cases h
            · exact h
          have Hend := jJ0 ((Hold.out.old Ho9.out).old ho10)
          clear hd hc2 hm2 ho10 HD9
          generalize m2.cells = cs2 at *
          go_wp2_with fail
          go_meet
          case rel => exact (Ho6.out.old Hend.out)
    · by_cases h3 : 3 <= q.op
      · by_cases h12 : q.op <= 12
        · by_cases hnm : q.name.size < 1000
          · exact absurd hno (encReq_small h3 h12 hnm)
          · have k0 := vo HC1.out (Kp.refl NoX w3) Hq0.out
            have k12 := vo HC1.out (Kp.refl NoX w3) Hq12.out
            have hnm' : ¬ ((q.name.size : Int) < 1000) := by omega
            go_wp2
            go_meet
            case rel => exact Kp.refl _ _
        · have k0 := vo HC1.out (Kp.refl NoX w3) Hq0.out
          have k12 := vo HC1.out (Kp.refl NoX w3) Hq12.out
          go_wp2
          go_meet
          case rel => exact Kp.refl _ _
      · have k0 := vo HC1.out (Kp.refl NoX w3) Hq0.out
        have k12 := vo HC1.out (Kp.refl NoX w3) Hq12.out
        go_wp2
        go_meet
        case rel => exact Kp.refl _ _
  case rest =>
    have Ho4 := jJ0 (Ho3.out.old hcut)
    have HC1 := jJ0 (HC1.out.old hcut)
    have HC2 := jJ0 (HC2.out.old hcut)
    have HP4 := jJ0 (HP.out wc Ho4.out)
    clear hcut Hcase Ho3 HP
    go_wp2_with (first | ((with_reducible refine jW 63 (.tmp 6) ?_); refine Tryz.load_w rfl 63 (.tmp 6) rfl (w.heap.size + 1) 0 rfl cs _ HC2.out.range Tryz.underlying63 rfl Hn2.out ?_) | fail)
    refine HP4.out.mono ?_
    intro e wp hrp
    obtain ⟨vp, np, rfl, hop, hcp⟩ := RepPost.told hrp
    have Hcp := jJ0 hcp
    have HC2 := jJ0 (HC2.out.old hop)
    have Hop := jJ0 (Ho4.out.old hop)
    clear hcp hrp hop HP4 Ho4
    go_upto_if 123 with (fail)
    go_cut [] (fun wx => Old wp wx)
    case first =>
      rcases Hcp.out with ⟨l, A1, c1, hl1, hle1, rfl, rfl, hr1, hcap1⟩ | ⟨hno, rfl⟩
      · obtain ⟨y, hy1, hy2, hy3⟩ := encRep_read Hrep.out hl1
        have HR3 := jJ0 hr1
        have HD3 := jJ0 (decrep_any wp op A1 c1 l hr1)
        have Hle := jJ0 hle1
        clear hr1 hle1 hcap1 hl1
        go_wp2_with fail
        refine HD3.out.mono ?_
        intro e w4 hd
        obtain ⟨m1, n1, rfl, ho4, hm1, hc1⟩ := DecRP.told hd
        obtain ⟨hd1, rfl⟩ : decRep op l = some m1.data /\ n1 = 0 := by
          rcases hc1 with h | ⟨h, _⟩
          · exact h
          · rw [hy1] at h; cases h
        obtain rfl : y = m1.data := Option.some.inj (hy1.symm.trans hd1)
        have Hx0 := jJ0 (show m1.cells[0]? = some (.int .i64 m.err) by rw [<- show m1.err = m.err from hy3]; rfl)
        have HE4 := jJ0 (fun W (ho : Old w4 W) => encrep_any W op m1 NoX (hm1.old ho))
        have Hx2 := jJ0 hy2
        obtain ⟨hth, hblk, hob⟩ := boxed 63 Tryz.zeroCells63 m1.cells (by rw [Tryz.zeroRepC, List.size_toArray, (jM w NoX).len, hm1.len]) w4
        have Hth := jJ0 hth
        have Hblk := jJ0 hblk
        have Hob := jJ0 hob
        have Hone := jJ0 (MReply.one m1)
        have Hsl := jJ0 (show (Tryz.prog.info? 63).map (·.size) = some m1.cells.length by rw [hm1.len]; kernel_rfl)
        have Hsz := jJ0 (show (Tryz.prog.info? 63).map (·.size) = some m1.cells.toArray.size by rw [List.size_toArray]; exact Hsl.out)
        have Ho4 := jJ0 ho4
        clear hd hc1 hd1 hy1 hy2 hy3 hth hblk hob hm1 ho4 HD3
        generalize m1.cells = cs1 at *
        go_wp2_with (first | ((with_reducible refine jE 63 (.tmp 18) (.tmp 128) ?_); refine wpList_store_mid rfl 63 (.tmp 18) (.tmp 128) rfl w4.heap.size 0 cs1.toArray rfl rfl Hth.out Hsz.out Hone.out ?_) | ((with_reducible refine jW 63 (.tmp 18) ?_); refine Tryz.load_w rfl 63 (.tmp 18) rfl w4.heap.size 0 rfl cs1 _ Hblk.out.range Tryz.underlying63 rfl Hsl.out ?_) | fail)
        refine (HE4.out _ Hob.out).mono ?_
        intro e w5 he
        obtain ⟨v5, n5, rfl, ho5, hc5⟩ := RepPost.told he
        obtain ⟨A5, c5, rfl, rfl, hr5⟩ := hc5.the Hx2.out
        have Ho5 := jJ0 (Ho4.out.old (Hob.out.old ho5))
        have k1 := vo Hblk.out ho5 Hx0.out
        have k2 := vo HC2.out Ho5.out Hp0.out
        have HS5 := jJ0 (same_true w5 A1 A5 c1 c5 l (HR3.out.old Ho5.out) hr5 (by have := Hle.out; omega))
        have Hk1 := jJ0 k1
        have Hk2 := jJ0 k2
        clear he hc5 hr5 ho5 k1 k2 HE4 Hth Hob Hone Hsz Hsl Hblk
        go_wp2_with fail
        refine HS5.out.mono ?_
        rintro e w6 ⟨rfl, ho6⟩
        have k1 := jx Hk1.out ho6
        have k2 := jx Hk2.out ho6
        have Ho6 := jJ0 (Ho5.out.old ho6)
        clear ho6 Ho5 HS5 Hk1 Hk2
        go_wp2_with fail
        go_meet
        case rel => exact Ho6.out
      · go_wp2_with fail
        go_meet
        case rel => exact Kp.refl _ _
    case rest =>
      have Hoq := jJ0 (Hop.out.old hcut)
      have HD3 := jJ0 (HDq.out wc Hoq.out)
      clear hcut Hcp Hop HC1 HC2 Hrep Hq0 Hq12 Hp0
      go_wp2_with fail
      refine HD3.out.mono ?_
      intro e w4 hd
      obtain ⟨m1, n1, rfl, ho4, hm1, hc1⟩ := DecPost.told hd
      have Hc1 := jJ0 hc1
      have HE4 := jJ0 (fun W (ho : Old w4 W) => enc_any m1 W ⟨hm1.do_.old ho, hm1.name⟩)
      obtain ⟨hth, hblk, hob⟩ := boxed 34 zeroReqC.toArray m1.cells rfl w4
      have Hth := jJ0 hth
      have Hblk := jJ0 hblk
      have Hob := jJ0 hob
      have Hone := jJ0 (show m1.cells.toArray.all (·.oneCell') = true from jK rfl)
      have Hsz := jJ0 (show (Tryz.prog.info? 34).map (·.size) = some m1.cells.toArray.size from Tryz.sizeRequest)
      have Hsl := jJ0 (show (Tryz.prog.info? 34).map (·.size) = some m1.cells.length from Tryz.sizeRequest)
      have Ho4 := jJ0 (Hoq.out.old (ho4.old hob))
      clear hd hc1 hth hblk hob hm1 ho4 HD3 Hoq HDq
      unfold zeroReqC at Hth Hblk Hob Ho4
      generalize m1.cells = cs1 at *
      go_upto_if 161 with (first | ((with_reducible refine jE 34 (.tmp 22) (.tmp 158) ?_); refine wpList_store_mid rfl 34 (.tmp 22) (.tmp 158) rfl w4.heap.size 0 cs1.toArray rfl rfl Hth.out Hsz.out Hone.out ?_) | fail)
      generalize (w4.alloc _).setCells _ _ _ = w5 at *
      go_cut [] (fun wx => Old w5 wx)
      case first =>
        rcases Hc1.out with ⟨hd1, rfl⟩ | ⟨hno, rfl⟩
        · have Hx2 := jJ0 (decReq_back hd1)
          clear hd1
          go_wp2_with (first | ((with_reducible refine jW 34 (.tmp 22) ?_); refine Tryz.load_w rfl 34 (.tmp 22) rfl w4.heap.size 0 rfl cs1 _ Hblk.out.range Tryz.underlying34 rfl Hsl.out ?_) | fail)
          refine (HE4.out _ Hob.out).mono ?_
          intro e w6 he
          obtain ⟨v5, n5, rfl, ho5, hc5⟩ := EncPost.told he
          obtain ⟨A5, c5, rfl, rfl, hr5⟩ := hc5.the Hx2.out
          have HS5 := jJ0 (HSb.out w6 (Ho4.out.old ho5) A5 c5 hr5)
          have Ho5 := jJ0 ho5
          clear he hc5 hr5 ho5
          go_wp2_with fail
          refine HS5.out.mono ?_
          rintro e w7 ⟨rfl, ho6⟩
          have Ho6 := jJ0 (Ho5.out.old ho6)
          clear ho6
          go_wp2_with fail
          go_meet
          case rel => exact Ho6.out
        · go_wp2_with fail
          go_meet
          case rel => exact Kp.refl _ _
      case rest =>
        have Hoq := jJ0 (Ho4.out.old hcut)
        have HD3 := jJ0 (HDp.out wc Hoq.out)
        clear hcut HE4 Hc1 Hth Hblk Hob Hone Hsz Hsl Ho4
        go_wp2_with fail
        refine HD3.out.mono ?_
        intro e w8 hd
        obtain ⟨m2, n2, rfl, ho4, hm1, hc1⟩ := DecRP.told hd
        have Hc1 := jJ0 hc1
        have HE4 := jJ0 (fun W (ho : Old w8 W) => encrep_any W op m2 NoX (hm1.old ho))
        obtain ⟨hth, hblk, hob⟩ := boxed 63 Tryz.zeroCells63 m2.cells (by rw [Tryz.zeroRepC, List.size_toArray, (jM w NoX).len, hm1.len]) w8
        have Hth := jJ0 hth
        have Hblk := jJ0 hblk
        have Hob := jJ0 hob
        have Hone := jJ0 (MReply.one m2)
        have Hsl := jJ0 (show (Tryz.prog.info? 63).map (·.size) = some m2.cells.length by rw [hm1.len]; kernel_rfl)
        have Hsz := jJ0 (show (Tryz.prog.info? 63).map (·.size) = some m2.cells.toArray.size by rw [List.size_toArray]; exact Hsl.out)
        have Ho4 := jJ0 (Hoq.out.old (ho4.old hob))
        clear hd hc1 hth hblk hob hm1 ho4 HD3 Hoq HDp
        generalize m2.cells = cs2 at *
        rcases Hc1.out with ⟨hd1, rfl⟩ | ⟨hno, rfl⟩
        · have Hx2 := jJ0 (decRep_back hd1)
          clear hd1
          go_wp2_with (first | ((with_reducible refine jE 63 (.tmp 25) (.tmp 179) ?_); refine wpList_store_mid rfl 63 (.tmp 25) (.tmp 179) rfl w8.heap.size 0 cs2.toArray rfl rfl Hth.out Hsz.out Hone.out ?_) | ((with_reducible refine jW 63 (.tmp 25) ?_); refine Tryz.load_w rfl 63 (.tmp 25) rfl w8.heap.size 0 rfl cs2 _ Hblk.out.range Tryz.underlying63 rfl Hsl.out ?_) | fail)
          refine (HE4.out _ Hob.out).mono ?_
          intro e w6 he
          obtain ⟨v5, n5, rfl, ho5, hc5⟩ := RepPost.told he
          obtain ⟨A5, c5, rfl, rfl, hr5⟩ := hc5.the Hx2.out
          have HS5 := jJ0 (HSb.out w6 (Ho4.out.old ho5) A5 c5 hr5)
          have Ho5 := jJ0 (Ho4.out.old ho5)
          clear he hc5 hr5 ho5
          go_wp2_with fail
          refine HS5.out.mono ?_
          rintro e w7 ⟨rfl, ho6⟩
          have Ho6 := jJ0 (Ho5.out.old ho6)
          clear ho6
          go_wp2_with fail
          go_ret
          exact ⟨rfl, Ho6.out⟩
        · go_wp2_with (first | ((with_reducible refine jE 63 (.tmp 25) (.tmp 179) ?_); refine wpList_store_mid rfl 63 (.tmp 25) (.tmp 179) rfl w8.heap.size 0 cs2.toArray rfl rfl Hth.out Hsz.out Hone.out ?_) | fail)
          go_ret
          exact ⟨rfl, Ho4.out⟩
end Go.Proofs.YtnaolhjbapgjgaaGreat

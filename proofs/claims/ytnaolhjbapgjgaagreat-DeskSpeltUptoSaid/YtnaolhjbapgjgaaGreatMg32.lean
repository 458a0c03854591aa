import Derived.Test.YtnaolhjbapgjgaaGreatMg31
set_option maxRecDepth 100000
set_option maxHeartbeats 3200000
namespace Go.Proofs.YtnaolhjbapgjgaaGreat
open Go.RowKit
theorem take_two {P : Program} {l : List Oper} {Q : Exit -> Act -> World -> Prop} {S : World -> Prop} {md : Region.Mode} (i j : Nat) {oi oj : Oper} {fuel : Nat} {listed : Array Bool} {a : Act} {w : World} (hi : nth l i = some oi) (hj : nth l j = some oj) (hr : Region.ready md l.toArray listed = [i, j])
    (h : ∀ K' : Act -> World -> Prop, Shut (∀ a w, S w -> (S w -> wpAnyH P md l.toArray Q S fuel (listed.setIfInBounds i true) a w) -> K' a w) -> if Region.wanted oi (yielded l.toArray a.tmps) = true then Oper.wp P oi a w K' Q else K' (a.put oi.dst undef) w)
    (h2 : ∀ K' : Act -> World -> Prop, Shut (∀ a w, S w -> (S w -> wpAnyH P md l.toArray Q S fuel (listed.setIfInBounds j true) a w) -> K' a w) -> if Region.wanted oj (yielded l.toArray a.tmps) = true then Oper.wp P oj a w K' Q else K' (a.put oj.dst undef) w) :
    wpAnyH P md l.toArray Q S (fuel + 1) listed a w :=
  wpAnyH_ready hr (by simp) (AllReadyH.cons ((nth_eq l i).symm.trans hi) h (AllReadyH.cons ((nth_eq l j).symm.trans hj) h2 AllReadyH.nil))
theorem MHap.one (m : MHap) : ∀ u ∈ m.cells, u.oneCell' = true := by
  intro u hu
  simp only [MHap.cells, List.mem_cons, List.not_mem_nil, or_false] at hu
  rcases hu with rfl | rfl <;> rfl
theorem Tryz.infoHap : (Tryz.prog.info? 105).map (fun i => (i.zero, i.size, i.bytes)) = some (some (.agg #[.int .i64 0, .string ⟨#[]⟩]), 2, 24) := by kernel_rfl
theorem Tryz.st_hap1 {ops : Array Oper} {o : Oper} {a : Act} {w : World} {K : Act -> World -> Prop} {Q : Exit -> Act -> World -> Prop} {E : Prop} (hg : o.guard = none) (x : Operand) (ho : o.op = .buildSlice 38 1 #[(0, x)]) (p : MHap)
    (hx : a.eval x = .agg p.cells.toArray) (h : K (a.put o.dst (.slice (some ⟨w.heap.size, 0, none⟩) 1 1)) (w.alloc (.cells p.cells.toArray 105))) : if Region.wanted o (yielded ops a.tmps) = true then Oper.wp Tryz.prog o a w K Q else E := by
  have hw : Region.wanted o (yielded ops a.tmps) = true := by simp [Region.wanted, hg]
  rw [if_pos hw]
  have hr : (Instr.buildSlice 38 1 #[(0, .agg p.cells.toArray)]).run Tryz.prog w = .ok (.slice (some ⟨w.heap.size, 0, none⟩) 1 1) (w.alloc (.cells p.cells.toArray 105)) := by
    obtain ⟨i, hi, hz, hs, hb⟩ := info_parts Tryz.infoHap
    refine run_buildSlice w 38 105 1 _ _ i _ Tryz.underlying38 hi hz (by rw [hs]; simp) (by rw [hs]; omega) ?_
    rw [hs]
    have := Great.fill_whole (s := 2) (by decide) [.agg p.cells.toArray] ((Array.range (1 * 2)).map ((Value.agg #[.int .i64 0, .string ⟨#[]⟩]).cells[· % (Value.agg #[.int .i64 0, .string ⟨#[]⟩]).cells.size]!)) (fun v hv => by rw [List.mem_singleton.1 hv]; rfl) (by simp)
    simpa [Value.cells] using this
  unfold Oper.wp execOp
  simp only [ho, Sem.run_bind, List.map_toArray, List.map_cons, List.map_nil, hx, hr, Result.andThen_ok]
  exact h
structure HapSt (w : World) (g P : Nat) (bs : List UInt8) (n : Int) (acc : List MHap) (A : Option Addr) (c : Nat) (s : Rs) (wr : World) : Prop where
  blk : Blk wr P 63 (MReply.cells { zeroMR with number := n, hap := acc, hA := A, hC := c }).toArray
  own : wr.ownsRow w.heap.size 105 2 (.slice A acc.length c) acc.length (acc.flatMap MHap.cells)
  rr : Rr wr g bs s
  kp : Kp (fun k => k = g \/ k = P) w wr
  lt : g < P /\ P < w.heap.size
  small : ∀ h ∈ acc, h.name.size <= 2147483647
section
variable {w : World} {g P : Nat} {bs : List UInt8} {n : Int} {acc : List MHap} {A : Option Addr} {c : Nat} {s s' : Rs} {wr w' : World}
theorem HapSt.step (h : HapSt w g P bs n acc A c s wr) (hr : Rr w' g bs s') (hk : Kp (RX g) wr w') : HapSt w g P bs n acc A c s' w' :=
  ⟨h.blk.kp hk (fun e => by have : P = g := e; have := h.lt; omega), vr h.own hk (fun b e e' => by
    have := (ja h.own (by rw [<- jH]; exact e)).1
    have : b = g := e'
    have := h.lt; omega), hr, h.kp.trans hk (fun b _ e => .inl e), h.lt, h.small⟩
theorem HapSt.old (h : HapSt w g P bs n acc A c s wr) (hk : Old wr w') : HapSt w g P bs n acc A c s w' := h.step (h.rr.old hk) (hk.mono (fun _ _ f => f.elim))
theorem HapSt.c5 (h : HapSt w g P bs n acc A c s wr) : wr.cell? ⟨P, 5, none⟩ = some (.slice A acc.length c) := h.blk.at_ 5 rfl
theorem HapSt.grow {x : MHap} {A' : Option Addr} {c' k : Nat} {W : World} (h : HapSt w g P bs n acc A c s wr) (hk : acc.length = k) (hW : Old wr W) (hx : x.name.size <= 2147483647)
    (ho : w'.ownsRow w.heap.size 105 2 (.slice A' (k + 1) c') (k + 1) (acc.flatMap MHap.cells ++ x.cells)) (hg : W.grownBy w' (Value.slice A k c).ownBlock) :
    (w'.cell? ⟨P, 5, none⟩ = some (.slice A k c) /\ w'.frozen? ⟨P, 5, none⟩ = false) /\ HapSt w g P bs n (acc ++ [x]) A' c' s (w'.setCell ⟨P, 5, none⟩ (.slice A' (k + 1) c')) := by
  subst hk
  rw [jH] at hg
  have hS := h.old hW
  have hge : ∀ b, A.map (·.block) = some b -> w.heap.size <= b := fun b e => (ja h.own e).1
  have k1 := vI hg
  have hb := hS.blk.kp k1 (fun e => by have := hge _ e; have := h.lt; omega)
  have hl : (acc ++ [x]).length = acc.length + 1 := by simp
  refine ⟨⟨hb.at_ 5 rfl, hb.frozen 5⟩, ?_, ?_, ?_, ?_, h.lt, ?_⟩
  · have := hb.rHap (acc ++ [x]) A' c'
    rw [hl] at this
    exact this
  · rw [hl, List.flatMap_append, List.flatMap_singleton]
    exact vr ho ((Kp.refl (fun k => k = P) w').setCell (p := ⟨P, 5, none⟩) (fun _ => rfl) _) (fun b e e' => by
      have := (ja ho (by rw [<- jH]; exact e)).1
      have := h.lt; omega)
  · exact (hS.rr.kp k1 (fun b hb e => by have := hge b e; have := h.lt; omega)).kp ((Kp.refl (fun k => k = P) w').setCell (p := ⟨P, 5, none⟩) (fun _ => rfl) _) (fun b hb e => by have := h.lt; omega)
  · exact (hS.kp.trans k1 (fun b hb e => by have := hge b e; omega)).setCell (p := ⟨P, 5, none⟩) (fun _ => .inr rfl) _
  · intro y hy
    rcases List.mem_append.1 hy with hy | hy
    · exact h.small y hy
    · rw [List.mem_singleton.1 hy]; exact hx
end
theorem ans_1 (w : World) (g P : Nat) (bs : List UInt8) (s : Rs) (h : Rr w g bs s) (hb : Blk w P 63 zeroMR.cells.toArray) (hP : g < P) :
    Calls Tryz.prog 47 #[.pointer (some ⟨g, 0, none⟩), .int .i64 1, .pointer (some ⟨P, 0, none⟩)] w (AnsP w g P bs (ansN bs 1 s)) := by
  have HT := jJ0 (show ansN bs 1 s = some (ansHap bs s) from rfl)
  unfold ansHap at HT
  have hbl := h.fits.2
  have hPl := hb.lt
  have HF0 := jJ0 (kZ w g bs s h)
  have HbW := jJ0 hb
  generalize ansN bs 1 s = TV at *
  clear h hb
  generalize numN bs s = t1 at *
  obtain ⟨n, s1⟩ := t1
  simp only at HT HF0
  go_enter Tryz.func47, Tryz.ntmps47
  go_wp2_with fail
  refine HF0.out.mono ?_
  rintro e w1 ⟨rfl, hr1, hk1⟩
  have Hb1 := jJ0 (HbW.out.kp hk1 (show ¬ RX g P from fun e => by have : P = g := e; omega))
  have u := Hb1.out.at_ 4 (v := .int .i64 0) rfl
  have z := Hb1.out.frozen 4
  have k1 := (Kp.refl (fun k => k = P) w1).setCell (p := ⟨P, 4, none⟩) (fun _ => rfl) (.int .i64 n)
  have HS := jJ0 (show HapSt w g P bs n [] none 0 s1 (w1.setCell ⟨P, 4, none⟩ (.int .i64 n)) from
    ⟨Hb1.out.rNum n, World.ownsRow_nil _ _ _ _, hr1.kp k1 (fun b hb e => by omega), (hk1.mono (Y := fun k => k = g \/ k = P) (fun b _ e => .inl e)).trans k1 (fun b _ e => .inr e), ⟨hP, hPl⟩, fun h hh => (by cases hh)⟩)
  have HP := jJ0 (fun W' (hR : Rr W' g bs s1) => take16_any W' g bs s1 hR)
  have HN := jJ0 (kE bs 2 s1)
  clear hr1 hk1 k1 HF0 HbW Hb1
  go_wp2_with fail
  clear u z
  generalize w1.setCell _ _ = W1 at *
  refine (HP.out _ HS.out.rr).mono ?_
  clear HP
  generalize tkN bs 2 s1 = t2 at *
  obtain ⟨c, s2⟩ := t2
  simp only at HT HN ⊢
  rintro e w2 ⟨rfl, hr2, hk2⟩
  replace HS := jJ0 (HS.out.step hr2 hk2)
  have hcn : c < 65536 := by have := HN.out; omega
  clear hr2 hk2 HN
  obtain ⟨i0, hi, hz0, hz1, hz2⟩ := info_parts Tryz.infoHap
  go_wp2_with fail
  go_loopw [20, 8] (fun i _ wr => ∃ k : Nat, i = .int .u16 k /\ ∃ (acc : List MHap) (hA : Option Addr) (hC : Nat) (s : Rs), HapSt w g P bs n acc hA hC s wr /\ acc.length = k /\ k <= c /\ vL bs c s2 [] = vL bs (c - k) s acc) (fun i _ _ => c - (intOf i).toNat)
  case atStart => exact ⟨0, rfl, [], none, 0, s2, HS.out, rfl, Nat.zero_le _, rfl⟩
  case round =>
    obtain ⟨k, rfl, acc, hA, hC, s, hS, hk1, hkc, hgo⟩ := hrel
    clear HS
    have HS := jJ0 hS
    have HK := jJ0 hk1
    have Hgo := jJ0 hgo
    clear hS hk1 hgo
    by_cases hlt : k < c
    · obtain ⟨q, hm⟩ : ∃ q, c - k = q + 1 := ⟨c - k - 1, by omega⟩
      rw [hm, vL] at Hgo
      have Hm := jJ0 hm
      clear hm
      have hk16 : IntKind.u16.wrap ((k : Int) + 1) = (k : Int) + 1 := IntWalk.u16_in _ (by omega)
      have HP := jJ0 (fun W' (hR : Rr W' g bs s) => jQ W' g bs s hR)
      have HN := jJ0 (kE bs 1 s)
      go_wp2_with fail
      refine (HP.out _ HS.out.rr).mono ?_
      clear HP
      generalize tkN bs 1 s = t3 at *
      obtain ⟨kk, s5⟩ := t3
      simp only at Hgo HN ⊢
      rintro e w5 ⟨rfl, hr2, hk2⟩
      have HF := jJ0 ((HS.out.step hr2 hk2).old ((Kp.refl NoX w5).drew))
      have hkn : kk < 256 := by have := HN.out; omega
      have hw1 : IntKind.i64.wrap (kk : Int) = kk := IntWalk.i64_in _ (by omega)
      have hw2 : wrap64 (kk : Int) = (kk : Int) := by unfold wrap64; omega
      have HW := jJ0 (fun W' (hR : Rr W' g bs s5) => kc W' g bs s5 hR)
      have Hws := jJ0 (kC bs s5)
      generalize jI bs s5 = t4 at *
      obtain ⟨nm, s6⟩ := t4
      simp only at Hgo HW Hws
      have Hr5 := jJ0 HF.out.rr
      have c5d := HF.out.c5
      rw [HK.out] at c5d
      have H63 := jJ0 (show k + 1 <= maxLen by unfold maxLen; omega)
      have H47 := jJ0 (show (k + 1) * 24 <= 140737488355328 by omega)
      clear hr2 hk2 HN HS hkn
      go_wp2_with fail
      clear hw1 hw2
      refine wp_region_held_drew (S := fun _ => True) (by kernel_rfl) trivial (fun hHeld => ?_)
      refine' jJ 0 rfl rfl (by kernel_rfl) (by kernel_rfl) (by kernel_rfl) (fun _ _ _ h => h) rfl hHeld (fun w hSw => ?_) ?_
      rotate_left
      · ((try dsimp only at hSw); go_simp <;> with_reducible rfl)
      simp only [Act.put, List.setIfInBounds_toArray, List.set_cons_zero, List.set_cons_succ]
      refine' jJ 1 rfl rfl (by kernel_rfl) (by kernel_rfl) (by kernel_rfl) (fun _ _ _ h => h) rfl hHeld (fun w hSw => ?_) ?_
      rotate_left
      · ((try dsimp only at hSw); go_simp <;> with_reducible rfl)
      simp only [Act.put, List.setIfInBounds_toArray, List.set_cons_zero, List.set_cons_succ]
      refine' jJ 2 rfl rfl (by kernel_rfl) (by kernel_rfl) (by kernel_rfl) (fun _ _ _ h => h) rfl hHeld (fun w hSw => ?_) ?_
      rotate_left
      · ((try dsimp only at hSw); go_simp <;> with_reducible rfl)
      simp only [Act.put, List.setIfInBounds_toArray, List.set_cons_zero, List.set_cons_succ]
      refine' jJ 3 rfl rfl (by kernel_rfl) (by kernel_rfl) (by kernel_rfl) (fun _ _ _ h => h) rfl hHeld (fun w hSw => ?_) ?_
      rotate_left
      · ((try dsimp only at hSw); go_simp <;> with_reducible rfl)
      simp only [Act.put, List.setIfInBounds_toArray, List.set_cons_zero, List.set_cons_succ]
      refine' jJ 5 rfl rfl (by kernel_rfl) (by kernel_rfl) (by kernel_rfl) (fun _ _ _ h => h) rfl hHeld (fun w hSw => ?_) ?_
      rotate_left
      · ((try dsimp only at hSw); go_simp <;> with_reducible rfl)
      simp only [Act.put, List.setIfInBounds_toArray, List.set_cons_zero, List.set_cons_succ]
      refine' jJ 6 rfl rfl (by kernel_rfl) (by kernel_rfl) (by kernel_rfl) (fun _ _ _ h => h) rfl hHeld (fun w hSw => ?_) ?_
      rotate_left
      · ((try dsimp only at hSw); go_simp <;> with_reducible rfl)
      simp only [Act.put, List.setIfInBounds_toArray, List.set_cons_zero, List.set_cons_succ]
      refine take_two 4 7 rfl rfl (by kernel_rfl) (fun K hK => ?_) (fun K hK => ?_)
      · go_simp
        refine hK.out _ _ trivial (fun hHeld => ?_)
        clear hK K
        refine je 7 rfl (by kernel_rfl) (fun K hK => ?_)
        go_simp
        go_at_call 42
        refine (HW.out _ Hr5.out).mono ?_
        rintro e w6 ⟨rfl, hr6, hk6⟩
        have F6 := jJ0 (HF.out.step hr6 hk6)
        have c5 := F6.out.c5
        rw [HK.out] at c5
        have HoH := jJ0 (show w6.ownsRow w.heap.size 105 2 (.slice hA k hC) k (acc.flatMap MHap.cells) from by have h := F6.out.own; rw [HK.out] at h; exact h)
        have HoA := jJ0 ((Kp.refl NoX w6).alloc (.cells (MHap.cells ⟨(kk : Int), nm⟩).toArray 105))
        have c5a := (F6.out.old HoA.out).c5
        rw [HK.out] at c5a
        clear hr6 hk6
        go_wp2_with fail
        refine hK.out _ _ trivial (fun hHeld => ?_)
        clear hK K
        refine' jJ 8 rfl rfl (by kernel_rfl) (by kernel_rfl) (by kernel_rfl) (fun _ _ _ h => h) rfl hHeld (fun w hSw => ?_) ?_
        rotate_left
        · ((try dsimp only at hSw); go_simp <;> with_reducible rfl)
        simp only [Act.put, List.setIfInBounds_toArray, List.set_cons_zero, List.set_cons_succ]
        refine je 9 rfl (by kernel_rfl) (fun K hK => ?_)
        refine Tryz.st_hap1 rfl (.tmp 33) rfl ⟨(kk : Int), nm⟩ rfl ?_
        refine hK.out _ _ trivial (fun hHeld => ?_)
        clear hK K
        simp only [Act.put, List.setIfInBounds_toArray, List.set_cons_zero, List.set_cons_succ] at *
        refine je 10 rfl (by kernel_rfl) (fun K hK => ?_)
        refine jZ _ rfl (.tmp 29) (.tmp 34) 38 rfl w.heap.size 105 i0 _ 2 24 Tryz.underlying38 hi hz0 hz1 hz2 rfl (by decide) (.slice hA k hC) k _ rfl (HoH.out.alloc _) _ 1 1 (MHap.cells ⟨(kk : Int), nm⟩) rfl (Rd.row_new _ _ 2 1 _ rfl) (MHap.one _) H63.out H47.out (Nat.le_trans F6.out.kp.size (by simp)) ?_
        intro A7 c7 w7 hown hgrow hat
        have F7 := jJ0 (F6.out.grow (x := ⟨(kk : Int), nm⟩) HK.out HoA.out (by have := Hws.out; simp only; omega) hown hgrow)
        have c7' := F7.out.1.1
        have z7' := F7.out.1.2
        refine hK.out _ _ trivial (fun hHeld => ?_)
        clear hK K hown hgrow hat
        simp only [Act.put, List.setIfInBounds_toArray, List.set_cons_zero, List.set_cons_succ] at *
        refine' jJ 11 rfl rfl (by kernel_rfl) (by kernel_rfl) (by kernel_rfl) (fun _ _ _ h => h) rfl hHeld (fun w hSw => ?_) ?_
        rotate_left
        · ((try dsimp only at hSw); go_simp <;> with_reducible rfl)
        simp only [Act.put, List.setIfInBounds_toArray, List.set_cons_zero, List.set_cons_succ]
        refine' jJ 12 rfl rfl (by kernel_rfl) (by kernel_rfl) (by kernel_rfl) (fun _ _ _ h => h) rfl hHeld (fun w hSw => ?_) ?_
        rotate_left
        · ((try dsimp only at hSw); go_simp <;> with_reducible rfl)
        simp only [Act.put, List.setIfInBounds_toArray, List.set_cons_zero, List.set_cons_succ]
        refine je 13 rfl (by kernel_rfl) (fun K hK => ?_)
        go_simp
        refine hK.out _ _ trivial (fun hHeld => ?_)
        clear hK K
        refine wpAnyH_done (by kernel_rfl) ?_ _
        have Hnext := jJ0 F7.out.2
        clear c7' z7' F7 F6 c5 c5a
        go_wp2
        go_roundw
        case rel => exact ⟨k + 1, by go_num, acc ++ [⟨(kk : Int), nm⟩], A7, c7, s6, Hnext.out, by rw [List.length_append, HK.out]; rfl, by omega, by rw [Hgo.out, show c - (k + 1) = q by have := Hm.out; omega]⟩
        case measure => simp [intOf]; omega
      · go_simp
        go_at_call 42
        refine (HW.out _ Hr5.out).mono ?_
        rintro e w6 ⟨rfl, hr6, hk6⟩
        have F6 := jJ0 (HF.out.step hr6 hk6)
        have c5 := F6.out.c5
        rw [HK.out] at c5
        have HoH := jJ0 (show w6.ownsRow w.heap.size 105 2 (.slice hA k hC) k (acc.flatMap MHap.cells) from by have h := F6.out.own; rw [HK.out] at h; exact h)
        have HoA := jJ0 ((Kp.refl NoX w6).alloc (.cells (MHap.cells ⟨(kk : Int), nm⟩).toArray 105))
        have c5a := (F6.out.old HoA.out).c5
        rw [HK.out] at c5a
        clear hr6 hk6
        go_wp2_with fail
        refine hK.out _ _ trivial (fun hHeld => ?_)
        clear hK K
        refine' jJ 8 rfl rfl (by kernel_rfl) (by kernel_rfl) (by kernel_rfl) (fun _ _ _ h => h) rfl hHeld (fun w hSw => ?_) ?_
        rotate_left
        · ((try dsimp only at hSw); go_simp <;> with_reducible rfl)
        simp only [Act.put, List.setIfInBounds_toArray, List.set_cons_zero, List.set_cons_succ]
        refine take_two 4 9 rfl rfl (by kernel_rfl) (fun K hK => ?_) (fun K hK => ?_)
        · go_simp
          refine hK.out _ _ trivial (fun hHeld => ?_)
          clear hK K
          refine je 9 rfl (by kernel_rfl) (fun K hK => ?_)
          refine Tryz.st_hap1 rfl (.tmp 33) rfl ⟨(kk : Int), nm⟩ rfl ?_
          refine hK.out _ _ trivial (fun hHeld => ?_)
          clear hK K
          simp only [Act.put, List.setIfInBounds_toArray, List.set_cons_zero, List.set_cons_succ] at *
          refine je 10 rfl (by kernel_rfl) (fun K hK => ?_)
          refine jZ _ rfl (.tmp 29) (.tmp 34) 38 rfl w.heap.size 105 i0 _ 2 24 Tryz.underlying38 hi hz0 hz1 hz2 rfl (by decide) (.slice hA k hC) k _ rfl (HoH.out.alloc _) _ 1 1 (MHap.cells ⟨(kk : Int), nm⟩) rfl (Rd.row_new _ _ 2 1 _ rfl) (MHap.one _) H63.out H47.out (Nat.le_trans F6.out.kp.size (by simp)) ?_
          intro A7 c7 w7 hown hgrow hat
          have F7 := jJ0 (F6.out.grow (x := ⟨(kk : Int), nm⟩) HK.out HoA.out (by have := Hws.out; simp only; omega) hown hgrow)
          have c7' := F7.out.1.1
          have z7' := F7.out.1.2
          refine hK.out _ _ trivial (fun hHeld => ?_)
          clear hK K hown hgrow hat
          simp only [Act.put, List.setIfInBounds_toArray, List.set_cons_zero, List.set_cons_succ] at *
          refine' jJ 11 rfl rfl (by kernel_rfl) (by kernel_rfl) (by kernel_rfl) (fun _ _ _ h => h) rfl hHeld (fun w hSw => ?_) ?_
          rotate_left
          · ((try dsimp only at hSw); go_simp <;> with_reducible rfl)
          simp only [Act.put, List.setIfInBounds_toArray, List.set_cons_zero, List.set_cons_succ]
          refine' jJ 12 rfl rfl (by kernel_rfl) (by kernel_rfl) (by kernel_rfl) (fun _ _ _ h => h) rfl hHeld (fun w hSw => ?_) ?_
          rotate_left
          · ((try dsimp only at hSw); go_simp <;> with_reducible rfl)
          simp only [Act.put, List.setIfInBounds_toArray, List.set_cons_zero, List.set_cons_succ]
          refine je 13 rfl (by kernel_rfl) (fun K hK => ?_)
          go_simp
          refine hK.out _ _ trivial (fun hHeld => ?_)
          clear hK K
          refine wpAnyH_done (by kernel_rfl) ?_ _
          have Hnext := jJ0 F7.out.2
          clear c7' z7' F7 F6 c5 c5a
          go_wp2
          go_roundw
          case rel => exact ⟨k + 1, by go_num, acc ++ [⟨(kk : Int), nm⟩], A7, c7, s6, Hnext.out, by rw [List.length_append, HK.out]; rfl, by omega, by rw [Hgo.out, show c - (k + 1) = q by have := Hm.out; omega]⟩
          case measure => simp [intOf]; omega
        · refine Tryz.st_hap1 rfl (.tmp 33) rfl ⟨(kk : Int), nm⟩ rfl ?_
          refine hK.out _ _ trivial (fun hHeld => ?_)
          clear hK K
          simp only [Act.put, List.setIfInBounds_toArray, List.set_cons_zero, List.set_cons_succ] at *
          refine je 4 rfl (by kernel_rfl) (fun K hK => ?_)
          go_simp
          refine hK.out _ _ trivial (fun hHeld => ?_)
          clear hK K
          refine je 10 rfl (by kernel_rfl) (fun K hK => ?_)
          refine jZ _ rfl (.tmp 29) (.tmp 34) 38 rfl w.heap.size 105 i0 _ 2 24 Tryz.underlying38 hi hz0 hz1 hz2 rfl (by decide) (.slice hA k hC) k _ rfl (HoH.out.alloc _) _ 1 1 (MHap.cells ⟨(kk : Int), nm⟩) rfl (Rd.row_new _ _ 2 1 _ rfl) (MHap.one _) H63.out H47.out (Nat.le_trans F6.out.kp.size (by simp)) ?_
          intro A7 c7 w7 hown hgrow hat
          have F7 := jJ0 (F6.out.grow (x := ⟨(kk : Int), nm⟩) HK.out HoA.out (by have := Hws.out; simp only; omega) hown hgrow)
          have c7' := F7.out.1.1
          have z7' := F7.out.1.2
          refine hK.out _ _ trivial (fun hHeld => ?_)
          clear hK K hown hgrow hat
          simp only [Act.put, List.setIfInBounds_toArray, List.set_cons_zero, List.set_cons_succ] at *
          refine' jJ 11 rfl rfl (by kernel_rfl) (by kernel_rfl) (by kernel_rfl) (fun _ _ _ h => h) rfl hHeld (fun w hSw => ?_) ?_
          rotate_left
          · ((try dsimp only at hSw); go_simp <;> with_reducible rfl)
          simp only [Act.put, List.setIfInBounds_toArray, List.set_cons_zero, List.set_cons_succ]
          refine' jJ 12 rfl rfl (by kernel_rfl) (by kernel_rfl) (by kernel_rfl) (fun _ _ _ h => h) rfl hHeld (fun w hSw => ?_) ?_
          rotate_left
          · ((try dsimp only at hSw); go_simp <;> with_reducible rfl)
          simp only [Act.put, List.setIfInBounds_toArray, List.set_cons_zero, List.set_cons_succ]
          refine je 13 rfl (by kernel_rfl) (fun K hK => ?_)
          go_simp
          refine hK.out _ _ trivial (fun hHeld => ?_)
          clear hK K
          refine wpAnyH_done (by kernel_rfl) ?_ _
          have Hnext := jJ0 F7.out.2
          clear c7' z7' F7 F6 c5 c5a
          go_wp2
          go_roundw
          case rel => exact ⟨k + 1, by go_num, acc ++ [⟨(kk : Int), nm⟩], A7, c7, s6, Hnext.out, by rw [List.length_append, HK.out]; rfl, by omega, by rw [Hgo.out, show c - (k + 1) = q by have := Hm.out; omega]⟩
          case measure => simp [intOf]; omega
    · obtain rfl : k = c := by omega
      have Hfin := jJ0 (show TV = some ({ zeroRep with number := n, hap := acc }, s) by rw [HT.out, Hgo.out, Nat.sub_self]; rfl)
      have Hok := jJ0 (show MReply.Ok wr (fun k => k < w.heap.size) { zeroMR with number := n, hap := acc, hA := hA, hC := hC } from by
        have Z := jM wr (fun k => k < w.heap.size)
        exact ⟨Rd.of_own HS.out.own, own_av HS.out.own, ⟨HS.out.small, by have := HK.out; show acc.length <= _; omega⟩, Z.case_, Z.raw, Z.note, Z.hd, Z.inc, Z.con, Z.idx, Z.rdI, Z.avI, Z.pie⟩)
      go_wp2
      go_ret
      exact ⟨.inl ⟨_, s, by rw [Hfin.out]; rfl, rfl, HS.out.blk, Hok.out, HS.out.rr⟩, HS.out.kp⟩
theorem ans_2 (w : World) (g P : Nat) (bs : List UInt8) (s : Rs) (h : Rr w g bs s) (hb : Blk w P 63 zeroMR.cells.toArray) (hP : g < P) :
    Calls Tryz.prog 47 #[.pointer (some ⟨g, 0, none⟩), .int .i64 2, .pointer (some ⟨P, 0, none⟩)] w (AnsP w g P bs (ansN bs 2 s)) := by
  have HT := jJ0 (show ansN bs 2 s = some (ansHap bs s) from rfl)
  unfold ansHap at HT
  have hbl := h.fits.2
  have hPl := hb.lt
  have HF0 := jJ0 (kZ w g bs s h)
  have HbW := jJ0 hb
  generalize ansN bs 2 s = TV at *
  clear h hb
  generalize numN bs s = t1 at *
  obtain ⟨n, s1⟩ := t1
  simp only at HT HF0
  go_enter Tryz.func47, Tryz.ntmps47
  go_wp2_with fail
  refine HF0.out.mono ?_
  rintro e w1 ⟨rfl, hr1, hk1⟩
  have Hb1 := jJ0 (HbW.out.kp hk1 (show ¬ RX g P from fun e => by have : P = g := e; omega))
  have u := Hb1.out.at_ 4 (v := .int .i64 0) rfl
  have z := Hb1.out.frozen 4
  have k1 := (Kp.refl (fun k => k = P) w1).setCell (p := ⟨P, 4, none⟩) (fun _ => rfl) (.int .i64 n)
  have HS := jJ0 (show HapSt w g P bs n [] none 0 s1 (w1.setCell ⟨P, 4, none⟩ (.int .i64 n)) from
    ⟨Hb1.out.rNum n, World.ownsRow_nil _ _ _ _, hr1.kp k1 (fun b hb e => by omega), (hk1.mono (Y := fun k => k = g \/ k = P) (fun b _ e => .inl e)).trans k1 (fun b _ e => .inr e), ⟨hP, hPl⟩, fun h hh => (by cases hh)⟩)
  have HP := jJ0 (fun W' (hR : Rr W' g bs s1) => take16_any W' g bs s1 hR)
  have HN := jJ0 (kE bs 2 s1)
  clear hr1 hk1 k1 HF0 HbW Hb1
  go_wp2_with fail
  clear u z
  generalize w1.setCell _ _ = W1 at *
  refine (HP.out _ HS.out.rr).mono ?_
  clear HP
  generalize tkN bs 2 s1 = t2 at *
  obtain ⟨c, s2⟩ := t2
  simp only at HT HN ⊢
  rintro e w2 ⟨rfl, hr2, hk2⟩
  replace HS := jJ0 (HS.out.step hr2 hk2)
  have hcn : c < 65536 := by have := HN.out; omega
  clear hr2 hk2 HN
  obtain ⟨i0, hi, hz0, hz1, hz2⟩ := info_parts Tryz.infoHap
  go_wp2_with fail
  go_loopw [20, 8] (fun i _ wr => ∃ k : Nat, i = .int .u16 k /\ ∃ (acc : List MHap) (hA : Option Addr) (hC : Nat) (s : Rs), HapSt w g P bs n acc hA hC s wr /\ acc.length = k /\ k <= c /\ vL bs c s2 [] = vL bs (c - k) s acc) (fun i _ _ => c - (intOf i).toNat)
  case atStart => exact ⟨0, rfl, [], none, 0, s2, HS.out, rfl, Nat.zero_le _, rfl⟩
  case round =>
    obtain ⟨k, rfl, acc, hA, hC, s, hS, hk1, hkc, hgo⟩ := hrel
    clear HS
    have HS := jJ0 hS
    have HK := jJ0 hk1
    have Hgo := jJ0 hgo
    clear hS hk1 hgo
    by_cases hlt : k < c
    · obtain ⟨q, hm⟩ : ∃ q, c - k = q + 1 := ⟨c - k - 1, by omega⟩
      rw [hm, vL] at Hgo
      have Hm := jJ0 hm
      clear hm
      have hk16 : IntKind.u16.wrap ((k : Int) + 1) = (k : Int) + 1 := IntWalk.u16_in _ (by omega)
      have HP := jJ0 (fun W' (hR : Rr W' g bs s) => jQ W' g bs s hR)
      have HN := jJ0 (kE bs 1 s)
      go_wp2_with fail
      refine (HP.out _ HS.out.rr).mono ?_
      clear HP
      generalize tkN bs 1 s = t3 at *
      obtain ⟨kk, s5⟩ := t3
      simp only at Hgo HN ⊢
      rintro e w5 ⟨rfl, hr2, hk2⟩
      have HF := jJ0 ((HS.out.step hr2 hk2).old ((Kp.refl NoX w5).drew))
      have hkn : kk < 256 := by have := HN.out; omega
      have hw1 : IntKind.i64.wrap (kk : Int) = kk := IntWalk.i64_in _ (by omega)
      have hw2 : wrap64 (kk : Int) = (kk : Int) := by unfold wrap64; omega
      have HW := jJ0 (fun W' (hR : Rr W' g bs s5) => kc W' g bs s5 hR)
      have Hws := jJ0 (kC bs s5)
      generalize jI bs s5 = t4 at *
      obtain ⟨nm, s6⟩ := t4
      simp only at Hgo HW Hws
      have Hr5 := jJ0 HF.out.rr
      have c5d := HF.out.c5
      rw [HK.out] at c5d
      have H63 := jJ0 (show k + 1 <= maxLen by unfold maxLen; omega)
      have H47 := jJ0 (show (k + 1) * 24 <= 140737488355328 by omega)
      clear hr2 hk2 HN HS hkn
      go_wp2_with fail
      clear hw1 hw2
      refine wp_region_held_drew (S := fun _ => True) (by kernel_rfl) trivial (fun hHeld => ?_)
      refine' jJ 0 rfl rfl (by kernel_rfl) (by kernel_rfl) (by kernel_rfl) (fun _ _ _ h => h) rfl hHeld (fun w hSw => ?_) ?_
      rotate_left
      · ((try dsimp only at hSw); go_simp <;> with_reducible rfl)
      simp only [Act.put, List.setIfInBounds_toArray, List.set_cons_zero, List.set_cons_succ]
      refine' jJ 1 rfl rfl (by kernel_rfl) (by kernel_rfl) (by kernel_rfl) (fun _ _ _ h => h) rfl hHeld (fun w hSw => ?_) ?_
      rotate_left
      · ((try dsimp only at hSw); go_simp <;> with_reducible rfl)
      simp only [Act.put, List.setIfInBounds_toArray, List.set_cons_zero, List.set_cons_succ]
      refine' jJ 2 rfl rfl (by kernel_rfl) (by kernel_rfl) (by kernel_rfl) (fun _ _ _ h => h) rfl hHeld (fun w hSw => ?_) ?_
      rotate_left
      · ((try dsimp only at hSw); go_simp <;> with_reducible rfl)
      simp only [Act.put, List.setIfInBounds_toArray, List.set_cons_zero, List.set_cons_succ]
      refine' jJ 3 rfl rfl (by kernel_rfl) (by kernel_rfl) (by kernel_rfl) (fun _ _ _ h => h) rfl hHeld (fun w hSw => ?_) ?_
      rotate_left
      · ((try dsimp only at hSw); go_simp <;> with_reducible rfl)
      simp only [Act.put, List.setIfInBounds_toArray, List.set_cons_zero, List.set_cons_succ]
      refine' jJ 5 rfl rfl (by kernel_rfl) (by kernel_rfl) (by kernel_rfl) (fun _ _ _ h => h) rfl hHeld (fun w hSw => ?_) ?_
      rotate_left
      · ((try dsimp only at hSw); go_simp <;> with_reducible rfl)
      simp only [Act.put, List.setIfInBounds_toArray, List.set_cons_zero, List.set_cons_succ]
      refine' jJ 6 rfl rfl (by kernel_rfl) (by kernel_rfl) (by kernel_rfl) (fun _ _ _ h => h) rfl hHeld (fun w hSw => ?_) ?_
      rotate_left
      · ((try dsimp only at hSw); go_simp <;> with_reducible rfl)
      simp only [Act.put, List.setIfInBounds_toArray, List.set_cons_zero, List.set_cons_succ]
      refine take_two 4 7 rfl rfl (by kernel_rfl) (fun K hK => ?_) (fun K hK => ?_)
      · go_simp
        refine hK.out _ _ trivial (fun hHeld => ?_)
        clear hK K
        refine je 7 rfl (by kernel_rfl) (fun K hK => ?_)
        go_simp
        go_at_call 42
        refine (HW.out _ Hr5.out).mono ?_
        rintro e w6 ⟨rfl, hr6, hk6⟩
        have F6 := jJ0 (HF.out.step hr6 hk6)
        have c5 := F6.out.c5
        rw [HK.out] at c5
        have HoH := jJ0 (show w6.ownsRow w.heap.size 105 2 (.slice hA k hC) k (acc.flatMap MHap.cells) from by have h := F6.out.own; rw [HK.out] at h; exact h)
        have HoA := jJ0 ((Kp.refl NoX w6).alloc (.cells (MHap.cells ⟨(kk : Int), nm⟩).toArray 105))
        have c5a := (F6.out.old HoA.out).c5
        rw [HK.out] at c5a
        clear hr6 hk6
        go_wp2_with fail
        refine hK.out _ _ trivial (fun hHeld => ?_)
        clear hK K
        refine' jJ 8 rfl rfl (by kernel_rfl) (by kernel_rfl) (by kernel_rfl) (fun _ _ _ h => h) rfl hHeld (fun w hSw => ?_) ?_
        rotate_left
        · ((try dsimp only at hSw); go_simp <;> with_reducible rfl)
        simp only [Act.put, List.setIfInBounds_toArray, List.set_cons_zero, List.set_cons_succ]
        refine je 9 rfl (by kernel_rfl) (fun K hK => ?_)
        refine Tryz.st_hap1 rfl (.tmp 33) rfl ⟨(kk : Int), nm⟩ rfl ?_
        refine hK.out _ _ trivial (fun hHeld => ?_)
        clear hK K
        simp only [Act.put, List.setIfInBounds_toArray, List.set_cons_zero, List.set_cons_succ] at *
        refine je 10 rfl (by kernel_rfl) (fun K hK => ?_)
        refine jZ _ rfl (.tmp 29) (.tmp 34) 38 rfl w.heap.size 105 i0 _ 2 24 Tryz.underlying38 hi hz0 hz1 hz2 rfl (by decide) (.slice hA k hC) k _ rfl (HoH.out.alloc _) _ 1 1 (MHap.cells ⟨(kk : Int), nm⟩) rfl (Rd.row_new _ _ 2 1 _ rfl) (MHap.one _) H63.out H47.out (Nat.le_trans F6.out.kp.size (by simp)) ?_
        intro A7 c7 w7 hown hgrow hat
        have F7 := jJ0 (F6.out.grow (x := ⟨(kk : Int), nm⟩) HK.out HoA.out (by have := Hws.out; simp only; omega) hown hgrow)
        have c7' := F7.out.1.1
        have z7' := F7.out.1.2
        refine hK.out _ _ trivial (fun hHeld => ?_)
        clear hK K hown hgrow hat
        simp only [Act.put, List.setIfInBounds_toArray, List.set_cons_zero, List.set_cons_succ] at *
        refine' jJ 11 rfl rfl (by kernel_rfl) (by kernel_rfl) (by kernel_rfl) (fun _ _ _ h => h) rfl hHeld (fun w hSw => ?_) ?_
        rotate_left
        · ((try dsimp only at hSw); go_simp <;> with_reducible rfl)
        simp only [Act.put, List.setIfInBounds_toArray, List.set_cons_zero, List.set_cons_succ]
        refine' jJ 12 rfl rfl (by kernel_rfl) (by kernel_rfl) (by kernel_rfl) (fun _ _ _ h => h) rfl hHeld (fun w hSw => ?_) ?_
        rotate_left
        · ((try dsimp only at hSw); go_simp <;> with_reducible rfl)
        simp only [Act.put, List.setIfInBounds_toArray, List.set_cons_zero, List.set_cons_succ]
        refine je 13 rfl (by kernel_rfl) (fun K hK => ?_)
        go_simp
        refine hK.out _ _ trivial (fun hHeld => ?_)
        clear hK K
        refine wpAnyH_done (by kernel_rfl) ?_ _
        have Hnext := jJ0 F7.out.2
        clear c7' z7' F7 F6 c5 c5a
        go_wp2
        go_roundw
        case rel => exact ⟨k + 1, by go_num, acc ++ [⟨(kk : Int), nm⟩], A7, c7, s6, Hnext.out, by rw [List.length_append, HK.out]; rfl, by omega, by rw [Hgo.out, show c - (k + 1) = q by have := Hm.out; omega]⟩
        case measure => simp [intOf]; omega
      · go_simp
        go_at_call 42
        refine (HW.out _ Hr5.out).mono ?_
        rintro e w6 ⟨rfl, hr6, hk6⟩
        have F6 := jJ0 (HF.out.step hr6 hk6)
        have c5 := F6.out.c5
        rw [HK.out] at c5
        have HoH := jJ0 (show w6.ownsRow w.heap.size 105 2 (.slice hA k hC) k (acc.flatMap MHap.cells) from by have h := F6.out.own; rw [HK.out] at h; exact h)
        have HoA := jJ0 ((Kp.refl NoX w6).alloc (.cells (MHap.cells ⟨(kk : Int), nm⟩).toArray 105))
        have c5a := (F6.out.old HoA.out).c5
        rw [HK.out] at c5a
        clear hr6 hk6
        go_wp2_with fail
        refine hK.out _ _ trivial (fun hHeld => ?_)
        clear hK K
        refine' jJ 8 rfl rfl (by kernel_rfl) (by kernel_rfl) (by kernel_rfl) (fun _ _ _ h => h) rfl hHeld (fun w hSw => ?_) ?_
        rotate_left
        · ((try dsimp only at hSw); go_simp <;> with_reducible rfl)
        simp only [Act.put, List.setIfInBounds_toArray, List.set_cons_zero, List.set_cons_succ]
        refine take_two 4 9 rfl rfl (by kernel_rfl) (fun K hK => ?_) (fun K hK => ?_)
        · go_simp
          refine hK.out _ _ trivial (fun hHeld => ?_)
          clear hK K
          refine je 9 rfl (by kernel_rfl) (fun K hK => ?_)
          refine Tryz.st_hap1 rfl (.tmp 33) rfl ⟨(kk : Int), nm⟩ rfl ?_
          refine hK.out _ _ trivial (fun hHeld => ?_)
          clear hK K
          simp only [Act.put, List.setIfInBounds_toArray, List.set_cons_zero, List.set_cons_succ] at *
          refine je 10 rfl (by kernel_rfl) (fun K hK => ?_)
          refine jZ _ rfl (.tmp 29) (.tmp 34) 38 rfl w.heap.size 105 i0 _ 2 24 Tryz.underlying38 hi hz0 hz1 hz2 rfl (by decide) (.slice hA k hC) k _ rfl (HoH.out.alloc _) _ 1 1 (MHap.cells ⟨(kk : Int), nm⟩) rfl (Rd.row_new _ _ 2 1 _ rfl) (MHap.one _) H63.out H47.out (Nat.le_trans F6.out.kp.size (by simp)) ?_
          intro A7 c7 w7 hown hgrow hat
          have F7 := jJ0 (F6.out.grow (x := ⟨(kk : Int), nm⟩) HK.out HoA.out (by have := Hws.out; simp only; omega) hown hgrow)
          have c7' := F7.out.1.1
          have z7' := F7.out.1.2
          refine hK.out _ _ trivial (fun hHeld => ?_)
          clear hK K hown hgrow hat
          simp only [Act.put, List.setIfInBounds_toArray, List.set_cons_zero, List.set_cons_succ] at *
          refine' jJ 11 rfl rfl (by kernel_rfl) (by kernel_rfl) (by kernel_rfl) (fun _ _ _ h => h) rfl hHeld (fun w hSw => ?_) ?_
          rotate_left
          · ((try dsimp only at hSw); go_simp <;> with_reducible rfl)
          simp only [Act.put, List.setIfInBounds_toArray, List.set_cons_zero, List.set_cons_succ]
          refine' jJ 12 rfl rfl (by kernel_rfl) (by kernel_rfl) (by kernel_rfl) (fun _ _ _ h => h) rfl hHeld (fun w hSw => ?_) ?_
          rotate_left
          · ((try dsimp only at hSw); go_simp <;> with_reducible rfl)
          simp only [Act.put, List.setIfInBounds_toArray, List.set_cons_zero, List.set_cons_succ]
          refine je 13 rfl (by kernel_rfl) (fun K hK => ?_)
          go_simp
          refine hK.out _ _ trivial (fun hHeld => ?_)
          clear hK K
          refine wpAnyH_done (by kernel_rfl) ?_ _
          have Hnext := jJ0 F7.out.2
          clear c7' z7' F7 F6 c5 c5a
          go_wp2
          go_roundw
          case rel => exact ⟨k + 1, by go_num, acc ++ [⟨(kk : Int), nm⟩], A7, c7, s6, Hnext.out, by rw [List.length_append, HK.out]; rfl, by omega, by rw [Hgo.out, show c - (k + 1) = q by have := Hm.out; omega]⟩
          case measure => simp [intOf]; omega
        · refine Tryz.st_hap1 rfl (.tmp 33) rfl ⟨(kk : Int), nm⟩ rfl ?_
          refine hK.out _ _ trivial (fun hHeld => ?_)
          clear hK K
          simp only [Act.put, List.setIfInBounds_toArray, List.set_cons_zero, List.set_cons_succ] at *
          refine je 4 rfl (by kernel_rfl) (fun K hK => ?_)
          go_simp
          refine hK.out _ _ trivial (fun hHeld => ?_)
          clear hK K
          refine je 10 rfl (by kernel_rfl) (fun K hK => ?_)
          refine jZ _ rfl (.tmp 29) (.tmp 34) 38 rfl w.heap.size 105 i0 _ 2 24 Tryz.underlying38 hi hz0 hz1 hz2 rfl (by decide) (.slice hA k hC) k _ rfl (HoH.out.alloc _) _ 1 1 (MHap.cells ⟨(kk : Int), nm⟩) rfl (Rd.row_new _ _ 2 1 _ rfl) (MHap.one _) H63.out H47.out (Nat.le_trans F6.out.kp.size (by simp)) ?_
          intro A7 c7 w7 hown hgrow hat
          have F7 := jJ0 (F6.out.grow (x := ⟨(kk : Int), nm⟩) HK.out HoA.out (by have := Hws.out; simp only; omega) hown hgrow)
          have c7' := F7.out.1.1
          have z7' := F7.out.1.2
          refine hK.out _ _ trivial (fun hHeld => ?_)
          clear hK K hown hgrow hat
          simp only [Act.put, List.setIfInBounds_toArray, List.set_cons_zero, List.set_cons_succ] at *
          refine' jJ 11 rfl rfl (by kernel_rfl) (by kernel_rfl) (by kernel_rfl) (fun _ _ _ h => h) rfl hHeld (fun w hSw => ?_) ?_
          rotate_left
          · ((try dsimp only at hSw); go_simp <;> with_reducible rfl)
          simp only [Act.put, List.setIfInBounds_toArray, List.set_cons_zero, List.set_cons_succ]
          refine' jJ 12 rfl rfl (by kernel_rfl) (by kernel_rfl) (by kernel_rfl) (fun _ _ _ h => h) rfl hHeld (fun w hSw => ?_) ?_
          rotate_left
          · ((try dsimp only at hSw); go_simp <;> with_reducible rfl)
          simp only [Act.put, List.setIfInBounds_toArray, List.set_cons_zero, List.set_cons_succ]
          refine je 13 rfl (by kernel_rfl) (fun K hK => ?_)
          go_simp
          refine hK.out _ _ trivial (fun hHeld => ?_)
          clear hK K
          refine wpAnyH_done (by kernel_rfl) ?_ _
          have Hnext := jJ0 F7.out.2
          clear c7' z7' F7 F6 c5 c5a
          go_wp2
          go_roundw
          case rel => exact ⟨k + 1, by go_num, acc ++ [⟨(kk : Int), nm⟩], A7, c7, s6, Hnext.out, by rw [List.length_append, HK.out]; rfl, by omega, by rw [Hgo.out, show c - (k + 1) = q by have := Hm.out; omega]⟩
          case measure => simp [intOf]; omega
    · obtain rfl : k = c := by omega
      have Hfin := jJ0 (show TV = some ({ zeroRep with number := n, hap := acc }, s) by rw [HT.out, Hgo.out, Nat.sub_self]; rfl)
      have Hok := jJ0 (show MReply.Ok wr (fun k => k < w.heap.size) { zeroMR with number := n, hap := acc, hA := hA, hC := hC } from by
        have Z := jM wr (fun k => k < w.heap.size)
        exact ⟨Rd.of_own HS.out.own, own_av HS.out.own, ⟨HS.out.small, by have := HK.out; show acc.length <= _; omega⟩, Z.case_, Z.raw, Z.note, Z.hd, Z.inc, Z.con, Z.idx, Z.rdI, Z.avI, Z.pie⟩)
      go_wp2
      go_ret
      exact ⟨.inl ⟨_, s, by rw [Hfin.out]; rfl, rfl, HS.out.blk, Hok.out, HS.out.rr⟩, HS.out.kp⟩
end Go.Proofs.YtnaolhjbapgjgaaGreat

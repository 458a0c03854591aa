import Derived.Test.YtmmjcbbogokmfaaGreatDoorMt01
import Derived.Test.YtmmjcbbogokmfaaGreatDoorMt47
import Derived.Deep.CutBlock
import Derived.Deep.DeepCutAuto
set_option maxRecDepth 100000
set_option maxHeartbeats 25600000
namespace Go.Proofs.YtmmjcbbogokmfaaGreatDoor
open Go.RowKit
def ownL : List UInt8 := [9, 10, 32, 123, 125, 40, 41, 44, 59, 58, 61, 33, 60, 62, 43, 45, 42, 47, 37, 35, 34, 92, 48, 49, 55, 57, 95, 97, 98, 99, 100, 101, 102, 103, 105, 108, 109, 110, 111, 112, 114, 115, 116, 117, 119, 120, 122]
theorem own_row {w W : World} {g : Nat} {T : TypeId} (u : Value) (h : W = w.alloc (.cells #[u] T)) (hg : g <= w.heap.size) : W.ownsRow g T 1 (.slice (some ⟨w.heap.size, 0, none⟩) 1 1) 1 [u] := by
  subst h
  exact ⟨rfl, .inr ⟨w.heap.size, 1, #[u], rfl, hg, heap_alloc_new w _, Nat.le_refl _, by unfold maxLen; omega, by simp, by simp⟩⟩
theorem take_two {P : Program} {l : List Oper} {Q : Exit -> Act -> World -> Prop} {S : World -> Prop} {md : Region.Mode} (i j : Nat) {oi oj : Oper} {fuel : Nat} {listed : Array Bool} {a : Act} {w : World} (hi : nth l i = some oi) (hj : nth l j = some oj) (hr : Region.ready md l.toArray listed = [i, j])
    (h : ∀ K' : Act -> World -> Prop, Shut (∀ a w, S w -> (S w -> wpAnyH P md l.toArray Q S fuel (listed.setIfInBounds i true) a w) -> K' a w) -> if Region.wanted oi (yielded l.toArray a.tmps) = true then Oper.wp P oi a w K' Q else K' (a.put oi.dst undef) w)
    (h2 : ∀ K' : Act -> World -> Prop, Shut (∀ a w, S w -> (S w -> wpAnyH P md l.toArray Q S fuel (listed.setIfInBounds j true) a w) -> K' a w) -> if Region.wanted oj (yielded l.toArray a.tmps) = true then Oper.wp P oj a w K' Q else K' (a.put oj.dst undef) w) :
    wpAnyH P md l.toArray Q S (fuel + 1) listed a w :=
  wpAnyH_ready hr (by simp) (AllReadyH.cons ((nth_eq l i).symm.trans hi) h (AllReadyH.cons ((nth_eq l j).symm.trans hj) h2 AllReadyH.nil))
theorem je {w w' : World} {p : Addr} {v : Value} (h : w.cell? p = some v) (ho : Old w w') : w'.cell? p = some v :=
  (World.cell?_of_block (ho.block p.block (jk h) (fun f => f))).trans h
theorem one_beside (w : World) (o : Obj) (T : TypeId) (u : Value) : Rd ((w.alloc o).alloc (.cells #[u] T)) 1 (some ⟨w.heap.size + 1, 0, none⟩) 1 [u] := by
  have h := Rd.one_new (w.alloc o) T u
  have e : (w.alloc o).heap.size = w.heap.size + 1 := Array.size_push ..
  rw [e] at h
  exact h
theorem short9_any (w : World) (hg : Sg w) (h8 : 8 <= w.heap.size) (B : Option Addr) (d : Nat) (l : List UInt8) (hr : Rd w 1 B l.length (l.map bv)) (hl : l.length <= 100000000) (x : UInt8) : Calls Tryz.prog 6 #[.slice B l.length d, bv x] w fun e w' => e = .returned (.bool true) /\ Old w w' := by
  obtain ⟨i0, hi, hz0, hz1, hz2⟩ := info_parts Tryz.infoB
  have Hr := jJ0 hr
  have Hone := jJ0 (one_bytes l)
  have J63 := jJ0 (show 0 + l.length <= maxLen by unfold maxLen; omega)
  have J47 := jJ0 (show (0 + l.length) * 1 <= 140737488355328 by omega)
  have HSg := jJ0 (fun W (hO : Old w W) => (show Sg W /\ 8 <= W.heap.size from ⟨hg.old hO, Nat.le_trans h8 hO.size⟩))
  have HK := jJ0 (fun W (hO : Old w W) => known_any W (hg.old hO) (Nat.le_trans h8 hO.size))
  have Hl := jJ0 hl
  clear hg h8 hr
  unfold bv
  go_enter Tryz.func6, Tryz.ntmps6
  go_upto_if 23 with (first | (at_builtin; refine jF _ rfl (.const (.slice none 0 0)) (.tmp 19) 33 rfl w.heap.size 5 i0 (.int .u8 0) 1 1 Tryz.underlying33 hi hz0 hz1 hz2 rfl (by decide) (.slice none 0 0) 0 [] rfl (World.ownsRow_nil _ _ _ _) B l.length d (l.map bv) rfl Hr.out Hone.out J63.out J47.out (Nat.le_refl _) ?_; intro Ab cb wa hown hgrow hat; rw [Nat.zero_add, List.nil_append] at hown; rw [Nat.zero_add]; have HOwn := jJ0 hown; have HO1 := jJ0 (Kp.grown (Kp.refl _ _) hgrow (fun _ e _ => by cases e) : Old w wa); have HCap := jJ0 (own_cap hown); have hsl := fun (h : 59999 <= cb) W => cut_h (P := Tryz.prog) Tryz.elemB Tryz.sizeEB Ab l.length cb 59999 .i64 59999 rfl h W; clear hown hgrow hat) | fail)
  go_cut [5] (fun v wx => ∃ A n c, ∃ bl : List UInt8, v = .slice A n c /\ n <= 59999 /\ bl.length = n /\ Rd wx 1 A n (bl.map bv) /\ Old w wx)
  case first =>
    by_cases hx : l.length <= 59999
    · have b1 : ¬ (59999 : Int) < (l.length : Int) := by omega
      go_wp2_with fail
      go_meet
      case rel => exact ⟨_, _, _, l, rfl, hx, rfl, Rd.of_own HOwn.out, HO1.out⟩
    · have b1 : (59999 : Int) < (l.length : Int) := by omega
      have hs2 := hsl (by have := HCap.out; omega)
      go_wp2_with fail
      go_meet
      case rel => exact ⟨_, _, _, l.take 59999, rfl, Nat.le_refl _, by rw [List.length_take]; omega, take_rd (Rd.of_own HOwn.out) (by omega), HO1.out⟩
  case rest =>
    obtain ⟨A, n, c, bl, rfl, hn, hbl, hrb, hO⟩ := hcut
    subst hbl
    have HO := jJ0 hO
    have HRb := jJ0 hrb
    have Hn := jJ0 hn
    have HP := jJ0 (fun W (hO : Old wc W) A c (hx : Rd W 1 A bl.length (bl.map bv)) => par9_any W (HSg.out W (HO.out.trans hO (fun _ _ e => e))).1 (HSg.out W (HO.out.trans hO (fun _ _ e => e))).2 A bl.length c bl hx)
    have HF := jJ0 (fun W (hO : Old wc W) A c (hx : Rd W 1 A bl.length (bl.map bv)) => fin9_any W (HSg.out W (HO.out.trans hO (fun _ _ e => e))).1 (HSg.out W (HO.out.trans hO (fun _ _ e => e))).2 A bl.length c bl hx)
    unfold FinW at HF
    unfold ParW at HP
    cases hk : finK bl with
    | false =>
      obtain ⟨e1, e2, e3⟩ := short_no (by omega) hk
      rw [hk, e1] at HF
      rw [e2] at HP
      generalize parAt bl = pa at *
      have b2 : (pa : Int) < (bl.length : Int) := by omega
      clear hO hrb hn hk e1 e2 e3
      go_wp2_with (first | (go_at_call 12; refine (HK.out _ HO4.out).mono ?_; rintro e wk ⟨rfl, ho⟩; have HOK := jJ0 (HO4.out.trans ho (fun _ _ e => e)); clear ho) | (go_at_call 26; refine (HP.out _ HO3.out _ _ (HRb.out.old HO3.out)).mono ?_; rintro e w4 ⟨nm, ta, aA, an, ac, gA, gn, gc, mA, mn, mc, pA, pn, pc, nA, nn, nc, oA, on, oc, rfl, ho⟩; have HO4 := jJ0 ((HO.out.trans (HO3.out.trans ho (fun _ _ e => e)) (fun _ _ e => e)).alloc (.cells #[.string nm, .int .i64 ta, .slice aA an ac, .slice gA gn gc, .slice mA mn mc, .slice pA pn pc, .slice nA nn nc, .slice oA on oc] 29)); clear ho) | (go_at_call 27; refine (HF.out _ (Kp.refl _ _) _ _ HRb.out).mono ?_; rintro e w3 ⟨A3, c3, rfl, hx, hn3, ho⟩; have HO3 := jJ0 ho; clear ho hx hn3) | fail)
      go_ret
      exact ⟨rfl, HOK.out⟩
    | true =>
      have hE9 := finB_len bl
      have HMore := jJ0 (short_more Hn.out hk)
      have HEnd := jJ0 (short_end (show bl.length <= 60000 by omega) hk)
      rw [hk] at HF
      obtain ⟨E, hE⟩ : ∃ E, finB bl = E := ⟨_, rfl⟩
      rw [hE] at HF HMore HEnd hE9
      have HE9 := jJ0 hE9
      have e48 : (47 : Nat) + 1 = 48 := rfl
      have M63 := jJ0 (show 47 + 1 <= maxLen by unfold maxLen; omega)
      have M47 := jJ0 (show 47 + 1 <= 140737488355328 by omega)
      clear hO hrb hn hE9
      go_wp2_with (first | (at_builtin; refine wpList_full_any _ rfl (.tmp 57) (.tmp 59) 33 rfl w.heap.size 5 i0 Tryz.underlying33 hi hz0 hz1 hz2 ⟨w3.heap.size, 0, none⟩ 47 (ownL.map bv) rfl (HR0.out.alloc _) ⟨w3.heap.size + 1, 0, none⟩ 1 1 [bv x] rfl (one_beside _ _ _ _) (by decide) M63.out M47.out (Nat.le_trans HO3.out.size (((Kp.refl NoX _).alloc _).alloc _).size) ?_; intro Ao co wo hown hof; have HOo := jJ0 ((((HO3.out.alloc _).alloc _).trans hof (fun _ _ e => e)) : Old w wo); have HRo := jJ0 (Rd.of_own hown); have O3o := jJ0 ((((Kp.refl NoX w3).alloc _).alloc _).trans hof (fun _ _ e => e) : Old w3 wo); clear hown hof) | (go_at_call 27; refine (HF.out _ (Kp.refl _ _) _ _ HRb.out).mono ?_; rintro e w3 ⟨A3, c3, rfl, hx, hn3, ho⟩; have HO3 := jJ0 (HO.out.trans ho (fun _ _ e => e)); have HRb3 := jJ0 (HRb.out.old ho); have HX3 := jJ0 hx; have hc0 := Lib.run_convert_bytes_const (P := Tryz.prog) w3 33 5 #[.int .u8 9, .int .u8 10, .int .u8 32, .int .u8 123, .int .u8 125, .int .u8 40, .int .u8 41, .int .u8 44, .int .u8 59, .int .u8 58, .int .u8 61, .int .u8 33, .int .u8 60, .int .u8 62, .int .u8 43, .int .u8 45, .int .u8 42, .int .u8 47, .int .u8 37, .int .u8 35, .int .u8 34, .int .u8 92, .int .u8 48, .int .u8 49, .int .u8 55, .int .u8 57, .int .u8 95, .int .u8 97, .int .u8 98, .int .u8 99, .int .u8 100, .int .u8 101, .int .u8 102, .int .u8 103, .int .u8 105, .int .u8 108, .int .u8 109, .int .u8 110, .int .u8 111, .int .u8 112, .int .u8 114, .int .u8 115, .int .u8 116, .int .u8 117, .int .u8 119, .int .u8 120, .int .u8 122] 47 47 Tryz.underlying33 Tryz.underlying5; have HR0 := jJ0 (rd_new w3 5 (47, 48) (ownL.map bv) 47 rfl); clear ho hx hn3) | fail)
      -- LOOP
      have HRy := jJ0 (show Rd wo 1 Ao 48 ((ownL ++ [x]).map bv) by rw [List.map_append]; exact HRo.out)
      obtain ⟨bo, oo, rfl, hcells⟩ := HRy.out.2 (by decide)
      have HC := jJ0 hcells
      have HRbo := jJ0 (HRb3.out.old O3o.out)
      have HXo := jJ0 (HX3.out.old O3o.out)
      have J63 := jJ0 (show 0 + bl.length <= maxLen by have := Hn.out; unfold maxLen; omega)
      have J47 := jJ0 (show (0 + bl.length) * 1 <= 140737488355328 by have := Hn.out; omega)
      have Hob := jJ0 (one_bytes bl)
      have HoE := jJ0 (one_bytes E)
      have N63 := jJ0 (show bl.length + E.length <= maxLen by have := Hn.out; have := HE9.out; unfold maxLen; omega)
      have N47 := jJ0 (show (bl.length + E.length) * 1 <= 140737488355328 by have := Hn.out; have := HE9.out; omega)
      clear hcells HRy HRo HRb3 HX3 HF HP HR0 hc0 hsl HCap HO1 HOwn Hone Hr HO M63 M47 e48 O3o HO3
      obtain ⟨n3, hn3⟩ : ∃ n, E.length = n := ⟨_, rfl⟩
      rw [hn3] at HXo HMore HE9 N63 N47 ⊢
      have Hn3 := jJ0 hn3
      clear hn3
      go_loopw [12] (fun i wr => ∃ j : Nat, j <= 48 /\ i = .int .i64 (j : Int) /\ Old wo wr) (fun i _ => 48 - (intOf i).toNat)
      case atStart => exact ⟨0, by omega, rfl, Kp.refl _ _⟩
      case round =>
        obtain ⟨j, hj, rfl, hrel⟩ := hrel
        have HR := jJ0 hrel
        clear hrel
        by_cases hjn : j < 48
        · obtain ⟨y, hy⟩ : ∃ y, (ownL ++ [x])[j]? = some y := ⟨_, List.getElem?_eq_getElem (by rw [List.length_append]; exact hjn)⟩
          have HCy := jJ0 (HC.out j (bv y) (by rw [List.getElem?_map, hy]; rfl))
          clear hy
          have HMy := jJ0 (HMore.out y)
          have HFy := jJ0 (fun W (hO : Old wo W) A c (hx : Rd W 1 A (bl ++ [y]).length ((bl ++ [y]).map bv)) => fin9_any W (HSg.out W (HOo.out.trans hO (fun _ _ e => e))).1 (HSg.out W (HOo.out.trans hO (fun _ _ e => e))).2 A (bl ++ [y]).length c (bl ++ [y]) hx)
          unfold FinW at HFy
          have HF9 := jJ0 (finB_len (bl ++ [y]))
          obtain ⟨F, hF⟩ : ∃ F, finB (bl ++ [y]) = F := ⟨_, rfl⟩
          obtain ⟨k, hk⟩ : ∃ k, finK (bl ++ [y]) = k := ⟨_, rfl⟩
          rw [hF] at HMy HFy HF9
          obtain ⟨nF, hnF⟩ : ∃ n, F.length = n := ⟨_, rfl⟩
          rw [hnF] at HFy HF9
          have HnF := jJ0 hnF
          have HYF := jJ0 (show (y :: F).length = 1 + nF by rw [List.length_cons, hnF, Nat.add_comm])
          rw [HYF.out] at HMy
          clear hnF
          rw [hk] at HMy HFy
          clear hF hk
          have g1 : (0 : Int) <= (j : Int) := by omega
          have g2 : (j : Int) < (48 : Int) := by omega
          have g3 : (j : Int).toNat = j := by omega
          have g4 : IntKind.i64.wrap ((j : Int) + 1) = (j : Int) + 1 := IntWalk.i64_in _ (by omega)
          have L63 := jJ0 (show bl.length + 1 <= maxLen by have := Hn.out; unfold maxLen; omega)
          have L47 := jJ0 (show (bl.length + 1) * 1 <= 140737488355328 by have := Hn.out; omega)
          have eL : (bl ++ [y]).length = bl.length + 1 := by rw [List.length_append, List.length_singleton]
          rw [eL] at HFy
          have HCW := jJ0 (fun W (hO : Old wo W) => (show W.cell? ⟨bo, oo + j, none⟩ = some (.int .u8 (y.toNat : Int)) from je HCy.out hO))
          clear HMore HK eL HC HEnd HCy N63 N47 HoE HSg
          go_upto_region 13 with (fail)
          go_cut [13, 14] from 61 to 141 (fun v ok wx => ∃ A5 c5, v = .slice A5 nF c5 /\ ok = .bool k /\ Rd wx 1 A5 nF (F.map bv) /\ Old wo wx)
          case first =>
            refine kn (S := fun W => Old wo W) 14 rfl (by kernel_rfl) HR.out.drew (fun hHeld => ?_)
            refine tkn_as (ls' := ([false, false, false, false, false, false, false, false, false, false, false, false, false, false] : List Bool).toArray) rfl ?_
            refine' jL 0 rfl rfl (by kernel_rfl) (fun _ _ _ h => h) rfl hHeld (fun w' hSw => ?_) ?_; rotate_left; (skip; clear hSw; go_simp <;> with_reducible rfl); simp only [Act.put, List.setIfInBounds_toArray, List.set_cons_zero, List.set_cons_succ]
            refine' jL 2 rfl rfl (by kernel_rfl) (fun _ _ _ h => h) rfl hHeld (fun w' hSw => ?_) ?_; rotate_left; (skip; clear hSw; go_simp <;> with_reducible rfl); simp only [Act.put, List.setIfInBounds_toArray, List.set_cons_zero, List.set_cons_succ]
            refine' jL 3 rfl rfl (by kernel_rfl) (fun _ _ _ h => h) rfl hHeld (fun w' hSw => ?_) ?_; rotate_left; (skip; clear hSw; go_simp <;> with_reducible rfl); simp only [Act.put, List.setIfInBounds_toArray, List.set_cons_zero, List.set_cons_succ]
            refine' jL 4 rfl rfl (by kernel_rfl) (fun _ _ _ h => h) rfl hHeld (fun w' hSw => ?_) ?_; rotate_left; (skip; clear hSw; go_simp <;> with_reducible rfl); simp only [Act.put, List.setIfInBounds_toArray, List.set_cons_zero, List.set_cons_succ]
            refine' jL 5 rfl rfl (by kernel_rfl) (fun _ _ _ h => h) rfl hHeld (fun w' hSw => ?_) ?_; rotate_left; (have c1 := HCW.out _ hSw; clear hSw; go_simp <;> with_reducible rfl); simp only [Act.put, List.setIfInBounds_toArray, List.set_cons_zero, List.set_cons_succ]
            have HD := jJ0 hHeld
            generalize wr.drew = wd at *
            refine take_two 1 6 rfl rfl (by kernel_rfl) (fun K hK => ?_) (fun K hK => ?_)
            · refine ju _ rfl (.const (.slice none 0 0)) (.tmp 68) 33 rfl wo.heap.size 5 i0 (.int .u8 0) 1 1 Tryz.underlying33 hi hz0 hz1 hz2 rfl (by decide) (.slice none 0 0) 0 [] rfl (World.ownsRow_nil _ _ _ _) A bl.length c (bl.map bv) rfl (HRbo.out.old HD.out) Hob.out J63.out J47.out HD.out.size ?_
              intro A1 c1 w1 hown hgrow hat
              rw [Nat.zero_add, List.nil_append] at hown
              rw [Nat.zero_add]
              have H1 := jJ0 (Kp.grown HD.out hgrow (fun _ e _ => by cases e) : Old wo w1)
              have HA1 := jJ0 (hown.alloc (.cells #[bv y] 5))
              have HN1 := jJ0 (Rd.one_new w1 5 (bv y))
              clear hown hgrow hat
              refine hK.out _ _ H1.out (fun hHeld => ?_)
              clear hK K
              simp only [Act.put, List.setIfInBounds_toArray, List.set_cons_zero, List.set_cons_succ]
              refine js 6 rfl (by kernel_rfl) (fun K hK => ?_)
              go_simp
              have H2 := jJ0 (H1.out.alloc (.cells #[bv y] 5))
              refine hK.out _ _ H2.out (fun hHeld => ?_)
              clear hK K
              simp only [List.setIfInBounds_toArray, List.set_cons_zero, List.set_cons_succ]
              refine js 7 rfl (by kernel_rfl) (fun K hK => ?_)
              refine ju _ rfl (.tmp 69) (.tmp 74) 33 rfl wo.heap.size 5 i0 (.int .u8 0) 1 1 Tryz.underlying33 hi hz0 hz1 hz2 rfl (by decide) (.slice A1 bl.length c1) bl.length (bl.map bv) rfl HA1.out (some ⟨w1.heap.size, 0, none⟩) 1 1 [bv y] rfl HN1.out (kL _ rfl) L63.out L47.out H2.out.size ?_
              intro A2 c2 w3' hown hgrow hat
              have H3 := jJ0 (Kp.grown H2.out hgrow (fun k e hk => absurd (HA1.out.lt k e).1 (by omega)) : Old wo w3')
              have HA2 := jJ0 (show Rd w3' 1 A2 (bl.length + 1) ((bl ++ [y]).map bv) by rw [List.map_append]; exact Rd.of_own hown)
              clear hown hgrow hat
              refine hK.out _ _ H3.out (fun hHeld => ?_)
              clear hK K
              simp only [Act.put, List.setIfInBounds_toArray, List.set_cons_zero, List.set_cons_succ]
              refine js 8 rfl (by kernel_rfl) (fun K hK => ?_)
              go_simp
              go_at_call 27
              refine (HFy.out _ H3.out _ _ HA2.out).mono ?_
              rintro e w5 ⟨A5, c5, rfl, hx5, -, ho5⟩
              have H5 := jJ0 (H3.out.trans ho5 (fun _ _ e => e))
              have HX5 := jJ0 hx5
              clear hx5 ho5
              go_simp
              refine hK.out _ _ H5.out (fun hHeld => ?_)
              clear hK K
              simp only [List.setIfInBounds_toArray, List.set_cons_zero, List.set_cons_succ]
              refine' jL 9 rfl rfl (by kernel_rfl) (fun _ _ _ h => h) rfl hHeld (fun w' hSw => ?_) ?_; rotate_left; (skip; clear hSw; go_simp <;> with_reducible rfl); simp only [Act.put, List.setIfInBounds_toArray, List.set_cons_zero, List.set_cons_succ]
              refine' jL 10 rfl rfl (by kernel_rfl) (fun _ _ _ h => h) rfl hHeld (fun w' hSw => ?_) ?_; rotate_left; (skip; clear hSw; go_simp <;> with_reducible rfl); simp only [Act.put, List.setIfInBounds_toArray, List.set_cons_zero, List.set_cons_succ]
              refine' jL 11 rfl rfl (by kernel_rfl) (fun _ _ _ h => h) rfl hHeld (fun w' hSw => ?_) ?_; rotate_left; (skip; clear hSw; go_simp <;> with_reducible rfl); simp only [Act.put, List.setIfInBounds_toArray, List.set_cons_zero, List.set_cons_succ]
              refine' jL 12 rfl rfl (by kernel_rfl) (fun _ _ _ h => h) rfl hHeld (fun w' hSw => ?_) ?_; rotate_left; (skip; clear hSw; go_simp <;> with_reducible rfl); simp only [Act.put, List.setIfInBounds_toArray, List.set_cons_zero, List.set_cons_succ]
              refine' jL 13 rfl rfl (by kernel_rfl) (fun _ _ _ h => h) rfl hHeld (fun w' hSw => ?_) ?_; rotate_left; (skip; clear hSw; go_simp <;> with_reducible rfl); simp only [Act.put, List.setIfInBounds_toArray, List.set_cons_zero, List.set_cons_succ]
              refine wpAnyH_done (by kernel_rfl) ?_ _
              go_wp2_with fail
              go_meet
              case rel => exact ⟨_, _, rfl, rfl, HX5.out, H5.out⟩
            · go_simp
              have H1 := jJ0 (HD.out.alloc (.cells #[bv y] 5))
              have HN0 := jJ0 (Rd.one_new wd 5 (bv y))
              refine hK.out _ _ H1.out (fun hHeld => ?_)
              clear hK K
              simp only [List.setIfInBounds_toArray, List.set_cons_zero, List.set_cons_succ]
              refine js 1 rfl (by kernel_rfl) (fun K hK => ?_)
              refine ju _ rfl (.const (.slice none 0 0)) (.tmp 68) 33 rfl wo.heap.size 5 i0 (.int .u8 0) 1 1 Tryz.underlying33 hi hz0 hz1 hz2 rfl (by decide) (.slice none 0 0) 0 [] rfl (World.ownsRow_nil _ _ _ _) A bl.length c (bl.map bv) rfl (HRbo.out.old H1.out) Hob.out J63.out J47.out H1.out.size ?_
              intro A1 c1 w1 hown hgrow hat
              rw [Nat.zero_add, List.nil_append] at hown
              rw [Nat.zero_add]
              have H2 := jJ0 (Kp.grown H1.out hgrow (fun _ e _ => by cases e) : Old wo w1)
              have HN1 := jJ0 (HN0.out.old (Kp.grown (Kp.refl NoX _) hgrow (fun _ e _ => by cases e)))
              have HA1 := jJ0 hown
              clear hown hgrow hat
              refine hK.out _ _ H2.out (fun hHeld => ?_)
              clear hK K
              simp only [Act.put, List.setIfInBounds_toArray, List.set_cons_zero, List.set_cons_succ]
              refine js 7 rfl (by kernel_rfl) (fun K hK => ?_)
              refine ju _ rfl (.tmp 69) (.tmp 74) 33 rfl wo.heap.size 5 i0 (.int .u8 0) 1 1 Tryz.underlying33 hi hz0 hz1 hz2 rfl (by decide) (.slice A1 bl.length c1) bl.length (bl.map bv) rfl HA1.out (some ⟨wd.heap.size, 0, none⟩) 1 1 [bv y] rfl HN1.out (kL _ rfl) L63.out L47.out H2.out.size ?_
              intro A2 c2 w3' hown hgrow hat
              have H3 := jJ0 (Kp.grown H2.out hgrow (fun k e hk => absurd (HA1.out.lt k e).1 (by omega)) : Old wo w3')
              have HA2 := jJ0 (show Rd w3' 1 A2 (bl.length + 1) ((bl ++ [y]).map bv) by rw [List.map_append]; exact Rd.of_own hown)
              clear hown hgrow hat
              refine hK.out _ _ H3.out (fun hHeld => ?_)
              clear hK K
              simp only [Act.put, List.setIfInBounds_toArray, List.set_cons_zero, List.set_cons_succ]
              refine js 8 rfl (by kernel_rfl) (fun K hK => ?_)
              go_simp
              go_at_call 27
              refine (HFy.out _ H3.out _ _ HA2.out).mono ?_
              rintro e w5 ⟨A5, c5, rfl, hx5, -, ho5⟩
              have H5 := jJ0 (H3.out.trans ho5 (fun _ _ e => e))
              have HX5 := jJ0 hx5
              clear hx5 ho5
              go_simp
              refine hK.out _ _ H5.out (fun hHeld => ?_)
              clear hK K
              simp only [List.setIfInBounds_toArray, List.set_cons_zero, List.set_cons_succ]
              refine' jL 9 rfl rfl (by kernel_rfl) (fun _ _ _ h => h) rfl hHeld (fun w' hSw => ?_) ?_; rotate_left; (skip; clear hSw; go_simp <;> with_reducible rfl); simp only [Act.put, List.setIfInBounds_toArray, List.set_cons_zero, List.set_cons_succ]
              refine' jL 10 rfl rfl (by kernel_rfl) (fun _ _ _ h => h) rfl hHeld (fun w' hSw => ?_) ?_; rotate_left; (skip; clear hSw; go_simp <;> with_reducible rfl); simp only [Act.put, List.setIfInBounds_toArray, List.set_cons_zero, List.set_cons_succ]
              refine' jL 11 rfl rfl (by kernel_rfl) (fun _ _ _ h => h) rfl hHeld (fun w' hSw => ?_) ?_; rotate_left; (skip; clear hSw; go_simp <;> with_reducible rfl); simp only [Act.put, List.setIfInBounds_toArray, List.set_cons_zero, List.set_cons_succ]
              refine' jL 12 rfl rfl (by kernel_rfl) (fun _ _ _ h => h) rfl hHeld (fun w' hSw => ?_) ?_; rotate_left; (skip; clear hSw; go_simp <;> with_reducible rfl); simp only [Act.put, List.setIfInBounds_toArray, List.set_cons_zero, List.set_cons_succ]
              refine' jL 13 rfl rfl (by kernel_rfl) (fun _ _ _ h => h) rfl hHeld (fun w' hSw => ?_) ?_; rotate_left; (skip; clear hSw; go_simp <;> with_reducible rfl); simp only [Act.put, List.setIfInBounds_toArray, List.set_cons_zero, List.set_cons_succ]
              refine wpAnyH_done (by kernel_rfl) ?_ _
              go_wp2_with fail
              go_meet
              case rel => exact ⟨_, _, rfl, rfl, HX5.out, H5.out⟩
          case rest =>
            obtain ⟨A5, c5, rfl, rfl, hx5, hO5⟩ := hcut
            have HX5 := jJ0 hx5
            have H5 := jJ0 hO5
            have hF9 := HF9.out
            have hE9 := HE9.out
            have HoF := jJ0 (one_bytes F)
            have F63 := jJ0 (show 1 + nF <= maxLen by unfold maxLen; omega)
            have F47 := jJ0 (show (1 + nF) * 1 <= 140737488355328 by omega)
            have c5y := HCW.out _ H5.out
            clear hx5 hO5 HFy HR HRb HRbo HOo Hn HE9 HF9 hjn hj
            cases k with
            | false =>
              obtain ⟨rfl, hne⟩ := HMy.out.1 rfl
              obtain rfl : 0 = nF := HnF.out
              clear HMy
              cases E with
              | nil =>
                have f0 : n3 = 0 := Hn3.out.symm
                have f1 : decide (0 < n3) = false := decide_eq_false (by omega)
                have f2 : ¬ (0 : Int) < (n3 : Int) := by omega
                clear f0
                go_wp2
                go_quiet (fail)
                go_wp2
                go_roundw
                case rel => exact ⟨j + 1, by omega, by rw [show ((j + 1 : Nat) : Int) = (j : Int) + 1 by omega], H5.out.drewN _⟩
                case measure => simp only [intOf]; omega
              | cons e0 E1 =>
                have hye : ¬ (y.toNat : Int) = (e0.toNat : Int) := fun e => hne (by rw [UInt8.toNat_inj.1 (show y.toNat = e0.toNat by omega)]; rfl)
                have f2n : 0 < n3 := by have := Hn3.out; rw [List.length_cons] at this; omega
                have f1 : decide (0 < n3) = true := decide_eq_true f2n
                have f2 : (0 : Int) < (n3 : Int) := by omega
                obtain ⟨b3, o3, rfl, hc3⟩ := HXo.out.2 (by omega)
                have HCe := jJ0 (show wo.cell? ⟨b3, o3, none⟩ = some (.int .u8 (e0.toNat : Int)) from hc3 0 (bv e0) rfl)
                have c3a := je HCe.out H5.out
                clear hc3
                have f3 : ((y.toNat : Int) == (e0.toNat : Int)) = false := beq_eq_false_iff_ne.2 hye
                go_wp2
                go_quiet (fail)
                go_wp2
                go_roundw
                case rel => exact ⟨j + 1, by omega, by rw [show ((j + 1 : Nat) : Int) = (j : Int) + 1 by omega], H5.out.drewN _⟩
                case measure => simp only [intOf]; omega
            | true =>
              obtain ⟨q1, q2, q3⟩ := HMy.out.2 rfl
              clear HMy
              cases E with
              | nil =>
                have f0 : n3 = 0 := Hn3.out.symm
                have f1 : decide (0 < n3) = false := decide_eq_false (by omega)
                have f2 : ¬ (0 : Int) < (n3 : Int) := by omega
                clear f0
                have l1 : ¬ ((1 + nF : Nat) : Int) < (n3 : Int) := by omega
                have l2 : ¬ ((1 + nF : Nat) : Int) = (n3 : Int) := by omega
                go_wp2_with (first | (at_builtin; refine jF _ rfl (.tmp 103) (.tmp 104) 33 rfl wc.heap.size 5 i0 (.int .u8 0) 1 1 Tryz.underlying33 hi hz0 hz1 hz2 rfl (by decide) (.slice (some ⟨wc.heap.size, 0, none⟩) 1 1) 1 [bv y] rfl (own_row _ rfl (Nat.le_refl _)) A5 nF c5 (F.map bv) rfl (HX5.out.alloc _) HoF.out F63.out F47.out (((Kp.refl NoX wc).alloc _).size) ?_; intro A6 c6 w6 hown hgrow hat; have H6 := jJ0 (H5.out.trans (Kp.grown ((Kp.refl NoX wc).alloc _) hgrow (fun k e hk => by have e1 : wc.heap.size = k := Option.some.inj e; omega)) (fun _ _ e => e) : Old wo w6); have HX6 := jJ0 (show Rd w6 1 A6 (1 + nF) ((y :: F).map bv) from Rd.of_own hown); have c6y := HCW.out _ H6.out; try have c6e := je HCe.out H6.out; clear hown hgrow hat) | fail)
                go_quiet (fail)
                go_wp2
                go_roundw
                case rel => exact ⟨j + 1, by omega, by rw [show ((j + 1 : Nat) : Int) = (j : Int) + 1 by omega], H6.out.drewN _⟩
                case measure => simp only [intOf]; omega
              | cons e0 E1 =>
                have f2n : 0 < n3 := by have := Hn3.out; rw [List.length_cons] at this; omega
                have f1 : decide (0 < n3) = true := decide_eq_true f2n
                have f2 : (0 : Int) < (n3 : Int) := by omega
                obtain ⟨b3, o3, rfl, hc3⟩ := HXo.out.2 (by omega)
                have HCe := jJ0 (show wo.cell? ⟨b3, o3, none⟩ = some (.int .u8 (e0.toNat : Int)) from hc3 0 (bv e0) rfl)
                have c3a := je HCe.out H5.out
                clear hc3
                by_cases hyq : y = e0
                · subst hyq
                  obtain rfl : F = E1 := (List.cons.inj (q3 rfl)).2
                  obtain rfl : 1 + nF = n3 := by rw [<- HYF.out]; exact Hn3.out
                  have q4 := q2 (by omega)
                  have f3 : ((y.toNat : Int) == (y.toNat : Int)) = true := beq_self_eq_true _
                  have HK9 := jJ0 (show 1 + nF <= 9223372036854775807 by omega)
                  clear q1 q2 q3
                  have f4 : (0 : Int) < 1 + (nF : Int) := by omega
                  have f5 : decide ((0 : Int) < 1 + (nF : Int)) = true := decide_eq_true f4
                  go_wp2_with (first | (at_builtin; refine jF _ rfl (.tmp 103) (.tmp 104) 33 rfl wc.heap.size 5 i0 (.int .u8 0) 1 1 Tryz.underlying33 hi hz0 hz1 hz2 rfl (by decide) (.slice (some ⟨wc.heap.size, 0, none⟩) 1 1) 1 [bv y] rfl (own_row _ rfl (Nat.le_refl _)) A5 nF c5 (F.map bv) rfl (HX5.out.alloc _) HoF.out F63.out F47.out (((Kp.refl NoX wc).alloc _).size) ?_; intro A6 c6 w6 hown hgrow hat; have H6 := jJ0 (H5.out.trans (Kp.grown ((Kp.refl NoX wc).alloc _) hgrow (fun k e hk => by have e1 : wc.heap.size = k := Option.some.inj e; omega)) (fun _ _ e => e) : Old wo w6); have HX6 := jJ0 (show Rd w6 1 A6 (1 + nF) ((y :: F).map bv) from Rd.of_own hown); have c6y := HCW.out _ H6.out; try have c6e := je HCe.out H6.out; clear hown hgrow hat) | (go_at_call 28; refine (earlier_any _ _ _ _ _ _ (y :: F) (y :: F) HX6.out (HXo.out.old H6.out) (by omega)).mono ?_; rintro e w7 ⟨rfl, ho7⟩; rw [q4]; have ho7k := jJ0 ho7; have H7 := jJ0 (H6.out.trans ho7 (fun _ _ e => e)); have c7y := HCW.out _ H7.out; have c7e := je HCe.out H7.out; clear ho7) | fail)
                  refine kn (S := fun W => Old wo W) 19 rfl (by kernel_rfl) H7.out.drew (fun hHeld => ?_)
                  refine tkn_as (ls' := ([false, false, false, false, false, false, false, false, false, false, false, false, false, false, false, false, false, false, false] : List Bool).toArray) rfl ?_
                  refine' jL 0 rfl rfl (by kernel_rfl) (fun _ _ _ h => h) rfl hHeld (fun w' hSw => ?_) ?_; rotate_left; (have d1 := HCW.out _ hSw; have d2 := je HCe.out hSw; clear hSw; go_simp <;> with_reducible rfl); simp only [Act.put, List.setIfInBounds_toArray, List.set_cons_zero, List.set_cons_succ]
                  refine' jL 1 rfl rfl (by kernel_rfl) (fun _ _ _ h => h) rfl hHeld (fun w' hSw => ?_) ?_; rotate_left; (have d1 := HCW.out _ hSw; have d2 := je HCe.out hSw; clear hSw; go_simp <;> with_reducible rfl); simp only [Act.put, List.setIfInBounds_toArray, List.set_cons_zero, List.set_cons_succ]
                  refine' jL 2 rfl rfl (by kernel_rfl) (fun _ _ _ h => h) rfl hHeld (fun w' hSw => ?_) ?_; rotate_left; (have d1 := HCW.out _ hSw; have d2 := je HCe.out hSw; clear hSw; go_simp <;> with_reducible rfl); simp only [Act.put, List.setIfInBounds_toArray, List.set_cons_zero, List.set_cons_succ]
                  refine' jL 3 rfl rfl (by kernel_rfl) (fun _ _ _ h => h) rfl hHeld (fun w' hSw => ?_) ?_; rotate_left; (have d1 := HCW.out _ hSw; have d2 := je HCe.out hSw; clear hSw; go_simp <;> with_reducible rfl); simp only [Act.put, List.setIfInBounds_toArray, List.set_cons_zero, List.set_cons_succ]
                  refine' jL 4 rfl rfl (by kernel_rfl) (fun _ _ _ h => h) rfl hHeld (fun w' hSw => ?_) ?_; rotate_left; (have d1 := HCW.out _ hSw; have d2 := je HCe.out hSw; clear hSw; go_simp <;> with_reducible rfl); simp only [Act.put, List.setIfInBounds_toArray, List.set_cons_zero, List.set_cons_succ]
                  refine' jL 5 rfl rfl (by kernel_rfl) (fun _ _ _ h => h) rfl hHeld (fun w' hSw => ?_) ?_; rotate_left; (have d1 := HCW.out _ hSw; have d2 := je HCe.out hSw; clear hSw; go_simp <;> with_reducible rfl); simp only [Act.put, List.setIfInBounds_toArray, List.set_cons_zero, List.set_cons_succ]
                  refine' jL 6 rfl rfl (by kernel_rfl) (fun _ _ _ h => h) rfl hHeld (fun w' hSw => ?_) ?_; rotate_left; (have d1 := HCW.out _ hSw; have d2 := je HCe.out hSw; clear hSw; go_simp <;> with_reducible rfl); simp only [Act.put, List.setIfInBounds_toArray, List.set_cons_zero, List.set_cons_succ]
                  refine' jL 7 rfl rfl (by kernel_rfl) (fun _ _ _ h => h) rfl hHeld (fun w' hSw => ?_) ?_; rotate_left; (have d1 := HCW.out _ hSw; have d2 := je HCe.out hSw; clear hSw; go_simp <;> with_reducible rfl); simp only [Act.put, List.setIfInBounds_toArray, List.set_cons_zero, List.set_cons_succ]
                  refine' jL 8 rfl rfl (by kernel_rfl) (fun _ _ _ h => h) rfl hHeld (fun w' hSw => ?_) ?_; rotate_left; (have d1 := HCW.out _ hSw; have d2 := je HCe.out hSw; clear hSw; go_simp <;> with_reducible rfl); simp only [Act.put, List.setIfInBounds_toArray, List.set_cons_zero, List.set_cons_succ]
                  refine' jL 9 rfl rfl (by kernel_rfl) (fun _ _ _ h => h) rfl hHeld (fun w' hSw => ?_) ?_; rotate_left; (have d1 := HCW.out _ hSw; have d2 := je HCe.out hSw; clear hSw; go_simp <;> with_reducible rfl); simp only [Act.put, List.setIfInBounds_toArray, List.set_cons_zero, List.set_cons_succ]
                  refine' jL 10 rfl rfl (by kernel_rfl) (fun _ _ _ h => h) rfl hHeld (fun w' hSw => ?_) ?_; rotate_left; (have d1 := HCW.out _ hSw; have d2 := je HCe.out hSw; clear hSw; go_simp <;> with_reducible rfl); simp only [Act.put, List.setIfInBounds_toArray, List.set_cons_zero, List.set_cons_succ]
                  refine' jL 11 rfl rfl (by kernel_rfl) (fun _ _ _ h => h) rfl hHeld (fun w' hSw => ?_) ?_; rotate_left; (have d1 := HCW.out _ hSw; have d2 := je HCe.out hSw; clear hSw; go_simp <;> with_reducible rfl); simp only [Act.put, List.setIfInBounds_toArray, List.set_cons_zero, List.set_cons_succ]
                  refine' jL 12 rfl rfl (by kernel_rfl) (fun _ _ _ h => h) rfl hHeld (fun w' hSw => ?_) ?_; rotate_left; (have d1 := HCW.out _ hSw; have d2 := je HCe.out hSw; clear hSw; go_simp <;> with_reducible rfl); simp only [Act.put, List.setIfInBounds_toArray, List.set_cons_zero, List.set_cons_succ]
                  refine' jL 13 rfl rfl (by kernel_rfl) (fun _ _ _ h => h) rfl hHeld (fun w' hSw => ?_) ?_; rotate_left; (have d1 := HCW.out _ hSw; have d2 := je HCe.out hSw; clear hSw; go_simp <;> with_reducible rfl); simp only [Act.put, List.setIfInBounds_toArray, List.set_cons_zero, List.set_cons_succ]
                  refine' jL 14 rfl rfl (by kernel_rfl) (fun _ _ _ h => h) rfl hHeld (fun w' hSw => ?_) ?_; rotate_left; (have d1 := HCW.out _ hSw; have d2 := je HCe.out hSw; clear hSw; go_simp <;> with_reducible rfl); simp only [Act.put, List.setIfInBounds_toArray, List.set_cons_zero, List.set_cons_succ]
                  refine' jL 15 rfl rfl (by kernel_rfl) (fun _ _ _ h => h) rfl hHeld (fun w' hSw => ?_) ?_; rotate_left; (have d1 := HCW.out _ hSw; have d2 := je HCe.out hSw; clear hSw; go_simp <;> with_reducible rfl); simp only [Act.put, List.setIfInBounds_toArray, List.set_cons_zero, List.set_cons_succ]
                  refine js 16 rfl (by kernel_rfl) (fun K hK => ?_)
                  go_simp
                  go_at_call 16
                  refine (same9_any _ _ _ _ _ _ (y :: F) HYF.out ((HX6.out.old ho7k.out).drew) ((HXo.out.old H7.out).drew) HK9.out).mono ?_
                  rintro e w8 ⟨rfl, ho8⟩
                  have H8 := jJ0 (H7.out.trans (((Kp.refl NoX w7).drew).trans ho8 (fun _ _ e => e)) (fun _ _ e => e))
                  clear ho8
                  go_simp
                  refine hK.out _ _ H8.out (fun hHeld => ?_)
                  clear hK K
                  simp only [List.setIfInBounds_toArray, List.set_cons_zero, List.set_cons_succ]
                  refine' jL 17 rfl rfl (by kernel_rfl) (fun _ _ _ h => h) rfl hHeld (fun w' hSw => ?_) ?_; rotate_left; (clear hSw; go_simp <;> with_reducible rfl); simp only [Act.put, List.setIfInBounds_toArray, List.set_cons_zero, List.set_cons_succ]
                  refine' jL 18 rfl rfl (by kernel_rfl) (fun _ _ _ h => h) rfl hHeld (fun w' hSw => ?_) ?_; rotate_left; (clear hSw; go_simp <;> with_reducible rfl); simp only [Act.put, List.setIfInBounds_toArray, List.set_cons_zero, List.set_cons_succ]
                  refine wpAnyH_done (by kernel_rfl) ?_ _
                  go_wp2
                  go_roundw
                  case rel => exact ⟨j + 1, by omega, by rw [show ((j + 1 : Nat) : Int) = (j : Int) + 1 by omega], H8.out⟩
                  case measure => simp only [intOf]; omega
                · have hye : ¬ (y.toNat : Int) = (e0.toNat : Int) := fun e => hyq (UInt8.toNat_inj.1 (by omega))
                  have f3 : ((y.toNat : Int) == (e0.toNat : Int)) = false := beq_eq_false_iff_ne.2 hye
                  clear q3
                  rcases Nat.lt_or_ge n3 (1 + nF) with hlt | hge
                  · have l1 : ¬ ((1 + nF : Nat) : Int) < (n3 : Int) := by omega
                    have l2 : ¬ ((1 + nF : Nat) : Int) = (n3 : Int) := by omega
                    go_wp2_with (first | (at_builtin; refine jF _ rfl (.tmp 103) (.tmp 104) 33 rfl wc.heap.size 5 i0 (.int .u8 0) 1 1 Tryz.underlying33 hi hz0 hz1 hz2 rfl (by decide) (.slice (some ⟨wc.heap.size, 0, none⟩) 1 1) 1 [bv y] rfl (own_row _ rfl (Nat.le_refl _)) A5 nF c5 (F.map bv) rfl (HX5.out.alloc _) HoF.out F63.out F47.out (((Kp.refl NoX wc).alloc _).size) ?_; intro A6 c6 w6 hown hgrow hat; have H6 := jJ0 (H5.out.trans (Kp.grown ((Kp.refl NoX wc).alloc _) hgrow (fun k e hk => by have e1 : wc.heap.size = k := Option.some.inj e; omega)) (fun _ _ e => e) : Old wo w6); have HX6 := jJ0 (show Rd w6 1 A6 (1 + nF) ((y :: F).map bv) from Rd.of_own hown); have c6y := HCW.out _ H6.out; try have c6e := je HCe.out H6.out; clear hown hgrow hat) | fail)
                    go_quiet (fail)
                    go_wp2
                    go_roundw
                    case rel => exact ⟨j + 1, by omega, by rw [show ((j + 1 : Nat) : Int) = (j : Int) + 1 by omega], H6.out.drewN _⟩
                    case measure => simp only [intOf]; omega
                  · obtain rfl : 1 + nF = n3 := by omega
                    have q4 := q2 (by omega)
                    clear q1 q2
                    have f4 : (0 : Int) < 1 + (nF : Int) := by omega
                    have f5 : decide ((0 : Int) < 1 + (nF : Int)) = true := decide_eq_true f4
                    go_wp2_with (first | (at_builtin; refine jF _ rfl (.tmp 103) (.tmp 104) 33 rfl wc.heap.size 5 i0 (.int .u8 0) 1 1 Tryz.underlying33 hi hz0 hz1 hz2 rfl (by decide) (.slice (some ⟨wc.heap.size, 0, none⟩) 1 1) 1 [bv y] rfl (own_row _ rfl (Nat.le_refl _)) A5 nF c5 (F.map bv) rfl (HX5.out.alloc _) HoF.out F63.out F47.out (((Kp.refl NoX wc).alloc _).size) ?_; intro A6 c6 w6 hown hgrow hat; have H6 := jJ0 (H5.out.trans (Kp.grown ((Kp.refl NoX wc).alloc _) hgrow (fun k e hk => by have e1 : wc.heap.size = k := Option.some.inj e; omega)) (fun _ _ e => e) : Old wo w6); have HX6 := jJ0 (show Rd w6 1 A6 (1 + nF) ((y :: F).map bv) from Rd.of_own hown); have c6y := HCW.out _ H6.out; try have c6e := je HCe.out H6.out; clear hown hgrow hat) | (go_at_call 28; refine (earlier_any _ _ _ _ _ _ (y :: F) (e0 :: E1) HX6.out (HXo.out.old H6.out) (by omega)).mono ?_; rintro e w7 ⟨rfl, ho7⟩; rw [q4]; have ho7k := jJ0 ho7; have H7 := jJ0 (H6.out.trans ho7 (fun _ _ e => e)); have c7y := HCW.out _ H7.out; have c7e := je HCe.out H7.out; clear ho7) | fail)
                    go_quiet (fail)
                    go_wp2
                    go_roundw
                    case rel => exact ⟨j + 1, by omega, by rw [show ((j + 1 : Nat) : Int) = (j : Int) + 1 by omega], H7.out.drewN _⟩
                    case measure => simp only [intOf]; omega
        · obtain rfl : j = 48 := by omega
          clear hj hjn HC HMore
          have HPx := jJ0 (fun W (hO : Old wo W) A c (hx : Rd W 1 A (bl.length + n3) ((bl ++ E).map bv)) => par9_any W (HSg.out W (HOo.out.trans hO (fun _ _ e => e))).1 (HSg.out W (HOo.out.trans hO (fun _ _ e => e))).2 A (bl.length + n3) c (bl ++ E) hx)
          have HFx := jJ0 (fun W (hO : Old wo W) => finished9_any W (HSg.out W (HOo.out.trans hO (fun _ _ e => e))).1 (HSg.out W (HOo.out.trans hO (fun _ _ e => e))).2 A bl.length c bl (HRbo.out.old hO))
          unfold ParW at HPx
          obtain ⟨hE1, hE2⟩ := HEnd.out
          rw [Hn3.out] at hE1
          have hn9 := Hn.out
          have hE9 := HE9.out
          have a1 : IntKind.i64.wrap ((bl.length : Int) + (n3 : Int)) = (bl.length : Int) + (n3 : Int) := IntWalk.i64_in _ (by omega)
          generalize parE (bl ++ E) = pe at *
          generalize parAt (bl ++ E) = pa at *
          have key : ∀ fl : Bool, fl = decide (parE bl = 0) -> (fl = true ↔ n3 = 0) := by
            rintro fl rfl
            rw [decide_eq_true_iff, <- hE2, <- Hn3.out]
            exact ⟨fun e => by rw [e]; rfl, List.eq_nil_of_length_eq_zero⟩
          obtain ⟨fl, hfl⟩ : ∃ fl, decide (parE bl = 0) = fl := ⟨_, rfl⟩
          have hke := key fl hfl.symm
          rw [hfl] at HFx
          clear key hfl hE2 HEnd HSg
          rcases hE1 with ⟨rfl, h60⟩ | ⟨rfl, h60⟩ <;> cases fl
          · have f1 : (0 : Int) < (n3 : Int) := by have : n3 ≠ 0 := fun e => Bool.noConfusion (hke.2 e); omega
            have f2 : ¬ (60000 : Int) < (bl.length : Int) + (n3 : Int) := by omega
            have f3 : (bl.length : Int) + (n3 : Int) <= 60000 := by omega
            clear hke
            go_wp2_with (first | (at_builtin; refine jF _ rfl (.const (.slice none 0 0)) (.tmp 143) 33 rfl wo.heap.size 5 i0 (.int .u8 0) 1 1 Tryz.underlying33 hi hz0 hz1 hz2 rfl (by decide) (.slice none 0 0) 0 [] rfl (World.ownsRow_nil _ _ _ _) A bl.length c (bl.map bv) rfl (HRbo.out.old HR.out) Hob.out J63.out J47.out HR.out.size ?_; intro A1 c1 w1 hown hgrow hat; rw [Nat.zero_add, List.nil_append] at hown; rw [Nat.zero_add]; have H1 := jJ0 (Kp.grown HR.out hgrow (fun _ e _ => by cases e) : Old wo w1); have HA1 := jJ0 hown; clear hown hgrow hat) | (at_builtin; refine jF _ rfl (.tmp 144) (.tmp 145) 33 rfl wo.heap.size 5 i0 (.int .u8 0) 1 1 Tryz.underlying33 hi hz0 hz1 hz2 rfl (by decide) (.slice A1 bl.length c1) bl.length (bl.map bv) rfl HA1.out A3 n3 c3 (E.map bv) rfl (HXo.out.old H1.out) HoE.out N63.out N47.out H1.out.size ?_; intro A2 c2 w2 hown hgrow hat; have H2 := jJ0 (Kp.grown H1.out hgrow (fun k e hk => absurd (HA1.out.lt k e).1 (by omega)) : Old wo w2); have HA2 := jJ0 (show Rd w2 1 A2 (bl.length + n3) ((bl ++ E).map bv) by rw [List.map_append]; exact Rd.of_own hown); clear hown hgrow hat) | (go_at_call 26; refine (HPx.out _ H2.out _ _ HA2.out).mono ?_; rintro e w4 ⟨nm, ta, aA, an, ac, gA, gn, gc, mA, mn, mc, pA, pn, pc, nA, nn, nc, oA, on, oc, rfl, ho⟩; have H4 := jJ0 ((H2.out.trans ho (fun _ _ e => e)).alloc (.cells #[.string nm, .int .i64 ta, .slice aA an ac, .slice gA gn gc, .slice mA mn mc, .slice pA pn pc, .slice nA nn nc, .slice oA on oc] 29)); clear ho) | (go_at_call 29; refine (HFx.out _ H4.out).mono ?_; rintro e w5 ⟨rfl, ho⟩; have H5 := jJ0 (H4.out.trans ho (fun _ _ e => e)); clear ho) | (go_at_call 12; refine (HK.out _ (HOo.out.trans H5.out (fun _ _ e => e))).mono ?_; rintro e w6 ⟨rfl, ho⟩; have H6 := jJ0 (HOo.out.trans (H5.out.trans ho (fun _ _ e => e)) (fun _ _ e => e)); clear ho) | fail)
            go_ret
            exact ⟨rfl, H6.out⟩
          · have f1 : ¬ (0 : Int) < (n3 : Int) := by have : n3 = 0 := hke.1 rfl; omega
            have f2 : ¬ (60000 : Int) < (bl.length : Int) + (n3 : Int) := by omega
            have f3 : (bl.length : Int) + (n3 : Int) <= 60000 := by omega
            clear hke
            go_wp2_with (first | (at_builtin; refine jF _ rfl (.const (.slice none 0 0)) (.tmp 143) 33 rfl wo.heap.size 5 i0 (.int .u8 0) 1 1 Tryz.underlying33 hi hz0 hz1 hz2 rfl (by decide) (.slice none 0 0) 0 [] rfl (World.ownsRow_nil _ _ _ _) A bl.length c (bl.map bv) rfl (HRbo.out.old HR.out) Hob.out J63.out J47.out HR.out.size ?_; intro A1 c1 w1 hown hgrow hat; rw [Nat.zero_add, List.nil_append] at hown; rw [Nat.zero_add]; have H1 := jJ0 (Kp.grown HR.out hgrow (fun _ e _ => by cases e) : Old wo w1); have HA1 := jJ0 hown; clear hown hgrow hat) | (at_builtin; refine jF _ rfl (.tmp 144) (.tmp 145) 33 rfl wo.heap.size 5 i0 (.int .u8 0) 1 1 Tryz.underlying33 hi hz0 hz1 hz2 rfl (by decide) (.slice A1 bl.length c1) bl.length (bl.map bv) rfl HA1.out A3 n3 c3 (E.map bv) rfl (HXo.out.old H1.out) HoE.out N63.out N47.out H1.out.size ?_; intro A2 c2 w2 hown hgrow hat; have H2 := jJ0 (Kp.grown H1.out hgrow (fun k e hk => absurd (HA1.out.lt k e).1 (by omega)) : Old wo w2); have HA2 := jJ0 (show Rd w2 1 A2 (bl.length + n3) ((bl ++ E).map bv) by rw [List.map_append]; exact Rd.of_own hown); clear hown hgrow hat) | (go_at_call 26; refine (HPx.out _ H2.out _ _ HA2.out).mono ?_; rintro e w4 ⟨nm, ta, aA, an, ac, gA, gn, gc, mA, mn, mc, pA, pn, pc, nA, nn, nc, oA, on, oc, rfl, ho⟩; have H4 := jJ0 ((H2.out.trans ho (fun _ _ e => e)).alloc (.cells #[.string nm, .int .i64 ta, .slice aA an ac, .slice gA gn gc, .slice mA mn mc, .slice pA pn pc, .slice nA nn nc, .slice oA on oc] 29)); clear ho) | (go_at_call 29; refine (HFx.out _ H4.out).mono ?_; rintro e w5 ⟨rfl, ho⟩; have H5 := jJ0 (H4.out.trans ho (fun _ _ e => e)); clear ho) | (go_at_call 12; refine (HK.out _ (HOo.out.trans H5.out (fun _ _ e => e))).mono ?_; rintro e w6 ⟨rfl, ho⟩; have H6 := jJ0 (HOo.out.trans (H5.out.trans ho (fun _ _ e => e)) (fun _ _ e => e)); clear ho) | fail)
            go_ret
            exact ⟨rfl, H6.out⟩
          · have f1 : (0 : Int) < (n3 : Int) := by have : n3 ≠ 0 := fun e => Bool.noConfusion (hke.2 e); omega
            have f2 : (60000 : Int) < (bl.length : Int) + (n3 : Int) := by omega
            have f3 : ¬ (bl.length : Int) + (n3 : Int) <= 60000 := by omega
            clear hke
            go_wp2_with (first | (at_builtin; refine jF _ rfl (.const (.slice none 0 0)) (.tmp 143) 33 rfl wo.heap.size 5 i0 (.int .u8 0) 1 1 Tryz.underlying33 hi hz0 hz1 hz2 rfl (by decide) (.slice none 0 0) 0 [] rfl (World.ownsRow_nil _ _ _ _) A bl.length c (bl.map bv) rfl (HRbo.out.old HR.out) Hob.out J63.out J47.out HR.out.size ?_; intro A1 c1 w1 hown hgrow hat; rw [Nat.zero_add, List.nil_append] at hown; rw [Nat.zero_add]; have H1 := jJ0 (Kp.grown HR.out hgrow (fun _ e _ => by cases e) : Old wo w1); have HA1 := jJ0 hown; clear hown hgrow hat) | (at_builtin; refine jF _ rfl (.tmp 144) (.tmp 145) 33 rfl wo.heap.size 5 i0 (.int .u8 0) 1 1 Tryz.underlying33 hi hz0 hz1 hz2 rfl (by decide) (.slice A1 bl.length c1) bl.length (bl.map bv) rfl HA1.out A3 n3 c3 (E.map bv) rfl (HXo.out.old H1.out) HoE.out N63.out N47.out H1.out.size ?_; intro A2 c2 w2 hown hgrow hat; have H2 := jJ0 (Kp.grown H1.out hgrow (fun k e hk => absurd (HA1.out.lt k e).1 (by omega)) : Old wo w2); have HA2 := jJ0 (show Rd w2 1 A2 (bl.length + n3) ((bl ++ E).map bv) by rw [List.map_append]; exact Rd.of_own hown); clear hown hgrow hat) | (go_at_call 26; refine (HPx.out _ H2.out _ _ HA2.out).mono ?_; rintro e w4 ⟨nm, ta, aA, an, ac, gA, gn, gc, mA, mn, mc, pA, pn, pc, nA, nn, nc, oA, on, oc, rfl, ho⟩; have H4 := jJ0 ((H2.out.trans ho (fun _ _ e => e)).alloc (.cells #[.string nm, .int .i64 ta, .slice aA an ac, .slice gA gn gc, .slice mA mn mc, .slice pA pn pc, .slice nA nn nc, .slice oA on oc] 29)); clear ho) | (go_at_call 29; refine (HFx.out _ H4.out).mono ?_; rintro e w5 ⟨rfl, ho⟩; have H5 := jJ0 (H4.out.trans ho (fun _ _ e => e)); clear ho) | (go_at_call 12; refine (HK.out _ (HOo.out.trans H5.out (fun _ _ e => e))).mono ?_; rintro e w6 ⟨rfl, ho⟩; have H6 := jJ0 (HOo.out.trans (H5.out.trans ho (fun _ _ e => e)) (fun _ _ e => e)); clear ho) | fail)
            go_ret
            exact ⟨rfl, H6.out⟩
          · exfalso
            have : n3 = 0 := hke.1 rfl
            omega
end Go.Proofs.YtmmjcbbogokmfaaGreatDoor

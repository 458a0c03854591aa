import Derived.Test.YtnaolhjbapgjgaaGreatMg01
import Derived.Test.YtnaolhjbapgjgaaGreatMg12
import Derived.Laws.ResultCell
set_option maxRecDepth 100000
set_option maxHeartbeats 3200000
namespace Go.Proofs.YtnaolhjbapgjgaaGreat
open Go.RowKit
structure Prow where
  A : Option Addr
  n : Nat
  c : Nat
  size : Int
  num : Int
  P : Option Addr
  k : Nat
  c2 : Nat
def Prow.ev (r : Prow) : Value := .slice r.A r.n r.c
def Prow.pf (r : Prow) : List Value := [.int .i64 r.size, .int .i64 r.num, .slice r.P r.k r.c2]
structure Prow.Ok (r : Prow) : Prop where
  n : r.n <= 2147483647
  k : r.k <= 2147483647
def stopsAt (first size : Int) (i b : Nat) (prev : Int) (r : Prow) : Bool :=
  decide (i = 1000 \/ 2097152 < b \/ rowOk r.n r.size r.num r.k size = false \/ size - i - 1 < first \/ (0 < i /\ r.num <= prev))
def vK (first size : Int) : Nat -> Nat -> Int -> List Prow -> Nat
  | i, _, _, [] => i
  | i, b, prev, r :: rs => if stopsAt first size i (b + (12 + r.n + 32 * r.k)) prev r = true then i else vK first size (i + 1) (b + (12 + r.n + 32 * r.k)) r.num rs
def vP (rs : List Prow) : Int := match rs with | [] => 0 | r :: _ => r.size
def vw (s : ByteArray) (first : Int) (before : List UInt8) (rs : List Prow) : Nat :=
  if beginsB s first before = true then vK first (vP rs) 0 (54 + s.size) 0 rs else 0
theorem rowOk_size {n k : Nat} {a b size : Int} (h : rowOk n a b k size = true) : 1 <= size /\ size <= 1099511627776 := by
  have h' := of_decide_eq_true h
  obtain ⟨h1, rfl, _⟩ := h'
  unfold besN at h1
  split at h1
  · omega
  · cases h1
theorem Prow.rd0 {w : World} {P : Option Addr} {rs : List Prow} (h : Rd w 3 P rs.length (rs.flatMap Prow.pf)) {k : Nat} (hk : k < rs.length) :
    ∃ b o, P = some ⟨b, o, none⟩ /\ w.rangeAt b (o + k * 3) rs[k].pf /\ w.cell? ⟨b, o, none⟩ = some (.int .i64 (vP rs)) /\ w.cell? ⟨b, o + (k - 1) * 3 + 1, none⟩ = some (.int .i64 (rs[k - 1]'(by omega)).num) := by
  obtain ⟨b, o, e, h1⟩ := h.elem (f := Prow.pf) (fun _ _ => rfl) rfl hk
  obtain ⟨b', o', e', h0⟩ := h.elem (f := Prow.pf) (fun _ _ => rfl) rfl (k := 0) (by omega)
  obtain ⟨b2, o2, e2, h2⟩ := h.elem (f := Prow.pf) (fun _ _ => rfl) rfl (k := k - 1) (by omega)
  rw [e] at e' e2
  injection e' with e'
  injection e' with e1 e1'
  injection e2 with e2
  injection e2 with e3 e3'
  subst e1 e1' e3 e3'
  refine ⟨b, o, e, h1, ?_, h2 1 _ rfl⟩
  have := h0 0 (.int .i64 rs[0].size) rfl
  rw [Nat.zero_mul, Nat.add_zero] at this
  rw [this]
  cases rs with
  | nil => simp at hk
  | cons r rs => rfl
theorem reachGo_drop {first size : Int} {rs : List Prow} {k b : Nat} {prev : Int} (hk : k < rs.length) :
    vK first size k b prev (rs.drop k) = if stopsAt first size k (b + (12 + rs[k].n + 32 * rs[k].k)) prev rs[k] = true then k else vK first size (k + 1) (b + (12 + rs[k].n + 32 * rs[k].k)) rs[k].num (rs.drop (k + 1)) := by
  rw [List.drop_eq_getElem_cons hk]
  rfl
theorem reachGo_end {first size : Int} {rs : List Prow} {k b : Nat} {prev : Int} (hk : ¬ k < rs.length) : vK first size k b prev (rs.drop k) = k := by
  rw [List.drop_eq_nil_of_le (by omega)]
  rfl
structure ReachAt (w : World) (first : Int) (rs : List Prow) (R k b : Nat) (wr : World) : Prop where
  le : k <= rs.length
  eq : ∃ prev, R = vK first (vP rs) k b prev (rs.drop k) /\ (0 < k -> ∀ h2 : k - 1 < rs.length, prev = rs[k - 1].num)
  small : b <= 281474976710656
  old : Old w wr
theorem old_cell {w w' : World} {p : Addr} {v : Value} (ho : Old w w') (h : w.cell? p = some v) : w'.cell? p = some v := by
  rw [World.cell?_of_block (ho.block p.block (cell_lt h) (fun hf => hf))]
  exact h
structure RowAt (w : World) (pb po k : Nat) (sz pv a nu : Int) (P : Option Addr) (n c : Nat) : Prop where
  c0 : w.cell? ⟨pb, po, none⟩ = some (.int .i64 sz)
  k0 : w.cell? ⟨pb, po + k * 3, none⟩ = some (.int .i64 a)
  k1 : w.cell? ⟨pb, po + k * 3 + 1, none⟩ = some (.int .i64 nu)
  k2 : w.cell? ⟨pb, po + k * 3 + 2, none⟩ = some (.slice P n c)
  cp : w.cell? ⟨pb, po + (k - 1) * 3 + 1, none⟩ = some (.int .i64 pv)
section
variable {w w' : World} {pb po k : Nat} {sz pv a nu : Int} {P : Option Addr} {n c : Nat}
theorem RowAt.old (h : RowAt w pb po k sz pv a nu P n c) (ho : Old w w') : RowAt w' pb po k sz pv a nu P n c :=
  ⟨old_cell ho h.c0, old_cell ho h.k0, old_cell ho h.k1, old_cell ho h.k2, old_cell ho h.cp⟩
theorem RowAt.all (h : RowAt w pb po k sz pv a nu P n c) : w.cell? ⟨pb, po, none⟩ = some (.int .i64 sz) /\ w.cell? ⟨pb, po + k * 3, none⟩ = some (.int .i64 a) /\ w.cell? ⟨pb, po + k * 3 + 1, none⟩ = some (.int .i64 nu) /\ w.cell? ⟨pb, po + k * 3 + 2, none⟩ = some (.slice P n c) :=
  ⟨h.c0, h.k0, h.k1, h.k2⟩
end
theorem reach_any (w : World) (s : ByteArray) (first : Int) (d : List UInt8) (hd : d.length = 32) (hs : s.size <= 140737488355328) (E P : Option Addr) (ce cp : Nat) (rs : List Prow) (hrs : ∀ r ∈ rs, r.Ok)
    (he : Rd w 1 E rs.length (rs.map Prow.ev)) (hp : Rd w 3 P rs.length (rs.flatMap Prow.pf)) (hn : rs.length <= 2147483647) :
    Calls Tryz.prog 113 #[.string s, .int .i64 first, .agg (jB d).toArray, .slice E rs.length ce, .slice P rs.length cp] w fun e w' => e = .returned (.int .i64 (vw s first d rs)) /\ Old w w' := by
  have Hb := jJ0 (Blk.new w 40 (jB d).toArray)
  have Ho := jJ0 ((Kp.refl NoX w).alloc (.cells (jB d).toArray 40))
  have Hsz := jJ0 (show (Tryz.prog.info? 40).map (·.size) = some (jB d).length by rw [jD, hd]; exact Tryz.sizeDigest)
  have HN := jJ0 (fun W => begins_any W s first d hd (by omega))
  have HH := jJ0 (fun W => headBytes_any W s hs)
  have HR := jJ0 (show vw s first d rs = if beginsB s first d = true then vK first (vP rs) 0 (54 + s.size) 0 rs else 0 from rfl)
  have He := jJ0 he
  have Hp := jJ0 hp
  have Hrs := jJ0 hrs
  generalize vw s first d rs = R at *
  clear he hp hrs hd
  go_enter Tryz.func113, Tryz.ntmps113
  go_wp2_with (first | (with_reducible refine at_load 40 (.tmp 7) ?_; refine Tryz.load_w rfl 40 (.tmp 7) rfl w.heap.size 0 rfl (jB d) _ Hb.out.range Tryz.underlying40 rfl Hsz.out ?_) | fail)
  generalize w.alloc _ = W at *
  refine (HN.out W).mono ?_
  rintro e w1 ⟨rfl, ho1⟩
  have Ho1 := jJ0 (Ho.out.old ho1)
  clear ho1
  by_cases hb : beginsB s first d = true
  · rw [hb] at HR ⊢
    rw [if_pos rfl] at HR
    clear hb
    go_wp2_with fail
    refine (HH.out w1).mono ?_
    rintro e w2 ⟨rfl, rfl⟩
    go_wp2_with fail
    go_loopw [11, 23] (fun q i wr => ∃ k b : Nat, q = .int .i64 b /\ i = .int .i64 k /\ ReachAt w first rs R k b wr) (fun _ i _ => rs.length - (intOf i).toNat)
    case atStart => exact ⟨0, 54 + s.size, by simp, rfl, by omega, ⟨0, HR.out, fun h => absurd h (by omega)⟩, by omega, Ho1.out⟩
    case round =>
      obtain ⟨k, b, rfl, rfl, hat⟩ := hrel
      have Hat := jJ0 hat
      have hkl := hat.le
      have hbs := hat.small
      clear hat
      by_cases hlt : k < rs.length
      · obtain ⟨prev, hR, hprev⟩ := Hat.out.eq
        rw [reachGo_drop hlt] at hR
        have HR2 := jJ0 hR
        clear hR HR
        obtain ⟨eb, eo, u, rfl, hu, hec⟩ := (He.out.old Hat.out.old).at_ hlt
        obtain ⟨pb, po, rfl, hrg, hc0, hcp⟩ := Prow.rd0 (Hp.out.old Hat.out.old) hlt
        have hu' : u = .slice rs[k].A rs[k].n rs[k].c := by
          rw [List.getElem?_map, List.getElem?_eq_getElem hlt] at hu
          simpa [Prow.ev] using hu.symm
        subst hu'
        have Hok := jJ0 (Hrs.out rs[k] (List.getElem_mem hlt))
        have hn1 := Hok.out.n
        have hk1 := Hok.out.k
        have HB := jJ0 (fun W => rowBytes_any W rs[k].A rs[k].n rs[k].c rs[k].size rs[k].num rs[k].P rs[k].k rs[k].c2 Hok.out.n Hok.out.k)
        have HO := jJ0 (fun W => row_any W rs[k].A rs[k].n rs[k].c rs[k].size rs[k].num rs[k].P rs[k].k rs[k].c2 (vP rs))
        have HF : RowAt wr pb po k (vP rs) (rs[k - 1]'(by omega)).num rs[k].size rs[k].num rs[k].P rs[k].k rs[k].c2 := ⟨hc0, hrg 0 _ rfl, hrg 1 _ rfl, hrg 2 _ rfl, hcp⟩
        have F := HF.all
        have HF := jJ0 HF
        have Hz := jJ0 (show rowOk rs[k].n rs[k].size rs[k].num rs[k].k (vP rs) = true -> 1 <= vP rs /\ vP rs <= 1099511627776 from fun hh => rowOk_size hh)
        have HS := jJ0 (show stopsAt first (vP rs) k (b + (12 + rs[k].n + 32 * rs[k].k)) prev rs[k] = decide (k = 1000 \/ 2097152 < b + (12 + rs[k].n + 32 * rs[k].k) \/ rowOk rs[k].n rs[k].size rs[k].num rs[k].k (vP rs) = false \/ vP rs - k - 1 < first \/ (0 < k /\ rs[k].num <= prev)) from rfl)
        have Hpv := jJ0 (fun h : 0 < k => hprev h (by omega))
        have Hnx := jJ0 (show ∀ h2 : k + 1 - 1 < rs.length, rs[k].num = rs[k + 1 - 1].num from fun _ => rfl)
        clear hrg hc0 hcp hprev
        generalize rowOk rs[k].n rs[k].size rs[k].num rs[k].k (vP rs) = ok at *
        generalize hst : stopsAt first (vP rs) k (b + (12 + rs[k].n + 32 * rs[k].k)) prev rs[k] = st at *
        generalize hnu : rs[k].num = nu at *
        have HNU := jJ0 hnu
        clear hnu
        generalize rs[k].n = en at *
        generalize rs[k].k = ek at *
        generalize rs[k].A = rA at *
        generalize rs[k].c = rc at *
        generalize rs[k].P = rP at *
        generalize rs[k].c2 = rc2 at *
        generalize rs[k].size = ra at *
        clear hst
        go_wp2_with fail
        refine (HB.out wr).mono ?_
        rintro e w3 ⟨rfl, ho3⟩
        have HF3 := jJ0 (HF.out.old ho3)
        have Ho3 := jJ0 (Hat.out.old.old ho3)
        clear ho3 HF F
        have b1 : (0 : Int) <= (k : Int) := by omega
        have b2 : (k : Int) < (rs.length : Int) := by omega
        have b0 : (0 : Int) < (rs.length : Int) := by omega
        have b0n : 0 < rs.length := by omega
        have b3 : (k : Int).toNat = k := by omega
        by_cases h1 : k = 1000
        · have t1 : ((k : Int) == 1000) = true := by simp; omega
          have Hst := jJ0 (show R = k by rw [HR2.out, HS.out, decide_eq_true (.inl h1)]; rfl)
          clear h1
          go_wp2_with fail
          go_quiet (fail)
          go_wp2
          go_ret
          exact ⟨by rw [Hst.out]; rfl, Ho3.out.drewN _⟩
        · have t1 : ((k : Int) == 1000) = false := by simp; omega
          by_cases h2 : 2097152 < b + (12 + en + 32 * ek)
          · have t2 : (2097152 : Int) < (b : Int) + (12 + (en : Int) + 32 * (ek : Int)) := by omega
            have Hst := jJ0 (show R = k by rw [HR2.out, HS.out, decide_eq_true (.inr (.inl h2))]; rfl)
            clear h1 h2
            go_wp2_with fail
            go_quiet (fail)
            go_wp2
            go_ret
            exact ⟨by rw [Hst.out]; rfl, Ho3.out.drewN _⟩
          · have t2 : ¬ (2097152 : Int) < (b : Int) + (12 + (en : Int) + 32 * (ek : Int)) := by omega
            have t2' : decide ((2097152 : Int) < (b : Int) + (12 + (en : Int) + 32 * (ek : Int))) = false := decide_eq_false t2
            have D := (HF3.out.old (Kp.refl NoX w3).drew).all
            have HFd := jJ0 (HF3.out.old (Kp.refl NoX w3).drew)
            cases ok with
            | false =>
              have Hst := jJ0 (show R = k by rw [HR2.out, HS.out, decide_eq_true (.inr (.inr (.inl rfl)))]; rfl)
              clear h1 h2 t2 Hz
              go_wp2_with fail
              refine wp_region_held_drew (S := fun w' => w'.cell? ⟨pb, po, none⟩ = some (.int .i64 (vP rs)) /\ w'.cell? ⟨pb, po + k * 3, none⟩ = some (.int .i64 ra) /\ w'.cell? ⟨pb, po + k * 3 + 1, none⟩ = some (.int .i64 nu) /\ w'.cell? ⟨pb, po + k * 3 + 2, none⟩ = some (.slice rP ek rc2)) (by kernel_rfl) D (fun hHeld => ?_)
              refine' jJ 0 rfl rfl (by kernel_rfl) (by kernel_rfl) (by kernel_rfl) (fun _ _ _ h => h) rfl hHeld (fun w hSw => ?_) ?_
              rotate_left
              · ((try dsimp only at hSw); go_simp <;> with_reducible rfl)
              simp only [Act.put, List.setIfInBounds_toArray, List.set_cons_zero, List.set_cons_succ]
              refine' jJ 1 rfl rfl (by kernel_rfl) (by kernel_rfl) (by kernel_rfl) (fun _ _ _ h => h) rfl hHeld (fun w hSw => ?_) ?_
              rotate_left
              · ((try dsimp only at hSw); go_simp <;> with_reducible rfl)
              simp only [Act.put, List.setIfInBounds_toArray, List.set_cons_zero, List.set_cons_succ]
              refine' jJ 2 rfl rfl (by kernel_rfl) (by kernel_rfl) (by kernel_rfl) (fun _ _ _ h => h) rfl hHeld (fun w hSw => ?_) ?_
              rotate_left
              · ((try dsimp only at hSw); go_simp <;> with_reducible rfl)
              simp only [Act.put, List.setIfInBounds_toArray, List.set_cons_zero, List.set_cons_succ]
              refine' jJ 3 rfl rfl (by kernel_rfl) (by kernel_rfl) (by kernel_rfl) (fun _ _ _ h => h) rfl hHeld (fun w hSw => ?_) ?_
              rotate_left
              · ((try dsimp only at hSw); go_simp <;> with_reducible rfl)
              simp only [Act.put, List.setIfInBounds_toArray, List.set_cons_zero, List.set_cons_succ]
              refine' jJ 4 rfl rfl (by kernel_rfl) (by kernel_rfl) (by kernel_rfl) (fun _ _ _ h => h) rfl hHeld (fun w hSw => ?_) ?_
              rotate_left
              · ((try dsimp only at hSw); go_simp <;> with_reducible rfl)
              simp only [Act.put, List.setIfInBounds_toArray, List.set_cons_zero, List.set_cons_succ]
              refine' jJ 5 rfl rfl (by kernel_rfl) (by kernel_rfl) (by kernel_rfl) (fun _ _ _ h => h) rfl hHeld (fun w hSw => ?_) ?_
              rotate_left
              · ((try dsimp only at hSw); go_simp <;> with_reducible rfl)
              simp only [Act.put, List.setIfInBounds_toArray, List.set_cons_zero, List.set_cons_succ]
              refine' jJ 6 rfl rfl (by kernel_rfl) (by kernel_rfl) (by kernel_rfl) (fun _ _ _ h => h) rfl hHeld (fun w hSw => ?_) ?_
              rotate_left
              · ((try dsimp only at hSw); go_simp <;> with_reducible rfl)
              simp only [Act.put, List.setIfInBounds_toArray, List.set_cons_zero, List.set_cons_succ]
              refine' jJ 7 rfl rfl (by kernel_rfl) (by kernel_rfl) (by kernel_rfl) (fun _ _ _ h => h) rfl hHeld (fun w hSw => ?_) ?_
              rotate_left
              · ((try dsimp only at hSw); go_simp <;> with_reducible rfl)
              simp only [Act.put, List.setIfInBounds_toArray, List.set_cons_zero, List.set_cons_succ]
              refine' jJ 8 rfl rfl (by kernel_rfl) (by kernel_rfl) (by kernel_rfl) (fun _ _ _ h => h) rfl hHeld (fun w hSw => ?_) ?_
              rotate_left
              · ((try dsimp only at hSw); go_simp <;> with_reducible rfl)
              simp only [Act.put, List.setIfInBounds_toArray, List.set_cons_zero, List.set_cons_succ]
              refine' jJ 9 rfl rfl (by kernel_rfl) (by kernel_rfl) (by kernel_rfl) (fun _ _ _ h => h) rfl hHeld (fun w hSw => ?_) ?_
              rotate_left
              · ((try dsimp only at hSw); go_simp <;> with_reducible rfl)
              simp only [Act.put, List.setIfInBounds_toArray, List.set_cons_zero, List.set_cons_succ]
              refine' jJ 10 rfl rfl (by kernel_rfl) (by kernel_rfl) (by kernel_rfl) (fun _ _ _ h => h) rfl hHeld (fun w hSw => ?_) ?_
              rotate_left
              · ((try dsimp only at hSw); go_simp <;> with_reducible rfl)
              simp only [Act.put, List.setIfInBounds_toArray, List.set_cons_zero, List.set_cons_succ]
              refine' jJ 11 rfl rfl (by kernel_rfl) (by kernel_rfl) (by kernel_rfl) (fun _ _ _ h => h) rfl hHeld (fun w hSw => ?_) ?_
              rotate_left
              · ((try dsimp only at hSw); go_simp <;> with_reducible rfl)
              simp only [Act.put, List.setIfInBounds_toArray, List.set_cons_zero, List.set_cons_succ]
              refine' jJ 12 rfl rfl (by kernel_rfl) (by kernel_rfl) (by kernel_rfl) (fun _ _ _ h => h) rfl hHeld (fun w hSw => ?_) ?_
              rotate_left
              · ((try dsimp only at hSw); go_simp <;> with_reducible rfl)
              simp only [Act.put, List.setIfInBounds_toArray, List.set_cons_zero, List.set_cons_succ]
              refine' jJ 13 rfl rfl (by kernel_rfl) (by kernel_rfl) (by kernel_rfl) (fun _ _ _ h => h) rfl hHeld (fun w hSw => ?_) ?_
              rotate_left
              · ((try dsimp only at hSw); go_simp <;> with_reducible rfl)
              simp only [Act.put, List.setIfInBounds_toArray, List.set_cons_zero, List.set_cons_succ]
              refine' jJ 14 rfl rfl (by kernel_rfl) (by kernel_rfl) (by kernel_rfl) (fun _ _ _ h => h) rfl hHeld (fun w hSw => ?_) ?_
              rotate_left
              · ((try dsimp only at hSw); go_simp <;> with_reducible rfl)
              simp only [Act.put, List.setIfInBounds_toArray, List.set_cons_zero, List.set_cons_succ]
              refine' jJ 15 rfl rfl (by kernel_rfl) (by kernel_rfl) (by kernel_rfl) (fun _ _ _ h => h) rfl hHeld (fun w hSw => ?_) ?_
              rotate_left
              · ((try dsimp only at hSw); go_simp <;> with_reducible rfl)
              simp only [Act.put, List.setIfInBounds_toArray, List.set_cons_zero, List.set_cons_succ]
              refine je 16 rfl (by kernel_rfl) (fun K hK => ?_)
              go_simp
              go_at_call 157
              refine (HO.out _).mono ?_
              rintro e w5 ⟨rfl, ho5⟩
              have D5 := (HFd.out.old ho5).all
              have Ho5 := jJ0 (Ho3.out.drew.old ho5)
              go_wp2_with fail
              refine hK.out _ _ D5 (fun hHeld => ?_)
              clear hK K
              refine' jJ 17 rfl rfl (by kernel_rfl) (by kernel_rfl) (by kernel_rfl) (fun _ _ _ h => h) rfl hHeld (fun w hSw => ?_) ?_
              rotate_left
              · ((try dsimp only at hSw); go_simp <;> with_reducible rfl)
              simp only [Act.put, List.setIfInBounds_toArray, List.set_cons_zero, List.set_cons_succ]
              refine' jJ 18 rfl rfl (by kernel_rfl) (by kernel_rfl) (by kernel_rfl) (fun _ _ _ h => h) rfl hHeld (fun w hSw => ?_) ?_
              rotate_left
              · ((try dsimp only at hSw); go_simp <;> with_reducible rfl)
              simp only [Act.put, List.setIfInBounds_toArray, List.set_cons_zero, List.set_cons_succ]
              refine' jJ 19 rfl rfl (by kernel_rfl) (by kernel_rfl) (by kernel_rfl) (fun _ _ _ h => h) rfl hHeld (fun w hSw => ?_) ?_
              rotate_left
              · ((try dsimp only at hSw); go_simp <;> with_reducible rfl)
              simp only [Act.put, List.setIfInBounds_toArray, List.set_cons_zero, List.set_cons_succ]
              refine yA 20 rfl rfl (by kernel_rfl) (by kernel_rfl) (by kernel_rfl) (fun _ _ _ h => h) rfl hHeld ?_
              simp only [Act.put, List.setIfInBounds_toArray, List.set_cons_zero, List.set_cons_succ]
              refine yA 21 rfl rfl (by kernel_rfl) (by kernel_rfl) (by kernel_rfl) (fun _ _ _ h => h) rfl hHeld ?_
              simp only [Act.put, List.setIfInBounds_toArray, List.set_cons_zero, List.set_cons_succ]
              refine yA 22 rfl rfl (by kernel_rfl) (by kernel_rfl) (by kernel_rfl) (fun _ _ _ h => h) rfl hHeld ?_
              simp only [Act.put, List.setIfInBounds_toArray, List.set_cons_zero, List.set_cons_succ]
              refine yA 23 rfl rfl (by kernel_rfl) (by kernel_rfl) (by kernel_rfl) (fun _ _ _ h => h) rfl hHeld ?_
              simp only [Act.put, List.setIfInBounds_toArray, List.set_cons_zero, List.set_cons_succ]
              refine yA 24 rfl rfl (by kernel_rfl) (by kernel_rfl) (by kernel_rfl) (fun _ _ _ h => h) rfl hHeld ?_
              simp only [Act.put, List.setIfInBounds_toArray, List.set_cons_zero, List.set_cons_succ]
              refine yA 25 rfl rfl (by kernel_rfl) (by kernel_rfl) (by kernel_rfl) (fun _ _ _ h => h) rfl hHeld ?_
              simp only [Act.put, List.setIfInBounds_toArray, List.set_cons_zero, List.set_cons_succ]
              refine yA 26 rfl rfl (by kernel_rfl) (by kernel_rfl) (by kernel_rfl) (fun _ _ _ h => h) rfl hHeld ?_
              simp only [Act.put, List.setIfInBounds_toArray, List.set_cons_zero, List.set_cons_succ]
              refine yA 27 rfl rfl (by kernel_rfl) (by kernel_rfl) (by kernel_rfl) (fun _ _ _ h => h) rfl hHeld ?_
              simp only [Act.put, List.setIfInBounds_toArray, List.set_cons_zero, List.set_cons_succ]
              refine yA 28 rfl rfl (by kernel_rfl) (by kernel_rfl) (by kernel_rfl) (fun _ _ _ h => h) rfl hHeld ?_
              simp only [Act.put, List.setIfInBounds_toArray, List.set_cons_zero, List.set_cons_succ]
              refine' jJ 29 rfl rfl (by kernel_rfl) (by kernel_rfl) (by kernel_rfl) (fun _ _ _ h => h) rfl hHeld (fun w hSw => ?_) ?_
              rotate_left
              · ((try dsimp only at hSw); go_simp <;> with_reducible rfl)
              simp only [Act.put, List.setIfInBounds_toArray, List.set_cons_zero, List.set_cons_succ]
              refine wpAnyH_done (by kernel_rfl) ?_ _
              all_goals
                go_wp2
                go_ret
                exact ⟨by rw [Hst.out]; rfl, Ho5.out⟩
            | true =>
              obtain ⟨z1, z2⟩ := Hz.out rfl
              have hk0 : k < 1000 + 2147483648 := by omega
              have y1 : IntKind.i64.wrap (vP rs - (k : Int)) = vP rs - (k : Int) := IntWalk.i64_in _ (by omega)
              have y2 : IntKind.i64.wrap (vP rs - (k : Int) - 1) = vP rs - (k : Int) - 1 := IntWalk.i64_in _ (by omega)
              clear hk0
              go_wp2_with fail
              refine wp_region_held_drew (S := fun w' => w'.cell? ⟨pb, po, none⟩ = some (.int .i64 (vP rs)) /\ w'.cell? ⟨pb, po + k * 3, none⟩ = some (.int .i64 ra) /\ w'.cell? ⟨pb, po + k * 3 + 1, none⟩ = some (.int .i64 nu) /\ w'.cell? ⟨pb, po + k * 3 + 2, none⟩ = some (.slice rP ek rc2)) (by kernel_rfl) D (fun hHeld => ?_)
              refine' jJ 0 rfl rfl (by kernel_rfl) (by kernel_rfl) (by kernel_rfl) (fun _ _ _ h => h) rfl hHeld (fun w hSw => ?_) ?_
              rotate_left
              · ((try dsimp only at hSw); go_simp <;> with_reducible rfl)
              simp only [Act.put, List.setIfInBounds_toArray, List.set_cons_zero, List.set_cons_succ]
              refine' jJ 1 rfl rfl (by kernel_rfl) (by kernel_rfl) (by kernel_rfl) (fun _ _ _ h => h) rfl hHeld (fun w hSw => ?_) ?_
              rotate_left
              · ((try dsimp only at hSw); go_simp <;> with_reducible rfl)
              simp only [Act.put, List.setIfInBounds_toArray, List.set_cons_zero, List.set_cons_succ]
              refine' jJ 2 rfl rfl (by kernel_rfl) (by kernel_rfl) (by kernel_rfl) (fun _ _ _ h => h) rfl hHeld (fun w hSw => ?_) ?_
              rotate_left
              · ((try dsimp only at hSw); go_simp <;> with_reducible rfl)
              simp only [Act.put, List.setIfInBounds_toArray, List.set_cons_zero, List.set_cons_succ]
              refine' jJ 3 rfl rfl (by kernel_rfl) (by kernel_rfl) (by kernel_rfl) (fun _ _ _ h => h) rfl hHeld (fun w hSw => ?_) ?_
              rotate_left
              · ((try dsimp only at hSw); go_simp <;> with_reducible rfl)
              simp only [Act.put, List.setIfInBounds_toArray, List.set_cons_zero, List.set_cons_succ]
              refine' jJ 4 rfl rfl (by kernel_rfl) (by kernel_rfl) (by kernel_rfl) (fun _ _ _ h => h) rfl hHeld (fun w hSw => ?_) ?_
              rotate_left
              · ((try dsimp only at hSw); go_simp <;> with_reducible rfl)
              simp only [Act.put, List.setIfInBounds_toArray, List.set_cons_zero, List.set_cons_succ]
              refine' jJ 5 rfl rfl (by kernel_rfl) (by kernel_rfl) (by kernel_rfl) (fun _ _ _ h => h) rfl hHeld (fun w hSw => ?_) ?_
              rotate_left
              · ((try dsimp only at hSw); go_simp <;> with_reducible rfl)
              simp only [Act.put, List.setIfInBounds_toArray, List.set_cons_zero, List.set_cons_succ]
              refine' jJ 6 rfl rfl (by kernel_rfl) (by kernel_rfl) (by kernel_rfl) (fun _ _ _ h => h) rfl hHeld (fun w hSw => ?_) ?_
              rotate_left
              · ((try dsimp only at hSw); go_simp <;> with_reducible rfl)
              simp only [Act.put, List.setIfInBounds_toArray, List.set_cons_zero, List.set_cons_succ]
              refine' jJ 7 rfl rfl (by kernel_rfl) (by kernel_rfl) (by kernel_rfl) (fun _ _ _ h => h) rfl hHeld (fun w hSw => ?_) ?_
              rotate_left
              · ((try dsimp only at hSw); go_simp <;> with_reducible rfl)
              simp only [Act.put, List.setIfInBounds_toArray, List.set_cons_zero, List.set_cons_succ]
              refine' jJ 8 rfl rfl (by kernel_rfl) (by kernel_rfl) (by kernel_rfl) (fun _ _ _ h => h) rfl hHeld (fun w hSw => ?_) ?_
              rotate_left
              · ((try dsimp only at hSw); go_simp <;> with_reducible rfl)
              simp only [Act.put, List.setIfInBounds_toArray, List.set_cons_zero, List.set_cons_succ]
              refine' jJ 9 rfl rfl (by kernel_rfl) (by kernel_rfl) (by kernel_rfl) (fun _ _ _ h => h) rfl hHeld (fun w hSw => ?_) ?_
              rotate_left
              · ((try dsimp only at hSw); go_simp <;> with_reducible rfl)
              simp only [Act.put, List.setIfInBounds_toArray, List.set_cons_zero, List.set_cons_succ]
              refine' jJ 10 rfl rfl (by kernel_rfl) (by kernel_rfl) (by kernel_rfl) (fun _ _ _ h => h) rfl hHeld (fun w hSw => ?_) ?_
              rotate_left
              · ((try dsimp only at hSw); go_simp <;> with_reducible rfl)
              simp only [Act.put, List.setIfInBounds_toArray, List.set_cons_zero, List.set_cons_succ]
              refine' jJ 11 rfl rfl (by kernel_rfl) (by kernel_rfl) (by kernel_rfl) (fun _ _ _ h => h) rfl hHeld (fun w hSw => ?_) ?_
              rotate_left
              · ((try dsimp only at hSw); go_simp <;> with_reducible rfl)
              simp only [Act.put, List.setIfInBounds_toArray, List.set_cons_zero, List.set_cons_succ]
              refine' jJ 12 rfl rfl (by kernel_rfl) (by kernel_rfl) (by kernel_rfl) (fun _ _ _ h => h) rfl hHeld (fun w hSw => ?_) ?_
              rotate_left
              · ((try dsimp only at hSw); go_simp <;> with_reducible rfl)
              simp only [Act.put, List.setIfInBounds_toArray, List.set_cons_zero, List.set_cons_succ]
              refine' jJ 13 rfl rfl (by kernel_rfl) (by kernel_rfl) (by kernel_rfl) (fun _ _ _ h => h) rfl hHeld (fun w hSw => ?_) ?_
              rotate_left
              · ((try dsimp only at hSw); go_simp <;> with_reducible rfl)
              simp only [Act.put, List.setIfInBounds_toArray, List.set_cons_zero, List.set_cons_succ]
              refine' jJ 14 rfl rfl (by kernel_rfl) (by kernel_rfl) (by kernel_rfl) (fun _ _ _ h => h) rfl hHeld (fun w hSw => ?_) ?_
              rotate_left
              · ((try dsimp only at hSw); go_simp <;> with_reducible rfl)
              simp only [Act.put, List.setIfInBounds_toArray, List.set_cons_zero, List.set_cons_succ]
              refine' jJ 15 rfl rfl (by kernel_rfl) (by kernel_rfl) (by kernel_rfl) (fun _ _ _ h => h) rfl hHeld (fun w hSw => ?_) ?_
              rotate_left
              · ((try dsimp only at hSw); go_simp <;> with_reducible rfl)
              simp only [Act.put, List.setIfInBounds_toArray, List.set_cons_zero, List.set_cons_succ]
              refine je 16 rfl (by kernel_rfl) (fun K hK => ?_)
              go_simp
              go_at_call 157
              refine (HO.out _).mono ?_
              rintro e w5 ⟨rfl, ho5⟩
              have D5 := (HFd.out.old ho5).all
              have Ho5 := jJ0 (Ho3.out.drew.old ho5)
              go_wp2_with fail
              refine hK.out _ _ D5 (fun hHeld => ?_)
              clear hK K
              refine' jJ 17 rfl rfl (by kernel_rfl) (by kernel_rfl) (by kernel_rfl) (fun _ _ _ h => h) rfl hHeld (fun w hSw => ?_) ?_
              rotate_left
              · ((try dsimp only at hSw); go_simp <;> with_reducible rfl)
              simp only [Act.put, List.setIfInBounds_toArray, List.set_cons_zero, List.set_cons_succ]
              refine' jJ 18 rfl rfl (by kernel_rfl) (by kernel_rfl) (by kernel_rfl) (fun _ _ _ h => h) rfl hHeld (fun w hSw => ?_) ?_
              rotate_left
              · ((try dsimp only at hSw); go_simp <;> with_reducible rfl)
              simp only [Act.put, List.setIfInBounds_toArray, List.set_cons_zero, List.set_cons_succ]
              refine' jJ 19 rfl rfl (by kernel_rfl) (by kernel_rfl) (by kernel_rfl) (fun _ _ _ h => h) rfl hHeld (fun w hSw => ?_) ?_
              rotate_left
              · ((try dsimp only at hSw); go_simp <;> with_reducible rfl)
              simp only [Act.put, List.setIfInBounds_toArray, List.set_cons_zero, List.set_cons_succ]
              refine' jJ 20 rfl rfl (by kernel_rfl) (by kernel_rfl) (by kernel_rfl) (fun _ _ _ h => h) rfl hHeld (fun w hSw => ?_) ?_
              rotate_left
              · ((try dsimp only at hSw); go_simp <;> with_reducible rfl)
              simp only [Act.put, List.setIfInBounds_toArray, List.set_cons_zero, List.set_cons_succ]
              refine' jJ 21 rfl rfl (by kernel_rfl) (by kernel_rfl) (by kernel_rfl) (fun _ _ _ h => h) rfl hHeld (fun w hSw => ?_) ?_
              rotate_left
              · ((try dsimp only at hSw); go_simp <;> with_reducible rfl)
              simp only [Act.put, List.setIfInBounds_toArray, List.set_cons_zero, List.set_cons_succ]
              refine' jJ 22 rfl rfl (by kernel_rfl) (by kernel_rfl) (by kernel_rfl) (fun _ _ _ h => h) rfl hHeld (fun w hSw => ?_) ?_
              rotate_left
              · ((try dsimp only at hSw); go_simp <;> with_reducible rfl)
              simp only [Act.put, List.setIfInBounds_toArray, List.set_cons_zero, List.set_cons_succ]
              refine' jJ 23 rfl rfl (by kernel_rfl) (by kernel_rfl) (by kernel_rfl) (fun _ _ _ h => h) rfl hHeld (fun w hSw => ?_) ?_
              rotate_left
              · ((try dsimp only at hSw); go_simp <;> with_reducible rfl)
              simp only [Act.put, List.setIfInBounds_toArray, List.set_cons_zero, List.set_cons_succ]
              refine' jJ 24 rfl rfl (by kernel_rfl) (by kernel_rfl) (by kernel_rfl) (fun _ _ _ h => h) rfl hHeld (fun w hSw => ?_) ?_
              rotate_left
              · ((try dsimp only at hSw); go_simp <;> with_reducible rfl)
              simp only [Act.put, List.setIfInBounds_toArray, List.set_cons_zero, List.set_cons_succ]
              refine' jJ 25 rfl rfl (by kernel_rfl) (by kernel_rfl) (by kernel_rfl) (fun _ _ _ h => h) rfl hHeld (fun w hSw => ?_) ?_
              rotate_left
              · ((try dsimp only at hSw); go_simp <;> with_reducible rfl)
              simp only [Act.put, List.setIfInBounds_toArray, List.set_cons_zero, List.set_cons_succ]
              refine' jJ 26 rfl rfl (by kernel_rfl) (by kernel_rfl) (by kernel_rfl) (fun _ _ _ h => h) rfl hHeld (fun w hSw => ?_) ?_
              rotate_left
              · ((try dsimp only at hSw); go_simp <;> with_reducible rfl)
              simp only [Act.put, List.setIfInBounds_toArray, List.set_cons_zero, List.set_cons_succ]
              refine' jJ 27 rfl rfl (by kernel_rfl) (by kernel_rfl) (by kernel_rfl) (fun _ _ _ h => h) rfl hHeld (fun w hSw => ?_) ?_
              rotate_left
              · ((try dsimp only at hSw); go_simp <;> with_reducible rfl)
              simp only [Act.put, List.setIfInBounds_toArray, List.set_cons_zero, List.set_cons_succ]
              refine' jJ 28 rfl rfl (by kernel_rfl) (by kernel_rfl) (by kernel_rfl) (fun _ _ _ h => h) rfl hHeld (fun w hSw => ?_) ?_
              rotate_left
              · ((try dsimp only at hSw); go_simp <;> with_reducible rfl)
              simp only [Act.put, List.setIfInBounds_toArray, List.set_cons_zero, List.set_cons_succ]
              refine' jJ 29 rfl rfl (by kernel_rfl) (by kernel_rfl) (by kernel_rfl) (fun _ _ _ h => h) rfl hHeld (fun w hSw => ?_) ?_
              rotate_left
              · ((try dsimp only at hSw); go_simp <;> with_reducible rfl)
              simp only [Act.put, List.setIfInBounds_toArray, List.set_cons_zero, List.set_cons_succ]
              refine wpAnyH_done (by kernel_rfl) ?_ _
              clear y1 y2
              have F5 := HFd.out.old ho5
              have D6 := F5.k1
              have D7 := F5.cp
              have b4 : IntKind.i64.wrap ((k : Int) - 1) = (k : Int) - 1 := IntWalk.i64_in _ (by omega)
              by_cases h3 : vP rs - k - 1 < first
              · have Hst := jJ0 (show R = k by rw [HR2.out, HS.out, decide_eq_true (.inr (.inr (.inr (.inl h3))))]; rfl)
                clear h1 h2 t2 Hz
                go_wp2
                go_ret
                exact ⟨by rw [Hst.out]; rfl, Ho5.out⟩
              · have h3' : decide (vP rs - k - 1 < first) = false := decide_eq_false h3
                by_cases h4 : 0 < k
                · have hpv := Hpv.out h4
                  have g4 : (0 : Int) < (k : Int) := by omega
                  have g5 : (0 : Int) <= (k : Int) - 1 := by omega
                  have g6 : (k : Int) - 1 < (rs.length : Int) := by omega
                  have g7 : ((k : Int) - 1).toNat = k - 1 := by omega
                  rw [<- hpv] at D7
                  by_cases h5 : nu <= prev
                  · have Hst := jJ0 (show R = k by rw [HR2.out, HS.out, decide_eq_true (.inr (.inr (.inr (.inr ⟨h4, h5⟩))))]; rfl)
                    clear h1 h2 t2 Hz hpv
                    go_wp2_with fail
                    go_quiet (fail)
                    go_wp2
                    go_ret
                    exact ⟨by rw [Hst.out]; rfl, Ho5.out.drewN _⟩
                  · have h5' : decide (nu <= prev) = false := decide_eq_false h5
                    have Hgo := jJ0 (show R = vK first (vP rs) (k + 1) (b + (12 + en + 32 * ek)) nu (rs.drop (k + 1)) by rw [HR2.out, HS.out, decide_eq_false (by simp; omega)]; rfl)
                    clear Hz hpv
                    go_wp2_with fail
                    go_quiet (fail)
                    go_wp2
                    go_roundw
                    case rel => exact ⟨k + 1, b + (12 + en + 32 * ek), by go_num, by go_num, by omega, ⟨nu, Hgo.out, fun _ h => HNU.out.symm.trans (Hnx.out h)⟩, by omega, Ho5.out.drewN _⟩
                    case measure => simp [intOf]; omega
                · have g4 : decide ((0 : Int) < (k : Int)) = false := decide_eq_false (by omega)
                  have Hgo := jJ0 (show R = vK first (vP rs) (k + 1) (b + (12 + en + 32 * ek)) nu (rs.drop (k + 1)) by rw [HR2.out, HS.out, decide_eq_false (by simp; omega)]; rfl)
                  clear Hz
                  go_wp2_with fail
                  go_quiet (fail)
                  go_wp2
                  go_roundw
                  case rel => exact ⟨k + 1, b + (12 + en + 32 * ek), by go_num, by go_num, by omega, ⟨nu, Hgo.out, fun _ h => HNU.out.symm.trans (Hnx.out h)⟩, by omega, Ho5.out.drewN _⟩
                  case measure => simp [intOf]; omega
      · have Hend := jJ0 (show R = rs.length by
          obtain ⟨prev, hR, _⟩ := Hat.out.eq
          rw [hR, reachGo_end hlt]
          omega)
        go_wp2
        go_ret
        exact ⟨by rw [Hend.out]; rfl, Hat.out.old⟩
  · have hb' : beginsB s first d = false := by simpa using hb
    have Hz := jJ0 (show R = 0 by rw [HR.out, if_neg hb])
    rw [hb']
    clear hb hb'
    go_wp2
    go_ret
    exact ⟨by rw [Hz.out]; rfl, Ho1.out⟩
theorem jA {P : Program} {fn : Func} {R : Ending -> World -> Prop} {a : Act} {w : World} {p u : Tmp} {ty : TypeId} {g : Nat} {t : TypeId} {cs : Array Value} {d : TypeDesc} (h : fn.results = #[.cell p ty, .tmp u])
    (hp : a.tmps.getD p undef = .pointer (some ⟨g, 0, none⟩)) (hb : Blk w g t cs) (hu : P.underlying ty = some d) (hd : (match d with | .struct _ | .array _ _ => true | _ => false) = true) (hi : (P.info? ty).map (·.size) = some cs.size)
    (hdf : a.defers = []) (hR : R (.returned (.tuple #[.agg cs, a.tmps.getD u undef])) w) : bodyPost P fn R .ret a w := by
  refine bodyPost_ret ?_ hdf hR
  rw [results_cell_tmp h, hp]
  have hl := run_loadVar_row (P := P) w g t ty cs (0, 0) d hb hu hd hi
  simp [asAddr, hl, Result.andThen]
theorem ret_cell {P : Program} {fn : Func} {R : Ending -> World -> Prop} {a : Act} {w : World} {p : Tmp} {ty : TypeId} {g : Nat} {t : TypeId} {cs : Array Value} {d : TypeDesc} (h : fn.results = #[.cell p ty])
    (hp : a.tmps.getD p undef = .pointer (some ⟨g, 0, none⟩)) (hb : Blk w g t cs) (hu : P.underlying ty = some d) (hd : (match d with | .struct _ | .array _ _ => true | _ => false) = true) (hi : (P.info? ty).map (·.size) = some cs.size)
    (hdf : a.defers = []) (hR : R (.returned (.agg cs)) w) : bodyPost P fn R .ret a w := by
  refine bodyPost_ret ?_ hdf hR
  have hl := run_loadVar_row (P := P) w g t ty cs (0, 0) d hb hu hd hi
  simp only [results, h]
  simp only [Array.getD_eq_getD_getElem?] at hp
  simp [hp, asAddr, hl]
end Go.Proofs.YtnaolhjbapgjgaaGreat

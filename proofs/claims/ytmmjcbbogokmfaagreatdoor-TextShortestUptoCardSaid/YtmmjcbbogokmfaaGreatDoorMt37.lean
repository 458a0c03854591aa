import Derived.Test.YtmmjcbbogokmfaaGreatDoorMt01
import Derived.Test.YtmmjcbbogokmfaaGreatDoorMt19
import Derived.Test.YtmmjcbbogokmfaaGreatDoorMt33
import Derived.Test.YtmmjcbbogokmfaaGreatDoorMt35
import Derived.Test.YtmmjcbbogokmfaaGreatDoorMt36
set_option maxRecDepth 100000
set_option maxHeartbeats 25600000
namespace Go.Proofs.YtmmjcbbogokmfaaGreatDoor
open Go.RowKit
structure PrS (w : World) (w1 : World) (t : Tre) (s : Sl) (lp : List (Int × Int)) (q : Nat) (next : Nat) (l : List UInt8) (B : Option Addr) (bc : Nat) (W : World) : Prop where
  pr : Pr w1 t s next l B bc W
  row : Blk W q 134 (lp.flatMap lpC).toArray
  box : Blk W w.heap.size 29 (jl t s).toArray
section
variable {w w1 W W1 : World} {t : Tre} {s : Sl} {lp : List (Int × Int)} {q next n2 : Nat} {l l2 : List UInt8} {B B2 : Option Addr} {bc c2 : Nat}
theorem PrS.old (h : PrS w w1 t s lp q next l B bc W) (ho : Old W W1) : PrS w w1 t s lp q next l B bc W1 := ⟨h.pr.old ho, h.row.old ho, h.box.old ho⟩
theorem PrS.step (h : PrS w w1 t s lp q next l B bc W) (hp : Pr w1 t s n2 l2 B2 c2 W1) (hf : FrP W W1) : PrS w w1 t s lp q n2 l2 B2 c2 W1 := ⟨hp, hf.blk _ _ _ (by decide) (by decide) h.row, hf.blk _ _ _ (by decide) (by decide) h.box⟩
theorem lp_cells (h : PrS w w1 t s lp q next l B bc W) {k : Nat} {d : Int × Int} (hk : lp[k]? = some d) : W.cell? ⟨q, k * 2, none⟩ = some (.int .i64 d.1) /\ W.cell? ⟨q, k * 2 + 1, none⟩ = some (.int .i64 d.2) := by
  have hf := flat_z lpC 2 (fun _ => rfl) lp k _ hk
  refine ⟨h.row.at_ (k * 2) ?_, h.row.at_ (k * 2 + 1) ?_⟩
  · have := hf 0 (by decide); rw [List.getElem?_toArray]; exact this
  · have := hf 1 (by decide); rw [List.getElem?_toArray]; exact this
end
structure PrtOk (w1 : World) (t : Tre) (s : Sl) : Prop where
  right : ∀ d ∈ (laidN t).l, ∀ (W : World) (next : Nat) (l : List UInt8) (B : Option Addr) (bc : Nat), next <= 1000000 -> Pr w1 t s next l B bc W ->
    Calls Tryz.prog 52 #[.pointer (some ⟨w1.heap.size, 0, none⟩), iv d.1, iv d.2] W (TrR w1 t s l B bc (rightD t d next) W)
  decl : ∀ d ∈ (laidN t).l, ∀ (W : World) (next : Nat) (l l' : List UInt8) (B : Option Addr) (bc : Nat), Pr w1 t s next l B bc W -> declP t d l = some l' -> l'.length <= LIMP ->
    Calls Tryz.prog 54 #[.pointer (some ⟨w1.heap.size, 0, none⟩), iv d.1, iv d.2] W (PrR w1 t s next l' W)
def PrintY (w : World) (l : List UInt8) (e : Ending) (W : World) : Prop := ∃ A c, e = .returned (.tuple #[.slice A l.length c, iv 0]) /\ W.ownsRow (w.heap.size + 1) 5 1 (.slice A l.length c) l.length (l.map bv) /\ Kp (fromB w.heap.size) w W
theorem pr_begin (w : World) (t : Tre) (s : Sl) : Pr w t s 0 [] none 0 (w.alloc (.cells (jl t s ++ [Value.int .i64 0, Value.slice none 0 0]).toArray 129)) :=
  ⟨Blk.new _ _ _, World.ownsRow_nil _ _ _ _, ((Kp.refl NoX w).alloc _).mono (fun _ _ e => e.elim)⟩
theorem TrD.old {w w1 : World} {t : Tre} {s : Sl} {ns : List MNd} {ps : List MSt} (h : TrD w t s ns ps) (ho : Old w w1) : TrD w1 t s ns ps :=
  ⟨⟨h.nd.rows.old ho, h.nd.eq, h.nd.cnt, fun x hx => ⟨(h.nd.ok x hx).1.old ho, (h.nd.ok x hx).2⟩⟩, h.rA.old ho, h.rG.old ho, h.rM.old ho, h.rP.old ho, h.pe, fun x hx => ⟨⟨(h.po x hx).1.1.old ho, (h.po x hx).1.2⟩, (h.po x hx).2.1.old ho, (h.po x hx).2.2⟩, h.nA, h.nG, h.nM, h.nP⟩
theorem Pr.far {w W W1 : World} {t : Tre} {s : Sl} {next : Nat} {l : List UInt8} {B : Option Addr} {bc : Nat} (h : Pr w t s next l B bc W) (hk : Kp (fromB W.heap.size) W W1) : Pr w t s next l B bc W1 := by
  have hb := h.box.lt
  refine ⟨h.box.kp hk (fun e : W.heap.size <= w.heap.size => by omega), jX h.own hk (fun k e e2 => ?_), h.kp.trans hk (fun b _ e => ?_)⟩
  · have h1 := (own_ge h.own (b := k) (by rw [<- jC]; exact e)).2
    have h2 : W.heap.size <= k := e2
    omega
  · have h1 := h.kp.size
    have h2 : W.heap.size <= b := e
    show w.heap.size <= b
    omega
theorem rightAll_cons {t : Tre} {d : Int × Int} {l : List (Int × Int)} {nx N : Nat} (h : rightAll t (d :: l) nx = some N) : ∃ m, rightD t d nx = some m /\ rightAll t l m = some N := by
  rw [rightAll] at h
  exact Option.bind_eq_some_iff.1 h
theorem declsP_cons {t : Tre} {d : Int × Int} {l : List (Int × Int)} {b b' : List UInt8} (h : declsP t (d :: l) b = some b') : ∃ m, declP t d b = some m /\ declsP t l m = some b' := by
  rw [declsP] at h
  exact Option.bind_eq_some_iff.1 h
theorem print_yes (w : World) (hg : Sg w) (h8 : 8 <= w.heap.size) (t : Tre) (s : Sl) (ns : List MNd) (ps : List MSt) (TD : TrD w t s ns ps) (OK : ∀ w1, Old w w1 -> PrtOk w1 t s) (hfit : fitT t = true) (lE : List UInt8) (hbytes : bytesP t = some lE) (hl : lE.length <= LIMP) :
    Calls Tryz.prog 14 #[.agg (jl t s).toArray] w (PrintY w lE) := by
  obtain ⟨i0, hi, hz0, hz1, hz2⟩ := info_parts Tryz.infoU8
  unfold fitT at hfit
  rw [Bool.and_eq_true, Bool.and_eq_true, decide_eq_true_eq] at hfit
  obtain ⟨⟨hok, hleg⟩, hall⟩ := hfit
  unfold bytesP at hbytes
  obtain ⟨l3, hds, hE⟩ := Option.map_eq_some_iff.1 hbytes
  obtain ⟨w1, hw1⟩ : ∃ w1, w1 = w.alloc (.cells (jl t s).toArray 29) := ⟨_, rfl⟩
  have ho1 : Old w w1 := by rw [hw1]; exact (Kp.refl NoX w).alloc _
  have hsz1 : w1.heap.size = w.heap.size + 1 := by rw [hw1]; simp
  have OK1 := OK _ ho1
  have HP0 : Pr w1 t s 0 [] none 0 ((w.alloc (.cells (jl t s).toArray 29)).alloc (.cells (jl t s ++ [Value.int .i64 0, Value.slice none 0 0]).toArray 129)) := by rw [hw1]; exact pr_begin _ t s
  have TD2 : TrD ((w.alloc (.cells (jl t s).toArray 29)).alloc (.cells (jl t s ++ [Value.int .i64 0, Value.slice none 0 0]).toArray 129)) t s ns ps := TD.old (((Kp.refl NoX w).alloc _).alloc _)
  have LD := jJ0 (laid_any _ t s ns ps TD2)
  have HB := jJ0 ((Blk.new w 29 (jl t s).toArray).alloc (.cells (jl t s ++ [Value.int .i64 0, Value.slice none 0 0]).toArray 129))
  replace HP0 := jJ0 HP0
  have hcnt := TD.nd.cnt
  have HG := jJ0 (hg.old ho1)
  have H81 := jJ0 (show 8 <= w1.heap.size by rw [hsz1]; omega)
  have KPW := jJ0 ho1
  have HLn : Hid ((laidN t).l.length <= 4000000) := jJ0 (by
    have h1 := count_le TD
    have e : (laidN t).l.length = t.count := by
      have ha : ∀ (fam : Int) (l : List Int) (i : Nat) (x : LayP), (kI fam l i x).l.length = x.l.length := by
        intro fam l
        induction l with
        | nil => exact fun i x => rfl
        | cons o l ih => exact fun i x => by rw [kI, ih, layN_len]
      unfold laidN
      rw [ha, ha, ha, ha]
      exact List.length_replicate
    rw [e]
    exact h1)
  have HRt := jJ0 OK1.right
  have HDc := jJ0 OK1.decl
  have LDP := jJ0 (fun (w3 : World) (q : Nat) (hrow : Blk w3 q 134 ((laidN t).l.flatMap lpC).toArray) (hkp : Kp (fromB ((w.alloc (.cells (jl t s).toArray 29)).alloc (.cells (jl t s ++ [Value.int .i64 0, Value.slice none 0 0]).toArray 129)).heap.size) ((w.alloc (.cells (jl t s).toArray 29)).alloc (.cells (jl t s ++ [Value.int .i64 0, Value.slice none 0 0]).toArray 129)) w3) => (show PrS w w1 t s (laidN t).l q 0 [] none 0 w3 from ⟨HP0.out.far hkp, hrow, HB.out.kp hkp (fun e : _ <= w.heap.size => by have := HB.out.lt; omega)⟩))
  have HLg := jJ0 (fun W next l B bc (hp : Pr w1 t s next l B bc W) => kJ W (hp.sg HG.out H81.out) t.name)
  rw [show jq (sb t.name) = true from hleg] at HLg
  clear HP0 TD TD2 ho1 hg h8 OK OK1 hleg hw1
  have HOk := jJ0 hok
  have HAll := jJ0 hall
  have HDs := jJ0 hds
  have HE := jJ0 hE
  clear hok hall hds hE hbytes
  unfold LaidR at LD
  generalize (laidN t).ok = lok at *
  generalize (laidN t).l = L at *
  unfold jl iv at *
  simp only [List.cons_append, List.nil_append] at *
  go_enter Tryz.func14, Tryz.ntmps14
  go_wp2_with (first | (go_at_call 20; refine (HLg.out _ _ _ _ _ P3.out.pr).mono ?_; rintro e w4 ⟨rfl, rfl⟩) | (go_at_call 51; refine LD.out.mono ?_; rintro e w3 ⟨q, rfl, hrow, hq, hkp⟩; have P3 := jJ0 (LDP.out w3 q hrow hkp); have p3 := P3.out.box.at_ 0 (v := .string t.name) rfl; rw [HOk.out]; clear hrow hq hkp LD LDP HB) | fail)
  go_loopw [6, 7] (fun b i wr => ∃ (j nx : Nat), j <= L.length /\ b = .bool true /\ i = .int .i64 (j : Int) /\ rightAll t (L.drop j) nx = some t.nodes.length /\ nx <= 1000000 /\ PrS w w1 t s L q nx [] none 0 wr) (fun _ i _ => L.length - (intOf i).toNat)
  case atStart => exact ⟨0, 0, Nat.zero_le _, rfl, rfl, HAll.out, by decide, P3.out⟩
  case round =>
    clear P3 p3 HAll
    obtain ⟨j, nx, hj, rfl, rfl, hra, hnx, hS⟩ := hrel
    have HS := jJ0 hS
    have Hnx := jJ0 hnx
    have Hra := jJ0 hra
    by_cases hlt : j < L.length
    · have hd : L.drop j = L[j] :: L.drop (j + 1) := List.drop_eq_getElem_cons hlt
      have hm : L[j] ∈ L := List.getElem_mem hlt
      have hx : L[j]? = some L[j] := List.getElem?_eq_getElem hlt
      rw [hd] at hra
      generalize L[j] = d at *
      obtain ⟨m, hr1, hr2⟩ := rightAll_cons hra
      have HR := jJ0 (HRt.out d hm _ nx [] none 0 hnx (hS.pr.old ((Kp.refl NoX wr).drew)))
      rw [hr1, hsz1] at HR
      have Hr2 := jJ0 hr2
      have Hle := jJ0 (rightD_le hr1 hnx hcnt)
      have Hx := jJ0 hx
      have b1 : (0 : Int) <= (j : Int) := by omega
      have b2 : (j : Int).toNat = j := by omega
      have b3 : (j : Int) < (L.length : Int) := by omega
      have b4 : IntKind.i64.wrap ((j : Int) + 1) = (j : Int) + 1 := IntWalk.i64_in _ (by have := HLn.out; omega)
      clear hS hd hm hx hra hr1 hr2 hnx
      go_wp2
      refine kn (S := fun W => ∃ n', PrS w w1 t s L q n' [] none 0 W) 13 rfl (by kernel_rfl) ⟨nx, HS.out.old ((Kp.refl NoX wr).drew)⟩ (fun hHeld => ?_)
      iterate 11 (refine' tOn rfl rfl (by kernel_rfl) (fun _ _ _ h => h) rfl hHeld (fun w' hSw => ?_) ?_; rotate_left; (obtain ⟨n', hS'⟩ := hSw; have s0 := (lp_cells hS' Hx.out).1; have s1 := (lp_cells hS' Hx.out).2; clear hS'; go_simp <;> with_reducible rfl); simp only [Act.put, List.setIfInBounds_toArray, List.set_cons_zero, List.set_cons_succ])
      refine tCall rfl (by kernel_rfl) (by decide) (fun K hK => ?_)
      go_simp
      go_at_call 52
      refine HR.out.mono ?_
      rintro e w2 ⟨rfl, n2, hn2, hX, hg2⟩
      obtain rfl := hn2 m rfl
      have HX2 := jJ0 ((HS.out.old ((Kp.refl NoX wr).drew)).step hX hg2)
      clear hX hg2 hn2
      go_simp
      refine hK.out _ _ ⟨n2, HX2.out⟩ (fun hHeld => ?_)
      clear hK K
      iterate 1 (refine' tOn rfl rfl (by kernel_rfl) (fun _ _ _ h => h) rfl hHeld (fun w' hSw => ?_) ?_; rotate_left; (clear hSw; go_simp <;> with_reducible rfl); simp only [Act.put, List.setIfInBounds_toArray, List.set_cons_zero, List.set_cons_succ])
      refine wpAnyH_done (by kernel_rfl) ?_ _
      clear hHeld
      go_wp2
      exact ⟨⟨j + 1, n2, by omega, rfl, by rw [show ((j + 1 : Nat) : Int) = (j : Int) + 1 by omega], Hr2.out, Hle.out, HX2.out⟩, by simp only [intOf]; omega⟩
    · obtain rfl : j = L.length := by omega
      rw [List.drop_length] at hra
      have hN : nx = t.nodes.length := by rw [rightAll] at hra; injection hra
      subst hN
      have k8 := hS.pr.c8
      rw [hsz1] at k8
      have k6 := hS.box.at_ 6 (v := .slice s.nA t.nodes.length s.nc) rfl
      have k0 := hS.box.at_ 0 (v := .string t.name) rfl
      have gE : l3.length + 2 = lE.length := by rw [<- HE.out, List.length_append]; rfl
      have g3 : l3.length <= LIMP := by omega
      have g0 : (jp [] [[116, 121, 112, 101], tb t.name, [123]] ++ [10]).length <= LIMP := Nat.le_trans (declsP_len _ HDs.out) g3
      have Hl0 := jJ0 (lim_one g0)
      have P1 := jJ0 (fun W Q (hp : Pr w1 t s t.nodes.length [] none 0 W) (hQ : Q = W.heap.size) => kA w1 W t s t.nodes.length [] none 0 hp Q hQ [⟨#[116, 121, 112, 101]⟩, t.name, ⟨#[123]⟩] (lim_one g0).1 (show 3 <= 1000 by decide))
      simp only [hsz1] at P1
      have HDs2 := jJ0 HDs.out
      have HLm := jJ0 (show (jp [] [[116, 121, 112, 101], tb t.name, [123]]).map bv ++ [bv 10] = (jp [] [[116, 121, 112, 101], tb t.name, [123]] ++ [10]).map bv by rw [List.map_append (l₂ := [10])]; rfl)
      have P1' := jJ0 (show jp [] [sb ⟨#[116, 121, 112, 101]⟩, sb t.name, sb ⟨#[123]⟩] = jp [] [[116, 121, 112, 101], tb t.name, [123]] from rfl)
      simp only [List.map_cons, List.map_nil, P1'.out] at P1
      clear hS hra Hra HDs P1' g0
      generalize jp [] [[116, 121, 112, 101], tb t.name, [123]] = l0 at *
      go_wp2_with (first | (at_builtin; refine jF _ rfl (.tmp 66) (.tmp 67) 33 rfl w1.heap.size 5 i0 (.int .u8 0) 1 1 Tryz.underlying33 hi hz0 hz1 hz2 rfl (by decide) (.slice B5 l0.length c5) l0.length (l0.map bv) rfl (jX H5.out.pr.own ((Kp.refl NoX _).alloc _) (fun _ _ e => e)) _ 1 1 [bv 10] rfl (Rd.one_new _ _ _) (kL _ rfl) Hl0.out.2.1 Hl0.out.2.2.1 (Nat.le_trans H5.out.pr.kp.size ((Kp.refl NoX _).alloc _).size) ?_; intro B6 c6 w6 hown hgrow hat; rw [jC] at hgrow; rw [HLm.out, Hl0.out.2.2.2] at hown; have HG6 := H5.out.pr.grow ((Kp.refl NoX _).alloc _) hgrow hown; have hc9 := HG6.1.at_ 9 rfl; have hz9 := HG6.1.frozen 9; rw [hsz1] at hc9 hz9; have HN := jJ0 (H5.out.step HG6.2.1 HG6.2.2); rw [hsz1] at HN; clear hown hgrow hat HG6) | (go_at_call 53; refine (P1.out _ _ (HS.out.old ((Kp.refl NoX _).drewN _)).pr (by simp)).mono ?_; rintro e w5 ⟨rfl, B5, c5, hX, hf⟩; have H5 := jJ0 ((HS.out.old ((Kp.refl NoX _).drewN _)).step hX hf); have k9 := hX.c9; rw [hsz1] at k9; clear hX hf) | go_quiet (fail) | fail)
      rw [<- Hl0.out.2.2.2] at HN
      generalize hW0 : w6.setCell ⟨w.heap.size + 1, 9, none⟩ (.slice B6 (l0.length + 1) c6) = W0 at *
      clear hW0 hc9 hz9
      have Hg3 := jJ0 g3
      have HgE := jJ0 gE
      clear g3 gE k9 k0 k6 k8
      go_loopw [73] (fun i wr => ∃ (k : Nat) (l1 : List UInt8) (B1 : Option Addr) (c1 : Nat), k <= L.length /\ i = .int .i64 (k : Int) /\ declsP t (L.drop k) l1 = some l3 /\ PrS w w1 t s L q t.nodes.length l1 B1 c1 wr) (fun i _ => L.length - (intOf i).toNat)
      case atStart => exact ⟨0, _, _, _, Nat.zero_le _, rfl, HDs2.out, HN.out⟩
      case round =>
        clear HN
        obtain ⟨k, l1, B1, c1, hk, rfl, hdc, hS⟩ := hrel
        have HS1 := jJ0 hS
        by_cases hlt2 : k < L.length
        · have hd : L.drop k = L[k] :: L.drop (k + 1) := List.drop_eq_getElem_cons hlt2
          have hm : L[k] ∈ L := List.getElem_mem hlt2
          have hx : L[k]? = some L[k] := List.getElem?_eq_getElem hlt2
          rw [hd] at hdc
          generalize L[k] = d at *
          obtain ⟨m, hr1, hr2⟩ := declsP_cons hdc
          have q0 := (lp_cells hS hx).1
          have q1 := (lp_cells hS hx).2
          have hoA := (Kp.refl NoX wr).alloc (.cells #[.int .i64 d.1, .int .i64 d.2] 134)
          have gm : m.length <= LIMP := Nat.le_trans (declsP_len _ hr2) Hg3.out
          have HC := jJ0 (HDc.out d hm (wr.alloc (.cells #[.int .i64 d.1, .int .i64 d.2] 134)) t.nodes.length l1 m B1 c1 (hS.pr.old hoA) hr1 gm)
          rw [hsz1] at HC
          have Hr2 := jJ0 hr2
          have b1 : (0 : Int) <= (k : Int) := by omega
          have b2 : (k : Int).toNat = k := by omega
          have b3 : (k : Int) < (L.length : Int) := by omega
          have b4 : IntKind.i64.wrap ((k : Int) + 1) = (k : Int) + 1 := IntWalk.i64_in _ (by have := HLn.out; omega)
          have HS2 := jJ0 (HS1.out.old hoA)
          clear hS hd hm hx hdc hr1 hr2 hoA gm
          go_wp2_with (first | (go_at_call 54; refine HC.out.mono ?_; rintro e w2 ⟨rfl, B2, c2, hX, hf⟩; have HX2 := jJ0 (HS2.out.step hX hf); clear hX hf) | fail)
          exact ⟨⟨k + 1, m, B2, c2, by omega, by rw [show ((k + 1 : Nat) : Int) = (k : Int) + 1 by omega], Hr2.out, HX2.out⟩, by simp only [intOf]; omega⟩
        · obtain rfl : k = L.length := by omega
          rw [List.drop_length] at hdc
          have hN3 : l1 = l3 := by rw [declsP] at hdc; injection hdc
          subst hN3
          have k9 := hS.pr.c9
          rw [hsz1] at k9
          have HS3 := jJ0 hS
          have HS1o := jJ0 hS.pr.own
          have J63 := jJ0 (show l1.length + (⟨#[125, 10]⟩ : ByteArray).size <= maxLen by have h1 := HgE.out; have h2 := hl; show l1.length + 2 <= _; unfold maxLen; unfold LIMP at h2; omega)
          have J47 := jJ0 (show l1.length + (⟨#[125, 10]⟩ : ByteArray).size <= 140737488355328 by have h1 := HgE.out; have h2 := hl; show l1.length + 2 <= _; unfold LIMP at h2; omega)
          have hbase := hS.pr.kp.size
          have HEl := jJ0 (show l1.length + (⟨#[125, 10]⟩ : ByteArray).size = lE.length from HgE.out)
          have HEm := jJ0 (show l1.map bv ++ (sb ⟨#[125, 10]⟩).map bv = lE.map bv by rw [<- HE.out, List.map_append]; rfl)
          clear hS hdc HS HS1
          go_wp2_with (first | (at_builtin; refine kO _ rfl (.tmp 87) (.const (.string ⟨#[125, 10]⟩)) 33 9 rfl w1.heap.size 5 i0 Tryz.underlying33 Tryz.underlying9 hi hz0 hz1 hz2 (.slice B1 l1.length c1) l1.length (l1.map bv) rfl HS1o.out ⟨#[125, 10]⟩ rfl J63.out J47.out hbase ?_; intro B2 c2 w2 hown hgrow hat; rw [jC] at hgrow; rw [<- List.map_append] at hown; have Hown := jJ0 hown; have Hgr := jJ0 hgrow; clear hown hgrow hat) | fail)
          go_ret2
          have hown : w2.ownsRow (w.heap.size + 1) 5 1 (.slice B2 lE.length c2) lE.length (lE.map bv) := by
            have h := Hown.out
            rw [HEl.out, hsz1, show l1 ++ sb ⟨#[125, 10]⟩ = lE from HE.out] at h
            exact h
          have hk2 : Kp (fun b => B1.map (·.block) = some b) wr w2 := Kp.grown ((Kp.refl NoX wr).mono (fun _ _ e => e.elim)) Hgr.out (fun _ e _ => e)
          refine ⟨B2, c2, by rw [<- HEl.out]; rfl, hown, ((KPW.out.mono (fun _ _ e => e.elim)).trans HS3.out.pr.kp (fun b _ e => ?_)).trans hk2 (fun b _ e => ?_)⟩
          · have h2 : w1.heap.size <= b := e
            show w.heap.size <= b
            omega
          · have h2 := (own_ge HS3.out.pr.own e).1
            show w.heap.size <= b
            omega
theorem one_stg (x : Stg) : ∀ u ∈ sgC x, u.oneCell' = true := by
  intro u hu
  simp only [sgC, iv, List.mem_cons, List.mem_nil_iff, or_false] at hu
  rcases hu with rfl | rfl | rfl | rfl | rfl | rfl | rfl <;> rfl
theorem one_mil (x : Mil) : ∀ u ∈ miC x, u.oneCell' = true := by
  intro u hu
  simp only [miC, iv, List.mem_cons, List.mem_nil_iff, or_false] at hu
  rcases hu with rfl | rfl | rfl | rfl | rfl | rfl <;> rfl
theorem stage_any (w : World) (g : Nat) (src : ByteArray) (f : Nat) (r r' : Rdr) (s : Sl) (h : St w g src r s) (hk : stageN (sb src) f r = some r') :
    Calls Tryz.prog 138 #[.pointer (some ⟨g, 0, none⟩)] w (Ex w g src s r' (.tuple #[])) := by
  unfold stageN at hk
  obtain ⟨⟨nm, at_, od, r1⟩, hd, hk⟩ := Option.bind_eq_some_iff.1 hk
  obtain ⟨⟨inn, ia, r2⟩, hin, hk⟩ := Option.bind_eq_some_iff.1 hk
  obtain ⟨r3, hn1, hk⟩ := Option.bind_eq_some_iff.1 hk
  obtain ⟨⟨op, r4⟩, hg1, hk⟩ := Option.bind_eq_some_iff.1 hk
  obtain ⟨⟨cl, r5⟩, hg2, hk⟩ := Option.bind_eq_some_iff.1 hk
  obtain ⟨r6, hn2, hk⟩ := Option.bind_eq_some_iff.1 hk
  split at hk
  case isFalse => cases hk
  rename_i hlt
  injection hk with hk
  have HZ := jJ0 h.zlt
  have HR' := jJ0 hk
  have HLt := jJ0 hlt
  have D0 := jJ0 hd
  have I0 := jJ0 hin
  have N1 := jJ0 hn1
  have G1 := jJ0 hg1
  have G2 := jJ0 hg2
  have N2 := jJ0 hn2
  clear hd hin hn1 hg1 hg2 hn2
  have K0 := jJ0 ((Ks.start h).alloc (.cells [.string ⟨#[]⟩, .int .i64 0, .int .i64 0, .string ⟨#[]⟩, .int .i64 0, .int .i64 0, .int .i64 0].toArray 117))
  have B0 := jJ0 (Blk.new w 117 [.string ⟨#[]⟩, .int .i64 0, .int .i64 0, .string ⟨#[]⟩, .int .i64 0, .int .i64 0, .int .i64 0].toArray)
  clear h hk hlt
  generalize ha : w.heap.size = a at *
  have hm : a ∈ [a] := List.mem_singleton.2 rfl
  go_enter Tryz.func138, Tryz.ntmps138
  go_wp2_with (first | (go_at_call 166; (refine (yC _ g src _ _ _ _ _ _ K0.out.st D0.out).mono ?_; rintro e w1 ⟨rfl, hX⟩; have K1a := jJ0 (K0.out.step hX.1 hX.2); have B1a := jJ0 (K0.out.blk hm B0.out hX.2); clear hX; have b0 := B1a.out.at_ 0 rfl; have z0 := B1a.out.frozen 0; have b1 := B1a.out.at_ 1 rfl; have z1 := B1a.out.frozen 1; have b2 := B1a.out.at_ 2 rfl; have z2 := B1a.out.frozen 2; have K1 := jJ0 (((K1a.out.put hm 0 (.string nm)).put hm 1 (.int .i64 at_)).put hm 2 (.int .i64 od)); have B1 := jJ0 (((B1a.out.setL 0 (.string nm)).setL 1 (.int .i64 at_)).setL 2 (.int .i64 od)); clear K1a B1a; (try unfold iv))) | (go_at_call 170; (refine (in_any _ g src _ _ _ _ _ K1.out.st I0.out).mono ?_; rintro e w2 ⟨rfl, hX⟩; have K2a := jJ0 (K1.out.step hX.1 hX.2); have B2a := jJ0 (K1.out.blk hm B1.out hX.2); clear hX; have b3 := B2a.out.at_ 3 rfl; have z3 := B2a.out.frozen 3; have b4 := B2a.out.at_ 4 rfl; have z4 := B2a.out.frozen 4; have K2 := jJ0 ((K2a.out.put hm 3 (.string inn)).put hm 4 (.int .i64 ia)); have B2 := jJ0 ((B2a.out.setL 3 (.string inn)).setL 4 (.int .i64 ia)); clear K2a B2a; (try unfold iv))) | (go_at_call 135; first | (refine (jN _ g src _ _ _ K5.out.st N2.out).mono ?_; rintro e w6 ⟨rfl, hX⟩; have K6a := jJ0 (K5.out.step hX.1 hX.2); have B6a := jJ0 (K5.out.blk hm B5.out hX.2); clear hX; have K6 := jJ0 K6a.out; have B6 := jJ0 B6a.out; clear K6a B6a; (try unfold iv)) | (refine (jN _ g src _ _ _ K2.out.st N1.out).mono ?_; rintro e w3 ⟨rfl, hX⟩; have K3a := jJ0 (K2.out.step hX.1 hX.2); have B3a := jJ0 (K2.out.blk hm B2.out hX.2); clear hX; have K3 := jJ0 K3a.out; have B3 := jJ0 B3a.out; clear K3a B3a; (try unfold iv))) | (go_at_call 171; first | (refine (ruled30 _ g src f _ _ _ K4.out.st G2.out).mono ?_; rintro e w5 ⟨rfl, s5, hX⟩; have K5a := jJ0 (K4.out.step hX.1 hX.2); have B5a := jJ0 (K4.out.blk hm B4.out hX.2); clear hX; have b6 := B5a.out.at_ 6 rfl; have z6 := B5a.out.frozen 6; have K5 := jJ0 (K5a.out.put hm 6 (.int .i64 cl)); have B5 := jJ0 (B5a.out.setL 6 (.int .i64 cl)); clear K5a B5a; (try unfold iv)) | (refine (ruled29 _ g src f _ _ _ K3.out.st G1.out).mono ?_; rintro e w4 ⟨rfl, s4, hX⟩; have K4a := jJ0 (K3.out.step hX.1 hX.2); have B4a := jJ0 (K3.out.blk hm B3.out hX.2); clear hX; have b5 := B4a.out.at_ 5 rfl; have z5 := B4a.out.frozen 5; have K4 := jJ0 (K4a.out.put hm 5 (.int .i64 op)); have B4 := jJ0 (B4a.out.setL 5 (.int .i64 op)); clear K4a B4a; (try unfold iv))) | fail)
  clear K0 B0 K1 B1 K2 B2 K3 B3 K4 B4 K5 B5 b0 z0 b1 z1 b2 z2 b3 z3 b4 z4 b5 z5 b6 z6
  have HX := jJ0 (show Blk w6 a 117 (sgC ⟨nm, at_, od, inn, ia, op, cl⟩).toArray from B6.out)
  clear B6
  obtain ⟨ns, ps, hR⟩ := K6.out.st.rows
  have HR := jJ0 hR
  clear hR
  obtain ⟨i0, hi, hz0, hz1, hz2⟩ := info_parts Tryz.infoStage
  have H63 := jJ0 (show r6.tree.stages.length + 1 <= maxLen by have := HLt.out; unfold maxLen; omega)
  have H47 := jJ0 (show (r6.tree.stages.length + 1) * 72 <= 140737488355328 by have := HLt.out; omega)
  have hc7 : w6.cell? ⟨g, 8, none⟩ = some (.slice s5.gA r6.tree.stages.length s5.gc) := Blk.at_ K6.out.st.box 8 rfl
  have hz7 := K6.out.st.box.z 8
  have hgl := K6.out.st.lt
  have hal := HX.out.lt
  have c0 : w6.cell? ⟨a, 0, none⟩ = some (.string nm) := HX.out.at_ 0 rfl
  have c1 : w6.cell? ⟨a, 1, none⟩ = some (.int .i64 at_) := HX.out.at_ 1 rfl
  have c2 : w6.cell? ⟨a, 2, none⟩ = some (.int .i64 od) := HX.out.at_ 2 rfl
  have c3 : w6.cell? ⟨a, 3, none⟩ = some (.string inn) := HX.out.at_ 3 rfl
  have c4 : w6.cell? ⟨a, 4, none⟩ = some (.int .i64 ia) := HX.out.at_ 4 rfl
  have c5 : w6.cell? ⟨a, 5, none⟩ = some (.int .i64 op) := HX.out.at_ 5 rfl
  have c6 : w6.cell? ⟨a, 6, none⟩ = some (.int .i64 cl) := HX.out.at_ 6 rfl
  have HO := jJ0 ((Kp.refl NoX w6).drew.alloc (.cells (sgC ⟨nm, at_, od, inn, ia, op, cl⟩).toArray 117))
  go_region_law ((refine ju _ rfl (.tmp 34) (.tmp 36) 23 rfl 8 117 i0 _ 7 72 Tryz.underlying23 hi hz0 hz1 hz2 rfl (by decide) (.slice s5.gA r6.tree.stages.length s5.gc) r6.tree.stages.length (r6.tree.stages.flatMap sgC) rfl (jX HR.out.rG HO.out (fun _ _ e => e)) _ 1 1 (sgC ⟨nm, at_, od, inn, ia, op, cl⟩) rfl (Rd.row_new _ _ 7 1 _ rfl) (one_stg _) H63.out H47.out (Nat.le_trans K6.out.st.eight HO.out.size) ?_; intro A1 c1 w9 hown hgrow hat; rw [jC] at hgrow hat; have hb2 := K6.out.st.pastG HR.out HO.out hgrow; have HG := jJ0 (K6.out.st.growG HR.out ⟨nm, at_, od, inn, ia, op, cl⟩ True.intro HO.out hgrow hat hown); have hc7 : w9.cell? ⟨g, 8, none⟩ = some (.slice s5.gA r6.tree.stages.length s5.gc) := Blk.at_ hb2 8 rfl; have hz7 := hb2.z 8; clear hown hgrow hat hb2))
  all_goals
    have HE := jJ0 ((K6.out.step HG.out.1 HG.out.2).done (fun b e => by rw [ha]; exact HZ.out b e))
    go_wp2
    go_end0
    rw [<- HR'.out]
    exact ⟨rfl, _, HE.out.1, HE.out.2⟩
theorem milestone_any (w : World) (g : Nat) (src : ByteArray) (f : Nat) (r r' : Rdr) (s : Sl) (h : St w g src r s) (hk : mileN (sb src) f r = some r') :
    Calls Tryz.prog 139 #[.pointer (some ⟨g, 0, none⟩)] w (Ex w g src s r' (.tuple #[])) := by
  unfold mileN at hk
  obtain ⟨⟨nm, at_, od, r1⟩, hd, hk⟩ := Option.bind_eq_some_iff.1 hk
  obtain ⟨⟨inn, ia, r2⟩, hin, hk⟩ := Option.bind_eq_some_iff.1 hk
  obtain ⟨⟨wh, r3⟩, hg1, hk⟩ := Option.bind_eq_some_iff.1 hk
  split at hk
  case isFalse => cases hk
  rename_i hlt
  injection hk with hk
  have HZ := jJ0 h.zlt
  have HR' := jJ0 hk
  have HLt := jJ0 hlt
  have D0 := jJ0 hd
  have I0 := jJ0 hin
  have G1 := jJ0 hg1
  clear hd hin hg1
  have K0 := jJ0 ((Ks.start h).alloc (.cells [.string ⟨#[]⟩, .int .i64 0, .int .i64 0, .string ⟨#[]⟩, .int .i64 0, .int .i64 0].toArray 64))
  have B0 := jJ0 (Blk.new w 64 [.string ⟨#[]⟩, .int .i64 0, .int .i64 0, .string ⟨#[]⟩, .int .i64 0, .int .i64 0].toArray)
  clear h hk hlt
  generalize ha : w.heap.size = a at *
  have hm : a ∈ [a] := List.mem_singleton.2 rfl
  go_enter Tryz.func139, Tryz.ntmps139
  go_wp2_with (first | (go_at_call 166; (refine (yC _ g src _ _ _ _ _ _ K0.out.st D0.out).mono ?_; rintro e w1 ⟨rfl, hX⟩; have K1a := jJ0 (K0.out.step hX.1 hX.2); have B1a := jJ0 (K0.out.blk hm B0.out hX.2); clear hX; have b0 := B1a.out.at_ 0 rfl; have z0 := B1a.out.frozen 0; have b1 := B1a.out.at_ 1 rfl; have z1 := B1a.out.frozen 1; have b2 := B1a.out.at_ 2 rfl; have z2 := B1a.out.frozen 2; have K1 := jJ0 (((K1a.out.put hm 0 (.string nm)).put hm 1 (.int .i64 at_)).put hm 2 (.int .i64 od)); have B1 := jJ0 (((B1a.out.setL 0 (.string nm)).setL 1 (.int .i64 at_)).setL 2 (.int .i64 od)); clear K1a B1a; (try unfold iv))) | (go_at_call 170; (refine (in_any _ g src _ _ _ _ _ K1.out.st I0.out).mono ?_; rintro e w2 ⟨rfl, hX⟩; have K2a := jJ0 (K1.out.step hX.1 hX.2); have B2a := jJ0 (K1.out.blk hm B1.out hX.2); clear hX; have b3 := B2a.out.at_ 3 rfl; have z3 := B2a.out.frozen 3; have b4 := B2a.out.at_ 4 rfl; have z4 := B2a.out.frozen 4; have K2 := jJ0 ((K2a.out.put hm 3 (.string inn)).put hm 4 (.int .i64 ia)); have B2 := jJ0 ((B2a.out.setL 3 (.string inn)).setL 4 (.int .i64 ia)); clear K2a B2a; (try unfold iv))) | (go_at_call 171; (refine (ruled31 _ g src f _ _ _ K2.out.st G1.out).mono ?_; rintro e w3 ⟨rfl, s3, hX⟩; have K3a := jJ0 (K2.out.step hX.1 hX.2); have B3a := jJ0 (K2.out.blk hm B2.out hX.2); clear hX; have b5 := B3a.out.at_ 5 rfl; have z5 := B3a.out.frozen 5; have K3 := jJ0 (K3a.out.put hm 5 (.int .i64 wh)); have B3 := jJ0 (B3a.out.setL 5 (.int .i64 wh)); clear K3a B3a; (try unfold iv))) | fail)
  clear K0 B0 K1 B1 K2 B2 b0 z0 b1 z1 b2 z2 b3 z3 b4 z4 b5 z5
  generalize w3.setCell ⟨a, 5, none⟩ (.int .i64 wh) = w33 at *
  have HX := jJ0 (show Blk w33 a 64 (miC ⟨nm, at_, od, inn, ia, wh⟩).toArray from B3.out)
  clear B3
  obtain ⟨ns, ps, hR⟩ := K3.out.st.rows
  have HR := jJ0 hR
  clear hR
  obtain ⟨i0, hi, hz0, hz1, hz2⟩ := info_parts Tryz.infoMile
  have H63 := jJ0 (show r3.tree.miles.length + 1 <= maxLen by have := HLt.out; unfold maxLen; omega)
  have H47 := jJ0 (show (r3.tree.miles.length + 1) * 64 <= 140737488355328 by have := HLt.out; omega)
  have hc7 : w33.cell? ⟨g, 9, none⟩ = some (.slice s3.mA r3.tree.miles.length s3.mc) := Blk.at_ K3.out.st.box 9 rfl
  have hz7 := K3.out.st.box.z 9
  have hgl := K3.out.st.lt
  have hal := HX.out.lt
  have c0 : w33.cell? ⟨a, 0, none⟩ = some (.string nm) := HX.out.at_ 0 rfl
  have c1 : w33.cell? ⟨a, 1, none⟩ = some (.int .i64 at_) := HX.out.at_ 1 rfl
  have c2 : w33.cell? ⟨a, 2, none⟩ = some (.int .i64 od) := HX.out.at_ 2 rfl
  have c3 : w33.cell? ⟨a, 3, none⟩ = some (.string inn) := HX.out.at_ 3 rfl
  have c4 : w33.cell? ⟨a, 4, none⟩ = some (.int .i64 ia) := HX.out.at_ 4 rfl
  have c5 : w33.cell? ⟨a, 5, none⟩ = some (.int .i64 wh) := HX.out.at_ 5 rfl
  have HO := jJ0 ((Kp.refl NoX w33).drew.alloc (.cells (miC ⟨nm, at_, od, inn, ia, wh⟩).toArray 64))
  go_region_law ((refine ju _ rfl (.tmp 27) (.tmp 29) 24 rfl 8 64 i0 _ 6 64 Tryz.underlying24 hi hz0 hz1 hz2 rfl (by decide) (.slice s3.mA r3.tree.miles.length s3.mc) r3.tree.miles.length (r3.tree.miles.flatMap miC) rfl (jX HR.out.rM HO.out (fun _ _ e => e)) _ 1 1 (miC ⟨nm, at_, od, inn, ia, wh⟩) rfl (Rd.row_new _ _ 6 1 _ rfl) (one_mil _) H63.out H47.out (Nat.le_trans K3.out.st.eight HO.out.size) ?_; intro A1 c1 w9 hown hgrow hat; rw [jC] at hgrow hat; have hb2 := K3.out.st.pastM HR.out HO.out hgrow; have HG := jJ0 (K3.out.st.growM HR.out ⟨nm, at_, od, inn, ia, wh⟩ True.intro HO.out hgrow hat hown); have hc7 : w9.cell? ⟨g, 9, none⟩ = some (.slice s3.mA r3.tree.miles.length s3.mc) := Blk.at_ hb2 9 rfl; have hz7 := hb2.z 9; clear hown hgrow hat hb2))
  all_goals
    have HE := jJ0 ((K3.out.step HG.out.1 HG.out.2).done (fun b e => by rw [ha]; exact HZ.out b e))
    go_wp2
    go_end0
    rw [<- HR'.out]
    exact ⟨rfl, _, HE.out.1, HE.out.2⟩
end Go.Proofs.YtmmjcbbogokmfaaGreatDoor

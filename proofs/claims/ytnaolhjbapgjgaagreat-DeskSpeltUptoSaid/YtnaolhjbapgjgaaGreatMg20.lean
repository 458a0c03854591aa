import Derived.Test.YtnaolhjbapgjgaaGreatMg10
import Derived.Test.YtnaolhjbapgjgaaGreatMg16
import Derived.Test.YtnaolhjbapgjgaaGreatMg19
import Derived.Great.BuildSlice
set_option maxRecDepth 100000
set_option maxHeartbeats 3200000
namespace Go.Proofs.YtnaolhjbapgjgaaGreat
open Go.RowKit
theorem fill_one (place : Nat -> Option (Nat × Nat)) (i off n : Nat) (v : Value) (hp : place i = some (off, n)) (hv : v.cells.size = n) (cs : Array Value) (hf : off + n <= cs.size) (rest : List (Nat × Value)) :
    ∃ r : Array Value, Instr.fill place cs ((i, v) :: rest) = Instr.fill place r rest /\ r.size = cs.size /\ ∀ k, r[k]? = if off <= k /\ k < off + n then v.cells[k - off]? else cs[k]? := by
  obtain ⟨g1, g2⟩ := Great.foldl_set off v.cells.toList 0 cs
  refine ⟨_, ?_, g1, fun k => ?_⟩
  · conv => lhs; unfold Instr.fill
    simp only [hp, hv]
    rw [if_neg (by simp; omega)]
    congr 1
    rw [<- Array.foldl_toList, Array.toList_zipIdx]
  · rw [g2 k]
    simp only [Nat.add_zero, Array.length_toList, hv, Array.getElem?_toList]
    by_cases h : off <= k /\ k < off + n
    · rw [if_pos ⟨h.1, h.2, by omega⟩, if_pos h]
    · rw [if_neg (fun hh => h ⟨hh.1, hh.2.1⟩), if_neg h]
theorem fill_two (place : Nat -> Option (Nat × Nat)) (n m : Nat) (x y : Value) (h0 : place 0 = some (0, n)) (h1 : place 1 = some (n, m)) (hx : x.cells.size = n) (hy : y.cells.size = m) (z : Array Value) (hz : z.size = n + m) :
    Instr.fill place z [(0, x), (1, y)] = some (x.cells ++ y.cells) := by
  obtain ⟨r, e1, s1, k1⟩ := fill_one place 0 0 n x h0 hx z (by omega) [(1, y)]
  obtain ⟨r2, e2, s2, k2⟩ := fill_one place 1 n m y h1 hy r (by omega) []
  rw [e1, e2]
  simp only [Instr.fill, Option.some.injEq]
  apply Array.ext_getElem?
  intro k
  rw [k2 k, k1 k, Array.getElem?_append, hx]
  by_cases h : n <= k /\ k < n + m
  · rw [if_pos h, if_neg (by omega)]
  · rw [if_neg h]
    by_cases h' : k < n
    · rw [if_pos ⟨Nat.zero_le _, by omega⟩, if_pos h', Nat.sub_zero]
    · rw [if_neg (by omega), if_neg h', Array.getElem?_eq_none (by omega), Array.getElem?_eq_none (by omega)]
theorem built_two {t : TypeId} {n m : Nat} {x y : Value} {fs : Array Field} (hu : Tryz.prog.underlying t = some (.struct fs))
    (hp : fs.toList.mapM (fun f => (Tryz.prog.info? f.type).map fun i => (f.offset, i.size)) = some [(0, n), (n, m)])
    (hz : ((Tryz.prog.info? t).bind (·.zero)).map (·.cells.size) = some (n + m)) (hx : x.cells.size = n) (hy : y.cells.size = m) :
    Tryz.prog.built t [(0, x), (1, y)] = some (x.cells ++ y.cells) := by
  unfold Program.built
  cases hi : Tryz.prog.info? t with
  | none => rw [hi] at hz; cases hz
  | some it =>
    cases hzz : it.zero with
    | none => rw [hi] at hz; simp [hzz] at hz
    | some z =>
      rw [hi] at hz
      simp only [Option.bind_some, hzz, Option.map_some, Option.some.injEq] at hz
      simp only [hu, hzz, hp]
      exact fill_two _ n m x y rfl rfl hx hy z.cells hz
theorem at_two {P : Program} {ops : Array Oper} {rest : List Oper} {d : Option Tmp} {ty : TypeId} {pos : String} {after : Array Edge} {gd : Option (Nat × Bool)} {a : Act} {w : World} {Q : Exit -> Act -> World -> Prop} (t : TypeId) (x y : Operand)
    (h : wpList P ops Q (⟨d, .build t #[(0, x), (1, y)], ty, pos, after, gd⟩ :: rest) a w) : wpList P ops Q (⟨d, .build t #[(0, x), (1, y)], ty, pos, after, gd⟩ :: rest) a w := h
theorem Tryz.wl_two {ops : Array Oper} {rest : List Oper} {o : Oper} {a : Act} {w : World} {Q : Exit -> Act -> World -> Prop} (hg : o.guard = none) (t : TypeId) (x y : Operand) (ho : o.op = .build t #[(0, x), (1, y)])
    (vx vy : Value) (hx : a.eval x = vx) (hy : a.eval y = vy) (cs : List Value) (hb : Tryz.prog.built t [(0, vx), (1, vy)] = some cs.toArray)
    (h : wpList Tryz.prog ops Q rest (a.put o.dst (.agg cs.toArray)) w) : wpList Tryz.prog ops Q (o :: rest) a w :=
  wpList_buildTo hg t _ ho o.dst rfl cs.toArray (by simp only [List.map_toArray, List.map_cons, List.map_nil, hx, hy]; exact hb) h
theorem Tryz.placesSign : ∃ fs, Tryz.prog.underlying 165 = some (.struct fs) /\ fs.toList.mapM (fun f => (Tryz.prog.info? f.type).map fun i => (f.offset, i.size)) = some [(0, 32), (32, 32)] := ⟨_, Tryz.underlying165, by kernel_rfl⟩
theorem built_sign (a b : List UInt8) (ha : a.length = 32) (hb : b.length = 32) : Tryz.prog.built 165 [(0, .agg (jB a).toArray), (1, .agg (jB b).toArray)] = some (jB a ++ jB b).toArray := by
  obtain ⟨fs, hu, hp⟩ := Tryz.placesSign
  rw [built_two hu hp (by kernel_rfl) (by simp [Value.cells, jD, ha]) (by simp [Value.cells, jD, hb])]
  simp [Value.cells]
theorem Tryz.placesNote : ∃ fs, Tryz.prog.underlying 48 = some (.struct fs) /\ fs.toList.mapM (fun f => (Tryz.prog.info? f.type).map fun i => (f.offset, i.size)) = some [(0, 98), (98, 1)] := ⟨_, Tryz.underlying48, by kernel_rfl⟩
theorem built_note (cs : List Value) (hl : cs.length = 98) (v : Value) (hv : v.cells = #[v]) : Tryz.prog.built 48 [(0, .agg cs.toArray), (1, v)] = some (cs ++ [v]).toArray := by
  obtain ⟨fs, hu, hp⟩ := Tryz.placesNote
  rw [built_two hu hp (by kernel_rfl) (by simp [Value.cells, hl]) (by simp [hv])]
  rw [hv, show (Value.agg cs.toArray).cells = cs.toArray from rfl]
  simp
theorem Tryz.placesEntry : ∃ fs, Tryz.prog.underlying 55 = some (.struct fs) /\ fs.toList.mapM (fun f => (Tryz.prog.info? f.type).map fun i => (f.offset, i.size)) = some [(0, 1), (1, 32)] := ⟨_, Tryz.underlying55, by kernel_rfl⟩
theorem built_entry (n : Int) (d : List UInt8) (hd : d.length = 32) : Tryz.prog.built 55 [(0, .int .i64 n), (1, .agg (jB d).toArray)] = some (.int .i64 n :: jB d).toArray := by
  obtain ⟨fs, hu, hp⟩ := Tryz.placesEntry
  rw [built_two hu hp (by kernel_rfl) rfl (by simp [Value.cells, jD, hd])]
  simp [Value.cells]
def zeroNote : List Value := [.int .u8 0, .int .u8 0, .int .u8 0, .int .u8 0, .int .u8 0, .int .u8 0, .int .u8 0, .int .u8 0, .int .u8 0, .int .u8 0, .int .u8 0, .int .u8 0, .int .u8 0, .int .u8 0, .int .u8 0, .int .u8 0, .int .u8 0, .int .u8 0, .int .u8 0, .int .u8 0, .int .u8 0, .int .u8 0, .int .u8 0, .int .u8 0, .int .u8 0, .int .u8 0, .int .u8 0, .int .u8 0, .int .u8 0, .int .u8 0, .int .u8 0, .int .u8 0, .int .i64 0, .int .u8 0, .int .u8 0, .int .u8 0, .int .u8 0, .int .u8 0, .int .u8 0, .int .u8 0, .int .u8 0, .int .u8 0, .int .u8 0, .int .u8 0, .int .u8 0, .int .u8 0, .int .u8 0, .int .u8 0, .int .u8 0, .int .u8 0, .int .u8 0, .int .u8 0, .int .u8 0, .int .u8 0, .int .u8 0, .int .u8 0, .int .u8 0, .int .u8 0, .int .u8 0, .int .u8 0, .int .u8 0, .int .u8 0, .int .u8 0, .int .u8 0, .int .u8 0, .int .u8 0, .int .u8 0, .int .u8 0, .int .u8 0, .int .u8 0, .int .u8 0, .int .u8 0, .int .u8 0, .int .u8 0, .int .u8 0, .int .u8 0, .int .u8 0, .int .u8 0, .int .u8 0, .int .u8 0, .int .u8 0, .int .u8 0, .int .u8 0, .int .u8 0, .int .u8 0, .int .u8 0, .int .u8 0, .int .u8 0, .int .u8 0, .int .u8 0, .int .u8 0, .int .u8 0, .int .u8 0, .int .u8 0, .int .u8 0, .int .u8 0, .int .u8 0, .int .i64 0, .slice none 0 0]
theorem Tryz.zeroNoteC : Tryz.zeroCells48 = zeroNote.toArray := by kernel_rfl
theorem Tryz.zeroNoteV (w : World) : (Instr.build 48 #[]).run Tryz.prog w = .ok (.agg zeroNote.toArray) w := by kernel_rfl
theorem Tryz.sizeNote : (Tryz.prog.info? 48).map (·.size) = some 99 := by kernel_rfl
def zeroSgn : Sgn := ⟨zD, zD, kg, kg⟩
theorem zeroSgn_cells : zeroSgn.cells = zero32 ++ zero32 := by simp [zeroSgn, Sgn.cells, zD_cells]
theorem rep_zS : ∀ n, (List.replicate n zeroSgn).flatMap Sgn.cells = List.replicate (n * 64) (Value.int .u8 0)
  | 0 => rfl
  | n + 1 => by
    rw [List.replicate_succ, List.flatMap_cons, rep_zS n, zeroSgn_cells, show (n + 1) * 64 = 64 + n * 64 by omega, <- List.replicate_append_replicate]
    rfl
theorem Tryz.infoSgn2 : (Tryz.prog.info? 165).map (fun i => (i.zero, i.size, i.bytes)) = some (some (.agg (zero32 ++ zero32).toArray), 64, 64) := by kernel_rfl
theorem zeros64_get (i : Nat) (h : i < 64) : (zero32 ++ zero32).toArray[i]! = Value.int .u8 0 := by
  rcases Nat.lt_or_ge i 32 with h' | h'
  · have := zeros_get i h'
    simp only [List.getElem!_toArray] at this ⊢
    rw [<- this]
    simp [List.getElem!_eq_getElem?_getD, List.getElem?_append_left (show i < zero32.length from h')]
  · have := zeros_get (i - 32) (by omega)
    simp only [List.getElem!_toArray] at this ⊢
    rw [<- this]
    simp [List.getElem!_eq_getElem?_getD, List.getElem?_append_right (show zero32.length <= i from h'), show zero32.length = 32 from rfl]
theorem Tryz.make_signs (n : Nat) (hn : n <= 1000000000) (W : World) :
    (Instr.makeSlice 46 (.int .i64 (n : Int)) (.int .i64 (n : Int))).run Tryz.prog W = .ok (.slice (some ⟨W.heap.size, 0, none⟩) n n) (W.alloc (.cells ((List.replicate n zeroSgn).flatMap Sgn.cells).toArray 165)) := by
  obtain ⟨i, hi, hz0, hz1, hz2⟩ := info_parts Tryz.infoSgn2
  have hr := run_make (P := Tryz.prog) W 46 165 i _ Tryz.underlying46 hi hz0 .i64 .i64 n n (by omega) (by omega) (by rw [hz2]; omega) (by omega)
  simp only [Int.toNat_natCast, hz1] at hr
  rw [hr, rep_zS]
  have e : (Value.agg (zero32 ++ zero32).toArray).cells = (zero32 ++ zero32).toArray := rfl
  rw [e, made_same _ (.int .u8 0) (by decide) (fun i h => zeros64_get i h)]
theorem MNote.one (m : MNote) : m.cells.toArray.all (·.oneCell') = true := by
  refine all_oneCell_toArray (fun v hv => ?_)
  rcases List.mem_append.1 hv with hv | hv
  · have := Array.all_eq_true_iff_forall_mem.1 (Hd.one m.head) v (by simpa using hv)
    exact this
  · rw [List.mem_singleton.1 hv]; rfl
def sgnN (bs : List UInt8) (s : Rs) : Sgn × Rs := (⟨(digN bs s).1, (digN bs (digN bs s).2).1, vH _ _, vH _ _⟩, (digN bs (digN bs s).2).2)
def vJ (bs : List UInt8) : Nat -> Rs -> List Sgn -> List Sgn × Rs
  | 0, s, acc => (acc, s)
  | n + 1, s, acc => vJ bs n (sgnN bs s).2 (acc ++ [(sgnN bs s).1])
def noteEnd (bs : List UInt8) (h : Hd) (t : List Sgn × Rs) : Option (Hd × List Sgn) := if jo bs t.2 = 0 /\ riseK (t.1.map (·.key)) = true then some (h, t.1) else none
def noteN (bs : List UInt8) (k : Nat) (h : Option Hd × Rs) : Option (Hd × List Sgn) :=
  match h.1 with
  | none => none
  | some hd => if k = 33 /\ 1 <= (tkN bs 1 h.2).1 /\ (tkN bs 1 h.2).1 <= 16 then noteEnd bs hd (vJ bs (tkN bs 1 h.2).1 (tkN bs 1 h.2).2 []) else none
def ke (bs : List UInt8) : Option (Hd × List Sgn) := noteN bs (tkN bs 1 ⟨0, 0⟩).1 (htakeN bs (tkN bs 1 ⟨0, 0⟩).2)
def DecNP (w : World) (d : Option (Hd × List Sgn)) (e : Ending) (w' : World) : Prop :=
  (∃ m : MNote, d = some (m.head, m.signs) /\ e = .returned (.tuple #[.agg m.cells.toArray, .int .i64 0]) /\ m.Ok w' (fun k => k < w.heap.size) /\ Old w w') \/
  (∃ er : Int, d = none /\ er ≠ 0 /\ e = .returned (.tuple #[.agg zeroNote.toArray, .int .i64 er]) /\ Old w w')
def fillS (acc : List Sgn) (n : Nat) : List Value := (acc ++ List.replicate n zeroSgn).flatMap Sgn.cells
theorem Blk.fillS {w : World} {L : Nat} {acc : List Sgn} {n : Nat} (x : Sgn) (h : Blk w L 165 (Go.Proofs.YtnaolhjbapgjgaaGreat.fillS acc (n + 1)).toArray) :
    Blk (w.setCells L (acc.length * 64) x.cells) L 165 (Go.Proofs.YtnaolhjbapgjgaaGreat.fillS (acc ++ [x]) n).toArray := by
  have e1 : Go.Proofs.YtnaolhjbapgjgaaGreat.fillS acc (n + 1) = acc.flatMap Sgn.cells ++ (zeroSgn.cells ++ (List.replicate n zeroSgn).flatMap Sgn.cells) := by
    rw [Go.Proofs.YtnaolhjbapgjgaaGreat.fillS, List.replicate_succ, List.flatMap_append, List.flatMap_cons]
  have e2 : Go.Proofs.YtnaolhjbapgjgaaGreat.fillS (acc ++ [x]) n = acc.flatMap Sgn.cells ++ (x.cells ++ (List.replicate n zeroSgn).flatMap Sgn.cells) := by
    rw [Go.Proofs.YtnaolhjbapgjgaaGreat.fillS, List.flatMap_append, List.flatMap_append, List.append_assoc, List.flatMap_singleton]
  rw [e1] at h
  have h2 := Blk.setCells h x.cells (by rw [Sgn.len, Sgn.len])
  rw [vG Sgn.cells 64 acc (fun s _ => s.len)] at h2
  rw [e2]
  exact h2
theorem fillS_len (acc : List Sgn) (n : Nat) : (fillS acc n).length = (acc.length + n) * 64 := by
  rw [fillS, vG Sgn.cells 64 _ (fun s _ => s.len), List.length_append, List.length_replicate]
structure SignsAt (w : World) (g H L : Nat) (bs : List UInt8) (h : Hd) (n : Nat) (acc : List Sgn) (s : Rs) (wr : World) : Prop where
  le : acc.length <= n
  blk : Blk wr L 165 (fillS acc (n - acc.length)).toArray
  hd : Blk wr H 45 h.cells.toArray
  st : DecR 48 zeroNote w g bs s wr
  lt : g < H /\ H < L
theorem decnote_any (w : World) (A : Option Addr) (c : Nat) (bs : List UInt8) (hrd : Rd w 1 A bs.length (bs.map bv)) (hbl : bs.length <= 100000000) :
    Calls Tryz.prog 91 #[.slice A bs.length c] w (DecNP w (ke bs)) := by
  have HD := jJ0 (show ke bs = noteN bs (tkN bs 1 ⟨0, 0⟩).1 (htakeN bs (tkN bs 1 ⟨0, 0⟩).2) from rfl)
  have Hb := jJ0 (show Blk (w.alloc (.cells Tryz.zeroCells48 48)) w.heap.size 48 zeroNote.toArray from by rw [Tryz.zeroNoteC]; exact Blk.new w _ _)
  have HO := jJ0 ((Kp.refl NoX w).alloc (.cells Tryz.zeroCells48 48))
  have HR := jJ0 (fun W (h : Old w W) => kS W A bs.length c bs (hrd.old h) hbl)
  generalize ke bs = D at *
  clear hrd
  go_enter Tryz.func91, Tryz.ntmps91
  go_wp2_with fail
  generalize w.alloc _ = W at *
  refine (HR.out W HO.out).mono ?_
  rintro e w1 ⟨g, rfl, hg, hr1, ho1⟩
  have HS := jJ0 (show DecR 48 zeroNote w g bs ⟨0, 0⟩ w1 from ⟨Hb.out.old ho1, hr1, HO.out.old ho1, by have := Hb.out.lt; omega⟩)
  clear hr1 ho1 hg Hb HO HR
  have HP := jJ0 (fun W (hR : Rr W g bs ⟨0, 0⟩) => jQ W g bs ⟨0, 0⟩ hR)
  go_wp2_with fail
  refine (HP.out _ HS.out.rr).mono ?_
  clear HP
  generalize tkN bs 1 ⟨0, 0⟩ = t1 at *
  obtain ⟨k, s1⟩ := t1
  simp only at HD ⊢
  rintro e w2 ⟨rfl, hr2, hk2⟩
  replace HS := jJ0 (HS.out.step hr2 hk2)
  clear hr2 hk2
  have HP := jJ0 (fun W (hR : Rr W g bs s1) => htake_any W g bs s1 hR)
  go_wp2_with fail
  refine (HP.out _ HS.out.rr).mono ?_
  clear HP
  generalize htakeN bs s1 = t2 at *
  obtain ⟨oh, s2⟩ := t2
  unfold noteN at HD
  simp only at HD
  rintro e w3 ⟨hcase, hr2, hk2⟩
  simp only at hcase hr2
  replace HS := jJ0 (HS.out.step hr2 hk2)
  clear hr2 hk2
  have HP := jJ0 (fun W (hR : Rr W g bs s2) => jQ W g bs s2 hR)
  have HN := jJ0 (kE bs 1 s2)
  generalize tkN bs 1 s2 = t3 at *
  obtain ⟨n, s3⟩ := t3
  simp only at HD HP HN
  have hnl : n < 256 := by have := HN.out; omega
  have hwn : IntKind.i64.wrap (n : Int) = n := IntWalk.i64_in _ (by omega)
  have hwn2 : wrap64 (n : Int) = (n : Int) := by unfold wrap64; omega
  clear HN
  rcases hcase with ⟨h, rfl, hOk, hGood, rfl⟩ | ⟨rfl, rfl⟩
  · have HOk := jJ0 hOk
    clear hOk hGood
    simp only at HD
    have HbH := jJ0 (show Blk (w3.alloc (.cells Tryz.zeroCells45 45)) w3.heap.size 45 zeroHdL.toArray from by rw [Tryz.zeroHead]; exact Blk.new w3 _ _)
    have HS3 := jJ0 (HS.out.still ((Kp.refl NoX w3).alloc (.cells Tryz.zeroCells45 45)))
    have hgH : g < w3.heap.size := HS.out.rr.lt
    have HszH := jJ0 (show (Tryz.prog.info? 45).map (·.size) = some h.cells.length by rw [HOk.out.len]; kernel_rfl)
    have HthH := jJ0 (HbH.out.there 0 h.cells.toArray.size (by rw [List.size_toArray, HOk.out.len]; decide))
    have HH := jJ0 (HbH.out.setWhole h.cells (by rw [HOk.out.len]; rfl))
    replace HS := jJ0 (HS3.out.put (Kp.setCells w3.heap.size 0 h.cells _) (fun b e => by omega))
    clear HS3 HbH
    go_wp2_with (first | ((with_reducible refine jE 45 (.tmp 6) (.tmp 18) ?_); refine wpList_store_mid rfl 45 (.tmp 6) (.tmp 18) rfl w3.heap.size 0 h.cells.toArray rfl rfl HthH.out HszH.out (Hd.one h) ?_) | fail)
    generalize (w3.alloc _).setCells _ _ _ = W3 at *
    generalize w3.heap.size = H at *
    refine (HP.out _ HS.out.rr).mono ?_
    clear HP HthH HszH
    rintro e w4 ⟨rfl, hr2, hk2⟩
    replace HS := jJ0 (HS.out.step hr2 hk2)
    replace HH := jJ0 (HH.out.kp hk2 (show ¬ RX g H from fun e => by have : H = g := e; omega))
    clear hr2 hk2
    by_cases hk : k = 33
    case neg =>
      have Hno := jJ0 (show D = none by rw [HD.out, if_neg (fun h => hk h.1)])
      have hk' : ((k : Int) != 33) = true := by simp; omega
      clear hk
      have Hth := jJ0 (HS.out.th zeroNote rfl)
      have Ht := jJ0 (HS.out.told zeroNote rfl)
      go_wp2_with (first | ((with_reducible refine jU 48 ?_); refine Tryz.wl_zero rfl 48 rfl _ (Tryz.zeroNoteV _) ?_) | ((with_reducible refine jE 48 (.tmp 2) (.tmp 37) ?_); refine wpList_store_mid rfl 48 (.tmp 2) (.tmp 37) rfl w.heap.size 0 zeroNote.toArray rfl rfl Hth.out Tryz.sizeNote (jK rfl) ?_) | fail)
      refine jA (g := w.heap.size) (cs := zeroNote.toArray) rfl rfl Ht.out.box Tryz.underlying48 rfl Tryz.sizeNote rfl ?_
      exact .inr ⟨8, Hno.out, by decide, rfl, Ht.out.old⟩
    have hk' : ((k : Int) != 33) = false := by simp; omega
    by_cases h0 : n = 0
    · have Hno := jJ0 (show D = none by rw [HD.out, if_neg (fun h => by omega)])
      have h0' : ((n : Int) == 0) = true := by simp; omega
      clear hk
      have Hth := jJ0 (HS.out.th zeroNote rfl)
      have Ht := jJ0 (HS.out.told zeroNote rfl)
      go_wp2_with (first | ((with_reducible refine jU 48 ?_); refine Tryz.wl_zero rfl 48 rfl _ (Tryz.zeroNoteV _) ?_) | ((with_reducible refine jE 48 (.tmp 2) (.tmp 37) ?_); refine wpList_store_mid rfl 48 (.tmp 2) (.tmp 37) rfl w.heap.size 0 zeroNote.toArray rfl rfl Hth.out Tryz.sizeNote (jK rfl) ?_) | fail)
      refine jA (g := w.heap.size) (cs := zeroNote.toArray) rfl rfl Ht.out.box Tryz.underlying48 rfl Tryz.sizeNote rfl ?_
      exact .inr ⟨8, Hno.out, by decide, rfl, Ht.out.old⟩
    have h0' : ((n : Int) == 0) = false := by simp; omega
    by_cases h16 : n <= 16
    case neg =>
      have Hno := jJ0 (show D = none by rw [HD.out, if_neg (fun h => h16 h.2.2)])
      have h16' : (16 : Int) < (n : Int) := by omega
      clear hk h0 h16
      have Hth := jJ0 (HS.out.th zeroNote rfl)
      have Ht := jJ0 (HS.out.told zeroNote rfl)
      go_wp2_with (first | ((with_reducible refine jU 48 ?_); refine Tryz.wl_zero rfl 48 rfl _ (Tryz.zeroNoteV _) ?_) | ((with_reducible refine jE 48 (.tmp 2) (.tmp 37) ?_); refine wpList_store_mid rfl 48 (.tmp 2) (.tmp 37) rfl w.heap.size 0 zeroNote.toArray rfl rfl Hth.out Tryz.sizeNote (jK rfl) ?_) | fail)
      refine jA (g := w.heap.size) (cs := zeroNote.toArray) rfl rfl Ht.out.box Tryz.underlying48 rfl Tryz.sizeNote rfl ?_
      exact .inr ⟨8, Hno.out, by decide, rfl, Ht.out.old⟩
    have h16' : ¬ (16 : Int) < (n : Int) := by omega
    have HD2 := jJ0 (show D = noteEnd bs h (vJ bs n s3 []) by rw [HD.out, if_pos ⟨hk, by omega, h16⟩])
    have Hmk := jJ0 (Tryz.make_signs n (by omega))
    have HrS := jJ0 (fun W A' c' (l : List Sgn) hrd' hn' => rise_any W A' c' l hrd' hn')
    clear hk h0 HD hwn hwn2
    have hmk := Hmk.out
    go_wp2_with fail
    have hHl := HH.out.lt
    have Hat := jJ0 (show SignsAt w g H w4.heap.size bs h n [] s3 (w4.alloc (.cells ((List.replicate n zeroSgn).flatMap Sgn.cells).toArray 165)) from
      ⟨by simp, by simpa [fillS] using Blk.new w4 165 ((List.replicate n zeroSgn).flatMap Sgn.cells).toArray, HH.out.alloc _, HS.out.still ((Kp.refl NoX w4).alloc _), hgH, hHl⟩)
    generalize (w4.alloc _) = W4 at *
    generalize w4.heap.size = L at *
    clear HH HS hmk Hmk
    go_loopw [42, 10] (fun i _ wr => ∃ (acc : List Sgn) (s : Rs), i = .int .i64 acc.length /\ SignsAt w g H L bs h n acc s wr /\ vJ bs n s3 [] = vJ bs (n - acc.length) s acc) (fun i _ _ => n - (intOf i).toNat)
    case atStart => exact ⟨[], s3, rfl, Hat.out, rfl⟩
    case round =>
      obtain ⟨acc, s, rfl, hat, hgo⟩ := hrel
      have HA := jJ0 hat
      have hkm := hat.le
      have Hgo := jJ0 hgo
      clear hat Hat hgo
      by_cases hlt : acc.length < n
      · obtain ⟨m, hm⟩ : ∃ m, n - acc.length = m + 1 := ⟨n - acc.length - 1, by omega⟩
        rw [hm, vJ] at Hgo
        have Hb1 := jJ0 HA.out.blk
        rw [hm] at Hb1
        have HG1 := jJ0 (fun W' (hR : Rr W' g bs s) => vT W' g bs s hR)
        have HG2 := jJ0 (fun W' (hR : Rr W' g bs (digN bs s).2) => vT W' g bs (digN bs s).2 hR)
        have HX := jJ0 (show (sgnN bs s).1.cells = jB (digN bs s).1 ++ jB (digN bs (digN bs s).2).1 from rfl)
        have HX2 := jJ0 (show (sgnN bs s).2 = (digN bs (digN bs s).2).2 from rfl)
        have HB := jJ0 (built_sign (digN bs s).1 (digN bs (digN bs s).2).1 (vH _ _) (vH _ _))
        rw [<- HX.out] at HB
        rw [HX2.out] at Hgo
        generalize (sgnN bs s).1 = x at *
        generalize digN bs (digN bs s).2 = d2 at *
        generalize digN bs s = d1 at *
        obtain ⟨b1, s5⟩ := d1
        obtain ⟨b2, s6⟩ := d2
        simp only at HG1 HG2 HB Hgo
        clear HX HX2
        generalize hq : acc.length = q at *
        have Hq := jJ0 hq
        clear hq
        have i1 : (0 : Int) <= (q : Int) := by omega
        have i2 : (q : Int) < (n : Int) := by omega
        have i3 : (q : Int).toNat = q := by omega
        have hgl := HA.out.lt
        have hnL : ¬ RX g L := fun e => by have : L = g := e; omega
        have hnH : ¬ RX g H := fun e => by have : H = g := e; omega
        have HnL := jJ0 hnL
        have HnH := jJ0 hnH
        have Hm := jJ0 hm
        clear hnL hnH hm
        go_wp2_with fail
        refine (HG1.out _ HA.out.st.rr).mono ?_
        rintro e w5 ⟨rfl, hr5, hk5⟩
        have HS5 := jJ0 (HA.out.st.step hr5 hk5)
        have Hb5 := jJ0 (Hb1.out.kp hk5 HnL.out)
        have HH5 := jJ0 (HA.out.hd.kp hk5 HnH.out)
        clear hr5 hk5 Hb1 HG1
        go_wp2_with fail
        refine (HG2.out _ HS5.out.rr).mono ?_
        rintro e w6 ⟨rfl, hr5, hk5⟩
        have HS6 := jJ0 (HS5.out.step hr5 hk5)
        have Hb6 := jJ0 (Hb5.out.kp hk5 HnL.out)
        have HH6 := jJ0 (HH5.out.kp hk5 HnH.out)
        clear hr5 hk5 HS5 Hb5 HH5 HG2
        have Hth := jJ0 (Hb6.out.there (q * 64) x.cells.toArray.size (by rw [List.size_toArray, List.size_toArray, Sgn.len, fillS_len, Hq.out]; omega))
        have Hsz := jJ0 (show (Tryz.prog.info? 165).map (·.size) = some x.cells.length by rw [Sgn.len]; kernel_rfl)
        have Hone := jJ0 (show x.cells.toArray.all (·.oneCell') = true from all_oneCell_toArray x.one)
        have Hnext := jJ0 (show SignsAt w g H L bs h n (acc ++ [x]) s6 (w6.setCells L (q * 64) x.cells) from
          ⟨by rw [List.length_append, List.length_singleton, Hq.out]; omega, by
            have := Hb6.out.fillS x
            rw [Hq.out] at this
            rw [List.length_append, List.length_singleton, Hq.out, show n - (q + 1) = m by have := Hm.out; omega]
            exact this, HH6.out.kp (Kp.setCells L _ _ _) (fun e => by omega), HS6.out.put (Kp.setCells L _ _ _) (fun b e => by omega), hgl⟩)
        go_wp2_with (first | ((with_reducible refine at_two 165 (.tmp 48) (.tmp 50) ?_); refine Tryz.wl_two rfl 165 (.tmp 48) (.tmp 50) rfl _ _ rfl rfl x.cells HB.out ?_) | ((with_reducible refine jE 165 (.tmp 52) (.tmp 51) ?_); refine wpList_store_mid rfl 165 (.tmp 52) (.tmp 51) rfl L (q * 64) x.cells.toArray rfl rfl Hth.out Hsz.out Hone.out ?_) | fail)
        go_roundw
        case rel => exact ⟨acc ++ [x], s6, by rw [List.length_append, List.length_singleton, Hq.out]; go_num, Hnext.out, by rw [Hgo.out, List.length_append, List.length_singleton, Hq.out, show n - (q + 1) = m by have := Hm.out; omega]⟩
        case measure => simp [intOf]; omega
      · obtain rfl : n = acc.length := by omega
        have HD3 := jJ0 (show D = noteEnd bs h (acc, s) by rw [HD2.out, Hgo.out, Nat.sub_self]; rfl)
        unfold noteEnd at HD3
        simp only at HD3
        have HDn := jJ0 (fun W (hR : Rr W g bs s) => jw W g bs s hR)
        have hgl := HA.out.lt
        have Hrd := jJ0 (show Rd wr 64 (some ⟨L, 0, none⟩) acc.length (acc.flatMap Sgn.cells) from by
          have hb := HA.out.blk
          rw [Nat.sub_self] at hb
          simp only [fillS, List.replicate_zero, List.append_nil] at hb
          exact ⟨by rw [vG Sgn.cells 64 _ (fun s _ => s.len)], fun _ => ⟨L, 0, rfl, hb.range⟩⟩)
        have HS := jJ0 HA.out.st
        have HH := jJ0 HA.out.hd
        clear HD2 Hgo HA
        go_wp2_with fail
        refine (HDn.out _ HS.out.rr).mono ?_
        clear HDn
        generalize jo bs s = dn at *
        rintro e w6 ⟨rfl, ho6⟩
        replace HS := jJ0 (HS.out.still ho6)
        replace HH := jJ0 (HH.out.old ho6)
        replace Hrd := jJ0 (Hrd.out.old ho6)
        clear ho6
        by_cases hd : dn = 0
        case neg =>
          have Hno := jJ0 (show D = none by rw [HD3.out, if_neg (fun h => hd h.1)])
          have hd' : (dn != 0) = true := by simpa using hd
          clear hd
          have Hth := jJ0 (HS.out.th zeroNote rfl)
          have Ht := jJ0 (HS.out.told zeroNote rfl)
          go_wp2_with (first | ((with_reducible refine jU 48 ?_); refine Tryz.wl_zero rfl 48 rfl _ (Tryz.zeroNoteV _) ?_) | ((with_reducible refine jE 48 (.tmp 2) (.tmp 62) ?_); refine wpList_store_mid rfl 48 (.tmp 2) (.tmp 62) rfl w.heap.size 0 zeroNote.toArray rfl rfl Hth.out Tryz.sizeNote (jK rfl) ?_) | fail)
          refine jA (g := w.heap.size) (cs := zeroNote.toArray) rfl rfl Ht.out.box Tryz.underlying48 rfl Tryz.sizeNote rfl ?_
          exact .inr ⟨8, Hno.out, by decide, rfl, Ht.out.old⟩
        subst hd
        go_wp2_with fail
        refine (HrS.out w6 _ _ acc Hrd.out (by omega)).mono ?_
        generalize riseK (acc.map (·.key)) = rk at *
        rintro e w7 ⟨rfl, ho6⟩
        replace HS := jJ0 (HS.out.still ho6)
        replace HH := jJ0 (HH.out.old ho6)
        replace Hrd := jJ0 (Hrd.out.old ho6)
        clear ho6 HrS
        cases rk with
        | false =>
          have Hno := jJ0 (show D = none by rw [HD3.out, if_neg (fun h => by cases h.2)])
          have Hth := jJ0 (HS.out.th zeroNote rfl)
          have Ht := jJ0 (HS.out.told zeroNote rfl)
          go_wp2_with (first | ((with_reducible refine jU 48 ?_); refine Tryz.wl_zero rfl 48 rfl _ (Tryz.zeroNoteV _) ?_) | ((with_reducible refine jE 48 (.tmp 2) (.tmp 62) ?_); refine wpList_store_mid rfl 48 (.tmp 2) (.tmp 62) rfl w.heap.size 0 zeroNote.toArray rfl rfl Hth.out Tryz.sizeNote (jK rfl) ?_) | fail)
          refine jA (g := w.heap.size) (cs := zeroNote.toArray) rfl rfl Ht.out.box Tryz.underlying48 rfl Tryz.sizeNote rfl ?_
          exact .inr ⟨8, Hno.out, by decide, rfl, Ht.out.old⟩
        | true =>
          have Hyes := jJ0 (show D = some (h, acc) by rw [HD3.out, if_pos (by simp)])
          have Hrg := jJ0 HH.out.range
          have HszH := jJ0 (show (Tryz.prog.info? 45).map (·.size) = some h.cells.length by rw [HOk.out.len]; kernel_rfl)
          have HB := jJ0 (built_note h.cells HOk.out.len (.slice (some ⟨L, 0, none⟩) acc.length acc.length) rfl)
          have Hmc := jJ0 (show h.cells ++ [.slice (some ⟨L, 0, none⟩) acc.length acc.length] = MNote.cells ⟨h, acc, some ⟨L, 0, none⟩, acc.length⟩ from rfl)
          have Hlen := jJ0 (show (MNote.cells ⟨h, acc, some ⟨L, 0, none⟩, acc.length⟩).length = 99 by rw [MNote.cells, List.length_append, HOk.out.len]; rfl)
          rw [Hmc.out] at HB
          have Hone := jJ0 (show (MNote.cells ⟨h, acc, some ⟨L, 0, none⟩, acc.length⟩).toArray.all (·.oneCell') = true from MNote.one _)
          have Hend := jJ0 (fun w' (ht : Told 48 (MNote.cells ⟨h, acc, some ⟨L, 0, none⟩, acc.length⟩) w w7 w') => show DecNP w D (.returned (.tuple #[.agg (MNote.cells ⟨h, acc, some ⟨L, 0, none⟩, acc.length⟩).toArray, .int .i64 0])) w' from
            .inl ⟨⟨h, acc, some ⟨L, 0, none⟩, acc.length⟩, Hyes.out, rfl, ⟨HOk.out, Hrd.out.told ht (fun _ ad e hx => by
              injection e with e
              subst e
              have := HS.out.lt
              simp only at hx
              omega), fun _ ad e hx => by
              injection e with e
              subst e
              have := HS.out.lt
              simp only at hx
              omega, by simp only; omega⟩, ht.old⟩)
          generalize MNote.cells ⟨h, acc, some ⟨L, 0, none⟩, acc.length⟩ = mc at *
          have Hsz := jJ0 (show (Tryz.prog.info? 48).map (·.size) = some mc.length by rw [Hlen.out]; exact Tryz.sizeNote)
          have Hth := jJ0 (HS.out.th mc (by rw [Hlen.out]; rfl))
          have Ht := jJ0 (HS.out.told mc (by rw [Hlen.out]; rfl))
          clear Hmc HH
          go_wp2_with (first | ((with_reducible refine jW 45 (.tmp 6) ?_); refine Tryz.load_w rfl 45 (.tmp 6) rfl H 0 rfl h.cells _ Hrg.out Tryz.underlying45 rfl HszH.out ?_) | ((with_reducible refine at_two 48 (.tmp 63) (.tmp 64) ?_); refine Tryz.wl_two rfl 48 (.tmp 63) (.tmp 64) rfl _ _ rfl rfl mc HB.out ?_) | ((with_reducible refine jE 48 (.tmp 2) (.tmp 65) ?_); refine wpList_store_mid rfl 48 (.tmp 2) (.tmp 65) rfl w.heap.size 0 mc.toArray rfl rfl Hth.out Hsz.out Hone.out ?_) | fail)
          refine jA (g := w.heap.size) (cs := mc.toArray) rfl rfl Ht.out.box Tryz.underlying48 rfl (by rw [List.size_toArray]; exact Hsz.out) rfl ?_
          exact Hend.out _ Ht.out
  · have Hno := jJ0 (show D = none by rw [HD.out])
    have HbH := jJ0 (show Blk (w3.alloc (.cells Tryz.zeroCells45 45)) w3.heap.size 45 zeroHdL.toArray from by rw [Tryz.zeroHead]; exact Blk.new w3 _ _)
    have HS3 := jJ0 (HS.out.still ((Kp.refl NoX w3).alloc (.cells Tryz.zeroCells45 45)))
    have hgH : g < w3.heap.size := HS.out.rr.lt
    have HszH := jJ0 (show (Tryz.prog.info? 45).map (·.size) = some zeroHdL.length by kernel_rfl)
    have HthH := jJ0 (HbH.out.there 0 zeroHdL.toArray.size (by decide))
    have HH := jJ0 (HbH.out.setWhole zeroHdL rfl)
    replace HS := jJ0 (HS3.out.put (Kp.setCells w3.heap.size 0 zeroHdL _) (fun b e => by omega))
    clear HS3 HbH
    go_wp2_with (first | ((with_reducible refine jE 45 (.tmp 6) (.tmp 18) ?_); refine wpList_store_mid rfl 45 (.tmp 6) (.tmp 18) rfl w3.heap.size 0 zeroHdL.toArray rfl rfl HthH.out HszH.out (jK rfl) ?_) | fail)
    generalize (w3.alloc _).setCells _ _ _ = W3 at *
    generalize w3.heap.size = H at *
    refine (HP.out _ HS.out.rr).mono ?_
    clear HP HthH HszH
    rintro e w4 ⟨rfl, hr2, hk2⟩
    replace HS := jJ0 (HS.out.step hr2 hk2)
    replace HH := jJ0 (HH.out.kp hk2 (show ¬ RX g H from fun e => by have : H = g := e; omega))
    clear hr2 hk2
    have Hth := jJ0 (HS.out.th zeroNote rfl)
    have Ht := jJ0 (HS.out.told zeroNote rfl)
    go_wp2_with (first | ((with_reducible refine jU 48 ?_); refine Tryz.wl_zero rfl 48 rfl _ (Tryz.zeroNoteV _) ?_) | ((with_reducible refine jE 48 (.tmp 2) (.tmp 37) ?_); refine wpList_store_mid rfl 48 (.tmp 2) (.tmp 37) rfl w.heap.size 0 zeroNote.toArray rfl rfl Hth.out Tryz.sizeNote (jK rfl) ?_) | fail)
    refine jA (g := w.heap.size) (cs := zeroNote.toArray) rfl rfl Ht.out.box Tryz.underlying48 rfl Tryz.sizeNote rfl ?_
    exact .inr ⟨8, Hno.out, by decide, rfl, Ht.out.old⟩
end Go.Proofs.YtnaolhjbapgjgaaGreat

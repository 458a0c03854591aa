import Derived.Test.YtnaolhjbapgjgaaMg02
import Derived.Test.YtnaolhjbapgjgaaMg03
import Derived.Test.YtnaolhjbapgjgaaMg06
/- A request in memory: values, operations, requests as cells; what reads as one. And the contract of desk.number. -/
namespace Go.Proofs.Ytnaolhjbapgjgaa
open Go.RowKit

/-- eight bytes of an int -/
def be8 (n : Int) : List UInt8 := be 8 (n % 18446744073709551616).toNat
theorem be8_length (n : Int) : (be8 n).length = 8 := be_length _ _
def nums (l : List Int) : List UInt8 := (l.map be8).flatten
theorem nums_take_succ (l : List Int) (k : Nat) (h : k < l.length) : nums (l.take (k + 1)) = nums (l.take k) ++ be8 (l.getD k 0) := by
  have e : l.getD k 0 = l[k] := by simp [List.getD, List.getElem?_eq_getElem h]
  rw [e, List.take_succ_eq_append_getElem h]
  unfold nums
  rw [List.map_append, List.flatten_append]
  congr 1
theorem nums_length (l : List Int) : (nums l).length = 8 * l.length := by
  induction l with
  | nil => rfl
  | cons a l ih => simp only [nums, List.map_cons, List.flatten_cons, List.length_append, be8_length, List.length_cons] at *; omega
theorem Rd.int {w : World} {A : Option Addr} {n : Nat} {l : List Int} (h : Rd w 1 A n (l.map (Value.int .i64))) {k : Nat} (hk : k < n) : ∃ b o, A = some ⟨b, o, none⟩ ∧ w.cell? ⟨b, o + k, none⟩ = some (.int .i64 (l.getD k 0)) := by
  obtain ⟨b, o, u, rfl, hx, hc⟩ := h.at_ hk
  refine ⟨b, o, rfl, ?_⟩
  rw [hc]
  rw [List.getElem?_map] at hx
  obtain ⟨b, hb, rfl⟩ := Option.map_eq_some_iff.1 hx
  simp [List.getD, hb]

set_option maxRecDepth 100000 in
set_option maxHeartbeats 1600000 in
theorem dnumber_any (w : World) (g : Nat) (r : Option Nat) (bs : List UInt8) (A : Option Addr) (n c : Nat) (l : List Int) (hn : l.length = n) (hW : Wr w g r bs) (hl : bs.length ≤ 900000000000)
    (hrd : Rd w 1 A n (l.map (Value.int .i64))) (hav : Av (WX g r) n A) (hle : n ≤ 1000) :
    Calls Try.prog 15 #[.pointer (some ⟨g, 0, none⟩), .slice A n c] w fun e w' => e = .returned (.tuple #[]) ∧ WStep w g r w' (bs ++ nums l) := by
  have Hl := Lib.hid hl
  have Hn := Lib.hid hn
  clear hl hn
  go_enter Try.func15, Try.ntmps15
  go_wp2
  go_loopw [8] (fun i wr => ∃ k : Nat, k ≤ n ∧ i = .int .i64 k ∧ WStep w g r wr (bs ++ nums (l.take k))) (fun i _ => n - (intOf i).toNat)
  case atStart => exact ⟨0, by omega, rfl, by simpa [nums] using hW.step⟩
  case round =>
    obtain ⟨k, hk, rfl, hst⟩ := hrel
    by_cases hlt : k < n
    · obtain ⟨r', hWr, hkp, hfr⟩ := hst
      obtain ⟨b, o, rfl, hy⟩ := (hrd.kp hkp hav).int (k := k) hlt
      have hcl : (bs ++ nums (l.take k)).length ≤ 1000000000000 := by
        have := Hl.out
        rw [List.length_append, nums_length, List.length_take, Hn.out]
        omega
      have Hfin := Lib.hid (show bs ++ nums (l.take (k + 1)) = (bs ++ nums (l.take k)) ++ be8 (l.getD k 0) by
        rw [nums_take_succ l k (by rw [Hn.out]; exact hlt)]; simp)
      generalize l.getD k 0 = y at hy Hfin
      generalize bs ++ nums (l.take k) = cs at hWr hcl Hfin
      have Hcl := Lib.hid hcl
      clear hcl
      have hrg := wrap64_range y
      go_wp2_with fail
      refine (put64_any _ g r' cs _ hrg.1 hrg.2 hWr (Nat.le_trans Hcl.out (by decide))).mono ?_
      rintro e w2 ⟨rfl, hst⟩
      rw [IntKind.wrap_u64] at hst
      have Hst := Lib.hid (WStep.trans hkp hfr hst)
      clear hst
      go_wp2
      go_roundw
      case rel => exact ⟨k + 1, by omega, by go_num, by rw [Hfin.out]; exact Hst.out⟩
      case measure => simp [intOf]; omega
    · obtain rfl : k = n := by omega
      go_wp2
      go_end0
      refine ⟨rfl, ?_⟩
      rw [List.take_of_length_le (by rw [Hn.out]; omega)] at hst
      exact hst

/-- a value where it stands -/
structure MVal where
  v : Val
  A : Option Addr
  c : Nat
def MVal.cells (m : MVal) : List Value := [.int .i64 m.v.kind, .int .i64 m.v.n, .string m.v.t, .slice m.A m.v.s.length m.c]
structure MVal.Ok (w : World) (X : Nat → Prop) (m : MVal) : Prop where
  rd : Rd w 1 m.A m.v.s.length (m.v.s.map sv)
  av : Av X m.v.s.length m.A
  cap : m.v.s.length ≤ m.c
  big : m.v.s.length ≤ 1000000000000

/-- an operation where it stands -/
structure MOp where
  op : Int
  case_ : ByteArray
  type_ : ByteArray
  name : ByteArray
  value : MVal
  args : List MVal
  argsA : Option Addr
  argsC : Nat
  source : List UInt8
  srcA : Option Addr
  srcC : Nat
  clock : Int
def MOp.cells (m : MOp) : List Value := [.int .i64 m.op, .string m.case_, .string m.type_, .string m.name, .int .i64 m.value.v.kind, .int .i64 m.value.v.n, .string m.value.v.t, .slice m.value.A m.value.v.s.length m.value.c, .slice m.argsA m.args.length m.argsC, .slice m.srcA m.source.length m.srcC, .int .i64 m.clock]
structure MOp.Ok (w : World) (X : Nat → Prop) (m : MOp) : Prop where
  value : m.value.Ok w X
  args : ∀ v ∈ m.args, MVal.Ok w X v
  rdArgs : Rd w 4 m.argsA m.args.length (m.args.flatMap MVal.cells)
  avArgs : Av X m.args.length m.argsA
  capArgs : m.args.length ≤ m.argsC
  rdSrc : Rd w 1 m.srcA m.source.length (m.source.map bv)
  avSrc : Av X m.source.length m.srcA
  big : m.args.length ≤ 1000000000000 ∧ m.source.length ≤ 2147483647 ∧ m.case_.size ≤ 2147483647 ∧ m.type_.size ≤ 2147483647 ∧ m.name.size ≤ 2147483647

/-- a request where it stands -/
structure MReq where
  op : Int
  do_ : MOp
  name : ByteArray
  number : Int
  size : Int
  from_ : Int
  to_ : Int
  first : Int
def MReq.cells (m : MReq) : List Value := .int .i64 m.op :: (m.do_.cells ++ [.string m.name, .int .i64 m.number, .int .i64 m.size, .int .i64 m.from_, .int .i64 m.to_, .int .i64 m.first])

section
variable {w w' : World} {X : Nat → Prop}
theorem MVal.Ok.kp {m : MVal} (h : m.Ok w X) (hk : Kp X w w') : m.Ok w' X := ⟨h.rd.kp hk h.av, h.av, h.cap, h.big⟩
theorem MVal.Ok.old {m : MVal} (h : m.Ok w X) (hk : Old w w') : m.Ok w' X := ⟨h.rd.old hk, h.av, h.cap, h.big⟩
theorem MVal.Ok.fresh {m : MVal} {g : Nat} {r r' : Option Nat} (h : m.Ok w (WX g r)) (hf : Fr w r r') : m.Ok w (WX g r') := ⟨h.rd, h.av.fresh hf h.rd (by decide), h.cap, h.big⟩
theorem MOp.Ok.kp {m : MOp} (h : m.Ok w X) (hk : Kp X w w') : m.Ok w' X :=
  ⟨h.value.kp hk, fun v hv => (h.args v hv).kp hk, h.rdArgs.kp hk h.avArgs, h.avArgs, h.capArgs, h.rdSrc.kp hk h.avSrc, h.avSrc, h.big⟩
theorem MOp.Ok.old {m : MOp} (h : m.Ok w X) (hk : Old w w') : m.Ok w' X :=
  ⟨h.value.old hk, fun v hv => (h.args v hv).old hk, h.rdArgs.old hk, h.avArgs, h.capArgs, h.rdSrc.old hk, h.avSrc, h.big⟩
theorem MOp.Ok.fresh {m : MOp} {g : Nat} {r r' : Option Nat} (h : m.Ok w (WX g r)) (hf : Fr w r r') : m.Ok w (WX g r') :=
  ⟨h.value.fresh hf, fun v hv => (h.args v hv).fresh hf, h.rdArgs, h.avArgs.fresh hf h.rdArgs (by decide), h.capArgs, h.rdSrc, h.avSrc.fresh hf h.rdSrc (by decide), h.big⟩
/-- behind a Writer's step -/
theorem MOp.Ok.step {m : MOp} {g : Nat} {r r' : Option Nat} (h : m.Ok w (WX g r)) (hk : Kp (WX g r) w w') (hf : Fr w r r') : m.Ok w' (WX g r') := by
  have h1 := h.fresh hf
  have h2 := h.kp hk
  exact ⟨⟨h2.value.rd, h1.value.av, h2.value.cap, h2.value.big⟩, fun v hv => ⟨(h2.args v hv).rd, (h1.args v hv).av, (h2.args v hv).cap, (h2.args v hv).big⟩, h2.rdArgs, h1.avArgs, h2.capArgs, h2.rdSrc, h1.avSrc, h2.big⟩
theorem MVal.Ok.step {m : MVal} {g : Nat} {r r' : Option Nat} (h : m.Ok w (WX g r)) (hk : Kp (WX g r) w w') (hf : Fr w r r') : m.Ok w' (WX g r') :=
  ⟨(h.kp hk).rd, (h.fresh hf).av, h.cap, h.big⟩
end

/-- an operation, plain -/
structure Opn where
  op : Int
  case_ : ByteArray
  type_ : ByteArray
  name : ByteArray
  value : Val
  args : List Val
  source : List UInt8
  clock : Int
def MOp.data (m : MOp) : Opn := ⟨m.op, m.case_, m.type_, m.name, m.value.v, m.args.map (·.v), m.source, m.clock⟩
/-- an operation's bytes behind its op -/
def opTail (o : Opn) : Option (List UInt8) :=
  if o.op = 1 then some (lp 4 (sb o.type_) ++ lp 4 o.source)
  else if o.op = 2 then some (lp 4 (sb o.case_) ++ lp 4 (sb o.type_))
  else if o.op = 3 then if rightE o.value = 0 then some (lp 4 (sb o.case_) ++ lp 4 (sb o.name) ++ valB o.value) else none
  else if o.op = 4 then if o.args.length ≤ 255 ∧ (o.args.all fun v => rightE v == 0) = true then some (lp 4 (sb o.case_) ++ lp 4 (sb o.name) ++ (be 1 o.args.length ++ (o.args.map valB).flatten)) else none
  else if o.op = 5 then some (be8 o.clock)
  else none
def opB (o : Opn) : Option (List UInt8) := (opTail o).map fun b => be 1 o.op.toNat ++ b
/-- can't be laid down, or is too long -/
def NoB (b : Option (List UInt8)) : Prop := b = none ∨ ∃ l, b = some l ∧ 1048576 < l.length
/-- what laying an operation down leaves -/
def OpPost (w : World) (g : Nat) (r : Option Nat) (bs : List UInt8) (o : Opn) (e : Ending) (w' : World) : Prop :=
  ∃ ok bs', e = .returned (.bool ok) ∧ WStep w g r w' (bs ++ bs') ∧ bs'.length ≤ 20000000000 ∧ (ok = true → opB o = some bs') ∧ (ok = false → NoB (opB o))
end Go.Proofs.Ytnaolhjbapgjgaa

/- Contracts of the document's writers of numbers and texts: docketref2.Eight, docketref24.low, docketref1.Number, docketref14.number, name. -/
namespace Go.Proofs.Ytnaolhjbapgjgaa
open Go.RowKit

/-- new memory that holds the bytes, told alone -/
def NewB (w : World) (l : List UInt8) (e : Ending) (w' : World) : Prop :=
  ∃ A c, e = .returned (.slice A l.length c) ∧ Rd w' 1 A l.length (l.map bv) ∧ Av (fun k => k < w.heap.size) l.length A ∧ Old w w'
/-- likewise, its own row -/
def OwnB (w : World) (base : Nat) (l : List UInt8) (e : Ending) (w' : World) : Prop :=
  ∃ A c, e = .returned (.slice A l.length c) ∧ w'.ownsRow base 5 1 (.slice A l.length c) l.length (l.map bv) ∧ Kp (fun k => base ≤ k) w w'

theorem be_getElem (k n i : Nat) (h : i < (be k n).length) : (be k n)[i] = UInt8.ofNat (n / 256 ^ (k - 1 - i)) := by
  have h1 := be_get k n i (by rw [be_length] at h; exact h)
  rw [List.getElem?_eq_getElem h] at h1
  injection h1

theorem shr_byte' (x : Nat) (k : Nat) : Value.int .u8 ((x : Int) / 2 ^ (8 * k) % 256) = bv (UInt8.ofNat (x / 256 ^ k)) := by
  rw [← shr_byte, IntKind.wrap_u8]

set_option maxRecDepth 100000 in
set_option maxHeartbeats 800000 in
theorem eight_any (w : World) (n : Int) :
    Calls Try.prog 33 #[.int .i64 n] w fun e w' => ∃ g, e = .returned (.slice (some ⟨g, 0, none⟩) 8 8) ∧ w.heap.size ≤ g ∧ Blk w' g 5 ((be8 n).map bv).toArray ∧ Old w w' := by
  have hmk : ∀ W : World, (Instr.makeSlice 27 (.int .i64 8) (.int .i64 8)).run Try.prog W = .ok (.slice (some ⟨W.heap.size, 0, none⟩) 8 8) (W.alloc (.cells (List.replicate 8 (Value.int .u8 0)).toArray 5)) := Try.make_bytes 8 (by decide)
  rw [be8]
  have hx : ((n % 18446744073709551616).toNat : Int) = n % 18446744073709551616 := by omega
  have ex : IntKind.u64.wrap n = ((n % 18446744073709551616).toNat : Int) := by rw [hx, IntKind.wrap_u64]
  generalize (n % 18446744073709551616).toNat = x at ex
  clear hx
  go_enter Try.func33, Try.ntmps33
  go_wp2
  go_loopw [4] (fun i wr => ∃ k : Nat, k ≤ 8 ∧ i = .int .i64 k ∧ Blk wr w.heap.size 5 (fillF (be 8 x) 8 k (.int .u8 0)).toArray ∧ Old w wr) (fun i _ => 8 - (intOf i).toNat)
  case atStart => exact ⟨0, by omega, rfl, by rw [fillF_zero]; exact Blk.new _ _ _, (Kp.refl _ _).alloc _⟩
  case round =>
    obtain ⟨k, hk, rfl, hb, ho⟩ := hrel
    have Ho := Lib.hid ho
    have Hb := Lib.hid hb
    clear ho hb
    by_cases hlt : k < 8
    · have hc := Hb.out.at_ k (v := .int .u8 0) (by rw [List.getElem?_toArray]; exact fillF_get _ 8 k _ hlt (by rw [be_length]; omega))
      have hz := Hb.out.frozen k
      have e2 : IntKind.i64.wrap (8 * (k : Int)) = 8 * (k : Int) := IntWalk.i64_in _ (by omega)
      have e3 : IntKind.i64.wrap (56 - 8 * (k : Int)) = 56 - 8 * (k : Int) := IntWalk.i64_in _ (by omega)
      have e4 : IntKind.u64.wrap (56 - 8 * (k : Int)) = 56 - 8 * (k : Int) := IntWalk.u64_in _ (by omega)
      have e5 : (56 - 8 * (k : Int)).toNat = 8 * (7 - k) := by omega
      have b1 : (0 : Int) ≤ (k : Int) := by omega
      have b2 : (k : Int) < 8 := by omega
      have b3 : (k : Int).toNat = k := by omega
      go_wp2
      go_roundw
      case rel =>
        refine ⟨k + 1, by omega, by go_num, ?_, ?_⟩
        · rw [shr_byte']
          have := Hb.out.set_ k (bv (UInt8.ofNat (x / 256 ^ (7 - k))))
          rw [List.setIfInBounds_toArray] at this
          have h2 := fillF_set (be 8 x) 8 k (.int .u8 0) hlt (by rw [be_length]; exact hlt)
          rw [be_getElem] at h2
          rw [← h2]
          exact this
        · exact Ho.out.setCell (p := ⟨w.heap.size, k, none⟩) (fun h => absurd h (Nat.lt_irrefl _)) _
      case measure => simp [intOf]; omega
    · obtain rfl : k = 8 := by omega
      go_wp2
      go_ret
      refine ⟨_, rfl, Nat.le_refl _, ?_, Ho.out⟩
      have h2 := fillF_full (be 8 x) (.int .u8 0)
      rw [be_length] at h2
      rw [← h2]
      exact Hb.out

theorem be8_drop4 (n : Int) : (be8 n).drop 4 = be 4 (n % 18446744073709551616).toNat := rfl
set_option maxRecDepth 100000 in
set_option maxHeartbeats 400000 in
theorem low2_any (w : World) (n : Int) :
    Calls Try.prog 20 #[.int .i64 n, .int .i64 2] w (NewB w (be 2 (n % 18446744073709551616).toNat)) := by
  have hl : (be 2 (n % 18446744073709551616).toNat).length = 2 := be_length _ _
  unfold NewB
  rw [hl]
  have hcut := fun (g : Nat) (W : World) => cut_l (P := Try.prog) (t := 27) Try.underlying27 (s := 1) (fun w => by kernel_rfl) (some ⟨g, 0, none⟩) 8 8 6 .i64 6 rfl (by decide) W
  simp only [if_neg (show ¬ (8 : Nat) = 6 by decide)] at hcut
  go_enter Try.func20, Try.ntmps20
  go_wp2_with fail
  refine (eight_any w n).mono ?_
  rintro e w1 ⟨g, rfl, hg, hb, ho⟩
  go_wp2
  go_ret
  have hr := Rd.of_blk hb
  rw [List.length_map, be8_length] at hr
  have hr2 := hr.cut (k := 6) (cap := 8) (by decide) (by decide)
  rw [if_neg (by decide), ← List.map_drop] at hr2
  exact ⟨_, _, rfl, hr2, fun _ ad e h => by injection e with e; subst e; exact absurd h (by simp; omega), ho⟩
set_option maxRecDepth 100000 in
set_option maxHeartbeats 400000 in
theorem low4_any (w : World) (n : Int) :
    Calls Try.prog 20 #[.int .i64 n, .int .i64 4] w (NewB w (be 4 (n % 18446744073709551616).toNat)) := by
  have hl : (be 4 (n % 18446744073709551616).toNat).length = 4 := be_length _ _
  unfold NewB
  rw [hl]
  have hcut := fun (g : Nat) (W : World) => cut_l (P := Try.prog) (t := 27) Try.underlying27 (s := 1) (fun w => by kernel_rfl) (some ⟨g, 0, none⟩) 8 8 4 .i64 4 rfl (by decide) W
  simp only [if_neg (show ¬ (8 : Nat) = 4 by decide)] at hcut
  go_enter Try.func20, Try.ntmps20
  go_wp2_with fail
  refine (eight_any w n).mono ?_
  rintro e w1 ⟨g, rfl, hg, hb, ho⟩
  go_wp2
  go_ret
  have hr := Rd.of_blk hb
  rw [List.length_map, be8_length] at hr
  have hr2 := hr.cut (k := 4) (cap := 8) (by decide) (by decide)
  rw [if_neg (by decide), ← List.map_drop] at hr2
  exact ⟨_, _, rfl, hr2, fun _ ad e h => by injection e with e; subst e; exact absurd h (by simp; omega), ho⟩
set_option maxRecDepth 100000 in
set_option maxHeartbeats 400000 in
theorem low8_any (w : World) (n : Int) :
    Calls Try.prog 20 #[.int .i64 n, .int .i64 8] w (NewB w (be 8 (n % 18446744073709551616).toNat)) := by
  have hl : (be 8 (n % 18446744073709551616).toNat).length = 8 := be_length _ _
  unfold NewB
  rw [hl]
  have hcut := fun (g : Nat) (W : World) => cut_l (P := Try.prog) (t := 27) Try.underlying27 (s := 1) (fun w => by kernel_rfl) (some ⟨g, 0, none⟩) 8 8 0 .i64 0 rfl (by decide) W
  simp only [if_neg (show ¬ (8 : Nat) = 0 by decide)] at hcut
  go_enter Try.func20, Try.ntmps20
  go_wp2_with fail
  refine (eight_any w n).mono ?_
  rintro e w1 ⟨g, rfl, hg, hb, ho⟩
  go_wp2
  go_ret
  have hr := Rd.of_blk hb
  rw [List.length_map, be8_length] at hr
  have hr2 := hr.cut (k := 0) (cap := 8) (by decide) (by decide)
  rw [if_neg (by decide), ← List.map_drop] at hr2
  exact ⟨_, _, rfl, hr2, fun _ ad e h => by injection e with e; subst e; exact absurd h (by simp; omega), ho⟩
end Go.Proofs.Ytnaolhjbapgjgaa

/- A row of bytes of one's own, and what is appended to it. -/
namespace Go.Proofs.Ytnaolhjbapgjgaa
open Go.RowKit

/-- a row of one's own, in blocks from base on, that holds these bytes -/
structure BRow (w : World) (base : Nat) (l : List UInt8) (A : Option Addr) (c : Nat) : Prop where
  own : w.ownsRow base 5 1 (.slice A l.length c) l.length (l.map bv)
  le : base ≤ w.heap.size
/-- the blocks from base on -/
def From (base : Nat) : Nat → Prop := fun k => base ≤ k
section
variable {w w' : World} {base : Nat} {l : List UInt8} {A : Option Addr} {c : Nat}
theorem BRow.rd (h : BRow w base l A c) : Rd w 1 A l.length (l.map bv) := Rd.of_own h.own
theorem BRow.old (h : BRow w base l A c) (ho : Old w w') : BRow w' base l A c := ⟨own_kp h.own ho (fun _ _ f => f), Nat.le_trans h.le ho.size⟩
theorem BRow.kp {X : Nat → Prop} (h : BRow w base l A c) (ho : Kp X w w') (hx : ∀ k, base ≤ k → k < w.heap.size → ¬ X k) : BRow w' base l A c := by
  refine ⟨own_kp h.own ho (fun k e => ?_), Nat.le_trans h.le ho.size⟩
  have := h.own.lt k e
  exact hx k this.1 this.2
theorem BRow.drewN (h : BRow w base l A c) (n : Nat) : BRow (w.drewN n) base l A c := h.old ((Kp.refl _ _).drewN n)
theorem BRow.alloc (h : BRow w base l A c) (o : Obj) : BRow (w.alloc o) base l A c := h.old ((Kp.refl _ _).alloc o)
theorem BRow.nil_ (w : World) (base : Nat) (hb : base ≤ w.heap.size) : BRow w base [] none 0 := ⟨World.ownsRow_nil _ _ _ _, hb⟩
theorem BRow.new (w : World) (l : List UInt8) (hm : l.length ≤ maxLen) : BRow (w.alloc (.cells (l.map bv).toArray 5)) w.heap.size l (some ⟨w.heap.size, 0, none⟩) l.length := by
  refine ⟨?_, by simp⟩
  have := own_of_blk (base := w.heap.size) (Blk.new w 5 (l.map bv).toArray) (Nat.le_refl _) (by simpa using hm)
  simpa using this
theorem BRow.some_ (h : BRow w base l A c) (hl : l ≠ []) : ∃ g, A = some ⟨g, 0, none⟩ ∧ base ≤ g := by
  have hn : 0 < l.length := List.length_pos_iff.2 hl
  obtain ⟨g, cap, hv, hb, _⟩ := h.own.form hn
  injection hv with hv
  exact ⟨g, hv, hb⟩
/-- a turn of the own row alone -/
theorem BRow.grown {A' : Option Addr} {c' : Nat} {m : List UInt8} {n : Nat} (h : BRow w base l A c) (hn : m.length = n) {xs : List Value} (hxs : xs = m.map bv)
    (hown : w'.ownsRow base 5 1 (.slice A' (l.length + n) c') (l.length + n) (l.map bv ++ xs)) (hg : w.grownBy w' (Value.slice A l.length c).ownBlock) :
    BRow w' base (l ++ m) A' c' ∧ Kp (From base) w w' := by
  subst hn hxs
  refine ⟨⟨by rw [List.length_append, List.map_append]; exact hown, Nat.le_trans h.le hg.size⟩, ?_⟩
  exact (Kp.refl (From base) w).grown hg (fun k e _ => (h.own.lt k e).1)
end
theorem own_B {w w' : World} {base : Nat} {l : List UInt8} {A : Option Addr} {c : Nat} (h : BRow w' base l A c) (hk : Kp (From base) w w') : OwnB w base l (.returned (.slice A l.length c)) w' := ⟨A, c, rfl, h.own, hk⟩
theorem From.old {w w1 w2 : World} {base : Nat} (h : Old w w1) (hk : Kp (From base) w1 w2) (hb : w.heap.size ≤ base) : Old w w2 := h.trans hk (fun b hb' hx => by have : base ≤ b := hx; omega)

section
variable {w : World} {ops : Array Oper} {rest : List Oper} {o : Oper} {a : Act} {Q : Exit → Act → World → Prop}
theorem Try.app_bytes (s x : Operand) {base : Nat} {l : List UInt8} {A : Option Addr} {c : Nat} (h : BRow w base l A c) {B : Option Addr} {m : List UInt8} {d : Nat} (hr : Rd w 1 B m.length (m.map bv)) (hl : l.length + m.length ≤ 10000000000000)
    (hgd : o.guard = none) (ho : o.op = .call { callee := .builtin .append, args := #[s, x], argTypes := #[27, 27] }) (hs : a.eval s = .slice A l.length c) (hx : a.eval x = .slice B m.length d)
    (hK : ∀ (out : List UInt8) A' c' w', Hid (out = l ++ m) → BRow w' base out A' c' → Kp (From base) w w' → wpList Try.prog ops Q rest (a.put o.dst (.slice A' out.length c')) w') : wpList Try.prog ops Q (o :: rest) a w := by
  obtain ⟨i0, hi, hz0, hz1, hz2⟩ := info_parts Try.infoByte
  refine wpList_append_any w hgd s x 27 ho base 5 i0 (.int .u8 0) 1 1 Try.underlying27 hi hz0 hz1 hz2 rfl (by decide) (.slice A l.length c) l.length (l.map bv) hs h.own B m.length d (m.map bv) hx hr (one_bytes _) (by unfold maxLen; omega) (by omega) h.le ?_
  intro A' c' w' hown hg _
  obtain ⟨h1, h2⟩ := h.grown rfl rfl hown hg
  have := hK _ A' c' w' (Lib.hid rfl) h1 h2
  rwa [List.length_append] at this
theorem Try.app_str (s x : Operand) {base : Nat} {l : List UInt8} {A : Option Addr} {c : Nat} (h : BRow w base l A c) {t : ByteArray} (hl : l.length + t.size ≤ 10000000000000)
    (hgd : o.guard = none) (ho : o.op = .call { callee := .builtin .append, args := #[s, x], argTypes := #[27, 9] }) (hs : a.eval s = .slice A l.length c) (hx : a.eval x = .string t)
    (hK : ∀ (out : List UInt8) A' c' w', Hid (out = l ++ sb t) → BRow w' base out A' c' → Kp (From base) w w' → wpList Try.prog ops Q rest (a.put o.dst (.slice A' out.length c')) w') : wpList Try.prog ops Q (o :: rest) a w := by
  obtain ⟨i0, hi, hz0, hz1, hz2⟩ := info_parts Try.infoByte
  refine wpList_append_str w hgd s x 27 9 ho base 5 i0 Try.underlying27 Try.underlying9 hi hz0 hz1 hz2 (.slice A l.length c) l.length (l.map bv) hs h.own t hx (by unfold maxLen; omega) (by omega) h.le ?_
  intro A' c' w' hown hg _
  obtain ⟨h1, h2⟩ := h.grown (sb_length t) rfl hown hg
  have := hK _ A' c' w' (Lib.hid rfl) h1 h2
  rwa [List.length_append, sb_length] at this
end

theorem nat_mod64 (n : Nat) (h : n < 18446744073709551616) : ((n : Int) % 18446744073709551616).toNat = n := by omega

set_option maxRecDepth 100000 in
set_option maxHeartbeats 800000 in
theorem text24_any (w : World) (base : Nat) (l : List UInt8) (A : Option Addr) (c : Nat) (s : ByteArray) (h : BRow w base l A c) (hl : l.length ≤ 4000000000000) (hs : s.size ≤ 2147483647) :
    Calls Try.prog 19 #[.slice A l.length c, .string s] w (OwnB w base (l ++ lp 4 (sb s))) := by
  have HQ := Lib.hid (show (l ++ be 4 s.size) ++ sb s = l ++ lp 4 (sb s) by rw [lp, sb_length, List.append_assoc])
  generalize l ++ lp 4 (sb s) = out at HQ ⊢
  go_enter Try.func19, Try.ntmps19
  go_wp2_with fail
  refine (low4_any w _).mono ?_
  rintro e w1 ⟨B, d, rfl, hr, _, ho⟩
  rw [nat_mod64 s.size (by omega)] at hr ⊢
  have h1 := h.old ho
  go_wp2_with (first
    | (at_builtin; refine Try.app_bytes (.tmp 5) (.tmp 8) h1 hr (by rw [be_length]; omega) rfl rfl rfl rfl ?_; intro l2 A2 c2 w2 e2 h2 hk2)
    | (at_builtin; refine Try.app_str (.tmp 9) (.tmp 10) h2 (by rw [e2.out, List.length_append, be_length]; omega) rfl rfl rfl rfl ?_; intro l3 A3 c3 w3 e3 h3 hk3))
  rw [← HQ.out, ← e2.out, ← e3.out]
  go_ret
  exact own_B h3 (((Kp.refl (From base) w).old ho).trans hk2 (fun _ _ h => h) |>.trans hk3 (fun _ _ h => h))
end Go.Proofs.Ytnaolhjbapgjgaa

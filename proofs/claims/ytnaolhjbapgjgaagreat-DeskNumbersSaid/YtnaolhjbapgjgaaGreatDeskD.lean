/- A request in memory: values, operations, requests as cells; what reads as one. And the contract of desk.number. -/
import Derived.Test.YtnaolhjbapgjgaaGreatDeskW
namespace Go.Proofs.YtnaolhjbapgjgaaGreat
open Go.RowKit

/-- eight bytes of an int -/
def be8 (n : Int) : List UInt8 := be 8 (n % 18446744073709551616).toNat
theorem be8_length (n : Int) : (be8 n).length = 8 := be_length _ _
def nums (l : List Int) : List UInt8 := (l.map be8).flatten
theorem nums_take_succ (l : List Int) (k : Nat) (h : k < l.length) : nums (l.take (k + 1)) = nums (l.take k) ++ be8 (l.getD k 0) := by
  have e : l.getD k 0 = l[k] := by simp [List.getD, List.getElem?_eq_getElem h]
  rw [e, List.take_succ_eq_append_getElem h]
  unfold nums
  rw [List.map_append, List.flatten_append]
  congr 1
theorem nums_length (l : List Int) : (nums l).length = 8 * l.length := by
  induction l with
  | nil => rfl
  | cons a l ih => simp only [nums, List.map_cons, List.flatten_cons, List.length_append, be8_length, List.length_cons] at *; omega
theorem Rd.int {w : World} {A : Option Addr} {n : Nat} {l : List Int} (h : Rd w 1 A n (l.map (Value.int .i64))) {k : Nat} (hk : k < n) : ∃ b o, A = some ⟨b, o, none⟩ ∧ w.cell? ⟨b, o + k, none⟩ = some (.int .i64 (l.getD k 0)) := by
  obtain ⟨b, o, u, rfl, hx, hc⟩ := h.at_ hk
  refine ⟨b, o, rfl, ?_⟩
  rw [hc]
  rw [List.getElem?_map] at hx
  obtain ⟨b, hb, rfl⟩ := Option.map_eq_some_iff.1 hx
  simp [List.getD, hb]

set_option maxRecDepth 100000 in
set_option maxHeartbeats 1600000 in
theorem dnumber_any (w : World) (g : Nat) (r : Option Nat) (bs : List UInt8) (A : Option Addr) (n c : Nat) (l : List Int) (hn : l.length = n) (hW : Wr w g r bs) (hl : bs.length ≤ 900000000000)
    (hrd : Rd w 1 A n (l.map (Value.int .i64))) (hav : Av (WX g r) n A) (hle : n ≤ 1000) :
    Calls Tryz.prog 22 #[.pointer (some ⟨g, 0, none⟩), .slice A n c] w fun e w' => e = .returned (.tuple #[]) ∧ WStep w g r w' (bs ++ nums l) := by
  have Hl := Lib.hid hl
  have Hn := Lib.hid hn
  clear hl hn
  go_enter Tryz.func22, Tryz.ntmps22
  go_wp2
  go_loopw [8] (fun i wr => ∃ k : Nat, k ≤ n ∧ i = .int .i64 k ∧ WStep w g r wr (bs ++ nums (l.take k))) (fun i _ => n - (intOf i).toNat)
  case atStart => exact ⟨0, by omega, rfl, by simpa [nums] using hW.step⟩
  case round =>
    obtain ⟨k, hk, rfl, hst⟩ := hrel
    by_cases hlt : k < n
    · obtain ⟨r', hWr, hkp, hfr⟩ := hst
      obtain ⟨b, o, rfl, hy⟩ := (hrd.kp hkp hav).int (k := k) hlt
      have hcl : (bs ++ nums (l.take k)).length ≤ 1000000000000 := by
        have := Hl.out
        rw [List.length_append, nums_length, List.length_take, Hn.out]
        omega
      have Hfin := Lib.hid (show bs ++ nums (l.take (k + 1)) = (bs ++ nums (l.take k)) ++ be8 (l.getD k 0) by
        rw [nums_take_succ l k (by rw [Hn.out]; exact hlt)]; simp)
      generalize l.getD k 0 = y at hy Hfin
      generalize bs ++ nums (l.take k) = cs at hWr hcl Hfin
      have Hcl := Lib.hid hcl
      clear hcl
      have hrg := wrap64_range y
      go_wp2_with fail
      refine (put64_any _ g r' cs _ hrg.1 hrg.2 hWr (Nat.le_trans Hcl.out (by decide))).mono ?_
      rintro e w2 ⟨rfl, hst⟩
      rw [IntKind.wrap_u64] at hst
      have Hst := Lib.hid (WStep.trans hkp hfr hst)
      clear hst
      go_wp2
      go_roundw
      case rel => exact ⟨k + 1, by omega, by go_num, by rw [Hfin.out]; exact Hst.out⟩
      case measure => simp [intOf]; omega
    · obtain rfl : k = n := by omega
      go_wp2
      go_end0
      refine ⟨rfl, ?_⟩
      rw [List.take_of_length_le (by rw [Hn.out]; omega)] at hst
      exact hst

/-- a value where it stands -/
structure MVal where
  v : Val
  A : Option Addr
  c : Nat
def MVal.cells (m : MVal) : List Value := [.int .i64 m.v.kind, .int .i64 m.v.n, .string m.v.t, .slice m.A m.v.s.length m.c]
structure MVal.Ok (w : World) (X : Nat → Prop) (m : MVal) : Prop where
  rd : Rd w 1 m.A m.v.s.length (m.v.s.map sv)
  av : Av X m.v.s.length m.A
  cap : m.v.s.length ≤ m.c
  big : m.v.s.length ≤ 1000000000000

/-- an operation where it stands -/
structure MOp where
  op : Int
  case_ : ByteArray
  type_ : ByteArray
  name : ByteArray
  value : MVal
  args : List MVal
  argsA : Option Addr
  argsC : Nat
  source : List UInt8
  srcA : Option Addr
  srcC : Nat
  clock : Int
def MOp.cells (m : MOp) : List Value := [.int .i64 m.op, .string m.case_, .string m.type_, .string m.name, .int .i64 m.value.v.kind, .int .i64 m.value.v.n, .string m.value.v.t, .slice m.value.A m.value.v.s.length m.value.c, .slice m.argsA m.args.length m.argsC, .slice m.srcA m.source.length m.srcC, .int .i64 m.clock]
structure MOp.Ok (w : World) (X : Nat → Prop) (m : MOp) : Prop where
  value : m.value.Ok w X
  args : ∀ v ∈ m.args, MVal.Ok w X v
  rdArgs : Rd w 4 m.argsA m.args.length (m.args.flatMap MVal.cells)
  avArgs : Av X m.args.length m.argsA
  capArgs : m.args.length ≤ m.argsC
  rdSrc : Rd w 1 m.srcA m.source.length (m.source.map bv)
  avSrc : Av X m.source.length m.srcA
  big : m.args.length ≤ 1000000000000 ∧ m.source.length ≤ 2147483647 ∧ m.case_.size ≤ 2147483647 ∧ m.type_.size ≤ 2147483647 ∧ m.name.size ≤ 2147483647

/-- a request where it stands -/
structure MReq where
  op : Int
  do_ : MOp
  name : ByteArray
  number : Int
  size : Int
  from_ : Int
  to_ : Int
  first : Int
def MReq.cells (m : MReq) : List Value := .int .i64 m.op :: (m.do_.cells ++ [.string m.name, .int .i64 m.number, .int .i64 m.size, .int .i64 m.from_, .int .i64 m.to_, .int .i64 m.first])

section
variable {w w' : World} {X : Nat → Prop}
theorem MVal.Ok.kp {m : MVal} (h : m.Ok w X) (hk : Kp X w w') : m.Ok w' X := ⟨h.rd.kp hk h.av, h.av, h.cap, h.big⟩
theorem MVal.Ok.old {m : MVal} (h : m.Ok w X) (hk : Old w w') : m.Ok w' X := ⟨h.rd.old hk, h.av, h.cap, h.big⟩
theorem MVal.Ok.fresh {m : MVal} {g : Nat} {r r' : Option Nat} (h : m.Ok w (WX g r)) (hf : Fr w r r') : m.Ok w (WX g r') := ⟨h.rd, h.av.fresh hf h.rd (by decide), h.cap, h.big⟩
theorem MOp.Ok.kp {m : MOp} (h : m.Ok w X) (hk : Kp X w w') : m.Ok w' X :=
  ⟨h.value.kp hk, fun v hv => (h.args v hv).kp hk, h.rdArgs.kp hk h.avArgs, h.avArgs, h.capArgs, h.rdSrc.kp hk h.avSrc, h.avSrc, h.big⟩
theorem MOp.Ok.old {m : MOp} (h : m.Ok w X) (hk : Old w w') : m.Ok w' X :=
  ⟨h.value.old hk, fun v hv => (h.args v hv).old hk, h.rdArgs.old hk, h.avArgs, h.capArgs, h.rdSrc.old hk, h.avSrc, h.big⟩
theorem MOp.Ok.fresh {m : MOp} {g : Nat} {r r' : Option Nat} (h : m.Ok w (WX g r)) (hf : Fr w r r') : m.Ok w (WX g r') :=
  ⟨h.value.fresh hf, fun v hv => (h.args v hv).fresh hf, h.rdArgs, h.avArgs.fresh hf h.rdArgs (by decide), h.capArgs, h.rdSrc, h.avSrc.fresh hf h.rdSrc (by decide), h.big⟩
/-- behind a Writer's step -/
theorem MOp.Ok.step {m : MOp} {g : Nat} {r r' : Option Nat} (h : m.Ok w (WX g r)) (hk : Kp (WX g r) w w') (hf : Fr w r r') : m.Ok w' (WX g r') := by
  have h1 := h.fresh hf
  have h2 := h.kp hk
  exact ⟨⟨h2.value.rd, h1.value.av, h2.value.cap, h2.value.big⟩, fun v hv => ⟨(h2.args v hv).rd, (h1.args v hv).av, (h2.args v hv).cap, (h2.args v hv).big⟩, h2.rdArgs, h1.avArgs, h2.capArgs, h2.rdSrc, h1.avSrc, h2.big⟩
theorem MVal.Ok.step {m : MVal} {g : Nat} {r r' : Option Nat} (h : m.Ok w (WX g r)) (hk : Kp (WX g r) w w') (hf : Fr w r r') : m.Ok w' (WX g r') :=
  ⟨(h.kp hk).rd, (h.fresh hf).av, h.cap, h.big⟩
end

/-- an operation, plain -/
structure Opn where
  op : Int
  case_ : ByteArray
  type_ : ByteArray
  name : ByteArray
  value : Val
  args : List Val
  source : List UInt8
  clock : Int
def MOp.data (m : MOp) : Opn := ⟨m.op, m.case_, m.type_, m.name, m.value.v, m.args.map (·.v), m.source, m.clock⟩
/-- an operation's bytes behind its op -/
def opTail (o : Opn) : Option (List UInt8) :=
  if o.op = 1 then some (lp 4 (sb o.type_) ++ lp 4 o.source)
  else if o.op = 2 then some (lp 4 (sb o.case_) ++ lp 4 (sb o.type_))
  else if o.op = 3 then if rightE o.value = 0 then some (lp 4 (sb o.case_) ++ lp 4 (sb o.name) ++ valB o.value) else none
  else if o.op = 4 then if o.args.length ≤ 255 ∧ (o.args.all fun v => rightE v == 0) = true then some (lp 4 (sb o.case_) ++ lp 4 (sb o.name) ++ (be 1 o.args.length ++ (o.args.map valB).flatten)) else none
  else if o.op = 5 then some (be8 o.clock)
  else none
def opB (o : Opn) : Option (List UInt8) := (opTail o).map fun b => be 1 o.op.toNat ++ b
/-- can't be laid down, or is too long -/
def NoB (b : Option (List UInt8)) : Prop := b = none ∨ ∃ l, b = some l ∧ 1048576 < l.length
/-- what laying an operation down leaves -/
def OpPost (w : World) (g : Nat) (r : Option Nat) (bs : List UInt8) (o : Opn) (e : Ending) (w' : World) : Prop :=
  ∃ ok bs', e = .returned (.bool ok) ∧ WStep w g r w' (bs ++ bs') ∧ bs'.length ≤ 20000000000 ∧ (ok = true → opB o = some bs') ∧ (ok = false → NoB (opB o))
end Go.Proofs.YtnaolhjbapgjgaaGreat

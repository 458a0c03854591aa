/- Plain words on values (api.Value): what eval.Right says of one. No program in sight. -/
import Derived.Test.YtnaolhjbapgjgaaGreatNum
namespace Go.Proofs.YtnaolhjbapgjgaaGreat
open Go.RowKit

structure Val where
  kind : Int
  n : Int
  t : ByteArray
  s : List ByteArray

/-- texts in Go's order -/
def blt (a b : ByteArray) : Bool := Op.bytesLess a.toList b.toList

def rising (l : List ByteArray) : Bool := (List.range (l.length - 1)).all fun i => blt (l.getD i ByteArray.empty) (l.getD (i + 1) ByteArray.empty)

def formedB (v : Val) : Bool :=
  !((v.kind != 3 && !v.t.toList.isEmpty) || (v.kind != 5 && decide (0 < v.s.length))) &&
  (if v.kind = 1 ∨ v.kind = 4 then true else if v.kind = 2 then v.n == 0 || v.n == 1 else if v.kind = 0 ∨ v.kind = 3 then v.n == 0 else if v.kind = 5 then rising v.s && v.n == 0 else false)

def longB (v : Val) : Bool := decide (1024 < v.t.size) || v.s.any fun x => decide (1024 < x.size)

def rightE (v : Val) : Int :=
  if formedB v = false then 8
  else if v.kind = 4 ∧ ¬ (0 ≤ v.n ∧ v.n ≤ 4611686018427387904) then 111
  else if longB v = true then 113
  else if 64 < v.s.length then 114
  else 0

/-- texts one behind the other, each behind its length -/
def lps (l : List ByteArray) : List UInt8 := (l.map fun s => lp 2 (sb s)).flatten
/-- a set's bytes -/
def textsB (l : List ByteArray) : List UInt8 := be 2 l.length ++ lps l
theorem lps_take_succ (l : List ByteArray) (k : Nat) (h : k < l.length) : lps (l.take (k + 1)) = lps (l.take k) ++ lp 2 (sb (l.getD k ByteArray.empty)) := by
  have e : l.getD k ByteArray.empty = l[k] := by simp [List.getD, List.getElem?_eq_getElem h]
  rw [e, List.take_succ_eq_append_getElem h]
  unfold lps
  rw [List.map_append, List.flatten_append]
  congr 1
  simp
theorem lps_length_le (l : List ByteArray) (h : ∀ k, k < l.length → (l.getD k ByteArray.empty).size ≤ 65535) : ∀ k, k ≤ l.length → (lps (l.take k)).length ≤ k * 65537 := by
  intro k
  induction k with
  | zero => intro _; simp [lps]
  | succ k ih =>
    intro hk
    have h1 := ih (by omega)
    have h2 := h k (by omega)
    rw [lps_take_succ l k (by omega), List.length_append, lp_length, sb_length]
    omega
/-- a value's bytes -/
def valB (v : Val) : List UInt8 :=
  be 1 v.kind.toNat ++
  (if v.kind = 1 ∨ v.kind = 4 then be 8 (v.n % 18446744073709551616).toNat else if v.kind = 2 then [if v.n = 1 then 1 else 0] else if v.kind = 3 then lp 2 (sb v.t) else if v.kind = 5 then textsB v.s else [])
end Go.Proofs.YtnaolhjbapgjgaaGreat

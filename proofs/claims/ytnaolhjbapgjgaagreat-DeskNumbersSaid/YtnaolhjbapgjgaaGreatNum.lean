/- Plain words on numbers as bytes: be k n is n in k bytes, the highest first. No program in sight. -/
import Derived.Test.YtnaolhjbapgjgaaGreatLib
namespace Go.Proofs.YtnaolhjbapgjgaaGreat
open Go.RowKit

/-- n in k bytes, the highest first -/
def be : Nat → Nat → List UInt8
  | 0, _ => []
  | k + 1, n => UInt8.ofNat (n / 256 ^ k) :: be k n

theorem be_length (k n : Nat) : (be k n).length = k := by
  induction k with
  | zero => rfl
  | succ k ih => simp [be, ih]

theorem be_get (k n i : Nat) (h : i < k) : (be k n)[i]? = some (UInt8.ofNat (n / 256 ^ (k - 1 - i))) := by
  induction k generalizing i with
  | zero => omega
  | succ k ih =>
    cases i with
    | zero => simp [be]
    | succ i =>
      simp only [be, List.getElem?_cons_succ]
      rw [ih i (by omega)]
      congr 4
      omega

theorem be_take_succ (k n m : Nat) (h : m < k) : (be k n).take (k - m) = (be k n).take (k - (m + 1)) ++ [UInt8.ofNat (n / 256 ^ m)] := by
  have h1 : k - m = (k - (m + 1)) + 1 := by omega
  rw [h1, List.take_add_one, be_get k n _ (by omega)]
  congr 5
  simp only [Option.toList]
  congr 3
  congr 1
  omega

/-- bytes behind their length -/
def lp (k : Nat) (l : List UInt8) : List UInt8 := be k l.length ++ l
theorem lp_length (k : Nat) (l : List UInt8) : (lp k l).length = k + l.length := by rw [lp, List.length_append, be_length]

theorem bv_ofNat (n : Nat) : bv (UInt8.ofNat n) = .int .u8 ((n % 256 : Nat) : Int) := by
  simp [bv]
end Go.Proofs.YtnaolhjbapgjgaaGreat

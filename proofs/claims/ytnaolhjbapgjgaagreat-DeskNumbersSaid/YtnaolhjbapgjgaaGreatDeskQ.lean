/- A request, plain, and its bytes. What encoding one leaves. -/
import Derived.Test.YtnaolhjbapgjgaaGreatDeskO
import Derived.Test.YtnaolhjbapgjgaaGreatDeskO4
namespace Go.Proofs.YtnaolhjbapgjgaaGreat
open Go.RowKit

theorem oper_any (m : MOp) (g : Nat) (r : Option Nat) (bs : List UInt8) (w : World) (hW : Wr w g r bs) (hl : bs.length ≤ 500000000000) (hok : m.Ok w (WX g r)) :
    Calls Tryz.prog 20 #[.pointer (some ⟨g, 0, none⟩), .agg m.cells.toArray] w (OpPost w g r bs m.data) := by
  by_cases h : m.op < 1 ∨ 5 < m.op
  · exact oper_far m g r bs w hW hl hok h
  · have hk : m.op = 1 ∨ m.op = 2 ∨ m.op = 3 ∨ m.op = 4 ∨ m.op = 5 := by omega
    rcases hk with h | h | h | h | h
    · exact oper_1 m g r bs w hW hl hok h
    · exact oper_2 m g r bs w hW hl hok h
    · exact oper_3 m g r bs w hW hl hok h
    · exact oper_4 m g r bs w hW hl hok h
    · exact oper_5 m g r bs w hW hl hok h

structure Req where
  op : Int
  do_ : Opn
  name : ByteArray
  number : Int
  size : Int
  from_ : Int
  to_ : Int
  first : Int
def MReq.data (m : MReq) : Req := ⟨m.op, m.do_.data, m.name, m.number, m.size, m.from_, m.to_, m.first⟩
structure MReq.Ok (w : World) (m : MReq) : Prop where
  do_ : m.do_.Ok w NoX
  name : m.name.size ≤ 2147483647

/-- a request's bytes behind its op -/
def reqTail (q : Req) : Option (List UInt8) :=
  if q.op = 1 ∨ q.op = 2 then opB q.do_
  else if q.op = 3 then some (lp 4 (sb q.name))
  else if q.op = 4 then some (be8 q.number)
  else if q.op = 5 ∨ q.op = 6 ∨ q.op = 7 ∨ q.op = 12 then some []
  else if q.op = 8 then some (be8 q.number ++ be8 q.size)
  else if q.op = 9 then some (be8 q.from_ ++ be8 q.to_)
  else if q.op = 10 then some (lp 4 (sb q.name) ++ be8 q.size)
  else if q.op = 11 then some (lp 4 (sb q.name) ++ (be8 q.size ++ be8 q.first))
  else none
def reqB (q : Req) : Option (List UInt8) := (reqTail q).map fun b => be 1 q.op.toNat ++ b
/-- its bytes, if it can be laid down -/
def encReq (q : Req) : Option (List UInt8) := (reqB q).bind fun b => if b.length ≤ 1048576 then some b else none

theorem encReq_of {q : Req} {b : List UInt8} (h : reqB q = some b) (hl : b.length ≤ 1048576) : encReq q = some b := by rw [encReq, h]; simp [hl]
theorem encReq_long {q : Req} {b : List UInt8} (h : reqB q = some b) (hl : 1048576 < b.length) : encReq q = none := by rw [encReq, h]; simp; omega
theorem encReq_none {q : Req} (h : reqTail q = none) : encReq q = none := by rw [encReq, reqB, h]; rfl

/-- what encoding leaves: the bytes in new memory, or nothing and ErrFrame -/
def EncPost (w : World) (b : Option (List UInt8)) (e : Ending) (w' : World) : Prop :=
  (∃ l A c, b = some l ∧ e = .returned (.tuple #[.slice A l.length c, .int .i64 0]) ∧ w'.ownsRow w.heap.size 5 1 (.slice A l.length c) l.length (l.map bv) ∧ Old w w') ∨
  (b = none ∧ e = .returned (.tuple #[.slice none 0 0, .int .i64 240]) ∧ Old w w')

/-- a Writer of the call's own turns nothing that was there -/
theorem WStep.own {w w1 w2 : World} {g : Nat} {bs : List UInt8} (h : WStep w1 g none w2 bs) (ho : Old w w1) (hg : w.heap.size ≤ g) : Old w w2 := by
  obtain ⟨r, _, hk, _⟩ := h
  refine ho.trans hk (fun b hb hx => ?_)
  rcases hx with rfl | hx
  · omega
  · cases hx
theorem Av.own {w : World} {g n size : Nat} {A : Option Addr} {xs : List Value} (hr : Rd w size A n xs) (hs : 0 < size) (hg : w.heap.size ≤ g) : Av (WX g none) n A := by
  intro hn ad e hx
  have := hr.lt hs hn e
  rcases hx with hx | hx
  · omega
  · cases hx
theorem MVal.Ok.own {w : World} {X : Nat → Prop} {m : MVal} (h : m.Ok w X) {g : Nat} (hg : w.heap.size ≤ g) : m.Ok w (WX g none) := ⟨h.rd, Av.own h.rd (by decide) hg, h.cap, h.big⟩
theorem MOp.Ok.own {w : World} {X : Nat → Prop} {m : MOp} (h : m.Ok w X) {g : Nat} (hg : w.heap.size ≤ g) : m.Ok w (WX g none) :=
  ⟨h.value.own hg, fun v hv => (h.args v hv).own hg, h.rdArgs, Av.own h.rdArgs (by decide) hg, h.capArgs, h.rdSrc, Av.own h.rdSrc (by decide) hg, h.big⟩
end Go.Proofs.YtnaolhjbapgjgaaGreat

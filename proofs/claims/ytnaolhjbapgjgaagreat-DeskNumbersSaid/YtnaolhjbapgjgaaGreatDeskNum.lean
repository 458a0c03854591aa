/- The walk of DeskNumbers. -/
import Derived.Test.YtnaolhjbapgjgaaGreatDeskN
import Derived.Test.YtnaolhjbapgjgaaGreatDeskS
import Derived.Test.YtnaolhjbapgjgaaGreatSame
namespace Go.Proofs.YtnaolhjbapgjgaaGreat
open Go.RowKit

def zOp : MOp := ⟨0, ⟨#[]⟩, ⟨#[]⟩, ⟨#[]⟩, ⟨⟨0, 0, ⟨#[]⟩, []⟩, none, 0⟩, [], none, 0, [], none, 0, 0⟩
def req9 : MReq := ⟨1, { zOp with op := 5, clock := 9 }, ⟨#[]⟩, 0, 0, 0, 0, 0⟩
def req13 : MReq := ⟨13, zOp, ⟨#[]⟩, 0, 0, 0, 0, 0⟩
theorem enc9 : encReq req9.data = some [1, 5, 0, 0, 0, 0, 0, 0, 0, 9] := by decide
theorem enc13 : encReq req13.data = none := by decide
theorem zOk (w : World) (X : Nat → Prop) (o n : Int) : MOp.Ok w X { zOp with op := o, clock := n } :=
  ⟨⟨Rd.none_, fun h => absurd h (by simp [zOp]), Nat.le_refl _, by simp [zOp]⟩, fun v hv => by simp [zOp] at hv, Rd.none_, fun h => absurd h (by simp [zOp]), Nat.le_refl _, Rd.none_, fun h => absurd h (by simp [zOp]), by refine ⟨Nat.zero_le _, Nat.zero_le _, ?_, ?_, ?_⟩ <;> exact Nat.zero_le _⟩
theorem zOk9 (w : World) : MReq.Ok w req9 := ⟨zOk w NoX 5 9, by decide⟩
theorem zOk13 (w : World) : MReq.Ok w req13 := ⟨zOk w NoX 0 0, by decide⟩

set_option maxRecDepth 100000 in
set_option maxHeartbeats 3200000 in
theorem dnumbers_any (w : World) : Calls Tryz.prog 3 #[] w fun e w' => e = .returned (.bool true) ∧ Old w w' := by
  go_enter Tryz.func3, Tryz.ntmps3
  go_wp2_with fail
  refine (enc_any req9 w (zOk9 w)).mono ?_
  intro e w1 h
  rw [enc9] at h
  rcases h with ⟨l, A, c, hl, he, hown, ho⟩ | ⟨h, _⟩
  case inr => cases h
  obtain rfl : [1, 5, 0, 0, 0, 0, 0, 0, 0, 9] = l := Option.some.inj hl
  subst he
  have hrd := Rd.of_own hown
  have Hrd := Lib.hid hrd
  have Ho := Lib.hid ho
  clear hl hown hrd ho
  simp only [List.length_cons, List.length_nil, Nat.zero_add, Nat.reduceAdd] at *
  go_wp2_with fail
  refine (encreply_size w1 _ 3 rfl rfl rfl).mono ?_
  rintro e w2 ⟨A2, c2, rfl, hrd2, ho2⟩
  have Hrd1 := Lib.hid (Hrd.out.old ho2)
  have Ho2 := Lib.hid (Ho.out.old ho2)
  have Hrd2 := Lib.hid hrd2
  clear Hrd Ho hrd2 ho2
  go_wp2_with fail
  refine (enc_any req13 w2 (zOk13 w2)).mono ?_
  intro e w3 h
  rw [enc13] at h
  rcases h with ⟨l, _, _, hl, _⟩ | ⟨_, he, ho⟩
  case inl => cases hl
  subst he
  have Hrd3 := Lib.hid (Hrd1.out.old ho)
  have Hrd4 := Lib.hid (Hrd2.out.old ho)
  have Ho3 := Lib.hid (Ho2.out.old ho)
  clear Hrd1 Ho2 Hrd2 ho
  go_wp2_with fail
  refine (dnew_nil w3 1).mono ?_
  rintro e w4 ⟨rfl, rfl⟩
  go_wp2_with fail
  have hs := sameb_any (w3.alloc (.cells #[.int .u8 1, .int .u8 5, .int .u8 0, .int .u8 0, .int .u8 0, .int .u8 0, .int .u8 0, .int .u8 0, .int .u8 0, .int .u8 9] 5)) A _ c 10 [1, 5, 0, 0, 0, 0, 0, 0, 0, 9] [1, 5, 0, 0, 0, 0, 0, 0, 0, 9] (Hrd3.out.alloc _) (Rd.arr_new w3 _ [.int .u8 1, .int .u8 5, .int .u8 0, .int .u8 0, .int .u8 0, .int .u8 0, .int .u8 0, .int .u8 0, .int .u8 0, .int .u8 9]) (by simp)
  refine hs.mono ?_
  rintro e w5 ⟨rfl, ho5⟩
  have Ho5 := Lib.hid ((Ho3.out.alloc _).old ho5)
  have Hrd5 := Lib.hid ((Hrd4.out.alloc _).old ho5)
  clear ho5 hs Hrd3 Hrd4 Ho3
  rw [decide_eq_true rfl]
  go_wp2_with fail
  have hs := sameb_any (w5.alloc (.cells #[.int .u8 0, .int .u8 0, .int .u8 0, .int .u8 0, .int .u8 0, .int .u8 0, .int .u8 0, .int .u8 0, .int .u8 0, .int .u8 3] 5)) A2 _ c2 10 [0, 0, 0, 0, 0, 0, 0, 0, 0, 3] [0, 0, 0, 0, 0, 0, 0, 0, 0, 3] (Hrd5.out.alloc _) (Rd.arr_new w5 _ [.int .u8 0, .int .u8 0, .int .u8 0, .int .u8 0, .int .u8 0, .int .u8 0, .int .u8 0, .int .u8 0, .int .u8 0, .int .u8 3]) (by simp)
  refine hs.mono ?_
  rintro e w6 ⟨rfl, ho6⟩
  have Ho6 := Lib.hid ((Ho5.out.alloc _).old ho6)
  clear ho6 hs Hrd5 Ho5
  rw [decide_eq_true rfl]
  go_wp2
  go_ret
  exact ⟨rfl, Ho6.out⟩
end Go.Proofs.YtnaolhjbapgjgaaGreat

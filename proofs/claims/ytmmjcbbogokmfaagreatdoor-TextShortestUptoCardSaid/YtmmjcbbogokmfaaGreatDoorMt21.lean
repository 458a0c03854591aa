import Derived.Test.YtmmjcbbogokmfaaGreatDoorMt01
import Derived.Test.YtmmjcbbogokmfaaGreatDoorMt18
import Derived.Test.YtmmjcbbogokmfaaGreatDoorMt20
set_option maxRecDepth 100000
set_option maxHeartbeats 25600000
namespace Go.Proofs.YtmmjcbbogokmfaaGreatDoor
open Go.RowKit
theorem level7 (w : World) : Calls Tryz.prog 191 #[.int .i64 7] w fun e w' => e = .returned (.int .i64 (jV 7 : Nat)) /\ w = w' := by
  go_enter Tryz.func191, Tryz.ntmps191
  go_wp2
  go_ret
  exact ⟨rfl, rfl⟩
theorem level8 (w : World) : Calls Tryz.prog 191 #[.int .i64 8] w fun e w' => e = .returned (.int .i64 (jV 8 : Nat)) /\ w = w' := by
  go_enter Tryz.func191, Tryz.ntmps191
  go_wp2
  go_ret
  exact ⟨rfl, rfl⟩
theorem level9 (w : World) : Calls Tryz.prog 191 #[.int .i64 9] w fun e w' => e = .returned (.int .i64 (jV 9 : Nat)) /\ w = w' := by
  go_enter Tryz.func191, Tryz.ntmps191
  go_wp2
  go_ret
  exact ⟨rfl, rfl⟩
theorem level10 (w : World) : Calls Tryz.prog 191 #[.int .i64 10] w fun e w' => e = .returned (.int .i64 (jV 10 : Nat)) /\ w = w' := by
  go_enter Tryz.func191, Tryz.ntmps191
  go_wp2
  go_ret
  exact ⟨rfl, rfl⟩
theorem level11 (w : World) : Calls Tryz.prog 191 #[.int .i64 11] w fun e w' => e = .returned (.int .i64 (jV 11 : Nat)) /\ w = w' := by
  go_enter Tryz.func191, Tryz.ntmps191
  go_wp2
  go_ret
  exact ⟨rfl, rfl⟩
theorem level12 (w : World) : Calls Tryz.prog 191 #[.int .i64 12] w fun e w' => e = .returned (.int .i64 (jV 12 : Nat)) /\ w = w' := by
  go_enter Tryz.func191, Tryz.ntmps191
  go_wp2
  go_ret
  exact ⟨rfl, rfl⟩
theorem level13 (w : World) : Calls Tryz.prog 191 #[.int .i64 13] w fun e w' => e = .returned (.int .i64 (jV 13 : Nat)) /\ w = w' := by
  go_enter Tryz.func191, Tryz.ntmps191
  go_wp2
  go_ret
  exact ⟨rfl, rfl⟩
theorem level14 (w : World) : Calls Tryz.prog 191 #[.int .i64 14] w fun e w' => e = .returned (.int .i64 (jV 14 : Nat)) /\ w = w' := by
  go_enter Tryz.func191, Tryz.ntmps191
  go_wp2
  go_ret
  exact ⟨rfl, rfl⟩
theorem level15 (w : World) : Calls Tryz.prog 191 #[.int .i64 15] w fun e w' => e = .returned (.int .i64 (jV 15 : Nat)) /\ w = w' := by
  go_enter Tryz.func191, Tryz.ntmps191
  go_wp2
  go_ret
  exact ⟨rfl, rfl⟩
theorem level16 (w : World) : Calls Tryz.prog 191 #[.int .i64 16] w fun e w' => e = .returned (.int .i64 (jV 16 : Nat)) /\ w = w' := by
  go_enter Tryz.func191, Tryz.ntmps191
  go_wp2
  go_ret
  exact ⟨rfl, rfl⟩
theorem level17 (w : World) : Calls Tryz.prog 191 #[.int .i64 17] w fun e w' => e = .returned (.int .i64 (jV 17 : Nat)) /\ w = w' := by
  go_enter Tryz.func191, Tryz.ntmps191
  go_wp2
  go_ret
  exact ⟨rfl, rfl⟩
theorem level18 (w : World) : Calls Tryz.prog 191 #[.int .i64 18] w fun e w' => e = .returned (.int .i64 (jV 18 : Nat)) /\ w = w' := by
  go_enter Tryz.func191, Tryz.ntmps191
  go_wp2
  go_ret
  exact ⟨rfl, rfl⟩
theorem level19 (w : World) : Calls Tryz.prog 191 #[.int .i64 19] w fun e w' => e = .returned (.int .i64 (jV 19 : Nat)) /\ w = w' := by
  go_enter Tryz.func191, Tryz.ntmps191
  go_wp2
  go_ret
  exact ⟨rfl, rfl⟩
theorem level20 (w : World) : Calls Tryz.prog 191 #[.int .i64 20] w fun e w' => e = .returned (.int .i64 (jV 20 : Nat)) /\ w = w' := by
  go_enter Tryz.func191, Tryz.ntmps191
  go_wp2
  go_ret
  exact ⟨rfl, rfl⟩
theorem level21 (w : World) : Calls Tryz.prog 191 #[.int .i64 21] w fun e w' => e = .returned (.int .i64 (jV 21 : Nat)) /\ w = w' := by
  go_enter Tryz.func191, Tryz.ntmps191
  go_wp2
  go_ret
  exact ⟨rfl, rfl⟩
theorem level22 (w : World) : Calls Tryz.prog 191 #[.int .i64 22] w fun e w' => e = .returned (.int .i64 (jV 22 : Nat)) /\ w = w' := by
  go_enter Tryz.func191, Tryz.ntmps191
  go_wp2
  go_ret
  exact ⟨rfl, rfl⟩
theorem level23 (w : World) : Calls Tryz.prog 191 #[.int .i64 23] w fun e w' => e = .returned (.int .i64 (jV 23 : Nat)) /\ w = w' := by
  go_enter Tryz.func191, Tryz.ntmps191
  go_wp2
  go_ret
  exact ⟨rfl, rfl⟩
theorem vD (w : World) (op : Int) : Calls Tryz.prog 191 #[.int .i64 op] w fun e w' => e = .returned (.int .i64 (jV op : Nat)) /\ w = w' := by
  by_cases h : 7 <= op /\ op <= 23
  · have : op = 7 \/ op = 8 \/ op = 9 \/ op = 10 \/ op = 11 \/ op = 12 \/ op = 13 \/ op = 14 \/ op = 15 \/ op = 16 \/ op = 17 \/ op = 18 \/ op = 19 \/ op = 20 \/ op = 21 \/ op = 22 \/ op = 23 := by omega
    rcases this with rfl | rfl | rfl | rfl | rfl | rfl | rfl | rfl | rfl | rfl | rfl | rfl | rfl | rfl | rfl | rfl | rfl
    · exact level7 w
    · exact level8 w
    · exact level9 w
    · exact level10 w
    · exact level11 w
    · exact level12 w
    · exact level13 w
    · exact level14 w
    · exact level15 w
    · exact level16 w
    · exact level17 w
    · exact level18 w
    · exact level19 w
    · exact level20 w
    · exact level21 w
    · exact level22 w
    · exact level23 w
  · have hl : jV op = 8 := by
      unfold jV
      rw [if_neg (by omega), if_neg (by omega), if_neg (by omega), if_neg (by omega), if_neg (by omega), if_neg (by omega), if_neg (by omega), if_neg (by omega)]
    rw [hl]
    have q23 : (op == 23) = false := beq_eq_false_iff_ne.2 (by omega)
    have q10 : (op == 10) = false := beq_eq_false_iff_ne.2 (by omega)
    have q9 : (op == 9) = false := beq_eq_false_iff_ne.2 (by omega)
    have q8 : (op == 8) = false := beq_eq_false_iff_ne.2 (by omega)
    have q18 : (op == 18) = false := beq_eq_false_iff_ne.2 (by omega)
    have q19 : (op == 19) = false := beq_eq_false_iff_ne.2 (by omega)
    have q7 : (op == 7) = false := beq_eq_false_iff_ne.2 (by omega)
    rcases Int.lt_or_le op 7 with h7 | h7
    · have r1 : ¬ 11 <= op := by omega
      have r2 : ¬ 20 <= op := by omega
      clear hl h h7
      go_enter Tryz.func191, Tryz.ntmps191
      go_wp2
      go_ret
      exact ⟨rfl, rfl⟩
    · have r1 : 11 <= op := by omega
      have r2 : 20 <= op := by omega
      have r3 : ¬ op <= 17 := by omega
      have r4 : ¬ op <= 22 := by omega
      clear hl h h7
      go_enter Tryz.func191, Tryz.ntmps191
      go_wp2
      go_ret
      exact ⟨rfl, rfl⟩
theorem spelled7 (w : World) : Calls Tryz.prog 192 #[.int .i64 7] w fun e w' => e = .returned (.string ⟨(jE 7).toArray⟩) /\ w = w' := by
  go_enter Tryz.func192, Tryz.ntmps192
  go_wp2
  go_ret
  exact ⟨rfl, rfl⟩
theorem spelled8 (w : World) : Calls Tryz.prog 192 #[.int .i64 8] w fun e w' => e = .returned (.string ⟨(jE 8).toArray⟩) /\ w = w' := by
  go_enter Tryz.func192, Tryz.ntmps192
  go_wp2
  go_ret
  exact ⟨rfl, rfl⟩
theorem spelled9 (w : World) : Calls Tryz.prog 192 #[.int .i64 9] w fun e w' => e = .returned (.string ⟨(jE 9).toArray⟩) /\ w = w' := by
  go_enter Tryz.func192, Tryz.ntmps192
  go_wp2
  go_ret
  exact ⟨rfl, rfl⟩
theorem spelled10 (w : World) : Calls Tryz.prog 192 #[.int .i64 10] w fun e w' => e = .returned (.string ⟨(jE 10).toArray⟩) /\ w = w' := by
  go_enter Tryz.func192, Tryz.ntmps192
  go_wp2
  go_ret
  exact ⟨rfl, rfl⟩
theorem spelled17 (w : World) : Calls Tryz.prog 192 #[.int .i64 17] w fun e w' => e = .returned (.string ⟨(jE 17).toArray⟩) /\ w = w' := by
  go_enter Tryz.func192, Tryz.ntmps192
  go_wp2
  go_ret
  exact ⟨rfl, rfl⟩
theorem spelled18 (w : World) : Calls Tryz.prog 192 #[.int .i64 18] w fun e w' => e = .returned (.string ⟨(jE 18).toArray⟩) /\ w = w' := by
  go_enter Tryz.func192, Tryz.ntmps192
  go_wp2
  go_ret
  exact ⟨rfl, rfl⟩
theorem spelled19 (w : World) : Calls Tryz.prog 192 #[.int .i64 19] w fun e w' => e = .returned (.string ⟨(jE 19).toArray⟩) /\ w = w' := by
  go_enter Tryz.func192, Tryz.ntmps192
  go_wp2
  go_ret
  exact ⟨rfl, rfl⟩
theorem spelled24 (w : World) : Calls Tryz.prog 192 #[.int .i64 24] w fun e w' => e = .returned (.string ⟨(jE 24).toArray⟩) /\ w = w' := by
  go_enter Tryz.func192, Tryz.ntmps192
  go_wp2
  go_ret
  exact ⟨rfl, rfl⟩
theorem spelled25 (w : World) : Calls Tryz.prog 192 #[.int .i64 25] w fun e w' => e = .returned (.string ⟨(jE 25).toArray⟩) /\ w = w' := by
  go_enter Tryz.func192, Tryz.ntmps192
  go_wp2
  go_ret
  exact ⟨rfl, rfl⟩
theorem spelled26 (w : World) : Calls Tryz.prog 192 #[.int .i64 26] w fun e w' => e = .returned (.string ⟨(jE 26).toArray⟩) /\ w = w' := by
  go_enter Tryz.func192, Tryz.ntmps192
  go_wp2
  go_ret
  exact ⟨rfl, rfl⟩
theorem spelled27 (w : World) : Calls Tryz.prog 192 #[.int .i64 27] w fun e w' => e = .returned (.string ⟨(jE 27).toArray⟩) /\ w = w' := by
  go_enter Tryz.func192, Tryz.ntmps192
  go_wp2
  go_ret
  exact ⟨rfl, rfl⟩
theorem spelled28 (w : World) : Calls Tryz.prog 192 #[.int .i64 28] w fun e w' => e = .returned (.string ⟨(jE 28).toArray⟩) /\ w = w' := by
  go_enter Tryz.func192, Tryz.ntmps192
  go_wp2
  go_ret
  exact ⟨rfl, rfl⟩
theorem spelled11 (w : World) (hg : Sg w) : Calls Tryz.prog 192 #[.int .i64 11] w fun e w' => e = .returned (.string ⟨(jE 11).toArray⟩) /\ w = w' := by
  have hc : w.cell? ⟨2, 8, none⟩ = some (.string ⟨(jE 11).toArray⟩) := hg.sig 8 _ rfl
  clear hg
  go_enter Tryz.func192, Tryz.ntmps192
  go_wp2
  go_ret
  exact ⟨rfl, rfl⟩
theorem spelled12 (w : World) (hg : Sg w) : Calls Tryz.prog 192 #[.int .i64 12] w fun e w' => e = .returned (.string ⟨(jE 12).toArray⟩) /\ w = w' := by
  have hc : w.cell? ⟨2, 9, none⟩ = some (.string ⟨(jE 12).toArray⟩) := hg.sig 9 _ rfl
  clear hg
  go_enter Tryz.func192, Tryz.ntmps192
  go_wp2
  go_ret
  exact ⟨rfl, rfl⟩
theorem spelled13 (w : World) (hg : Sg w) : Calls Tryz.prog 192 #[.int .i64 13] w fun e w' => e = .returned (.string ⟨(jE 13).toArray⟩) /\ w = w' := by
  have hc : w.cell? ⟨2, 10, none⟩ = some (.string ⟨(jE 13).toArray⟩) := hg.sig 10 _ rfl
  clear hg
  go_enter Tryz.func192, Tryz.ntmps192
  go_wp2
  go_ret
  exact ⟨rfl, rfl⟩
theorem spelled14 (w : World) (hg : Sg w) : Calls Tryz.prog 192 #[.int .i64 14] w fun e w' => e = .returned (.string ⟨(jE 14).toArray⟩) /\ w = w' := by
  have hc : w.cell? ⟨2, 11, none⟩ = some (.string ⟨(jE 14).toArray⟩) := hg.sig 11 _ rfl
  clear hg
  go_enter Tryz.func192, Tryz.ntmps192
  go_wp2
  go_ret
  exact ⟨rfl, rfl⟩
theorem spelled15 (w : World) (hg : Sg w) : Calls Tryz.prog 192 #[.int .i64 15] w fun e w' => e = .returned (.string ⟨(jE 15).toArray⟩) /\ w = w' := by
  have hc : w.cell? ⟨2, 12, none⟩ = some (.string ⟨(jE 15).toArray⟩) := hg.sig 12 _ rfl
  clear hg
  go_enter Tryz.func192, Tryz.ntmps192
  go_wp2
  go_ret
  exact ⟨rfl, rfl⟩
theorem spelled16 (w : World) (hg : Sg w) : Calls Tryz.prog 192 #[.int .i64 16] w fun e w' => e = .returned (.string ⟨(jE 16).toArray⟩) /\ w = w' := by
  have hc : w.cell? ⟨2, 13, none⟩ = some (.string ⟨(jE 16).toArray⟩) := hg.sig 13 _ rfl
  clear hg
  go_enter Tryz.func192, Tryz.ntmps192
  go_wp2
  go_ret
  exact ⟨rfl, rfl⟩
theorem spelled20 (w : World) (hg : Sg w) : Calls Tryz.prog 192 #[.int .i64 20] w fun e w' => e = .returned (.string ⟨(jE 20).toArray⟩) /\ w = w' := by
  have hc : w.cell? ⟨2, 16, none⟩ = some (.string ⟨(jE 20).toArray⟩) := hg.sig 16 _ rfl
  clear hg
  go_enter Tryz.func192, Tryz.ntmps192
  go_wp2
  go_ret
  exact ⟨rfl, rfl⟩
theorem spelled21 (w : World) (hg : Sg w) : Calls Tryz.prog 192 #[.int .i64 21] w fun e w' => e = .returned (.string ⟨(jE 21).toArray⟩) /\ w = w' := by
  have hc : w.cell? ⟨2, 17, none⟩ = some (.string ⟨(jE 21).toArray⟩) := hg.sig 17 _ rfl
  clear hg
  go_enter Tryz.func192, Tryz.ntmps192
  go_wp2
  go_ret
  exact ⟨rfl, rfl⟩
theorem spelled22 (w : World) (hg : Sg w) : Calls Tryz.prog 192 #[.int .i64 22] w fun e w' => e = .returned (.string ⟨(jE 22).toArray⟩) /\ w = w' := by
  have hc : w.cell? ⟨2, 18, none⟩ = some (.string ⟨(jE 22).toArray⟩) := hg.sig 18 _ rfl
  clear hg
  go_enter Tryz.func192, Tryz.ntmps192
  go_wp2
  go_ret
  exact ⟨rfl, rfl⟩
theorem spelled29 (w : World) (hg : Sg w) : Calls Tryz.prog 192 #[.int .i64 29] w fun e w' => e = .returned (.string ⟨(jE 29).toArray⟩) /\ w = w' := by
  have hc : w.cell? ⟨0, 30, none⟩ = some (.string ⟨(jE 29).toArray⟩) := hg.res 30 _ rfl
  clear hg
  go_enter Tryz.func192, Tryz.ntmps192
  go_wp2
  go_ret
  exact ⟨rfl, rfl⟩
theorem spelled30 (w : World) (hg : Sg w) : Calls Tryz.prog 192 #[.int .i64 30] w fun e w' => e = .returned (.string ⟨(jE 30).toArray⟩) /\ w = w' := by
  have hc : w.cell? ⟨0, 31, none⟩ = some (.string ⟨(jE 30).toArray⟩) := hg.res 31 _ rfl
  clear hg
  go_enter Tryz.func192, Tryz.ntmps192
  go_wp2
  go_ret
  exact ⟨rfl, rfl⟩
theorem spelled31 (w : World) (hg : Sg w) : Calls Tryz.prog 192 #[.int .i64 31] w fun e w' => e = .returned (.string ⟨(jE 31).toArray⟩) /\ w = w' := by
  have hc : w.cell? ⟨0, 32, none⟩ = some (.string ⟨(jE 31).toArray⟩) := hg.res 32 _ rfl
  clear hg
  go_enter Tryz.func192, Tryz.ntmps192
  go_wp2
  go_ret
  exact ⟨rfl, rfl⟩
theorem spelled32 (w : World) (hg : Sg w) : Calls Tryz.prog 192 #[.int .i64 32] w fun e w' => e = .returned (.string ⟨(jE 32).toArray⟩) /\ w = w' := by
  have hc : w.cell? ⟨0, 33, none⟩ = some (.string ⟨(jE 32).toArray⟩) := hg.res 33 _ rfl
  clear hg
  go_enter Tryz.func192, Tryz.ntmps192
  go_wp2
  go_ret
  exact ⟨rfl, rfl⟩
theorem spelled33 (w : World) (hg : Sg w) : Calls Tryz.prog 192 #[.int .i64 33] w fun e w' => e = .returned (.string ⟨(jE 33).toArray⟩) /\ w = w' := by
  have hc : w.cell? ⟨0, 34, none⟩ = some (.string ⟨(jE 33).toArray⟩) := hg.res 34 _ rfl
  clear hg
  go_enter Tryz.func192, Tryz.ntmps192
  go_wp2
  go_ret
  exact ⟨rfl, rfl⟩
theorem kx (w : World) (hg : Sg w) (op : Int) (h : 7 <= op /\ op <= 33 /\ op ≠ 23) : Calls Tryz.prog 192 #[.int .i64 op] w fun e w' => e = .returned (.string ⟨(jE op).toArray⟩) /\ w = w' := by
  have : op = 7 \/ op = 8 \/ op = 9 \/ op = 10 \/ op = 11 \/ op = 12 \/ op = 13 \/ op = 14 \/ op = 15 \/ op = 16 \/ op = 17 \/ op = 18 \/ op = 19 \/ op = 20 \/ op = 21 \/ op = 22 \/ op = 24 \/ op = 25 \/ op = 26 \/ op = 27 \/ op = 28 \/ op = 29 \/ op = 30 \/ op = 31 \/ op = 32 \/ op = 33 := by omega
  rcases this with rfl | rfl | rfl | rfl | rfl | rfl | rfl | rfl | rfl | rfl | rfl | rfl | rfl | rfl | rfl | rfl | rfl | rfl | rfl | rfl | rfl | rfl | rfl | rfl | rfl | rfl
  · exact spelled7 w
  · exact spelled8 w
  · exact spelled9 w
  · exact spelled10 w
  · exact spelled11 w hg
  · exact spelled12 w hg
  · exact spelled13 w hg
  · exact spelled14 w hg
  · exact spelled15 w hg
  · exact spelled16 w hg
  · exact spelled17 w
  · exact spelled18 w
  · exact spelled19 w
  · exact spelled20 w hg
  · exact spelled21 w hg
  · exact spelled22 w hg
  · exact spelled24 w
  · exact spelled25 w
  · exact spelled26 w
  · exact spelled27 w
  · exact spelled28 w
  · exact spelled29 w hg
  · exact spelled30 w hg
  · exact spelled31 w hg
  · exact spelled32 w hg
  · exact spelled33 w hg
theorem jw (s : ByteArray) : s.toList.isEmpty = decide (s.size = 0) := by
  rw [ByteArray.toList_eq, <- jA]
  unfold sb
  cases s.data.toList <;> rfl
theorem tl_size {s : ByteArray} : s.toList = [] ↔ s.size = 0 := by
  rw [ByteArray.toList_eq, <- jA]
  exact List.length_eq_zero_iff.symm
theorem stages (P : Prop) (Q : Prop) (vt : ByteArray) (vs : List ByteArray) (kids : List Int) (k : Int) :
    ¬ P \/ (P /\ ¬ Q) \/ (P /\ Q /\ ¬ vt.toList = []) \/ (P /\ Q /\ vt.toList = [] /\ 0 < vs.length) \/ (P /\ Q /\ vt.toList = [] /\ vs = [] /\ ((kids.length : Int) != k) = true) \/ (P /\ Q /\ vt.toList = [] /\ vs = [] /\ ((kids.length : Int) != k) = false) := by
  by_cases h1 : P
  · by_cases h2 : Q
    · by_cases h3 : vt.toList = []
      · by_cases h4 : vs = []
        · cases h5 : ((kids.length : Int) != k)
          · exact .inr (.inr (.inr (.inr (.inr ⟨h1, h2, h3, h4, rfl⟩))))
          · exact .inr (.inr (.inr (.inr (.inl ⟨h1, h2, h3, h4, rfl⟩))))
        · exact .inr (.inr (.inr (.inl ⟨h1, h2, h3, List.length_pos_iff.2 h4⟩)))
      · exact .inr (.inr (.inl ⟨h1, h2, h3⟩))
    · exact .inr (.inl ⟨h1, h2⟩)
  · exact .inl h1
theorem bnf {a b : Int} (h : a = b) : (a != b) = false := by rw [bne, beq_iff_eq.2 h]; rfl
theorem bnt {a b : Int} (h : a ≠ b) : (a != b) = true := by rw [bne, beq_eq_false_iff_ne.2 h]; rfl
theorem right7 (w : World) (x : MNd) (h : x.n.op = 7) : Calls Tryz.prog 22 #[.agg (ndC x).toArray] w fun e w' => e = .returned (.bool (jB x.n)) /\ Old w w' := by
  obtain ⟨⟨op, name, vk, vn, vt, vs, kids⟩, A, c, vA, vc⟩ := x
  simp only at h
  subst h
  have hem := jw name
  rcases stages (vk = 0) (vn = 0) vt vs kids 1 with a | ⟨a, b⟩ | ⟨a, b, d⟩ | ⟨a, b, d, e⟩ | ⟨a, b, d, e, f⟩ | ⟨a, b, d, e, f⟩
  · have a2 := bnt a
    have hy : jB ⟨7, name, vk, vn, vt, vs, kids⟩ = false := by simp_all [jB]
    simp only [hy]
    clear hy hem
    unfold ndC iv
    simp only
    go_enter Tryz.func22, Tryz.ntmps22
    go_wp2
    all_goals
      go_ret
      exact ⟨rfl, by first | exact ((Kp.refl _ _).alloc _) | exact ((Kp.refl _ _).alloc _).alloc _ | exact (((Kp.refl _ _).alloc _).alloc _).alloc _⟩
  · have a2 := bnf a
    have b2 := bnt b
    have hy : jB ⟨7, name, vk, vn, vt, vs, kids⟩ = false := by simp_all [jB]
    simp only [hy]
    clear hy hem
    unfold ndC iv
    simp only
    go_enter Tryz.func22, Tryz.ntmps22
    go_wp2
    all_goals
      go_ret
      exact ⟨rfl, by first | exact ((Kp.refl _ _).alloc _) | exact ((Kp.refl _ _).alloc _).alloc _ | exact (((Kp.refl _ _).alloc _).alloc _).alloc _⟩
  · have a2 := bnf a
    have b2 := bnf b
    have hy : jB ⟨7, name, vk, vn, vt, vs, kids⟩ = false := by simp_all [jB, tl_size]
    simp only [hy]
    clear hy hem
    unfold ndC iv
    simp only
    go_enter Tryz.func22, Tryz.ntmps22
    go_wp2
    all_goals
      go_ret
      exact ⟨rfl, by first | exact ((Kp.refl _ _).alloc _) | exact ((Kp.refl _ _).alloc _).alloc _ | exact (((Kp.refl _ _).alloc _).alloc _).alloc _⟩
  · have a2 := bnf a
    have b2 := bnf b
    have hy : jB ⟨7, name, vk, vn, vt, vs, kids⟩ = false := by simp_all [jB, tl_size, List.length_pos_iff]
    simp only [hy]
    clear hy hem
    unfold ndC iv
    simp only
    go_enter Tryz.func22, Tryz.ntmps22
    go_wp2
    all_goals
      go_ret
      exact ⟨rfl, by first | exact ((Kp.refl _ _).alloc _) | exact ((Kp.refl _ _).alloc _).alloc _ | exact (((Kp.refl _ _).alloc _).alloc _).alloc _⟩
  · have a2 := bnf a
    have b2 := bnf b
    subst e
    have f1 : (kids.length : Int) ≠ 1 := bne_iff_ne.1 f
    have f2 : ¬ kids.length = 1 := fun e => f1 (by omega)
    clear f1
    have hy : jB ⟨7, name, vk, vn, vt, [], kids⟩ = false := by simp_all [jB, tl_size]
    simp only [hy]
    clear hy hem
    unfold ndC iv
    simp only
    go_enter Tryz.func22, Tryz.ntmps22
    go_wp2
    all_goals
      go_ret
      exact ⟨rfl, by first | exact ((Kp.refl _ _).alloc _) | exact ((Kp.refl _ _).alloc _).alloc _ | exact (((Kp.refl _ _).alloc _).alloc _).alloc _⟩
  · have a2 := bnf a
    have b2 := bnf b
    subst e
    have f1 : (kids.length : Int) = 1 := by simpa using f
    have f2 : kids.length = 1 := by omega
    have hy : jB ⟨7, name, vk, vn, vt, [], kids⟩ = name.toList.isEmpty := by simp_all [jB, tl_size]
    simp only [hy]
    clear hy hem
    unfold ndC iv
    simp only
    go_enter Tryz.func22, Tryz.ntmps22
    go_wp2
    go_ret
    exact ⟨rfl, by first | exact ((Kp.refl _ _).alloc _) | exact ((Kp.refl _ _).alloc _).alloc _ | exact (((Kp.refl _ _).alloc _).alloc _).alloc _⟩
theorem right5 (w : World) (hg : Sg w) (x : MNd) (h : x.n.op = 5) : Calls Tryz.prog 22 #[.agg (ndC x).toArray] w fun e w' => e = .returned (.bool (jB x.n)) /\ Old w w' := by
  obtain ⟨⟨op, name, vk, vn, vt, vs, kids⟩, A, c, vA, vc⟩ := x
  simp only at h
  subst h
  have hem := jw name
  rcases stages (vk = 0) (vn = 0) vt vs kids 0 with a | ⟨a, b⟩ | ⟨a, b, d⟩ | ⟨a, b, d, e⟩ | ⟨a, b, d, e, f⟩ | ⟨a, b, d, e, f⟩
  · have a2 := bnt a
    have hy : jB ⟨5, name, vk, vn, vt, vs, kids⟩ = false := by simp_all [jB]
    simp only [hy]
    clear hy hem
    unfold ndC iv
    simp only
    go_enter Tryz.func22, Tryz.ntmps22
    go_wp2
    all_goals
      go_ret
      exact ⟨rfl, by first | exact ((Kp.refl _ _).alloc _) | exact ((Kp.refl _ _).alloc _).alloc _ | exact (((Kp.refl _ _).alloc _).alloc _).alloc _⟩
  · have a2 := bnf a
    have b2 := bnt b
    have hy : jB ⟨5, name, vk, vn, vt, vs, kids⟩ = false := by simp_all [jB]
    simp only [hy]
    clear hy hem
    unfold ndC iv
    simp only
    go_enter Tryz.func22, Tryz.ntmps22
    go_wp2
    all_goals
      go_ret
      exact ⟨rfl, by first | exact ((Kp.refl _ _).alloc _) | exact ((Kp.refl _ _).alloc _).alloc _ | exact (((Kp.refl _ _).alloc _).alloc _).alloc _⟩
  · have a2 := bnf a
    have b2 := bnf b
    have hy : jB ⟨5, name, vk, vn, vt, vs, kids⟩ = false := by simp_all [jB, tl_size]
    simp only [hy]
    clear hy hem
    unfold ndC iv
    simp only
    go_enter Tryz.func22, Tryz.ntmps22
    go_wp2
    all_goals
      go_ret
      exact ⟨rfl, by first | exact ((Kp.refl _ _).alloc _) | exact ((Kp.refl _ _).alloc _).alloc _ | exact (((Kp.refl _ _).alloc _).alloc _).alloc _⟩
  · have a2 := bnf a
    have b2 := bnf b
    have hy : jB ⟨5, name, vk, vn, vt, vs, kids⟩ = false := by simp_all [jB, tl_size, List.length_pos_iff]
    simp only [hy]
    clear hy hem
    unfold ndC iv
    simp only
    go_enter Tryz.func22, Tryz.ntmps22
    go_wp2
    all_goals
      go_ret
      exact ⟨rfl, by first | exact ((Kp.refl _ _).alloc _) | exact ((Kp.refl _ _).alloc _).alloc _ | exact (((Kp.refl _ _).alloc _).alloc _).alloc _⟩
  · have a2 := bnf a
    have b2 := bnf b
    subst e
    have f1 : (kids.length : Int) ≠ 0 := bne_iff_ne.1 f
    have f2 : ¬ kids.length = 0 := fun e => f1 (by omega)
    clear f1
    have hy : jB ⟨5, name, vk, vn, vt, [], kids⟩ = false := by simp_all [jB, tl_size]
    simp only [hy]
    clear hy hem
    unfold ndC iv
    simp only
    go_enter Tryz.func22, Tryz.ntmps22
    go_wp2
    all_goals
      go_ret
      exact ⟨rfl, by first | exact ((Kp.refl _ _).alloc _) | exact ((Kp.refl _ _).alloc _).alloc _ | exact (((Kp.refl _ _).alloc _).alloc _).alloc _⟩
  · have a2 := bnf a
    have b2 := bnf b
    subst e
    have f1 : (kids.length : Int) = 0 := by simpa using f
    have f2 : kids.length = 0 := by omega
    have hy : jB ⟨5, name, vk, vn, vt, [], kids⟩ = jq (sb name) := by simp_all [jB, tl_size, vJ, tb, sb]
    simp only [hy]
    have HL := jJ0 (fun W (hO : Old w W) => kJ W (hg.old hO) name)
    clear hy hem hg
    unfold ndC iv
    simp only
    cases hlg : jq (sb name)
    all_goals
      rw [hlg] at HL
      go_enter Tryz.func22, Tryz.ntmps22
      go_wp2_with (first | (go_at_call 20; refine (HL.out _ (by first | exact ((Kp.refl _ _).alloc _) | exact ((Kp.refl _ _).alloc _).alloc _ | exact (((Kp.refl _ _).alloc _).alloc _).alloc _)).mono ?_; rintro e w1 ⟨rfl, rfl⟩) | fail)
      go_ret
      exact ⟨rfl, by first | exact ((Kp.refl _ _).alloc _) | exact ((Kp.refl _ _).alloc _).alloc _ | exact (((Kp.refl _ _).alloc _).alloc _).alloc _⟩
theorem right6 (w : World) (x : MNd) (h : x.n.op = 6) : Calls Tryz.prog 22 #[.agg (ndC x).toArray] w fun e w' => e = .returned (.bool (jB x.n)) /\ Old w w' := by
  obtain ⟨⟨op, name, vk, vn, vt, vs, kids⟩, A, c, vA, vc⟩ := x
  simp only at h
  subst h
  have hem := jw name
  rcases stages (vk = 0) (vn = 0) vt vs kids kids.length with a | ⟨a, b⟩ | ⟨a, b, d⟩ | ⟨a, b, d, e⟩ | ⟨a, b, d, e, f⟩ | ⟨a, b, d, e, f⟩
  · have a2 := bnt a
    have hy : jB ⟨6, name, vk, vn, vt, vs, kids⟩ = false := by simp_all [jB]
    simp only [hy]
    clear hy hem
    unfold ndC iv
    simp only
    go_enter Tryz.func22, Tryz.ntmps22
    go_wp2
    all_goals
      go_ret
      exact ⟨rfl, by first | exact ((Kp.refl _ _).alloc _) | exact ((Kp.refl _ _).alloc _).alloc _ | exact (((Kp.refl _ _).alloc _).alloc _).alloc _⟩
  · have a2 := bnf a
    have b2 := bnt b
    have hy : jB ⟨6, name, vk, vn, vt, vs, kids⟩ = false := by simp_all [jB]
    simp only [hy]
    clear hy hem
    unfold ndC iv
    simp only
    go_enter Tryz.func22, Tryz.ntmps22
    go_wp2
    all_goals
      go_ret
      exact ⟨rfl, by first | exact ((Kp.refl _ _).alloc _) | exact ((Kp.refl _ _).alloc _).alloc _ | exact (((Kp.refl _ _).alloc _).alloc _).alloc _⟩
  · have a2 := bnf a
    have b2 := bnf b
    have hy : jB ⟨6, name, vk, vn, vt, vs, kids⟩ = false := by simp_all [jB, tl_size]
    simp only [hy]
    clear hy hem
    unfold ndC iv
    simp only
    go_enter Tryz.func22, Tryz.ntmps22
    go_wp2
    all_goals
      go_ret
      exact ⟨rfl, by first | exact ((Kp.refl _ _).alloc _) | exact ((Kp.refl _ _).alloc _).alloc _ | exact (((Kp.refl _ _).alloc _).alloc _).alloc _⟩
  · have a2 := bnf a
    have b2 := bnf b
    have hy : jB ⟨6, name, vk, vn, vt, vs, kids⟩ = false := by simp_all [jB, tl_size, List.length_pos_iff]
    simp only [hy]
    clear hy hem
    unfold ndC iv
    simp only
    go_enter Tryz.func22, Tryz.ntmps22
    go_wp2
    all_goals
      go_ret
      exact ⟨rfl, by first | exact ((Kp.refl _ _).alloc _) | exact ((Kp.refl _ _).alloc _).alloc _ | exact (((Kp.refl _ _).alloc _).alloc _).alloc _⟩
  · simp at f
  · have a2 := bnf a
    have b2 := bnf b
    subst e
    have hy : jB ⟨6, name, vk, vn, vt, [], kids⟩ = name.toList.isEmpty := by simp_all [jB, tl_size]
    simp only [hy]
    clear hy hem
    unfold ndC iv
    simp only
    go_enter Tryz.func22, Tryz.ntmps22
    go_wp2
    go_ret
    exact ⟨rfl, by first | exact ((Kp.refl _ _).alloc _) | exact ((Kp.refl _ _).alloc _).alloc _ | exact (((Kp.refl _ _).alloc _).alloc _).alloc _⟩
theorem put_new (w W : World) (t : Tre) (s : Sl) (next : Nat) (l : List UInt8) (B : Option Addr) (bc : Nat) (h : Pr w t s next l B bc W) (ws : List ByteArray) (hl : (jp l (ws.map sb)).length <= LIMP) (hws : ws.length <= 1000) :
    Calls Tryz.prog 53 #[.pointer (some ⟨w.heap.size, 0, none⟩), .slice (some ⟨W.heap.size, 0, none⟩) ws.length ws.length] (W.alloc (.cells (ws.map sv).toArray 9)) (PrR w t s next (jp l (ws.map sb)) W) := by
  have ho := (Kp.refl NoX W).alloc (.cells (ws.map sv).toArray 9)
  exact (put_any w _ t s next l B bc (h.old ho) W.heap.size ws (Blk.new _ _ _) hl hws).mono (fun _ _ hX => PrR.of (FrP.of_old ho) hX)
theorem in_print (w W : World) (t : Tre) (s : Sl) (next : Nat) (l : List UInt8) (B : Option Addr) (bc : Nat) (h : Pr w t s next l B bc W) (x : ByteArray) (hl : (inP x l).length <= LIMP) :
    Calls Tryz.prog 119 #[.pointer (some ⟨w.heap.size, 0, none⟩), .string x] W (PrR w t s next (inP x l) W) := by
  have H := jJ0 h
  unfold inP at hl ⊢
  by_cases hx : x.size = 0
  · rw [if_pos hx]
    have hx2 : (!x.toList.isEmpty) = false := by rw [jw, decide_eq_true hx]; rfl
    clear h hl hx
    go_enter Tryz.func119, Tryz.ntmps119
    go_wp2
    go_end0
    exact ⟨rfl, B, bc, H.out, FrP.refl _⟩
  · rw [if_neg hx] at hl ⊢
    have hx2 : (!x.toList.isEmpty) = true := by rw [jw, decide_eq_false hx]; rfl
    have HP := jJ0 (put_new w W t s next l B bc h [⟨#[105, 110]⟩, x] hl (show 2 <= 1000 by decide))
    clear h hl hx
    go_enter Tryz.func119, Tryz.ntmps119
    go_wp2_with (first | (go_at_call 53; refine HP.out.mono ?_; rintro e w1 ⟨rfl, hX⟩) | fail)
    go_end0
    exact ⟨rfl, hX⟩
structure PxAll (w : World) (t : Tre) (s : Sl) (f : Nat) : Prop where
  ex : ∀ (W : World) (next : Nat) (l l' : List UInt8) (B : Option Addr) (bc : Nat) (root : Int) (least : Nat), Pr w t s next l B bc W -> least <= 8 -> exprP t.nodes f root least l = some l' -> l'.length <= LIMP ->
    Calls Tryz.prog 156 #[.pointer (some ⟨w.heap.size, 0, none⟩), iv root, iv (least : Int)] W (PrR w t s next l' W)
theorem ruled_print (w W : World) (t : Tre) (s : Sl) (f : Nat) (PX : PxAll w t s f) (next : Nat) (l l' : List UInt8) (B : Option Addr) (bc : Nat) (h : Pr w t s next l B bc W) (q : Nat) (ws : List ByteArray) (hq : Blk W q 9 (ws.map sv).toArray) (root : Int) (h0 : 0 <= root)
    (hk : exprP t.nodes f root 0 (jp l (ws.map sb)) = some l') (hp : (jp l (ws.map sb)).length <= LIMP) (hl : l'.length <= LIMP) (hws : ws.length <= 1000) :
    Calls Tryz.prog 118 #[.pointer (some ⟨w.heap.size, 0, none⟩), iv root, .slice (some ⟨q, 0, none⟩) ws.length ws.length] W (PrR w t s next l' W) := by
  have HP := jJ0 (put_any w W t s next l B bc h q ws hq hp hws)
  have HE := jJ0 (fun W1 B1 c1 (h1 : Pr w t s next (jp l (ws.map sb)) B1 c1 W1) => PX.ex W1 next _ l' B1 c1 root 0 h1 (by decide) hk hl)
  clear h hq hk hp hl hws PX
  unfold iv at *
  go_enter Tryz.func118, Tryz.ntmps118
  go_wp2_with (first | (go_at_call 53; refine HP.out.mono ?_; rintro e w1 ⟨rfl, B1, c1, hX, hf⟩; have HX := jJ0 hX; have HF := jJ0 hf; clear hX hf) | (go_at_call 156; refine (HE.out _ _ _ HX.out).mono ?_; rintro e w2 ⟨rfl, B2, c2, hX, hf⟩) | fail)
  go_end0
  exact ⟨rfl, B2, c2, hX, HF.out.trans hf⟩
theorem listP_len (g : Int -> Nat -> List UInt8 -> Option (List UInt8)) (hg : ∀ k m b b', g k m b = some b' -> b.length <= b'.length) : ∀ (kids : List Int) (i : Nat) (b b' : List UInt8), exprP.listP g kids i b = some b' -> b.length <= b'.length := by
  intro kids
  induction kids with
  | nil => intro i b b' h; rw [exprP.listP] at h; injection h with h; rw [h]; exact Nat.le_refl _
  | cons k l ih =>
    intro i b b' h
    rw [exprP.listP] at h
    obtain ⟨b1, h1, h2⟩ := Option.bind_eq_some_iff.1 h
    have e1 := hg _ _ _ _ h1
    have e2 := ih _ _ _ h2
    split at e1
    · have := (jT b [44]).1; omega
    · omega
theorem opens_len (a c : Nat) (b : List UInt8) : b.length <= (opens a c b).length := by
  unfold opens
  split
  · exact (jT b _).1
  · exact Nat.le_refl _
theorem shuts_len (a c : Nat) (b : List UInt8) : b.length <= (shuts a c b).length := by
  unfold shuts
  split
  · exact (jT b _).1
  · exact Nat.le_refl _
theorem jr (ns : List Nd) : ∀ (f : Nat) (root : Int) (least : Nat) (b b' : List UInt8), exprP ns f root least b = some b' -> b.length <= b'.length := by
  intro f
  induction f with
  | zero => intro root least b b' h; rw [exprP] at h; cases h
  | succ f ih =>
    intro root least b b' h
    rw [exprP] at h
    by_cases hr : root < 0
    · rw [if_pos hr] at h; cases h
    rw [if_neg hr] at h
    cases hn : ns[root.toNat]? with
    | none => rw [hn] at h; cases h
    | some n =>
      rw [hn] at h
      simp only at h
      obtain ⟨b1, h1, e⟩ := Option.map_eq_some_iff.1 h
      have g1 := shuts_len (jV n.op) least b1
      have g0 := opens_len (jV n.op) least b
      rw [<- e]
      refine Nat.le_trans g0 (Nat.le_trans ?_ g1)
      generalize opens (jV n.op) least b = b0 at *
      clear h e g0 g1 hn hr
      have two : ∀ (l r : Nat), (match n.kids with | k :: q :: _ => (exprP ns f k l b0).bind fun b1 => exprP ns f q r (putB b1 (jE n.op)) | _ => none) = some b1 -> b0.length <= b1.length := by
        intro l r h
        rcases hk : n.kids with _ | ⟨a, _ | ⟨c, tl⟩⟩
        · rw [hk] at h; cases h
        · rw [hk] at h; cases h
        · rw [hk] at h
          obtain ⟨c1, k1, h⟩ := Option.bind_eq_some_iff.1 h
          have q1 := ih _ _ _ _ k1
          have q2 := ih _ _ _ _ h
          have p1 := (jT c1 (jE n.op)).1
          omega
      by_cases c0 : jV n.op = 0
      · rw [if_pos c0] at h1
        rcases hk : n.kids with _ | ⟨a, _ | ⟨c, _ | ⟨d, tl⟩⟩⟩
        · rw [hk] at h1; cases h1
        · rw [hk] at h1; cases h1
        · rw [hk] at h1; cases h1
        · rw [hk] at h1
          obtain ⟨c1, k1, h1⟩ := Option.bind_eq_some_iff.1 h1
          obtain ⟨c2, k2, h1⟩ := Option.bind_eq_some_iff.1 h1
          have q1 := ih _ _ _ _ k1
          have q2 := ih _ _ _ _ k2
          have q3 := ih _ _ _ _ h1
          have p1 := (jT b0 [105, 102]).1
          have p2 := (jT c1 [116, 104, 101, 110]).1
          have p3 := (jT c2 [101, 108, 115, 101]).1
          omega
      rw [if_neg c0] at h1
      by_cases c1 : jV n.op = 1 \/ jV n.op = 2 \/ jV n.op = 5 \/ jV n.op = 6
      · rw [if_pos c1] at h1
        exact two _ _ h1
      rw [if_neg c1] at h1
      by_cases c2 : jV n.op = 3 \/ jV n.op = 7
      · rw [if_pos c2] at h1
        rcases hk : n.kids with _ | ⟨a, tl⟩
        · rw [hk] at h1; cases h1
        · rw [hk] at h1
          have q1 := ih _ _ _ _ h1
          have p1 := (jT b0 (jE n.op)).1
          omega
      rw [if_neg c2] at h1
      by_cases c3 : jV n.op = 4
      · rw [if_pos c3] at h1
        exact two _ _ h1
      rw [if_neg c3] at h1
      by_cases o1 : n.op = 1
      · rw [if_pos o1] at h1; injection h1 with h1; rw [<- h1]; exact (jT b0 _).1
      rw [if_neg o1] at h1
      by_cases o2 : n.op = 2
      · rw [if_pos o2] at h1; injection h1 with h1; rw [<- h1]; exact (jT b0 _).1
      rw [if_neg o2] at h1
      by_cases o3 : n.op = 3
      · rw [if_pos o3] at h1; injection h1 with h1; rw [<- h1]; exact (jT b0 _).1
      rw [if_neg o3] at h1
      by_cases o5 : n.op = 5
      · rw [if_pos o5] at h1; injection h1 with h1; rw [<- h1]; exact (jT b0 _).1
      rw [if_neg o5] at h1
      by_cases o4 : n.op = 4
      · rw [if_pos o4] at h1; injection h1 with h1; rw [<- h1]; exact (jT b0 _).1
      rw [if_neg o4] at h1
      by_cases o6 : n.op = 6
      · rw [if_pos o6] at h1
        obtain ⟨c1, k1, e1⟩ := Option.map_eq_some_iff.1 h1
        have q1 := listP_len _ (fun k m b b' h => ih k m b b' h) _ _ _ _ k1
        have p1 := (jT b0 [123]).1
        have p2 := (jT c1 [125]).1
        rw [<- e1]
        omega
      rw [if_neg o6] at h1
      obtain ⟨c1, k1, e1⟩ := Option.map_eq_some_iff.1 h1
      have q1 := listP_len _ (fun k m b b' h => ih k m b b' h) _ _ _ _ k1
      have p2 := (jT c1 [41]).1
      rw [<- e1]
      refine Nat.le_trans ?_ p2
      refine Nat.le_trans ?_ q1
      have p0 := (jT b0 (jE n.op)).1
      have p1 := (jT (putB b0 (jE n.op)) [40]).1
      by_cases z : n.name.size = 0
      · rw [if_pos z]; omega
      · rw [if_neg z]
        have p3 := (jT (putB (putB b0 (jE n.op)) [40]) (tb n.name)).1
        omega
end Go.Proofs.YtmmjcbbogokmfaaGreatDoor

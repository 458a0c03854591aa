import Derived.Test.YtnaolhjbapgjgaaMg05
/- Contract of docketref11.Right. -/
namespace Go.Proofs.Ytnaolhjbapgjgaa
open Go.RowKit

/-- what Right tells of a value -/
def RPost (v : Val) (w : World) (e : Ending) (w' : World) : Prop := e = .returned (.int .i64 (rightE v)) ∧ Old w w'
theorem RPost.of {v : Val} {w w' : World} {r : Int} (h : rightE v = r) (ho : Old w w') : RPost v w (.returned (.int .i64 r)) w' := ⟨by rw [h], ho⟩
theorem rightE_bad {v : Val} (h : formedB v = false) : rightE v = 8 := by rw [rightE, if_pos h]

set_option maxRecDepth 100000 in
set_option maxHeartbeats 800000 in
theorem rright_far (k n : Int) (t : ByteArray) (s : List ByteArray) (A : Option Addr) (c : Nat) (w : World) (hk : k < 0 ∨ 5 < k) :
    Calls Try.prog 52 #[vV ⟨k, n, t, s⟩ A c] w (RPost ⟨k, n, t, s⟩ w) := by
  have Hf := Lib.hid (show formedB ⟨k, n, t, s⟩ = false by
    simp only [formedB]
    rw [if_neg (by omega), if_neg (by omega), if_neg (by omega), if_neg (by omega)]
    simp)
  unfold vV
  rcases hk with h | h
  all_goals
    go_enter Try.func52, Try.ntmps52
    go_wp2
    all_goals
      go_ret
      exact .of (rightE_bad Hf.out) ((Kp.refl _ _).alloc _)

set_option maxRecDepth 100000 in
set_option maxHeartbeats 1600000 in
theorem rright_0s (n : Int) (t : ByteArray) (s : List ByteArray) (A : Option Addr) (c : Nat) (w : World) (hs : 0 < s.length) :
    Calls Try.prog 52 #[vV ⟨0, n, t, s⟩ A c] w (RPost ⟨0, n, t, s⟩ w) := by
  have Hf := Lib.hid (show formedB ⟨0, n, t, s⟩ = false by simp [formedB, hs])
  have hpos : (0 : Int) < (s.length : Int) := by omega
  clear hs
  unfold vV
  go_enter Try.func52, Try.ntmps52
  go_wp2
  all_goals
    go_ret
    exact .of (rightE_bad Hf.out) ((Kp.refl _ _).alloc _)
set_option maxRecDepth 100000 in
set_option maxHeartbeats 1600000 in
theorem rright_1s (n : Int) (t : ByteArray) (s : List ByteArray) (A : Option Addr) (c : Nat) (w : World) (hs : 0 < s.length) :
    Calls Try.prog 52 #[vV ⟨1, n, t, s⟩ A c] w (RPost ⟨1, n, t, s⟩ w) := by
  have Hf := Lib.hid (show formedB ⟨1, n, t, s⟩ = false by simp [formedB, hs])
  have hpos : (0 : Int) < (s.length : Int) := by omega
  clear hs
  unfold vV
  go_enter Try.func52, Try.ntmps52
  go_wp2
  all_goals
    go_ret
    exact .of (rightE_bad Hf.out) ((Kp.refl _ _).alloc _)
set_option maxRecDepth 100000 in
set_option maxHeartbeats 1600000 in
theorem rright_2s (n : Int) (t : ByteArray) (s : List ByteArray) (A : Option Addr) (c : Nat) (w : World) (hs : 0 < s.length) :
    Calls Try.prog 52 #[vV ⟨2, n, t, s⟩ A c] w (RPost ⟨2, n, t, s⟩ w) := by
  have Hf := Lib.hid (show formedB ⟨2, n, t, s⟩ = false by simp [formedB, hs])
  have hpos : (0 : Int) < (s.length : Int) := by omega
  clear hs
  unfold vV
  go_enter Try.func52, Try.ntmps52
  go_wp2
  all_goals
    go_ret
    exact .of (rightE_bad Hf.out) ((Kp.refl _ _).alloc _)
set_option maxRecDepth 100000 in
set_option maxHeartbeats 1600000 in
theorem rright_3s (n : Int) (t : ByteArray) (s : List ByteArray) (A : Option Addr) (c : Nat) (w : World) (hs : 0 < s.length) :
    Calls Try.prog 52 #[vV ⟨3, n, t, s⟩ A c] w (RPost ⟨3, n, t, s⟩ w) := by
  have Hf := Lib.hid (show formedB ⟨3, n, t, s⟩ = false by simp [formedB, hs])
  have hpos : (0 : Int) < (s.length : Int) := by omega
  clear hs
  unfold vV
  go_enter Try.func52, Try.ntmps52
  go_wp2
  all_goals
    go_ret
    exact .of (rightE_bad Hf.out) ((Kp.refl _ _).alloc _)
set_option maxRecDepth 100000 in
set_option maxHeartbeats 1600000 in
theorem rright_4s (n : Int) (t : ByteArray) (s : List ByteArray) (A : Option Addr) (c : Nat) (w : World) (hs : 0 < s.length) :
    Calls Try.prog 52 #[vV ⟨4, n, t, s⟩ A c] w (RPost ⟨4, n, t, s⟩ w) := by
  have Hf := Lib.hid (show formedB ⟨4, n, t, s⟩ = false by simp [formedB, hs])
  have hpos : (0 : Int) < (s.length : Int) := by omega
  clear hs
  unfold vV
  go_enter Try.func52, Try.ntmps52
  go_wp2
  all_goals
    go_ret
    exact .of (rightE_bad Hf.out) ((Kp.refl _ _).alloc _)
end Go.Proofs.Ytnaolhjbapgjgaa

/- Contract of docketref11.Right: values that are no sets and well formed. -/
namespace Go.Proofs.Ytnaolhjbapgjgaa
open Go.RowKit

theorem size_of_toList {t : ByteArray} (h : t.toList = []) : t.size = 0 := by
  rw [ByteArray.toList_eq] at h
  have := sb_length t
  unfold sb at this
  rw [h] at this
  simpa using this.symm

set_option maxRecDepth 100000 in
set_option maxHeartbeats 3200000 in
theorem rok_1 (n : Int) (t : ByteArray) (ht : t.toList.isEmpty = true) (hts : (t.size : Int) ≤ 1024) (A : Option Addr) (c : Nat) (w : World) (hf : formedB ⟨1, n, t, []⟩ = true) :
    Calls Try.prog 52 #[vV ⟨1, n, t, []⟩ A c] w (RPost ⟨1, n, t, []⟩ w) := by
  have HR := Lib.hid (show rightE ⟨1, n, t, []⟩ = if 1 = 4 ∧ ¬ (0 ≤ (n : Int) ∧ (n : Int) ≤ 4611686018427387904) then 111 else if 1024 < t.size then 113 else 0 by
    rw [rightE, hf]
    simp [longB])
  clear hf
  unfold vV
  cases hz : (n != 0)
  all_goals
    go_enter Try.func52, Try.ntmps52
    go_wp2
    go_loopw [3] (fun i wr => i = .int .i64 1 ∧ Blk wr w.heap.size 25 #[.int .i64 1, .int .i64 n, .string t, .slice A 0 c] ∧ Old w wr) (fun _ _ => 0)
    case atStart => exact ⟨rfl, Blk.new _ _ _, (Kp.refl _ _).alloc _⟩
    case round =>
      obtain ⟨rfl, hb, ho⟩ := hrel
      have hc0 := hb.at_ 0 rfl
      have hc1 := hb.at_ 1 rfl
      have hc2 := hb.at_ 2 rfl
      have hc3 := hb.at_ 3 rfl
      have Hb := Lib.hid hb
      have Ho := Lib.hid ho
      clear hb ho
      go_wp2
      all_goals
        first
        | (go_ret
           refine .of (HR.out.trans ?_) Ho.out
           simp
           try omega)
        | (go_loopw [4] (fun i wr' => i = .int .i64 0 ∧ wr' = wr) (fun _ _ => 0)
           case atStart => exact ⟨rfl, rfl⟩
           case round =>
             obtain ⟨rfl, rfl⟩ := hrel
             go_wp2
             all_goals
               go_ret
               refine .of (HR.out.trans ?_) Ho.out
               simp
               try omega)
set_option maxRecDepth 100000 in
set_option maxHeartbeats 3200000 in
theorem rok_4 (n : Int) (t : ByteArray) (ht : t.toList.isEmpty = true) (hts : (t.size : Int) ≤ 1024) (A : Option Addr) (c : Nat) (w : World) (hf : formedB ⟨4, n, t, []⟩ = true) :
    Calls Try.prog 52 #[vV ⟨4, n, t, []⟩ A c] w (RPost ⟨4, n, t, []⟩ w) := by
  have HR := Lib.hid (show rightE ⟨4, n, t, []⟩ = if 4 = 4 ∧ ¬ (0 ≤ (n : Int) ∧ (n : Int) ≤ 4611686018427387904) then 111 else if 1024 < t.size then 113 else 0 by
    rw [rightE, hf]
    simp [longB])
  clear hf
  unfold vV
  cases hz : (n != 0)
  all_goals
    go_enter Try.func52, Try.ntmps52
    go_wp2
    go_loopw [3] (fun i wr => i = .int .i64 1 ∧ Blk wr w.heap.size 25 #[.int .i64 4, .int .i64 n, .string t, .slice A 0 c] ∧ Old w wr) (fun _ _ => 0)
    case atStart => exact ⟨rfl, Blk.new _ _ _, (Kp.refl _ _).alloc _⟩
    case round =>
      obtain ⟨rfl, hb, ho⟩ := hrel
      have hc0 := hb.at_ 0 rfl
      have hc1 := hb.at_ 1 rfl
      have hc2 := hb.at_ 2 rfl
      have hc3 := hb.at_ 3 rfl
      have Hb := Lib.hid hb
      have Ho := Lib.hid ho
      clear hb ho
      go_wp2
      all_goals
        first
        | (go_ret
           refine .of (HR.out.trans ?_) Ho.out
           simp
           try omega)
        | (go_loopw [4] (fun i wr' => i = .int .i64 0 ∧ wr' = wr) (fun _ _ => 0)
           case atStart => exact ⟨rfl, rfl⟩
           case round =>
             obtain ⟨rfl, rfl⟩ := hrel
             go_wp2
             all_goals
               go_ret
               refine .of (HR.out.trans ?_) Ho.out
               simp
               try omega)
set_option maxRecDepth 100000 in
set_option maxHeartbeats 3200000 in
theorem rok_0 (t : ByteArray) (ht : t.toList.isEmpty = true) (hts : (t.size : Int) ≤ 1024) (A : Option Addr) (c : Nat) (w : World) (hf : formedB ⟨0, 0, t, []⟩ = true) :
    Calls Try.prog 52 #[vV ⟨0, 0, t, []⟩ A c] w (RPost ⟨0, 0, t, []⟩ w) := by
  have HR := Lib.hid (show rightE ⟨0, 0, t, []⟩ = if 0 = 4 ∧ ¬ (0 ≤ (0 : Int) ∧ (0 : Int) ≤ 4611686018427387904) then 111 else if 1024 < t.size then 113 else 0 by
    rw [rightE, hf]
    simp [longB])
  clear hf
  unfold vV
  go_enter Try.func52, Try.ntmps52
  go_wp2
  go_loopw [3] (fun i wr => i = .int .i64 1 ∧ Blk wr w.heap.size 25 #[.int .i64 0, .int .i64 0, .string t, .slice A 0 c] ∧ Old w wr) (fun _ _ => 0)
  case atStart => exact ⟨rfl, Blk.new _ _ _, (Kp.refl _ _).alloc _⟩
  case round =>
    obtain ⟨rfl, hb, ho⟩ := hrel
    have hc0 := hb.at_ 0 rfl
    have hc1 := hb.at_ 1 rfl
    have hc2 := hb.at_ 2 rfl
    have hc3 := hb.at_ 3 rfl
    have Hb := Lib.hid hb
    have Ho := Lib.hid ho
    clear hb ho
    go_wp2
    all_goals
      first
      | (go_ret
         refine .of (HR.out.trans ?_) Ho.out
         simp
         try omega)
      | (go_loopw [4] (fun i wr' => i = .int .i64 0 ∧ wr' = wr) (fun _ _ => 0)
         case atStart => exact ⟨rfl, rfl⟩
         case round =>
           obtain ⟨rfl, rfl⟩ := hrel
           go_wp2
           all_goals
             go_ret
             refine .of (HR.out.trans ?_) Ho.out
             simp
             try omega)
set_option maxRecDepth 100000 in
set_option maxHeartbeats 3200000 in
theorem rok_2a (t : ByteArray) (ht : t.toList.isEmpty = true) (hts : (t.size : Int) ≤ 1024) (A : Option Addr) (c : Nat) (w : World) (hf : formedB ⟨2, 0, t, []⟩ = true) :
    Calls Try.prog 52 #[vV ⟨2, 0, t, []⟩ A c] w (RPost ⟨2, 0, t, []⟩ w) := by
  have HR := Lib.hid (show rightE ⟨2, 0, t, []⟩ = if 2 = 4 ∧ ¬ (0 ≤ (0 : Int) ∧ (0 : Int) ≤ 4611686018427387904) then 111 else if 1024 < t.size then 113 else 0 by
    rw [rightE, hf]
    simp [longB])
  clear hf
  unfold vV
  go_enter Try.func52, Try.ntmps52
  go_wp2
  go_loopw [3] (fun i wr => i = .int .i64 1 ∧ Blk wr w.heap.size 25 #[.int .i64 2, .int .i64 0, .string t, .slice A 0 c] ∧ Old w wr) (fun _ _ => 0)
  case atStart => exact ⟨rfl, Blk.new _ _ _, (Kp.refl _ _).alloc _⟩
  case round =>
    obtain ⟨rfl, hb, ho⟩ := hrel
    have hc0 := hb.at_ 0 rfl
    have hc1 := hb.at_ 1 rfl
    have hc2 := hb.at_ 2 rfl
    have hc3 := hb.at_ 3 rfl
    have Hb := Lib.hid hb
    have Ho := Lib.hid ho
    clear hb ho
    go_wp2
    all_goals
      first
      | (go_ret
         refine .of (HR.out.trans ?_) Ho.out
         simp
         try omega)
      | (go_loopw [4] (fun i wr' => i = .int .i64 0 ∧ wr' = wr) (fun _ _ => 0)
         case atStart => exact ⟨rfl, rfl⟩
         case round =>
           obtain ⟨rfl, rfl⟩ := hrel
           go_wp2
           all_goals
             go_ret
             refine .of (HR.out.trans ?_) Ho.out
             simp
             try omega)
set_option maxRecDepth 100000 in
set_option maxHeartbeats 3200000 in
theorem rok_5 (t : ByteArray) (ht : t.toList.isEmpty = true) (hts : (t.size : Int) ≤ 1024) (A : Option Addr) (c : Nat) (w : World) (hf : formedB ⟨5, 0, t, []⟩ = true) :
    Calls Try.prog 52 #[vV ⟨5, 0, t, []⟩ A c] w (RPost ⟨5, 0, t, []⟩ w) := by
  have HR := Lib.hid (show rightE ⟨5, 0, t, []⟩ = if 5 = 4 ∧ ¬ (0 ≤ (0 : Int) ∧ (0 : Int) ≤ 4611686018427387904) then 111 else if 1024 < t.size then 113 else 0 by
    rw [rightE, hf]
    simp [longB])
  clear hf
  unfold vV
  go_enter Try.func52, Try.ntmps52
  go_wp2
  go_loopw [3] (fun i wr => i = .int .i64 1 ∧ Blk wr w.heap.size 25 #[.int .i64 5, .int .i64 0, .string t, .slice A 0 c] ∧ Old w wr) (fun _ _ => 0)
  case atStart => exact ⟨rfl, Blk.new _ _ _, (Kp.refl _ _).alloc _⟩
  case round =>
    obtain ⟨rfl, hb, ho⟩ := hrel
    have hc0 := hb.at_ 0 rfl
    have hc1 := hb.at_ 1 rfl
    have hc2 := hb.at_ 2 rfl
    have hc3 := hb.at_ 3 rfl
    have Hb := Lib.hid hb
    have Ho := Lib.hid ho
    clear hb ho
    go_wp2
    all_goals
      first
      | (go_ret
         refine .of (HR.out.trans ?_) Ho.out
         simp
         try omega)
      | (go_loopw [4] (fun i wr' => i = .int .i64 0 ∧ wr' = wr) (fun _ _ => 0)
         case atStart => exact ⟨rfl, rfl⟩
         case round =>
           obtain ⟨rfl, rfl⟩ := hrel
           go_wp2
           all_goals
             go_ret
             refine .of (HR.out.trans ?_) Ho.out
             simp
             try omega)
set_option maxRecDepth 100000 in
set_option maxHeartbeats 3200000 in
theorem rok_2b (t : ByteArray) (ht : t.toList.isEmpty = true) (hts : (t.size : Int) ≤ 1024) (A : Option Addr) (c : Nat) (w : World) (hf : formedB ⟨2, 1, t, []⟩ = true) :
    Calls Try.prog 52 #[vV ⟨2, 1, t, []⟩ A c] w (RPost ⟨2, 1, t, []⟩ w) := by
  have HR := Lib.hid (show rightE ⟨2, 1, t, []⟩ = if 2 = 4 ∧ ¬ (0 ≤ (1 : Int) ∧ (1 : Int) ≤ 4611686018427387904) then 111 else if 1024 < t.size then 113 else 0 by
    rw [rightE, hf]
    simp [longB])
  clear hf
  unfold vV
  go_enter Try.func52, Try.ntmps52
  go_wp2
  go_loopw [3] (fun i wr => i = .int .i64 1 ∧ Blk wr w.heap.size 25 #[.int .i64 2, .int .i64 1, .string t, .slice A 0 c] ∧ Old w wr) (fun _ _ => 0)
  case atStart => exact ⟨rfl, Blk.new _ _ _, (Kp.refl _ _).alloc _⟩
  case round =>
    obtain ⟨rfl, hb, ho⟩ := hrel
    have hc0 := hb.at_ 0 rfl
    have hc1 := hb.at_ 1 rfl
    have hc2 := hb.at_ 2 rfl
    have hc3 := hb.at_ 3 rfl
    have Hb := Lib.hid hb
    have Ho := Lib.hid ho
    clear hb ho
    go_wp2
    all_goals
      first
      | (go_ret
         refine .of (HR.out.trans ?_) Ho.out
         simp
         try omega)
      | (go_loopw [4] (fun i wr' => i = .int .i64 0 ∧ wr' = wr) (fun _ _ => 0)
         case atStart => exact ⟨rfl, rfl⟩
         case round =>
           obtain ⟨rfl, rfl⟩ := hrel
           go_wp2
           all_goals
             go_ret
             refine .of (HR.out.trans ?_) Ho.out
             simp
             try omega)
set_option maxRecDepth 100000 in
set_option maxHeartbeats 3200000 in
theorem rok_3 (t : ByteArray) (A : Option Addr) (c : Nat) (w : World) (hf : formedB ⟨3, 0, t, []⟩ = true) :
    Calls Try.prog 52 #[vV ⟨3, 0, t, []⟩ A c] w (RPost ⟨3, 0, t, []⟩ w) := by
  have HR := Lib.hid (show rightE ⟨3, 0, t, []⟩ = if 3 = 4 ∧ ¬ (0 ≤ (0 : Int) ∧ (0 : Int) ≤ 4611686018427387904) then 111 else if 1024 < t.size then 113 else 0 by
    rw [rightE, hf]
    simp [longB])
  clear hf
  unfold vV
  cases hz : t.toList.isEmpty
  all_goals
    go_enter Try.func52, Try.ntmps52
    go_wp2
    go_loopw [3] (fun i wr => i = .int .i64 1 ∧ Blk wr w.heap.size 25 #[.int .i64 3, .int .i64 0, .string t, .slice A 0 c] ∧ Old w wr) (fun _ _ => 0)
    case atStart => exact ⟨rfl, Blk.new _ _ _, (Kp.refl _ _).alloc _⟩
    case round =>
      obtain ⟨rfl, hb, ho⟩ := hrel
      have hc0 := hb.at_ 0 rfl
      have hc1 := hb.at_ 1 rfl
      have hc2 := hb.at_ 2 rfl
      have hc3 := hb.at_ 3 rfl
      have Hb := Lib.hid hb
      have Ho := Lib.hid ho
      clear hb ho
      go_wp2
      all_goals
        first
        | (go_ret
           refine .of (HR.out.trans ?_) Ho.out
           simp
           try omega)
        | (go_loopw [4] (fun i wr' => i = .int .i64 0 ∧ wr' = wr) (fun _ _ => 0)
           case atStart => exact ⟨rfl, rfl⟩
           case round =>
             obtain ⟨rfl, rfl⟩ := hrel
             go_wp2
             all_goals
               go_ret
               refine .of (HR.out.trans ?_) Ho.out
               simp
               try omega)
end Go.Proofs.Ytnaolhjbapgjgaa

/- Contract of docketref11.Right: values that are no sets. -/
namespace Go.Proofs.Ytnaolhjbapgjgaa
open Go.RowKit

set_option maxRecDepth 100000 in
set_option maxHeartbeats 3200000 in
theorem rright_1 (n : Int) (t : ByteArray) (A : Option Addr) (c : Nat) (w : World) :
    Calls Try.prog 52 #[vV ⟨1, n, t, []⟩ A c] w (RPost ⟨1, n, t, []⟩ w) := by
  cases hf : formedB ⟨1, n, t, []⟩
  · have Hf := Lib.hid hf
    have hb : ((n != 0) = true ∧ (1 = 0 ∨ 1 = 3)) ∨ (t.toList.isEmpty = false ∧ 1 ≠ 3) ∨ (1 = 2 ∧ (n != 0) = true ∧ (n != 1) = true) := by
      clear Hf
      simp [formedB] at hf
      simp
      first | done | omega | (by_cases h : t.toList = [] <;> simp_all)
    clear hf
    unfold vV
    rcases hb with ⟨h, h'⟩ | ⟨h, h'⟩ | ⟨h', h, h2⟩
    all_goals
      first
      | (exfalso; simp at h'; done)
      | (clear h'
         go_enter Try.func52, Try.ntmps52
         go_wp2
         all_goals
           go_ret
           exact .of (rightE_bad Hf.out) ((Kp.refl _ _).alloc _))
  · have hz : t.toList = [] → (t.size : Int) ≤ 1024 := fun h => by rw [size_of_toList h]; decide
    have hf' := hf
    simp [formedB] at hf
    exact rok_1 n t (by simp [hf]) (hz hf) A c w hf'
set_option maxRecDepth 100000 in
set_option maxHeartbeats 3200000 in
theorem rright_4 (n : Int) (t : ByteArray) (A : Option Addr) (c : Nat) (w : World) :
    Calls Try.prog 52 #[vV ⟨4, n, t, []⟩ A c] w (RPost ⟨4, n, t, []⟩ w) := by
  cases hf : formedB ⟨4, n, t, []⟩
  · have Hf := Lib.hid hf
    have hb : ((n != 0) = true ∧ (4 = 0 ∨ 4 = 3)) ∨ (t.toList.isEmpty = false ∧ 4 ≠ 3) ∨ (4 = 2 ∧ (n != 0) = true ∧ (n != 1) = true) := by
      clear Hf
      simp [formedB] at hf
      simp
      first | done | omega | (by_cases h : t.toList = [] <;> simp_all)
    clear hf
    unfold vV
    rcases hb with ⟨h, h'⟩ | ⟨h, h'⟩ | ⟨h', h, h2⟩
    all_goals
      first
      | (exfalso; simp at h'; done)
      | (clear h'
         go_enter Try.func52, Try.ntmps52
         go_wp2
         all_goals
           go_ret
           exact .of (rightE_bad Hf.out) ((Kp.refl _ _).alloc _))
  · have hz : t.toList = [] → (t.size : Int) ≤ 1024 := fun h => by rw [size_of_toList h]; decide
    have hf' := hf
    simp [formedB] at hf
    exact rok_4 n t (by simp [hf]) (hz hf) A c w hf'
set_option maxRecDepth 100000 in
set_option maxHeartbeats 3200000 in
theorem rright_0 (n : Int) (t : ByteArray) (A : Option Addr) (c : Nat) (w : World) :
    Calls Try.prog 52 #[vV ⟨0, n, t, []⟩ A c] w (RPost ⟨0, n, t, []⟩ w) := by
  cases hf : formedB ⟨0, n, t, []⟩
  · have Hf := Lib.hid hf
    have hb : ((n != 0) = true ∧ (0 = 0 ∨ 0 = 3)) ∨ (t.toList.isEmpty = false ∧ 0 ≠ 3) ∨ (0 = 2 ∧ (n != 0) = true ∧ (n != 1) = true) := by
      clear Hf
      simp [formedB] at hf
      simp
      first | done | omega | (by_cases h : t.toList = [] <;> simp_all)
    clear hf
    unfold vV
    rcases hb with ⟨h, h'⟩ | ⟨h, h'⟩ | ⟨h', h, h2⟩
    all_goals
      first
      | (exfalso; simp at h'; done)
      | (clear h'
         go_enter Try.func52, Try.ntmps52
         go_wp2
         all_goals
           go_ret
           exact .of (rightE_bad Hf.out) ((Kp.refl _ _).alloc _))
  · have hz : t.toList = [] → (t.size : Int) ≤ 1024 := fun h => by rw [size_of_toList h]; decide
    have hf' := hf
    simp [formedB] at hf
    obtain ⟨ht, rfl⟩ := hf
    exact rok_0 t (by simp [ht]) (hz ht) A c w hf'
set_option maxRecDepth 100000 in
set_option maxHeartbeats 3200000 in
theorem rright_2 (n : Int) (t : ByteArray) (A : Option Addr) (c : Nat) (w : World) :
    Calls Try.prog 52 #[vV ⟨2, n, t, []⟩ A c] w (RPost ⟨2, n, t, []⟩ w) := by
  cases hf : formedB ⟨2, n, t, []⟩
  · have Hf := Lib.hid hf
    have hb : ((n != 0) = true ∧ (2 = 0 ∨ 2 = 3)) ∨ (t.toList.isEmpty = false ∧ 2 ≠ 3) ∨ (2 = 2 ∧ (n != 0) = true ∧ (n != 1) = true) := by
      clear Hf
      simp [formedB] at hf
      simp
      first | done | omega | (by_cases h : t.toList = [] <;> simp_all)
    clear hf
    unfold vV
    rcases hb with ⟨h, h'⟩ | ⟨h, h'⟩ | ⟨h', h, h2⟩
    all_goals
      first
      | (exfalso; simp at h'; done)
      | (clear h'
         go_enter Try.func52, Try.ntmps52
         go_wp2
         all_goals
           go_ret
           exact .of (rightE_bad Hf.out) ((Kp.refl _ _).alloc _))
  · have hz : t.toList = [] → (t.size : Int) ≤ 1024 := fun h => by rw [size_of_toList h]; decide
    have hf' := hf
    simp [formedB] at hf
    obtain ⟨ht, rfl | rfl⟩ := hf
    · exact rok_2a t (by simp [ht]) (hz ht) A c w hf'
    · exact rok_2b t (by simp [ht]) (hz ht) A c w hf'
set_option maxRecDepth 100000 in
set_option maxHeartbeats 3200000 in
theorem rright_3 (n : Int) (t : ByteArray) (A : Option Addr) (c : Nat) (w : World) :
    Calls Try.prog 52 #[vV ⟨3, n, t, []⟩ A c] w (RPost ⟨3, n, t, []⟩ w) := by
  cases hf : formedB ⟨3, n, t, []⟩
  · have Hf := Lib.hid hf
    have hb : ((n != 0) = true ∧ (3 = 0 ∨ 3 = 3)) ∨ (t.toList.isEmpty = false ∧ 3 ≠ 3) ∨ (3 = 2 ∧ (n != 0) = true ∧ (n != 1) = true) := by
      clear Hf
      simp [formedB] at hf
      simp
      first | done | omega | (by_cases h : t.toList = [] <;> simp_all)
    clear hf
    unfold vV
    rcases hb with ⟨h, h'⟩ | ⟨h, h'⟩ | ⟨h', h, h2⟩
    all_goals
      first
      | (exfalso; simp at h'; done)
      | (clear h'
         go_enter Try.func52, Try.ntmps52
         go_wp2
         all_goals
           go_ret
           exact .of (rightE_bad Hf.out) ((Kp.refl _ _).alloc _))
  · have hf' := hf
    simp [formedB] at hf
    subst hf
    exact rok_3 t A c w hf'
end Go.Proofs.Ytnaolhjbapgjgaa

/- Contract of docketref11.Right: sets; all values. -/
namespace Go.Proofs.Ytnaolhjbapgjgaa
open Go.RowKit

set_option maxRecDepth 100000 in
set_option maxHeartbeats 3200000 in
theorem rright_5bad (n : Int) (t : ByteArray) (s : List ByteArray) (A : Option Addr) (c : Nat) (w : World) (hb : (n != 0) = true ∨ t.toList.isEmpty = false) :
    Calls Try.prog 52 #[vV ⟨5, n, t, s⟩ A c] w (RPost ⟨5, n, t, s⟩ w) := by
  have Hf := Lib.hid (show formedB ⟨5, n, t, s⟩ = false by
    rcases hb with h | h
    · have h' : ¬ n = 0 := by simpa using h
      simp [formedB, h']
    · have h' : ¬ t.toList = [] := by simpa using h
      simp [formedB, h'])
  unfold vV
  rcases hb with h | h
  all_goals
    go_enter Try.func52, Try.ntmps52
    go_wp2
    all_goals
      go_ret
      exact .of (rightE_bad Hf.out) ((Kp.refl _ _).alloc _)

set_option maxRecDepth 100000 in
set_option maxHeartbeats 3200000 in
theorem rright_5 (t : ByteArray) (ht : t.toList.isEmpty = true) (hts : (t.size : Int) ≤ 1024) (s : List ByteArray) (A : Option Addr) (c : Nat) (w : World) (hr : Rd w 1 A s.length (s.map sv)) (hs : s.length ≤ 1000000000000) (hpos : (0 : Int) < (s.length : Int)) :
    Calls Try.prog 52 #[vV ⟨5, 0, t, s⟩ A c] w (RPost ⟨5, 0, t, s⟩ w) := by
  have Hs := Lib.hid hs
  have Hf := Lib.hid (show formedB ⟨5, 0, t, s⟩ = rising s by
    have h' : t.toList = [] := by simpa using ht
    simp [formedB, h'])
  have HR := Lib.hid (show rightE ⟨5, 0, t, s⟩ = if rising s = false then 8 else if (s.any fun x => decide (1024 < x.size)) = true then 113 else if 64 < s.length then 114 else 0 by
    rw [rightE, Hf.out]
    have : ¬ 1024 < t.size := by omega
    simp [longB, this])
  clear hs
  unfold vV
  go_enter Try.func52, Try.ntmps52
  go_wp2
  go_loopw [3] (fun i wr => ∃ k : Nat, k + 1 ≤ max 1 s.length ∧ i = .int .i64 ((k : Int) + 1) ∧ upTo s (k + 1) ∧ Blk wr w.heap.size 25 #[.int .i64 5, .int .i64 0, .string t, .slice A s.length c] ∧ Old w wr) (fun i _ => s.length - (intOf i).toNat)
  case atStart => exact ⟨0, by omega, rfl, fun i hi => by omega, Blk.new _ _ _, (Kp.refl _ _).alloc _⟩
  case round =>
    obtain ⟨k, hk, rfl, hup, hb, ho⟩ := hrel
    have hc0 := hb.at_ 0 rfl
    have hc1 := hb.at_ 1 rfl
    have hc2 := hb.at_ 2 rfl
    have hc3 := hb.at_ 3 rfl
    by_cases hlt : k + 1 < s.length
    · obtain ⟨b, o, rfl, hx⟩ := (hr.old ho).text (k := k) (by omega)
      obtain ⟨b', o', e, hy⟩ := (hr.old ho).text (k := k + 1) (by omega)
      obtain ⟨rfl, rfl⟩ : b = b' ∧ o = o' := by injection e with e; injection e with e1 e2; exact ⟨e1, e2⟩
      clear e
      have b1 : (0 : Int) ≤ (k : Int) := by omega
      have b2 : (k : Int) < (s.length : Int) := by omega
      have b3 : (0 : Int) ≤ (k : Int) + 1 := by omega
      have b4 : (k : Int) + 1 < (s.length : Int) := by omega
      have b5 : (k : Int) ≤ 1000000000000 := by have := Hs.out; omega
      generalize hxx : s.getD k ByteArray.empty = x at hx
      generalize hyy : s.getD (k + 1) ByteArray.empty = y at hy
      have Hx := Lib.hid hxx
      have Hy := Lib.hid hyy
      have HW := Lib.hid hb
      clear hxx hyy hb
      cases hlx : Op.bytesLess x.toList y.toList
      all_goals
        go_wp2
        have e1 : IntKind.i64.wrap (k : Int) = (k : Int) := IntWalk.i64_in _ (by have := Hs.out; omega)
        have e2 : ((k : Int) + 1).toNat = k + 1 := by omega
        go_quiet (fail)
        clear e1 e2
        go_wp2
      · go_ret
        refine .of (HR.out.trans ?_) (ho.drewN _)
        rw [not_rising s k (by omega) (by rw [Hx.out, Hy.out]; exact hlx)]
        rfl
      · go_roundw
        case rel => exact ⟨k + 1, by omega, by go_num, upTo_succ s k hup (by rw [Hx.out, Hy.out]; exact hlx), HW.out, ho.drewN _⟩
        case measure => simp [intOf]; omega
    · have HR2 := Lib.hid (show rightE ⟨5, 0, t, s⟩ = if (s.any fun x => decide (1024 < x.size)) = true then 113 else if 64 < s.length then 114 else 0 by
        rw [HR.out, rising_of s (fun i hi => hup i (by omega))]
        rfl)
      clear HR hup
      have Hb := Lib.hid hb
      have Ho := Lib.hid ho
      clear hb ho
      go_wp2
      go_loopw [4] (fun i wr' => ∃ k : Nat, k ≤ s.length ∧ i = .int .i64 k ∧ (∀ j, j < k → (s.getD j ByteArray.empty).size ≤ 1024) ∧ wr' = wr) (fun i _ => s.length - (intOf i).toNat)
      case atStart => exact ⟨0, by omega, rfl, fun j hj => by omega, rfl⟩
      case round =>
        obtain ⟨j, hj, rfl, hno, rfl⟩ := hrel
        have Hno := Lib.hid hno
        clear hno
        by_cases hjt : j < s.length
        · obtain ⟨b, o, rfl, hx⟩ := (hr.old Ho.out).text (k := j) hjt
          generalize hxx : s.getD j ByteArray.empty = x at hx
          have Hx := Lib.hid hxx
          clear hxx
          have b5 : (j : Int) ≤ 1000000000000 := by have := Hs.out; omega
          by_cases hl : 1024 < x.size
          · go_wp2
            go_ret
            refine .of (HR2.out.trans ?_) Ho.out
            rw [any_of s j hjt (by rw [Hx.out]; exact hl)]
            rfl
          · go_wp2
            go_roundw
            case rel =>
              refine ⟨j + 1, by omega, by go_num, fun i hi => ?_, by trivial⟩
              by_cases e : i = j
              · subst e; rw [Hx.out]; omega
              · exact Hno.out i (by omega)
            case measure => simp [intOf]; omega
        · have HR3 := Lib.hid (show rightE ⟨5, 0, t, s⟩ = if 64 < s.length then 114 else 0 by
            rw [HR2.out, none_of s (fun i hi => Hno.out i (by omega))]
            rfl)
          go_wp2
          all_goals
            go_ret
            refine .of (HR3.out.trans ?_) Ho.out
            simp
            omega
theorem rright_any (v : Val) (A : Option Addr) (c : Nat) (w : World) (hr : Rd w 1 A v.s.length (v.s.map sv)) (hs : v.s.length ≤ 1000000000000) :
    Calls Try.prog 52 #[vV v A c] w (RPost v w) := by
  obtain ⟨k, n, t, s⟩ := v
  by_cases h : k < 0 ∨ 5 < k
  · exact rright_far k n t s A c w h
  · by_cases h5 : k = 5
    · subst h5
      by_cases hb : (n != 0) = true ∨ t.toList.isEmpty = false
      · exact rright_5bad n t s A c w hb
      · have h1 : n = 0 := by
          by_cases h : n = 0
          · exact h
          · exact absurd (.inl (by simpa using h)) hb
        have h2 : t.toList.isEmpty = true := by
          cases h : t.toList.isEmpty
          · exact absurd (.inr h) hb
          · rfl
        subst h1
        have hts : (t.size : Int) ≤ 1024 := by rw [size_of_toList (by simpa using h2)]; decide
        by_cases hpos : (0 : Int) < (s.length : Int)
        · exact rright_5 t h2 hts s A c w hr hs hpos
        · have : s = [] := List.eq_nil_of_length_eq_zero (by omega)
          subst this
          have h3 : t.toList = [] := by simpa using h2
          exact rok_5 t h2 hts A c w (by simp [formedB, h3, rising])
    · have hk : k = 0 ∨ k = 1 ∨ k = 2 ∨ k = 3 ∨ k = 4 := by omega
      by_cases hs0 : 0 < s.length
      · rcases hk with rfl | rfl | rfl | rfl | rfl
        · exact rright_0s n t s A c w hs0
        · exact rright_1s n t s A c w hs0
        · exact rright_2s n t s A c w hs0
        · exact rright_3s n t s A c w hs0
        · exact rright_4s n t s A c w hs0
      · have : s = [] := List.eq_nil_of_length_eq_zero (by omega)
        subst this
        rcases hk with rfl | rfl | rfl | rfl | rfl
        · exact rright_0 n t A c w
        · exact rright_1 n t A c w
        · exact rright_2 n t A c w
        · exact rright_3 n t A c w
        · exact rright_4 n t A c w
end Go.Proofs.Ytnaolhjbapgjgaa

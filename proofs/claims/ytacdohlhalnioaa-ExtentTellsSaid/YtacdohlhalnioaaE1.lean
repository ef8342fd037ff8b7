/- Contracts of the file's small methods: good, far, size, need, at. -/
import Derived.Test.YtacdohlhalnioaaI7
import Derived.BigQuiet
set_option linter.unusedVariables false
set_option maxRecDepth 20000
namespace Go.Proofs.Ytacdohlhalnioaa
open Go.RowKit
attribute [local go_sem] Oper.semAt_some

/-- A file lies open in block F, its volume in block g. -/
structure FileAt (w : World) (F g c L I d n : Nat) (v : Vol) (x : Ino) : Prop where
  blk : w.heap[F]? = some (.cells #[.slice (some ⟨g, 0, none⟩) L c, .int .i64 L, .int .i64 I, .int .i64 1, .int .i64 2, .int .i64 3, .int .i64 d, .int .i64 n, .int .i64 ((x.kind : Nat) : Int), .int .i64 ((x.links : Nat) : Int), .int .i64 ((x.owner : Nat) : Int), .int .i64 ((x.size : Nat) : Int), .int .i64 ((x.d0 : Nat) : Int), .int .i64 ((x.d1 : Nat) : Int), .int .i64 ((x.d2 : Nat) : Int), .int .i64 ((x.d3 : Nat) : Int), .int .i64 ((x.d4 : Nat) : Int), .int .i64 ((x.d5 : Nat) : Int), .int .i64 ((x.ind : Nat) : Int), .int .i64 ((x.ext : Nat) : Int)] 94 (0, 0))
  vol : VS w g v
  len : v.length = L
  ne : F ≠ g
theorem FileAt.keep {w w' : World} {F g c L I d n : Nat} {v : Vol} {x : Ino} (h : FileAt w F g c L I d n v x) (hb : Below w.heap.size w w') : FileAt w' F g c L I d n v x :=
  ⟨blk_keep h.blk hb, h.vol.keep hb, h.len, h.ne⟩
theorem FileAt.lt {w : World} {F g c L I d n : Nat} {v : Vol} {x : Ino} (h : FileAt w F g c L I d n v x) : F < w.heap.size := blk_lt h.blk

def goodN (d L b : Nat) : Bool := decide (d ≤ b) && decide (b < L)
def numV (d L : Nat) (v : Vol) (x : Ino) (k : Nat) : Nat := if k < 6 then x.list.getD (4 + k) 0 else if goodN d L x.ind = true then w2 (bk v x.ind) (2 * (k - 6)) else 0
/-- The block of k; 0: a hole. -/
def atN (d L : Nat) (v : Vol) (x : Ino) (k : Nat) : Nat := if goodN d L (numV d L v x k) = true then numV d L v x k else 0
def holeI (b : Nat) : Int := if b = 0 then -1 else b

set_option maxHeartbeats 400000 in
theorem good_ok (F g c L I d n : Nat) (v : Vol) (x : Ino) (b : Nat) (w : World) (hf : FileAt w F g c L I d n v x) :
    Calls Try.prog 63 #[.pointer (some ⟨F, 0, none⟩), .int .i64 b] w fun e w' => e = .returned (.bool (goodN d L b)) ∧ w = w' := by
  have hb := hf.blk
  have c1 : w.cell? ⟨F, 1, none⟩ = some (.int .i64 L) := by rw [cell_at hb]; rfl
  have c6 : w.cell? ⟨F, 6, none⟩ = some (.int .i64 d) := by rw [cell_at hb]; rfl
  clear hb hf
  by_cases h : d ≤ b
  · by_cases h2 : b < L
    · go_enter Try.func63, Try.ntmps63
      go_wp2
      go_ret
      exact ⟨ret_bool (by simp [goodN, h, h2]), rfl⟩
    · go_enter Try.func63, Try.ntmps63
      go_wp2
      go_ret
      exact ⟨ret_bool (by simp [goodN, h, h2]), rfl⟩
  · go_enter Try.func63, Try.ntmps63
    go_wp2
    go_ret
    exact ⟨ret_bool (by simp [goodN, h]), rfl⟩
set_option maxHeartbeats 400000 in
theorem far_ok (k : Nat) (w : World) (h : 6 ≤ k) (h2 : k < 70) :
    Calls Try.prog 121 #[.int .i64 k] w fun e w' => e = .returned (.int .i64 ((2 * (k - 6) : Nat) : Int)) ∧ w = w' := by
  go_enter Try.func121, Try.ntmps121
  go_wp2
  go_ret
  exact ⟨ret_int (by omega), rfl⟩
set_option maxHeartbeats 400000 in
theorem need_ok (s : Nat) (w : World) (h : s ≤ 8960) :
    Calls Try.prog 53 #[.int .i64 s] w fun e w' => e = .returned (.int .i64 (((s + 127) / 128 : Nat) : Int)) ∧ w = w' := by
  go_enter Try.func53, Try.ntmps53
  go_wp2
  go_ret
  exact ⟨ret_int (by omega), rfl⟩
set_option maxHeartbeats 400000 in
theorem size_ok (F g c L I d n : Nat) (v : Vol) (x : Ino) (w : World) (hf : FileAt w F g c L I d n v x) (hx : x.size < 4294967296) :
    Calls Try.prog 54 #[.pointer (some ⟨F, 0, none⟩)] w fun e w' => e = .returned (.int .i64 ((min x.size 8960 : Nat) : Int)) ∧ w = w' := by
  have hb := hf.blk
  have c11 : w.cell? ⟨F, 11, none⟩ = some (.int .i64 x.size) := by rw [cell_at hb]; rfl
  clear hb hf
  go_enter Try.func54, Try.ntmps54
  go_wp2
  all_goals
    go_ret
    exact ⟨ret_int (by omega), rfl⟩
end Go.Proofs.Ytacdohlhalnioaa

/- Contracts: zeros, and the first block of a plan. -/
import Derived.Test.YtacdohlhalnioaaShelf
import Derived.Test.YtacdohlhalnioaaC2
import Derived.Test.YtacdohlhalnioaaR1
set_option linter.unusedVariables false
namespace Go.Proofs.Ytacdohlhalnioaa
open Go.RowKit

theorem cell_keep {W w1 : World} {p : Addr} {v : Value} (h : W.cell? p = some v) (hb : Below W.heap.size W w1) : w1.cell? p = some v :=
  (hb.cell (World.block_lt_of_cell? W p h)).trans h
theorem below_keep {B : Nat} {w W w1 : World} (h : Below B w W) (hB : B ≤ w.heap.size) (hb : Below W.heap.size W w1) : Below B w w1 :=
  h.trans (hb.mono (Nat.le_trans hB h.size))
theorem cells6 {w : World} {b t : Nat} {a0 a1 a2 a3 a4 a5 : Value} (h : w.heap[b]? = some (.cells #[a0, a1, a2, a3, a4, a5] t (0, 0))) :
    w.cell? ⟨b, 0, none⟩ = some a0 ∧ w.cell? ⟨b, 1, none⟩ = some a1 ∧ w.cell? ⟨b, 2, none⟩ = some a2 ∧ w.cell? ⟨b, 3, none⟩ = some a3 ∧ w.cell? ⟨b, 4, none⟩ = some a4 ∧ w.cell? ⟨b, 5, none⟩ = some a5 := by
  refine ⟨?_, ?_, ?_, ?_, ?_, ?_⟩ <;> simp [World.cell?, h]
theorem free_of {w : World} {b t : Nat} {cs : Array Value} (h : w.heap[b]? = some (.cells cs t (0, 0))) (i : Nat) : w.frozen? ⟨b, i, none⟩ = false := by
  simp [World.frozen?, h]
theorem blk_keep {W w1 : World} {k : Nat} {o : Obj} (h : W.heap[k]? = some o) (hb : Below W.heap.size W w1) : w1.heap[k]? = some o := (hb.block k (Array.getElem?_eq_some_iff.1 h).1).trans h
theorem blk_new (w : World) (o : Obj) : (w.alloc o).heap[w.heap.size]? = some o := heap_alloc_new w o
theorem blk_lt {w : World} {k : Nat} {o : Obj} (h : w.heap[k]? = some o) : k < w.heap.size := (Array.getElem?_eq_some_iff.1 h).1
theorem below_set {B k i : Nat} {w W : World} {u : Value} (h : Below B w W) (hk : B ≤ k) : Below B w (W.setCell ⟨k, i, none⟩ u) := h.setCell (p := ⟨k, i, none⟩) hk u
theorem below_set6 {B k : Nat} {w W : World} {a0 a1 a2 a3 a4 a5 : Value} (h : Below B w W) (hk : B ≤ k) :
    Below B w ((((((W.setCell ⟨k, 0, none⟩ a0).setCell ⟨k, 1, none⟩ a1).setCell ⟨k, 2, none⟩ a2).setCell ⟨k, 3, none⟩ a3).setCell ⟨k, 4, none⟩ a4).setCell ⟨k, 5, none⟩ a5) :=
  below_set (below_set (below_set (below_set (below_set (below_set h hk) hk) hk) hk) hk) hk
theorem repeat_zs (n : Nat) : (Lib.repeatL [(0 : UInt8)] n).toArray = (zs n).toArray := by
  congr 1
  induction n with
  | zero => rfl
  | succ n ih => simp only [Lib.repeatL, ih, zs, List.replicate_succ]; rfl
theorem wrap_u64 (n : Nat) (h : n < 4294967296) : IntKind.u64.wrap (n : Int) = (n : Int) := by
  simp [IntKind.wrap, IntKind.bits, IntKind.signed]; omega
set_option maxHeartbeats 400000 in
theorem repeat0_ok (n : Nat) (w : World) (h : n ≤ 140737488355328) :
    Calls Try.prog 61 #[.string (mk [0]), .int .i64 n] w fun e w' => e = .returned (.string (mk (zs n))) ∧ Below w.heap.size w w' :=
  (Try.strings_Repeat (mk [0]) n w (by omega) (by simpa using h)).mono fun e w' ⟨he, hb⟩ => ⟨by rw [he]; show Ending.returned (.string ⟨(Lib.repeatL [0] n).toArray⟩) = _; rw [repeat_zs]; rfl, hb⟩

set_option maxHeartbeats 400000 in
theorem zeros_ok (w : World) :
    Calls Try.prog 91 #[] w fun e w' => e = .returned (.string (mk (zs 128))) ∧ Below w.heap.size w w' := by
  go_enter Try.func91, Try.ntmps91
  go_wp2_with (go_at_call 61; refine (repeat0_ok 128 _ (by omega)).mono ?_; rintro e w1 ⟨rfl, hb⟩)
  go_ret
  exact ⟨rfl, hb⟩

/-- The first block. -/
def firstB (b i : Nat) : Blk := [104, 105, 98, 49] ++ ple b 2 ++ ple i 2 ++ zs 120
set_option maxHeartbeats 400000 in
theorem first_ok (b i : Nat) (c d e f : Int) (w : World) (hb : b < 65536) (hi : i < 65536) :
    Calls Try.prog 92 #[.agg #[.int .i64 b, .int .i64 i, .int .i64 c, .int .i64 d, .int .i64 e, .int .i64 f]] w fun e w' => e = .returned (.string (mk (firstB b i))) ∧ Below w.heap.size w w' := by
  have hwb := wrap_u64 b (by omega)
  have hwi := wrap_u64 i (by omega)
  have hl1 := ple_length b 2
  have hl2 := ple_length i 2
  go_enter Try.func92, Try.ntmps92
  go_wp2_with fail
  go_region_held3 (fun w' => w'.cell? ⟨w.heap.size, 0, none⟩ = some (.int .i64 b) ∧ w'.cell? ⟨w.heap.size, 1, none⟩ = some (.int .i64 i) ∧ Below w.heap.size w w')
    (first | exact ⟨by simp, by simp, ((Below.refl _ _).alloc (Nat.le_refl _) _).drew⟩ | (go_split_ands; exact ⟨cell_keep (by first | assumption | simp) hb1, cell_keep (by first | assumption | simp) hb1, below_keep (by first | assumption | exact ((Below.refl _ _).alloc (Nat.le_refl _) _).drew) (Nat.le_refl _) hb1⟩))
    (first | (go_at_call 67; refine (put_ok _ 2 _ (by omega) (by omega)).mono ?_; rintro e w1 ⟨rfl, hb1⟩))
  rename_i hh
  go_wp2_with (go_at_call 91; refine (zeros_ok _).mono ?_; rintro e w2 ⟨rfl, hb2⟩)
  go_ret
  exact ⟨ret_str (by simp [firstB, zs]), below_keep hh.2.2 (Nat.le_refl _) hb2⟩
end Go.Proofs.Ytacdohlhalnioaa

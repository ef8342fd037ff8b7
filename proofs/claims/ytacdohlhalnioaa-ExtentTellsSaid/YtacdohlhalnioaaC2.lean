/- Contracts: the plan of a volume, and looks at sizes. -/
import Derived.Test.YtacdohlhalnioaaC1
set_option linter.unusedVariables false
namespace Go.Proofs.Ytacdohlhalnioaa
open Go.RowKit

def planE (b i : Nat) : Nat := if b < 16 ∨ 223 < b ∨ i < 4 ∨ 64 < i then 2 else if b ≤ 3 + (i + 1) / 2 then 10 else 0

theorem planE_ok {b i : Nat} (h : planE b i = 0) : 16 ≤ b ∧ b ≤ 223 ∧ 4 ≤ i ∧ i ≤ 64 ∧ 3 + (i + 1) / 2 < b := by
  unfold planE at h
  split at h
  · omega
  · split at h
    · omega
    · omega
theorem planE_no {b i : Nat} (h : planE b i ≠ 0) : ((b < 16 ∨ 223 < b ∨ i < 4 ∨ 64 < i) ∧ planE b i = 2) ∨ (16 ≤ b ∧ b ≤ 223 ∧ 4 ≤ i ∧ i ≤ 64 ∧ b ≤ 3 + (i + 1) / 2 ∧ planE b i = 10) := by
  unfold planE at h ⊢
  split at h
  · rename_i c
    exact .inl ⟨c, if_pos c⟩
  · rename_i c
    split at h
    · rename_i d
      exact .inr ⟨by omega, by omega, by omega, by omega, d, by rw [if_neg c, if_pos d]⟩
    · omega

set_option maxHeartbeats 400000 in
theorem plan_ok (b i : Nat) (w : World) (hb : b ≤ 8796093022208) (hi : i ≤ 65535) (h : planE b i = 0) :
    Calls Try.prog 90 #[.int .i64 b, .int .i64 i] w fun e w' => e = .returned (.tuple #[.agg #[.int .i64 b, .int .i64 i, .int .i64 1, .int .i64 2, .int .i64 3, .int .i64 (3 + ((i : Int) + 1) / 2)], .int .i64 0]) ∧ Below w.heap.size w w' := by
  obtain ⟨a1, a2, a3, a4, h2⟩ := planE_ok h
  clear h
  go_enter Try.func90, Try.ntmps90
  go_wp2
  exact bodyPost_ret (v := .tuple #[.agg #[.int .i64 b, .int .i64 i, .int .i64 1, .int .i64 2, .int .i64 3, .int .i64 (3 + ((i : Int) + 1) / 2)], .int .i64 0]) (by simp [results, Try.results90, go_sem]) rfl ⟨rfl, ((Below.refl _ _).alloc (Nat.le_refl _) _).alloc (by simp) _⟩
set_option maxHeartbeats 400000 in
theorem plan_no (b i : Nat) (w : World) (hb : b ≤ 8796093022208) (hi : i ≤ 65535) (h : planE b i ≠ 0) :
    Calls Try.prog 90 #[.int .i64 b, .int .i64 i] w fun e w' => e = .returned (.tuple #[.agg #[.int .i64 0, .int .i64 0, .int .i64 0, .int .i64 0, .int .i64 0, .int .i64 0], .int .i64 (planE b i)]) ∧ Below w.heap.size w w' := by
  rcases planE_no h with ⟨h1, e⟩ | ⟨a1, a2, a3, a4, h2, e⟩
  · rw [e]
    clear h e
    go_enter Try.func90, Try.ntmps90
    go_wp2
    all_goals exact bodyPost_ret (v := .tuple #[.agg #[.int .i64 0, .int .i64 0, .int .i64 0, .int .i64 0, .int .i64 0, .int .i64 0], .int .i64 2]) (by simp [results, Try.results90, go_sem]) rfl ⟨rfl, (Below.refl _ _).alloc (Nat.le_refl _) _⟩
  · rw [e]
    clear h e
    go_enter Try.func90, Try.ntmps90
    go_wp2
    exact bodyPost_ret (v := .tuple #[.agg #[.int .i64 0, .int .i64 0, .int .i64 0, .int .i64 0, .int .i64 0, .int .i64 0], .int .i64 10]) (by simp [results, Try.results90, go_sem]) rfl ⟨rfl, ((Below.refl _ _).alloc (Nat.le_refl _) _).alloc (by simp) _⟩

set_option maxHeartbeats 400000 in
theorem rplan_ok (b i : Nat) (w : World) (hb : b ≤ 8796093022208) (hi : i ≤ 65535) (h : planE b i = 0) :
    Calls Try.prog 86 #[.int .i64 b, .int .i64 i] w fun e w' => e = .returned (.tuple #[.agg #[.int .i64 b, .int .i64 i, .int .i64 1, .int .i64 2, .int .i64 3, .int .i64 (3 + ((i : Int) + 1) / 2)], .int .i64 0]) ∧ Below w.heap.size w w' := by
  obtain ⟨a1, a2, a3, a4, h2⟩ := planE_ok h
  clear h
  go_enter Try.func86, Try.ntmps86
  go_wp2
  exact bodyPost_ret (v := .tuple #[.agg #[.int .i64 b, .int .i64 i, .int .i64 1, .int .i64 2, .int .i64 3, .int .i64 (3 + ((i : Int) + 1) / 2)], .int .i64 0]) (by simp [results, Try.results86, go_sem]) rfl ⟨rfl, ((Below.refl _ _).alloc (Nat.le_refl _) _).alloc (by simp) _⟩
set_option maxHeartbeats 400000 in
theorem rplan_no (b i : Nat) (w : World) (hb : b ≤ 8796093022208) (hi : i ≤ 65535) (h : planE b i ≠ 0) :
    Calls Try.prog 86 #[.int .i64 b, .int .i64 i] w fun e w' => e = .returned (.tuple #[.agg #[.int .i64 0, .int .i64 0, .int .i64 0, .int .i64 0, .int .i64 0, .int .i64 0], .int .i64 (planE b i)]) ∧ Below w.heap.size w w' := by
  rcases planE_no h with ⟨h1, e⟩ | ⟨a1, a2, a3, a4, h2, e⟩
  · rw [e]
    clear h e
    go_enter Try.func86, Try.ntmps86
    go_wp2
    all_goals exact bodyPost_ret (v := .tuple #[.agg #[.int .i64 0, .int .i64 0, .int .i64 0, .int .i64 0, .int .i64 0, .int .i64 0], .int .i64 2]) (by simp [results, Try.results86, go_sem]) rfl ⟨rfl, (Below.refl _ _).alloc (Nat.le_refl _) _⟩
  · rw [e]
    clear h e
    go_enter Try.func86, Try.ntmps86
    go_wp2
    exact bodyPost_ret (v := .tuple #[.agg #[.int .i64 0, .int .i64 0, .int .i64 0, .int .i64 0, .int .i64 0, .int .i64 0], .int .i64 10]) (by simp [results, Try.results86, go_sem]) rfl ⟨rfl, ((Below.refl _ _).alloc (Nat.le_refl _) _).alloc (by simp) _⟩
end Go.Proofs.Ytacdohlhalnioaa

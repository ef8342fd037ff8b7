/- Contracts: no inode; where data begin; a block's number (the document's). -/
import Derived.Test.YtacdohlhalnioaaF3
set_option linter.unusedVariables false
set_option maxRecDepth 20000
namespace Go.Proofs.Ytacdohlhalnioaa
open Go.RowKit
attribute [local go_sem] Oper.semAt_some

set_option maxHeartbeats 2000000 in
theorem rget18_no (A : Option Addr) (c : Nat) (v : Vol) (n : Int) (w : World) (hr : RS w A v) (h : getE v n ≠ 0) :
    Calls Try.prog 55 #[.slice A v.length c, .int .i64 n] w fun e w' => e = .returned (.tuple #[.agg #[.int .i64 0, .int .i64 0, .int .i64 0, .int .i64 0, .int .i64 0, .int .i64 0, .int .i64 0, .int .i64 0, .int .i64 0, .int .i64 0, .int .i64 0, .int .i64 0], .int .i64 (getE v n)]) ∧ Below w.heap.size w w' := by
  have HRR := Lib.hid hr
  clear hr
  by_cases hv : okV v = true
  · have hi := (okV_iff.1 hv).ihi
    have hn : ¬ (1 ≤ n ∧ n ≤ inosV v) := fun hn => h (getE_is hv hn.1 hn.2)
    rw [getE_lt hv hn]
    have HV := Lib.hid hv
    have hsplit : n < 1 ∨ (1 ≤ n ∧ (inosV v : Int) < n) := by omega
    clear hv h hn
    rcases hsplit with hn2 | ⟨hn1, hn2⟩
    all_goals
      go_enter Try.func55, Try.ntmps55
      go_wp2_with (go_at_call 46; refine (rof_ok _ _ _ _ (HRR.out.below ((Below.refl _ _).alloc (Nat.le_refl _) _)) HV.out).mono ?_; rintro e w1 ⟨rfl, hb1⟩; have hb2 := below_keep ((Below.refl _ w).alloc (Nat.le_refl _) _) (Nat.le_refl _) hb1; have B2 := Lib.hid (hb2.alloc hb2.size (.cells #[.int .i64 v.length, .int .i64 (inosV v), .int .i64 1, .int .i64 2, .int .i64 3, .int .i64 (3 + ((inosV v : Nat) + 1 : Int) / 2)] 66)); have q1 := blk_keep (blk_keep (blk_new w _) hb1) ((Below.refl _ w1).alloc (Nat.le_refl _) (.cells #[.int .i64 v.length, .int .i64 (inosV v), .int .i64 1, .int .i64 2, .int .i64 3, .int .i64 (3 + ((inosV v : Nat) + 1 : Int) / 2)] 66)); obtain ⟨c0, c1, c2, c3, c4, c5, c6, c7, c8, c9, c10, c11⟩ := cells12 q1; obtain ⟨f0, f1, f2, f3, f4, f5, f6, f7, f8, f9, f10, f11⟩ := frees12 q1; have Q1 := Lib.hid q1; clear q1 hb1 hb2)
      have hbf := blk_set12 (b0 := .int .i64 0) (a0 := .int .i64 0) (a1 := .int .i64 0) (a2 := .int .i64 0) (a3 := .int .i64 0) (a4 := .int .i64 0) (a5 := .int .i64 0) (a6 := .int .i64 0) (a7 := .int .i64 0) (a8 := .int .i64 0) (a9 := .int .i64 0) (a10 := .int .i64 0) (a11 := .int .i64 0) Q1.out
      obtain ⟨r0, r1, r2, r3, r4, r5, r6, r7, r8, r9, r10, r11⟩ := cells12 hbf
      refine bodyPost_ret (v := .tuple #[.agg #[.int .i64 0, .int .i64 0, .int .i64 0, .int .i64 0, .int .i64 0, .int .i64 0, .int .i64 0, .int .i64 0, .int .i64 0, .int .i64 0, .int .i64 0, .int .i64 0], .int .i64 2]) (by simp [results, Try.results55, go_sem, r0, r1, r2, r3, r4, r5, r6, r7, r8, r9, r10, r11]) rfl ⟨rfl, ?_⟩
      exact below_set12 B2.out (Nat.le_refl _)
  · have hv' : okV v = false := by simpa using hv
    rw [getE_bad hv']
    clear h hv
    go_enter Try.func55, Try.ntmps55
    go_wp2_with (go_at_call 46; refine (rof_no _ _ _ _ (HRR.out.below ((Below.refl _ _).alloc (Nat.le_refl _) _)) hv').mono ?_; rintro e w1 ⟨rfl, hb1⟩; have hb2 := below_keep ((Below.refl _ w).alloc (Nat.le_refl _) _) (Nat.le_refl _) hb1; have B2 := Lib.hid (hb2.alloc hb2.size (.cells #[.int .i64 0, .int .i64 0, .int .i64 0, .int .i64 0, .int .i64 0, .int .i64 0] 66)); have q1 := blk_keep (blk_keep (blk_new w _) hb1) ((Below.refl _ w1).alloc (Nat.le_refl _) (.cells #[.int .i64 0, .int .i64 0, .int .i64 0, .int .i64 0, .int .i64 0, .int .i64 0] 66)); obtain ⟨c0, c1, c2, c3, c4, c5, c6, c7, c8, c9, c10, c11⟩ := cells12 q1; obtain ⟨f0, f1, f2, f3, f4, f5, f6, f7, f8, f9, f10, f11⟩ := frees12 q1; have Q1 := Lib.hid q1; clear q1 hb1 hb2)
    have hbf := blk_set12 (b0 := .int .i64 0) (a0 := .int .i64 0) (a1 := .int .i64 0) (a2 := .int .i64 0) (a3 := .int .i64 0) (a4 := .int .i64 0) (a5 := .int .i64 0) (a6 := .int .i64 0) (a7 := .int .i64 0) (a8 := .int .i64 0) (a9 := .int .i64 0) (a10 := .int .i64 0) (a11 := .int .i64 0) Q1.out
    obtain ⟨r0, r1, r2, r3, r4, r5, r6, r7, r8, r9, r10, r11⟩ := cells12 hbf
    refine bodyPost_ret (v := .tuple #[.agg #[.int .i64 0, .int .i64 0, .int .i64 0, .int .i64 0, .int .i64 0, .int .i64 0, .int .i64 0, .int .i64 0, .int .i64 0, .int .i64 0, .int .i64 0, .int .i64 0], .int .i64 3]) (by simp [results, Try.results55, go_sem, r0, r1, r2, r3, r4, r5, r6, r7, r8, r9, r10, r11]) rfl ⟨rfl, ?_⟩
    exact below_set12 B2.out (Nat.le_refl _)
set_option maxHeartbeats 400000 in
theorem rdata_ok (A : Option Addr) (c : Nat) (v : Vol) (w : World) (hr : RS w A v) (hv : okV v = true) :
    Calls Try.prog 56 #[.slice A v.length c] w fun e w' => e = .returned (.int .i64 (dataV v)) ∧ Below w.heap.size w w' := by
  have hdd : (3 + ((inosV v : Nat) + 1 : Int) / 2) = ((dataV v : Nat) : Int) := by rw [dataV]; omega
  go_enter Try.func56, Try.ntmps56
  go_wp2_with (go_at_call 46; refine (rof_ok _ _ _ _ hr hv).mono ?_; rw [hdd]; rintro e w1 ⟨rfl, hb1⟩)
  go_ret
  exact ⟨rfl, hb1.alloc hb1.size _⟩
/-- A number, if it is that of a block. -/
def goodZ (d L b : Nat) : Nat := if goodN d L b = true then b else 0
set_option maxHeartbeats 400000 in
theorem rgood_ok (A : Option Addr) (c L d b : Nat) (w : World) (hL : L ≤ 8796093022208) :
    Calls Try.prog 64 #[.slice A L c, .int .i64 d, .int .i64 b] w fun e w' => e = .returned (.int .i64 ((goodZ d L b : Nat) : Int)) ∧ w = w' := by
  by_cases h : d ≤ b
  · by_cases h2 : b < L
    · go_enter Try.func64, Try.ntmps64
      go_wp2
      go_ret
      exact ⟨ret_int (by simp [goodZ, goodN, h, h2]), rfl⟩
    · go_enter Try.func64, Try.ntmps64
      go_wp2
      go_ret
      exact ⟨ret_int (by simp [goodZ, goodN, h, h2]), rfl⟩
  · go_enter Try.func64, Try.ntmps64
    go_wp2
    go_ret
    exact ⟨ret_int (by simp [goodZ, goodN, h]), rfl⟩
end Go.Proofs.Ytacdohlhalnioaa

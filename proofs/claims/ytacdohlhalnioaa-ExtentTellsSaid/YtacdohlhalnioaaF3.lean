/- Contracts: an inode, where data begin, a block's number (the document's). -/
import Derived.Test.YtacdohlhalnioaaF2
import Derived.Test.YtacdohlhalnioaaC7
set_option linter.unusedVariables false
set_option maxRecDepth 20000
namespace Go.Proofs.Ytacdohlhalnioaa
open Go.RowKit
attribute [local go_sem] Oper.semAt_some

theorem rof18_as (t s : Blk) (w : World) (ht : t = s) (hs : s.length = 64) :
    Calls Try.prog 97 #[.string (mk t)] w fun e w' => e = .returned (.agg #[.int .i64 (((inoOf s).kind : Nat) : Int), .int .i64 (((inoOf s).links : Nat) : Int), .int .i64 (((inoOf s).owner : Nat) : Int), .int .i64 (((inoOf s).size : Nat) : Int), .int .i64 (((inoOf s).d0 : Nat) : Int), .int .i64 (((inoOf s).d1 : Nat) : Int), .int .i64 (((inoOf s).d2 : Nat) : Int), .int .i64 (((inoOf s).d3 : Nat) : Int), .int .i64 (((inoOf s).d4 : Nat) : Int), .int .i64 (((inoOf s).d5 : Nat) : Int), .int .i64 (((inoOf s).ind : Nat) : Int), .int .i64 (((inoOf s).ext : Nat) : Int)]) ∧ Below w.heap.size w w' := by
  subst ht
  exact rof18_ok t w hs
set_option maxHeartbeats 2000000 in
theorem rget18_ok (A : Option Addr) (c : Nat) (v : Vol) (n : Nat) (w : World) (hr : RS w A v) (hv : okV v = true) (h1 : 1 ≤ n) (h2 : n ≤ inosV v) :
    Calls Try.prog 55 #[.slice A v.length c, .int .i64 n] w fun e w' => e = .returned (.tuple #[.agg #[.int .i64 (((inoV v n).kind : Nat) : Int), .int .i64 (((inoV v n).links : Nat) : Int), .int .i64 (((inoV v n).owner : Nat) : Int), .int .i64 (((inoV v n).size : Nat) : Int), .int .i64 (((inoV v n).d0 : Nat) : Int), .int .i64 (((inoV v n).d1 : Nat) : Int), .int .i64 (((inoV v n).d2 : Nat) : Int), .int .i64 (((inoV v n).d3 : Nat) : Int), .int .i64 (((inoV v n).d4 : Nat) : Int), .int .i64 (((inoV v n).d5 : Nat) : Int), .int .i64 (((inoV v n).ind : Nat) : Int), .int .i64 (((inoV v n).ext : Nat) : Int)], .int .i64 0]) ∧ Below w.heap.size w w' := by
  obtain ⟨hl, h128, hs⟩ := slot_facts hv h1 h2
  have hsd : slot v n = ((bk v (3 + (n - 1) / 2)).drop ((n - 1) % 2 * 64)).take 64 := rfl
  have hi := (okV_iff.1 hv).ihi
  rw [inoV]
  have hn0 : (0 : Int) ≤ (n : Int) - 1 := by omega
  have ho1 : ((n : Int) - 1).tmod 2 * 64 = (((n - 1) % 2 * 64 : Nat) : Int) := by rw [Int.tmod_eq_emod_of_nonneg hn0]; omega
  have ho2 : ((n : Int) - 1) % 2 * 64 = (((n - 1) % 2 * 64 : Nat) : Int) := by omega
  have hq1 : (3 : Int) + ((n : Int) - 1) / 2 = ((3 + (n - 1) / 2 : Nat) : Int) := by omega
  have ho : (n - 1) % 2 * 64 ≤ 64 := by omega
  generalize slot v n = s at *
  generalize (n - 1) % 2 * 64 = o at *
  generalize 3 + (n - 1) / 2 = B at *
  have HV := Lib.hid hv
  have HRR := Lib.hid hr
  obtain ⟨bA, oA, rfl, hbA, hc⟩ := hr.open_ (by omega)
  have hcB := hc B hl
  have HS := Lib.hid hsd
  clear hr hc hv hsd
  go_enter Try.func55, Try.ntmps55
  go_wp2_with (first
    | (go_at_call 46; refine (rof_ok _ _ _ _ (HRR.out.below ((Below.refl _ _).alloc (Nat.le_refl _) _)) HV.out).mono ?_; rintro e w1 ⟨rfl, hb1⟩; have hb2 := below_keep ((Below.refl _ w).alloc (Nat.le_refl _) _) (Nat.le_refl _) hb1; have B2 := Lib.hid (hb2.alloc hb2.size (.cells #[.int .i64 v.length, .int .i64 (inosV v), .int .i64 1, .int .i64 2, .int .i64 3, .int .i64 (3 + ((inosV v : Nat) + 1 : Int) / 2)] 66)); have d1 := cell_keep hcB B2.out; have q1 := blk_keep (blk_keep (blk_new w _) hb1) ((Below.refl _ w1).alloc (Nat.le_refl _) (.cells #[.int .i64 v.length, .int .i64 (inosV v), .int .i64 1, .int .i64 2, .int .i64 3, .int .i64 (3 + ((inosV v : Nat) + 1 : Int) / 2)] 66)); have Q1 := Lib.hid q1; clear q1 hb1 hb2)
    | (go_at_call 97; refine (rof18_as _ s _ HS.out.symm hs).mono ?_; rintro e w2 ⟨rfl, hb3⟩; have q2 := blk_keep Q1.out hb3; obtain ⟨c0, c1, c2, c3, c4, c5, c6, c7, c8, c9, c10, c11⟩ := cells12 q2; obtain ⟨f0, f1, f2, f3, f4, f5, f6, f7, f8, f9, f10, f11⟩ := frees12 q2; have Q2 := Lib.hid q2; clear q2))
  have hbf := blk_set12 (b0 := .int .i64 0) (a0 := .int .i64 (((inoOf s).kind : Nat) : Int)) (a1 := .int .i64 (((inoOf s).links : Nat) : Int)) (a2 := .int .i64 (((inoOf s).owner : Nat) : Int)) (a3 := .int .i64 (((inoOf s).size : Nat) : Int)) (a4 := .int .i64 (((inoOf s).d0 : Nat) : Int)) (a5 := .int .i64 (((inoOf s).d1 : Nat) : Int)) (a6 := .int .i64 (((inoOf s).d2 : Nat) : Int)) (a7 := .int .i64 (((inoOf s).d3 : Nat) : Int)) (a8 := .int .i64 (((inoOf s).d4 : Nat) : Int)) (a9 := .int .i64 (((inoOf s).d5 : Nat) : Int)) (a10 := .int .i64 (((inoOf s).ind : Nat) : Int)) (a11 := .int .i64 (((inoOf s).ext : Nat) : Int)) Q2.out
  obtain ⟨r0, r1, r2, r3, r4, r5, r6, r7, r8, r9, r10, r11⟩ := cells12 hbf
  refine bodyPost_ret (v := .tuple #[.agg #[.int .i64 (((inoOf s).kind : Nat) : Int), .int .i64 (((inoOf s).links : Nat) : Int), .int .i64 (((inoOf s).owner : Nat) : Int), .int .i64 (((inoOf s).size : Nat) : Int), .int .i64 (((inoOf s).d0 : Nat) : Int), .int .i64 (((inoOf s).d1 : Nat) : Int), .int .i64 (((inoOf s).d2 : Nat) : Int), .int .i64 (((inoOf s).d3 : Nat) : Int), .int .i64 (((inoOf s).d4 : Nat) : Int), .int .i64 (((inoOf s).d5 : Nat) : Int), .int .i64 (((inoOf s).ind : Nat) : Int), .int .i64 (((inoOf s).ext : Nat) : Int)], .int .i64 0]) (by simp [results, Try.results55, go_sem, r0, r1, r2, r3, r4, r5, r6, r7, r8, r9, r10, r11]) rfl ⟨rfl, ?_⟩
  exact below_set12 (below_keep B2.out (Nat.le_refl _) hb3) (Nat.le_refl _)
end Go.Proofs.Ytacdohlhalnioaa

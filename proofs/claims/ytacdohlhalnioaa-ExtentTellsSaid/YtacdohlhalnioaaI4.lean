/- Contracts: where an inode stands, and the inode itself (the program's). -/
import Derived.Test.YtacdohlhalnioaaC6
import Derived.Test.YtacdohlhalnioaaI3
import Derived.OwnWalk
set_option linter.unusedVariables false
set_option maxRecDepth 20000
namespace Go.Proofs.Ytacdohlhalnioaa
open Go.RowKit
attribute [local go_sem] Oper.semAt_some

/-- The error of an inode's number. -/
def getE (v : Vol) (n : Int) : Int := if okV v = true then (if 1 ≤ n ∧ n ≤ inosV v then 0 else 2) else 3
theorem getE_ok {v : Vol} {n : Int} (h : getE v n = 0) : okV v = true ∧ 1 ≤ n ∧ n ≤ inosV v := by
  unfold getE at h
  split at h
  · rename_i hv
    split at h
    · exact ⟨hv, by assumption⟩
    · omega
  · omega
theorem getE_is {v : Vol} {n : Int} (hv : okV v = true) (h1 : 1 ≤ n) (h2 : n ≤ inosV v) : getE v n = 0 := by rw [getE, if_pos hv, if_pos ⟨h1, h2⟩]
theorem getE_lt {v : Vol} {n : Int} (hv : okV v = true) (h : ¬ (1 ≤ n ∧ n ≤ inosV v)) : getE v n = 2 := by rw [getE, if_pos hv, if_neg h]
theorem getE_bad {v : Vol} {n : Int} (hv : okV v = false) : getE v n = 3 := by rw [getE, if_neg (by rw [hv]; simp)]

theorem ret_tup3 {k : IntKind} {a b c a' b' c' : Int} (h1 : a = a') (h2 : b = b') (h3 : c = c') : Ending.returned (.tuple #[.int k a, .int k b, .int k c]) = .returned (.tuple #[.int k a', .int k b', .int k c']) := by rw [h1, h2, h3]
set_option maxHeartbeats 1000000 in
theorem iplace_ok (A : Option Addr) (c : Nat) (v : Vol) (n B o : Nat) (w : World) (hr : RS w A v) (hv : okV v = true) (h1 : 1 ≤ n) (h2 : n ≤ inosV v) (hB : B = 3 + (n - 1) / 2) (ho : o = (n - 1) % 2 * 64) :
    Calls Try.prog 72 #[.slice A v.length c, .int .i64 n] w fun e w' => e = .returned (.tuple #[.int .i64 (B : Int), .int .i64 (o : Int), .int .i64 0]) ∧ Below w.heap.size w w' := by
  have HV := Lib.hid hv
  have hi := (okV_iff.1 hv).ihi
  clear hv
  go_enter Try.func72, Try.ntmps72
  go_wp2_with (go_at_call 71; refine (of_ok _ _ _ _ hr HV.out).mono ?_; rintro e w1 ⟨rfl, hb1⟩)
  have hb2 : Below w.heap.size w (w1.alloc (.cells #[.int .i64 v.length, .int .i64 (inosV v), .int .i64 1, .int .i64 2, .int .i64 3, .int .i64 (3 + ((inosV v : Nat) + 1 : Int) / 2)] 66)) := hb1.alloc hb1.size _
  obtain ⟨g0, g1, g2, g3, g4, g5⟩ := cells6 (blk_new w1 (.cells #[.int .i64 v.length, .int .i64 (inosV v), .int .i64 1, .int .i64 2, .int .i64 3, .int .i64 (3 + ((inosV v : Nat) + 1 : Int) / 2)] 66))
  generalize w1.alloc (.cells #[.int .i64 v.length, .int .i64 (inosV v), .int .i64 1, .int .i64 2, .int .i64 3, .int .i64 (3 + ((inosV v : Nat) + 1 : Int) / 2)] 66) = W0 at *
  go_wp2
  go_ret3
  refine ⟨?_, hb2⟩
  exact ret_tup3 (by omega) (by omega) rfl

set_option maxHeartbeats 1000000 in
theorem iplace_no (A : Option Addr) (c : Nat) (v : Vol) (n : Int) (w : World) (hr : RS w A v) (h : getE v n ≠ 0) :
    Calls Try.prog 72 #[.slice A v.length c, .int .i64 n] w fun e w' => e = .returned (.tuple #[.int .i64 0, .int .i64 0, .int .i64 (getE v n)]) ∧ Below w.heap.size w w' := by
  by_cases hv : okV v = true
  · have hi := (okV_iff.1 hv).ihi
    have hn : ¬ (1 ≤ n ∧ n ≤ inosV v) := fun hn => h (getE_is hv hn.1 hn.2)
    rw [getE_lt hv hn]
    have HV := Lib.hid hv
    clear hv h
    have hsplit : n < 1 ∨ (1 ≤ n ∧ (inosV v : Int) < n) := by omega
    clear hn
    rcases hsplit with hn2 | ⟨hn1, hn2⟩
    all_goals
      go_enter Try.func72, Try.ntmps72
      go_wp2_with (go_at_call 71; refine (of_ok _ _ _ _ hr HV.out).mono ?_; rintro e w1 ⟨rfl, hb1⟩)
      go_ret3
      exact ⟨rfl, hb1.alloc hb1.size _⟩
  · have hv' : okV v = false := by simpa using hv
    rw [getE_bad hv']
    clear h hv
    go_enter Try.func72, Try.ntmps72
    go_wp2_with (go_at_call 71; refine (of_no _ _ _ _ hr hv').mono ?_; rintro e w1 ⟨rfl, hb1⟩)
    go_ret3
    exact ⟨rfl, hb1.alloc hb1.size _⟩

/-- The 64 bytes of an inode. -/
def slot (v : Vol) (n : Nat) : Blk := ((bk v (3 + (n - 1) / 2)).drop ((n - 1) % 2 * 64)).take 64
def inoV (v : Vol) (n : Nat) : Ino := inoOf (slot v n)
theorem slot_facts {v : Vol} {n : Nat} (hv : okV v = true) (h1 : 1 ≤ n) (h2 : n ≤ inosV v) : 3 + (n - 1) / 2 < v.length ∧ (bk v (3 + (n - 1) / 2)).length = 128 ∧ (slot v n).length = 64 := by
  have H := okV_iff.1 hv
  have := H.data
  have hl : 3 + (n - 1) / 2 < v.length := by omega
  have h128 := H.size _ hl
  refine ⟨hl, h128, ?_⟩
  simp only [slot, List.length_take, List.length_drop, h128]
  omega
theorem xcells12 (x : Ino) : xcells x.list = #[.int .i64 ((x.kind : Nat) : Int), .int .i64 ((x.links : Nat) : Int), .int .i64 ((x.owner : Nat) : Int), .int .i64 ((x.size : Nat) : Int), .int .i64 ((x.d0 : Nat) : Int), .int .i64 ((x.d1 : Nat) : Int), .int .i64 ((x.d2 : Nat) : Int), .int .i64 ((x.d3 : Nat) : Int), .int .i64 ((x.d4 : Nat) : Int), .int .i64 ((x.d5 : Nat) : Int), .int .i64 ((x.ind : Nat) : Int), .int .i64 ((x.ext : Nat) : Int)] := rfl
def noIno : Ino := ⟨0, 0, 0, 0, 0, 0, 0, 0, 0, 0, 0, 0⟩

theorem iof_as (t s : Blk) (w : World) (ht : t = s) (hs : s.length = 64) :
    Calls Try.prog 73 #[.string (mk t)] w fun e w' => e = .returned (.agg #[.int .i64 (((inoOf s).kind : Nat) : Int), .int .i64 (((inoOf s).links : Nat) : Int), .int .i64 (((inoOf s).owner : Nat) : Int), .int .i64 (((inoOf s).size : Nat) : Int), .int .i64 (((inoOf s).d0 : Nat) : Int), .int .i64 (((inoOf s).d1 : Nat) : Int), .int .i64 (((inoOf s).d2 : Nat) : Int), .int .i64 (((inoOf s).d3 : Nat) : Int), .int .i64 (((inoOf s).d4 : Nat) : Int), .int .i64 (((inoOf s).d5 : Nat) : Int), .int .i64 (((inoOf s).ind : Nat) : Int), .int .i64 (((inoOf s).ext : Nat) : Int)]) ∧ Below w.heap.size w w' := by
  subst ht
  exact iof_ok t w hs
set_option maxHeartbeats 1000000 in
theorem iget_ok (A : Option Addr) (c : Nat) (v : Vol) (n : Nat) (w : World) (hr : RS w A v) (hv : okV v = true) (h1 : 1 ≤ n) (h2 : n ≤ inosV v) :
    Calls Try.prog 32 #[.slice A v.length c, .int .i64 n] w fun e w' => e = .returned (.tuple #[.agg #[.int .i64 (((inoV v n).kind : Nat) : Int), .int .i64 (((inoV v n).links : Nat) : Int), .int .i64 (((inoV v n).owner : Nat) : Int), .int .i64 (((inoV v n).size : Nat) : Int), .int .i64 (((inoV v n).d0 : Nat) : Int), .int .i64 (((inoV v n).d1 : Nat) : Int), .int .i64 (((inoV v n).d2 : Nat) : Int), .int .i64 (((inoV v n).d3 : Nat) : Int), .int .i64 (((inoV v n).d4 : Nat) : Int), .int .i64 (((inoV v n).d5 : Nat) : Int), .int .i64 (((inoV v n).ind : Nat) : Int), .int .i64 (((inoV v n).ext : Nat) : Int)], .int .i64 0]) ∧ Below w.heap.size w w' := by
  obtain ⟨hl, h128, hs⟩ := slot_facts hv h1 h2
  have hsd : slot v n = ((bk v (3 + (n - 1) / 2)).drop ((n - 1) % 2 * 64)).take 64 := rfl
  have HP := fun w hr => iplace_ok A c v n _ _ w hr hv h1 h2 rfl rfl
  have ho : (n - 1) % 2 * 64 ≤ 64 := by omega
  rw [inoV]
  generalize slot v n = s at *
  generalize (n - 1) % 2 * 64 = o at *
  generalize 3 + (n - 1) / 2 = B at *
  have HR := hr
  obtain ⟨bA, oA, rfl, hbA, hc⟩ := hr.open_ (by omega)
  have hcB := hc B hl
  have HC := Lib.hid hc
  have HS := Lib.hid hsd
  have HPl := Lib.hid HP
  have HRR := Lib.hid HR
  clear hr hc hv hsd HP HR
  go_enter Try.func32, Try.ntmps32
  go_wp2_with (first
    | (go_at_call 72; refine (HPl.out _ (HRR.out.below ((Below.refl _ _).alloc (Nat.le_refl _) _))).mono ?_; rintro e w1 ⟨rfl, hb1⟩; have hb2 := below_keep ((Below.refl _ w).alloc (Nat.le_refl _) _) (Nat.le_refl _) hb1; have d1 := cell_keep hcB hb2; have q1 := blk_keep (blk_new w _) hb1)
    | (go_at_call 73; refine (iof_as _ s _ HS.out.symm hs).mono ?_; rintro e w2 ⟨rfl, hb3⟩; have q2 := blk_keep q1 hb3; obtain ⟨c0, c1, c2, c3, c4, c5, c6, c7, c8, c9, c10, c11⟩ := cells12 q2; obtain ⟨f0, f1, f2, f3, f4, f5, f6, f7, f8, f9, f10, f11⟩ := frees12 q2; have Q2 := Lib.hid q2; clear q1 q2))
  have hbf := blk_set12 (b0 := .int .i64 0) (a0 := .int .i64 (((inoOf s).kind : Nat) : Int)) (a1 := .int .i64 (((inoOf s).links : Nat) : Int)) (a2 := .int .i64 (((inoOf s).owner : Nat) : Int)) (a3 := .int .i64 (((inoOf s).size : Nat) : Int)) (a4 := .int .i64 (((inoOf s).d0 : Nat) : Int)) (a5 := .int .i64 (((inoOf s).d1 : Nat) : Int)) (a6 := .int .i64 (((inoOf s).d2 : Nat) : Int)) (a7 := .int .i64 (((inoOf s).d3 : Nat) : Int)) (a8 := .int .i64 (((inoOf s).d4 : Nat) : Int)) (a9 := .int .i64 (((inoOf s).d5 : Nat) : Int)) (a10 := .int .i64 (((inoOf s).ind : Nat) : Int)) (a11 := .int .i64 (((inoOf s).ext : Nat) : Int)) Q2.out
  obtain ⟨r0, r1, r2, r3, r4, r5, r6, r7, r8, r9, r10, r11⟩ := cells12 hbf
  refine bodyPost_ret (v := .tuple #[.agg #[.int .i64 (((inoOf s).kind : Nat) : Int), .int .i64 (((inoOf s).links : Nat) : Int), .int .i64 (((inoOf s).owner : Nat) : Int), .int .i64 (((inoOf s).size : Nat) : Int), .int .i64 (((inoOf s).d0 : Nat) : Int), .int .i64 (((inoOf s).d1 : Nat) : Int), .int .i64 (((inoOf s).d2 : Nat) : Int), .int .i64 (((inoOf s).d3 : Nat) : Int), .int .i64 (((inoOf s).d4 : Nat) : Int), .int .i64 (((inoOf s).d5 : Nat) : Int), .int .i64 (((inoOf s).ind : Nat) : Int), .int .i64 (((inoOf s).ext : Nat) : Int)], .int .i64 0]) (by simp [results, Try.results32, go_sem, r0, r1, r2, r3, r4, r5, r6, r7, r8, r9, r10, r11]) rfl ⟨rfl, ?_⟩
  exact below_set12 (below_keep hb2 (Nat.le_refl _) hb3) (Nat.le_refl _)

set_option maxHeartbeats 1000000 in
theorem iget_no (A : Option Addr) (c : Nat) (v : Vol) (n : Int) (w : World) (hr : RS w A v) (h : getE v n ≠ 0) :
    Calls Try.prog 32 #[.slice A v.length c, .int .i64 n] w fun e w' => e = .returned (.tuple #[.agg #[.int .i64 ((noIno.kind : Nat) : Int), .int .i64 ((noIno.links : Nat) : Int), .int .i64 ((noIno.owner : Nat) : Int), .int .i64 ((noIno.size : Nat) : Int), .int .i64 ((noIno.d0 : Nat) : Int), .int .i64 ((noIno.d1 : Nat) : Int), .int .i64 ((noIno.d2 : Nat) : Int), .int .i64 ((noIno.d3 : Nat) : Int), .int .i64 ((noIno.d4 : Nat) : Int), .int .i64 ((noIno.d5 : Nat) : Int), .int .i64 ((noIno.ind : Nat) : Int), .int .i64 ((noIno.ext : Nat) : Int)], .int .i64 (getE v n)]) ∧ Below w.heap.size w w' := by
  have HP := fun w hr => iplace_no A c v n w hr h
  generalize getE v n = er at *
  have hb : (er == 0) = false := by simpa using h
  have hbn : (er != 0) = true := by simpa using h
  have HPl := Lib.hid HP
  have HRR := Lib.hid hr
  clear HP hr
  go_enter Try.func32, Try.ntmps32
  go_wp2_with (go_at_call 72; refine (HPl.out _ (HRR.out.below ((Below.refl _ _).alloc (Nat.le_refl _) _))).mono ?_; rintro e w1 ⟨rfl, hb1⟩; have hb2 := below_keep ((Below.refl _ w).alloc (Nat.le_refl _) _) (Nat.le_refl _) hb1; have q1 := blk_keep (blk_new w _) hb1; obtain ⟨c0, c1, c2, c3, c4, c5, c6, c7, c8, c9, c10, c11⟩ := cells12 q1; obtain ⟨f0, f1, f2, f3, f4, f5, f6, f7, f8, f9, f10, f11⟩ := frees12 q1; have Q1 := Lib.hid q1; clear q1)
  have hbf := blk_set12 (b0 := .int .i64 0) (a0 := .int .i64 0) (a1 := .int .i64 0) (a2 := .int .i64 0) (a3 := .int .i64 0) (a4 := .int .i64 0) (a5 := .int .i64 0) (a6 := .int .i64 0) (a7 := .int .i64 0) (a8 := .int .i64 0) (a9 := .int .i64 0) (a10 := .int .i64 0) (a11 := .int .i64 0) Q1.out
  obtain ⟨r0, r1, r2, r3, r4, r5, r6, r7, r8, r9, r10, r11⟩ := cells12 hbf
  refine bodyPost_ret (v := .tuple #[.agg #[.int .i64 ((noIno.kind : Nat) : Int), .int .i64 ((noIno.links : Nat) : Int), .int .i64 ((noIno.owner : Nat) : Int), .int .i64 ((noIno.size : Nat) : Int), .int .i64 ((noIno.d0 : Nat) : Int), .int .i64 ((noIno.d1 : Nat) : Int), .int .i64 ((noIno.d2 : Nat) : Int), .int .i64 ((noIno.d3 : Nat) : Int), .int .i64 ((noIno.d4 : Nat) : Int), .int .i64 ((noIno.d5 : Nat) : Int), .int .i64 ((noIno.ind : Nat) : Int), .int .i64 ((noIno.ext : Nat) : Int)], .int .i64 er]) (by simp [results, Try.results32, go_sem, r0, r1, r2, r3, r4, r5, r6, r7, r8, r9, r10, r11, noIno]) rfl ⟨rfl, ?_⟩
  exact below_set12 hb2 (Nat.le_refl _)
end Go.Proofs.Ytacdohlhalnioaa

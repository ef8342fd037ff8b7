/- Joined: XI4 XI5 XI6 XI7 XE1 XE2 XE3 XE4. -/
import Derived.Test.YtacdohlhalnioaaJ2
import Derived.Test.YtacdohlhalnioaaJ3
import Derived.OwnWalk
import Derived.Test.YtacdohlhalnioaaJ1
import Derived.BigQuiet
/- Contracts: where an inode stands, and the inode itself (the program's). -/
section
set_option linter.unusedSimpArgs false
set_option linter.unusedVariables false
set_option maxRecDepth 20000
namespace Go.Proofs.Ytacdohlhalnioaa
open Go.RowKit
attribute [local go_sem] Oper.semAt_some

/-- The error of an inode's number. -/
def getE (v : Vol) (n : Int) : Int := if okV v = true then (if 1 ≤ n ∧ n ≤ inosV v then 0 else 2) else 3
theorem getE_ok {v : Vol} {n : Int} (h : getE v n = 0) : okV v = true ∧ 1 ≤ n ∧ n ≤ inosV v := by
  unfold getE at h
  split at h
  · rename_i hv
    split at h
    · exact ⟨hv, by assumption⟩
    · omega
  · omega
theorem getE_is {v : Vol} {n : Int} (hv : okV v = true) (h1 : 1 ≤ n) (h2 : n ≤ inosV v) : getE v n = 0 := by rw [getE, if_pos hv, if_pos ⟨h1, h2⟩]
theorem getE_lt {v : Vol} {n : Int} (hv : okV v = true) (h : ¬ (1 ≤ n ∧ n ≤ inosV v)) : getE v n = 2 := by rw [getE, if_pos hv, if_neg h]
theorem getE_bad {v : Vol} {n : Int} (hv : okV v = false) : getE v n = 3 := by rw [getE, if_neg (by rw [hv]; simp)]

theorem ret_tup3 {k : IntKind} {a b c a' b' c' : Int} (h1 : a = a') (h2 : b = b') (h3 : c = c') : Ending.returned (.tuple #[.int k a, .int k b, .int k c]) = .returned (.tuple #[.int k a', .int k b', .int k c']) := by rw [h1, h2, h3]
set_option maxHeartbeats 1000000 in
theorem iplace_ok (A : Option Addr) (c : Nat) (v : Vol) (n B o : Nat) (w : World) (hr : RS w A v) (hv : okV v = true) (h1 : 1 ≤ n) (h2 : n ≤ inosV v) (hB : B = 3 + (n - 1) / 2) (ho : o = (n - 1) % 2 * 64) :
    Calls Try.prog 72 #[.slice A v.length c, .int .i64 n] w fun e w' => e = .returned (.tuple #[.int .i64 (B : Int), .int .i64 (o : Int), .int .i64 0]) ∧ Below w.heap.size w w' := by
  have HV := Lib.hid hv
  have hi := (okV_iff.1 hv).ihi
  clear hv
  go_enter Try.func72, Try.ntmps72
  go_wp2_with (go_at_call 71; refine (of_ok _ _ _ _ hr HV.out).mono ?_; rintro e w1 ⟨rfl, hb1⟩)
  have hb2 : Below w.heap.size w (w1.alloc (.cells #[.int .i64 v.length, .int .i64 (inosV v), .int .i64 1, .int .i64 2, .int .i64 3, .int .i64 (3 + ((inosV v : Nat) + 1 : Int) / 2)] 66)) := hb1.alloc hb1.size _
  obtain ⟨g0, g1, g2, g3, g4, g5⟩ := cells6 (blk_new w1 (.cells #[.int .i64 v.length, .int .i64 (inosV v), .int .i64 1, .int .i64 2, .int .i64 3, .int .i64 (3 + ((inosV v : Nat) + 1 : Int) / 2)] 66))
  generalize w1.alloc (.cells #[.int .i64 v.length, .int .i64 (inosV v), .int .i64 1, .int .i64 2, .int .i64 3, .int .i64 (3 + ((inosV v : Nat) + 1 : Int) / 2)] 66) = W0 at *
  go_wp2
  go_ret3
  refine ⟨?_, hb2⟩
  exact ret_tup3 (by omega) (by omega) rfl

set_option maxHeartbeats 1000000 in
theorem iplace_no (A : Option Addr) (c : Nat) (v : Vol) (n : Int) (w : World) (hr : RS w A v) (h : getE v n ≠ 0) :
    Calls Try.prog 72 #[.slice A v.length c, .int .i64 n] w fun e w' => e = .returned (.tuple #[.int .i64 0, .int .i64 0, .int .i64 (getE v n)]) ∧ Below w.heap.size w w' := by
  by_cases hv : okV v = true
  · have hi := (okV_iff.1 hv).ihi
    have hn : ¬ (1 ≤ n ∧ n ≤ inosV v) := fun hn => h (getE_is hv hn.1 hn.2)
    rw [getE_lt hv hn]
    have HV := Lib.hid hv
    clear hv h
    have hsplit : n < 1 ∨ (1 ≤ n ∧ (inosV v : Int) < n) := by omega
    clear hn
    rcases hsplit with hn2 | ⟨hn1, hn2⟩
    all_goals
      go_enter Try.func72, Try.ntmps72
      go_wp2_with (go_at_call 71; refine (of_ok _ _ _ _ hr HV.out).mono ?_; rintro e w1 ⟨rfl, hb1⟩)
      go_ret3
      exact ⟨rfl, hb1.alloc hb1.size _⟩
  · have hv' : okV v = false := by simpa using hv
    rw [getE_bad hv']
    clear h hv
    go_enter Try.func72, Try.ntmps72
    go_wp2_with (go_at_call 71; refine (of_no _ _ _ _ hr hv').mono ?_; rintro e w1 ⟨rfl, hb1⟩)
    go_ret3
    exact ⟨rfl, hb1.alloc hb1.size _⟩

/-- The 64 bytes of an inode. -/
def slot (v : Vol) (n : Nat) : Blk := ((bk v (3 + (n - 1) / 2)).drop ((n - 1) % 2 * 64)).take 64
def inoV (v : Vol) (n : Nat) : Ino := inoOf (slot v n)
theorem slot_facts {v : Vol} {n : Nat} (hv : okV v = true) (h1 : 1 ≤ n) (h2 : n ≤ inosV v) : 3 + (n - 1) / 2 < v.length ∧ (bk v (3 + (n - 1) / 2)).length = 128 ∧ (slot v n).length = 64 := by
  have H := okV_iff.1 hv
  have := H.data
  have hl : 3 + (n - 1) / 2 < v.length := by omega
  have h128 := H.size _ hl
  refine ⟨hl, h128, ?_⟩
  simp only [slot, List.length_take, List.length_drop, h128]
  omega
theorem xcells12 (x : Ino) : xcells x.list = #[.int .i64 ((x.kind : Nat) : Int), .int .i64 ((x.links : Nat) : Int), .int .i64 ((x.owner : Nat) : Int), .int .i64 ((x.size : Nat) : Int), .int .i64 ((x.d0 : Nat) : Int), .int .i64 ((x.d1 : Nat) : Int), .int .i64 ((x.d2 : Nat) : Int), .int .i64 ((x.d3 : Nat) : Int), .int .i64 ((x.d4 : Nat) : Int), .int .i64 ((x.d5 : Nat) : Int), .int .i64 ((x.ind : Nat) : Int), .int .i64 ((x.ext : Nat) : Int)] := rfl
def noIno : Ino := ⟨0, 0, 0, 0, 0, 0, 0, 0, 0, 0, 0, 0⟩

theorem iof_as (t s : Blk) (w : World) (ht : t = s) (hs : s.length = 64) :
    Calls Try.prog 73 #[.string (mk t)] w fun e w' => e = .returned (.agg #[.int .i64 (((inoOf s).kind : Nat) : Int), .int .i64 (((inoOf s).links : Nat) : Int), .int .i64 (((inoOf s).owner : Nat) : Int), .int .i64 (((inoOf s).size : Nat) : Int), .int .i64 (((inoOf s).d0 : Nat) : Int), .int .i64 (((inoOf s).d1 : Nat) : Int), .int .i64 (((inoOf s).d2 : Nat) : Int), .int .i64 (((inoOf s).d3 : Nat) : Int), .int .i64 (((inoOf s).d4 : Nat) : Int), .int .i64 (((inoOf s).d5 : Nat) : Int), .int .i64 (((inoOf s).ind : Nat) : Int), .int .i64 (((inoOf s).ext : Nat) : Int)]) ∧ Below w.heap.size w w' := by
  subst ht
  exact iof_ok t w hs
set_option maxHeartbeats 1000000 in
theorem iget_ok (A : Option Addr) (c : Nat) (v : Vol) (n : Nat) (w : World) (hr : RS w A v) (hv : okV v = true) (h1 : 1 ≤ n) (h2 : n ≤ inosV v) :
    Calls Try.prog 32 #[.slice A v.length c, .int .i64 n] w fun e w' => e = .returned (.tuple #[.agg #[.int .i64 (((inoV v n).kind : Nat) : Int), .int .i64 (((inoV v n).links : Nat) : Int), .int .i64 (((inoV v n).owner : Nat) : Int), .int .i64 (((inoV v n).size : Nat) : Int), .int .i64 (((inoV v n).d0 : Nat) : Int), .int .i64 (((inoV v n).d1 : Nat) : Int), .int .i64 (((inoV v n).d2 : Nat) : Int), .int .i64 (((inoV v n).d3 : Nat) : Int), .int .i64 (((inoV v n).d4 : Nat) : Int), .int .i64 (((inoV v n).d5 : Nat) : Int), .int .i64 (((inoV v n).ind : Nat) : Int), .int .i64 (((inoV v n).ext : Nat) : Int)], .int .i64 0]) ∧ Below w.heap.size w w' := by
  obtain ⟨hl, h128, hs⟩ := slot_facts hv h1 h2
  have hsd : slot v n = ((bk v (3 + (n - 1) / 2)).drop ((n - 1) % 2 * 64)).take 64 := rfl
  have HP := fun w hr => iplace_ok A c v n _ _ w hr hv h1 h2 rfl rfl
  have ho : (n - 1) % 2 * 64 ≤ 64 := by omega
  rw [inoV]
  generalize slot v n = s at *
  generalize (n - 1) % 2 * 64 = o at *
  generalize 3 + (n - 1) / 2 = B at *
  have HR := hr
  obtain ⟨bA, oA, rfl, hbA, hc⟩ := hr.open_ (by omega)
  have hcB := hc B hl
  have HC := Lib.hid hc
  have HS := Lib.hid hsd
  have HPl := Lib.hid HP
  have HRR := Lib.hid HR
  clear hr hc hv hsd HP HR
  go_enter Try.func32, Try.ntmps32
  go_wp2_with (first
    | (go_at_call 72; refine (HPl.out _ (HRR.out.below ((Below.refl _ _).alloc (Nat.le_refl _) _))).mono ?_; rintro e w1 ⟨rfl, hb1⟩; have hb2 := below_keep ((Below.refl _ w).alloc (Nat.le_refl _) _) (Nat.le_refl _) hb1; have d1 := cell_keep hcB hb2; have q1 := blk_keep (blk_new w _) hb1)
    | (go_at_call 73; refine (iof_as _ s _ HS.out.symm hs).mono ?_; rintro e w2 ⟨rfl, hb3⟩; have q2 := blk_keep q1 hb3; obtain ⟨c0, c1, c2, c3, c4, c5, c6, c7, c8, c9, c10, c11⟩ := cells12 q2; obtain ⟨f0, f1, f2, f3, f4, f5, f6, f7, f8, f9, f10, f11⟩ := frees12 q2; have Q2 := Lib.hid q2; clear q1 q2))
  have hbf := blk_set12 (b0 := .int .i64 0) (a0 := .int .i64 (((inoOf s).kind : Nat) : Int)) (a1 := .int .i64 (((inoOf s).links : Nat) : Int)) (a2 := .int .i64 (((inoOf s).owner : Nat) : Int)) (a3 := .int .i64 (((inoOf s).size : Nat) : Int)) (a4 := .int .i64 (((inoOf s).d0 : Nat) : Int)) (a5 := .int .i64 (((inoOf s).d1 : Nat) : Int)) (a6 := .int .i64 (((inoOf s).d2 : Nat) : Int)) (a7 := .int .i64 (((inoOf s).d3 : Nat) : Int)) (a8 := .int .i64 (((inoOf s).d4 : Nat) : Int)) (a9 := .int .i64 (((inoOf s).d5 : Nat) : Int)) (a10 := .int .i64 (((inoOf s).ind : Nat) : Int)) (a11 := .int .i64 (((inoOf s).ext : Nat) : Int)) Q2.out
  obtain ⟨r0, r1, r2, r3, r4, r5, r6, r7, r8, r9, r10, r11⟩ := cells12 hbf
  refine bodyPost_ret (v := .tuple #[.agg #[.int .i64 (((inoOf s).kind : Nat) : Int), .int .i64 (((inoOf s).links : Nat) : Int), .int .i64 (((inoOf s).owner : Nat) : Int), .int .i64 (((inoOf s).size : Nat) : Int), .int .i64 (((inoOf s).d0 : Nat) : Int), .int .i64 (((inoOf s).d1 : Nat) : Int), .int .i64 (((inoOf s).d2 : Nat) : Int), .int .i64 (((inoOf s).d3 : Nat) : Int), .int .i64 (((inoOf s).d4 : Nat) : Int), .int .i64 (((inoOf s).d5 : Nat) : Int), .int .i64 (((inoOf s).ind : Nat) : Int), .int .i64 (((inoOf s).ext : Nat) : Int)], .int .i64 0]) (by simp [results, Try.results32, go_sem, r0, r1, r2, r3, r4, r5, r6, r7, r8, r9, r10, r11]) rfl ⟨rfl, ?_⟩
  exact below_set12 (below_keep hb2 (Nat.le_refl _) hb3) (Nat.le_refl _)

set_option maxHeartbeats 1000000 in
theorem iget_no (A : Option Addr) (c : Nat) (v : Vol) (n : Int) (w : World) (hr : RS w A v) (h : getE v n ≠ 0) :
    Calls Try.prog 32 #[.slice A v.length c, .int .i64 n] w fun e w' => e = .returned (.tuple #[.agg #[.int .i64 ((noIno.kind : Nat) : Int), .int .i64 ((noIno.links : Nat) : Int), .int .i64 ((noIno.owner : Nat) : Int), .int .i64 ((noIno.size : Nat) : Int), .int .i64 ((noIno.d0 : Nat) : Int), .int .i64 ((noIno.d1 : Nat) : Int), .int .i64 ((noIno.d2 : Nat) : Int), .int .i64 ((noIno.d3 : Nat) : Int), .int .i64 ((noIno.d4 : Nat) : Int), .int .i64 ((noIno.d5 : Nat) : Int), .int .i64 ((noIno.ind : Nat) : Int), .int .i64 ((noIno.ext : Nat) : Int)], .int .i64 (getE v n)]) ∧ Below w.heap.size w w' := by
  have HP := fun w hr => iplace_no A c v n w hr h
  generalize getE v n = er at *
  have hb : (er == 0) = false := by simpa using h
  have hbn : (er != 0) = true := by simpa using h
  have HPl := Lib.hid HP
  have HRR := Lib.hid hr
  clear HP hr
  go_enter Try.func32, Try.ntmps32
  go_wp2_with (go_at_call 72; refine (HPl.out _ (HRR.out.below ((Below.refl _ _).alloc (Nat.le_refl _) _))).mono ?_; rintro e w1 ⟨rfl, hb1⟩; have hb2 := below_keep ((Below.refl _ w).alloc (Nat.le_refl _) _) (Nat.le_refl _) hb1; have q1 := blk_keep (blk_new w _) hb1; obtain ⟨c0, c1, c2, c3, c4, c5, c6, c7, c8, c9, c10, c11⟩ := cells12 q1; obtain ⟨f0, f1, f2, f3, f4, f5, f6, f7, f8, f9, f10, f11⟩ := frees12 q1; have Q1 := Lib.hid q1; clear q1)
  have hbf := blk_set12 (b0 := .int .i64 0) (a0 := .int .i64 0) (a1 := .int .i64 0) (a2 := .int .i64 0) (a3 := .int .i64 0) (a4 := .int .i64 0) (a5 := .int .i64 0) (a6 := .int .i64 0) (a7 := .int .i64 0) (a8 := .int .i64 0) (a9 := .int .i64 0) (a10 := .int .i64 0) (a11 := .int .i64 0) Q1.out
  obtain ⟨r0, r1, r2, r3, r4, r5, r6, r7, r8, r9, r10, r11⟩ := cells12 hbf
  refine bodyPost_ret (v := .tuple #[.agg #[.int .i64 ((noIno.kind : Nat) : Int), .int .i64 ((noIno.links : Nat) : Int), .int .i64 ((noIno.owner : Nat) : Int), .int .i64 ((noIno.size : Nat) : Int), .int .i64 ((noIno.d0 : Nat) : Int), .int .i64 ((noIno.d1 : Nat) : Int), .int .i64 ((noIno.d2 : Nat) : Int), .int .i64 ((noIno.d3 : Nat) : Int), .int .i64 ((noIno.d4 : Nat) : Int), .int .i64 ((noIno.d5 : Nat) : Int), .int .i64 ((noIno.ind : Nat) : Int), .int .i64 ((noIno.ext : Nat) : Int)], .int .i64 er]) (by simp [results, Try.results32, go_sem, r0, r1, r2, r3, r4, r5, r6, r7, r8, r9, r10, r11, noIno]) rfl ⟨rfl, ?_⟩
  exact below_set12 hb2 (Nat.le_refl _)
end Go.Proofs.Ytacdohlhalnioaa
end

/- Whether an inode fits: it does (the program's). -/
section
set_option linter.unusedSimpArgs false
set_option linter.unusedVariables false
set_option maxRecDepth 20000
namespace Go.Proofs.Ytacdohlhalnioaa
open Go.RowKit Go.Shelf
attribute [local go_sem] Oper.semAt_some

/-- All numbers of an inode fit. -/
def fitI (x : Ino) : Prop := ∀ k : Fin 12, x.list.getD (foff k) 0 < 256 ^ fsz k
theorem fsz_is (k : Nat) : fsz k = 1 ∨ fsz k = 2 ∨ fsz k = 4 := by unfold fsz; split <;> (try split) <;> omega
theorem fitI.small {x : Ino} (h : fitI x) : small4 x := by
  intro k
  refine Nat.lt_of_lt_of_le (h k) ?_
  rcases fsz_is k with e | e | e <;> rw [e] <;> omega

set_option maxHeartbeats 4000000 in
theorem fits_ok (x : Ino) (w : World) (hs : fitI x) :
    Calls Try.prog 108 #[.agg #[.int .i64 ((x.kind : Nat) : Int), .int .i64 ((x.links : Nat) : Int), .int .i64 ((x.owner : Nat) : Int), .int .i64 ((x.size : Nat) : Int), .int .i64 ((x.d0 : Nat) : Int), .int .i64 ((x.d1 : Nat) : Int), .int .i64 ((x.d2 : Nat) : Int), .int .i64 ((x.d3 : Nat) : Int), .int .i64 ((x.d4 : Nat) : Int), .int .i64 ((x.d5 : Nat) : Int), .int .i64 ((x.ind : Nat) : Int), .int .i64 ((x.ext : Nat) : Int)]] w fun e w' => e = .returned (.bool true) ∧ Below w.heap.size w w' := by
  refine callsIn_wide.1 (callsIn_of_wp_marks (n := 3) Try.func108 rfl trivial (wpIn_wide.2 ?_) rfl)
  simp only [Try.ntmps108, List.size_toArray, List.length_cons, List.length_nil, Nat.reduceAdd, Nat.reduceSub, Array.replicate_succ, Array.replicate_zero, List.push_toArray, List.append_toArray, List.nil_append, List.cons_append]
  go_wp2_with (go_at_call 107; refine (fields_ok w.heap.size _).mono ?_; rintro e w' ⟨rfl, rfl⟩)
  obtain ⟨W0, hW0⟩ : ∃ W0, ((w.alloc (.cells (xcells x.list) 45)).alloc (.cells #[.bool false] 4)).alloc (.cells #[.pointer (some ⟨w.heap.size, 0, none⟩)] 134) = W0 := ⟨_, rfl⟩
  obtain ⟨k0, k1, k2, hsz, hB0⟩ := alloc3 _ _ _ _ _ hW0
  simp only [xcells, Ino.list, List.map] at hW0
  rw [hW0]
  clear hW0
  have HX := Lib.hid hs
  clear hs
  refine wp_rangeFunc (α := Fin 12) (gf := 128) (lb := #[.pointer (some ⟨w.heap.size + 2, 0, none⟩)]) rfl (enters_of Try.func128 (by kernel_rfl) rfl)
    (fields_stops 2 w.heap.size (w.heap.size + 2) (fun k => False) W0 (by rw [cell_at k2]; rfl) (by intro k hk; exact hk.elim)) (fun _ => rfl)
    (fun pre W => W.heap[w.heap.size]? = some (.cells (xcells x.list) 45 (0, 0)) ∧ W.heap[w.heap.size + 1]? = some (.cells #[.bool false] 4 (0, 0)) ∧ Below w.heap.size w W)
    (fun _ _ _ => False)
    ?own (fun _ _ _ _ _ hs _ _ => hs) ⟨k0, k1, hB0⟩
    (fun k => { tmps := #[.agg #[.int .i64 ((x.kind : Nat) : Int), .int .i64 ((x.links : Nat) : Int), .int .i64 ((x.owner : Nat) : Int), .int .i64 ((x.size : Nat) : Int), .int .i64 ((x.d0 : Nat) : Int), .int .i64 ((x.d1 : Nat) : Int), .int .i64 ((x.d2 : Nat) : Int), .int .i64 ((x.d3 : Nat) : Int), .int .i64 ((x.d4 : Nat) : Int), .int .i64 ((x.d5 : Nat) : Int), .int .i64 ((x.ind : Nat) : Int), .int .i64 ((x.ext : Nat) : Int)], .pointer (some ⟨w.heap.size, 0, none⟩), .pointer (some ⟨w.heap.size + 1, 0, none⟩), .pointer (some ⟨w.heap.size, foff k, none⟩), .int .i64 (fsz k : Nat), .func (.func 128) #[] #[.pointer (some ⟨w.heap.size + 2, 0, none⟩)], .pointer (some ⟨w.heap.size, foff k, none⟩), .int .i64 (fsz k : Nat), undef, undef, undef, undef, undef, undef, undef, undef, undef, undef, undef, undef, undef, undef, undef], defers := [] }) ?assign ?body ?done ?stop
  case own =>
    intro pre A B row hs hg hr
    obtain ⟨h1, h2, h4⟩ := hs
    have hr' : ∀ r, row = some r → ∃ o : Obj, A.heap[r]? = some o ∧ o.isCells = false := fun r e => (hr r e).2
    exact ⟨cells_grown h1 hg hr', cells_grown h2 hg hr', h4.grown hg (by have := (Array.getElem?_eq_some_iff.1 h1).1; omega) (fun r e => by have := (hr r e).1; omega)⟩
  case assign =>
    intro l k W K hK
    gi_wp2
    exact hK
  case body =>
    rintro l pre k W ⟨h1, h2, hB⟩ hlen
    have hof := foff_lt k
    have hfb : x.list.getD (foff k) 0 < 256 ^ fsz k := HX.out k
    have hcx : W.cell? ⟨w.heap.size, foff k, none⟩ = some (.int .i64 ((x.list.getD (foff k) 0 : Nat) : Int)) := by
      rw [cell_at h1, xcells_get _ _ (by rw [Ino.list_len]; exact hof)]
    have hwr := wrap_u64 (x.list.getD (foff k) 0) (HX.out.small k)
    have H1 := Lib.hid h1
    have H2 := Lib.hid h2
    clear h1 h2
    generalize x.list.getD (foff k) 0 = fv at *
    have hf0 : (0 : Int) ≤ (fv : Int) := by omega
    have a1 : IntKind.i64.wrap (32 - IntKind.i64.wrap 8) = 24 := rfl
    have a2 : IntKind.i64.wrap (32 - IntKind.i64.wrap 16) = 16 := rfl
    have a4 : IntKind.i64.wrap (32 - IntKind.i64.wrap 32) = 0 := rfl
    have b1 : Op.shift BinOp.shr IntKind.u64 4294967295 IntKind.i64 24 = pure (.int .u64 255) := by rw [shift_shr_any _ _ _ _ (by decide)]; rfl
    have b2 : Op.shift BinOp.shr IntKind.u64 4294967295 IntKind.i64 16 = pure (.int .u64 65535) := by rw [shift_shr_any _ _ _ _ (by decide)]; rfl
    have b4 : Op.shift BinOp.shr IntKind.u64 4294967295 IntKind.i64 0 = pure (.int .u64 4294967295) := by rw [shift_shr_any _ _ _ _ (by decide)]; rfl
    rcases fsz_is k with e | e | e
    · rw [e] at hfb ⊢
      simp only [Nat.reducePow] at hfb
      have hg1 : ¬ ((255 : Int) < (fv : Int) ∧ fsz k = 1) := by omega
      have hg2 : fsz k = 1 → (fv : Int) ≤ 255 := by omega
      have hg3 : fsz k = 2 → (fv : Int) ≤ 65535 := by omega
      have hg4 : (fv : Int) ≤ 4294967295 := by omega
      clear hg1
      try have hg5 := hg2 e
      try have hg6 := hg3 e
      clear hg2 hg3
      gi_wp2
      refine region_P_in_round (fun w' => w'.cell? ⟨w.heap.size, foff k, none⟩ = some (.int .i64 (fv : Int))) [] (by kernel_rfl) (by kernel_rfl) (fun _ _ h => h) ?_ (fun hHeld => ?_)
      · exact (by simp [hcx])
      refine wpP_take (i := 0) (oi := ?oi745001) (v := ?v745001) ?hi745001 (by kernel_rfl) (by kernel_rfl) (by kernel_rfl) (by kernel_rfl) ?hQ745001 ?hy745001 (by assumption) ?rest745001
      case hi745001 => (simp only [List.getElem?_toArray, List.getElem?_cons_succ, List.getElem?_cons_zero]; exact rfl)
      case hQ745001 => exact fun _ _ _ h => h
      case hy745001 => (refine Or.inl ⟨by kernel_rfl, ?_⟩; intro w hSw; (try dsimp only at hSw); go_simp; try (with_reducible rfl))
      try simp only [Act.put, List.setIfInBounds_toArray, List.set_cons_zero, List.set_cons_succ]
      refine wpP_take (i := 1) (oi := ?oi745002) (v := ?v745002) ?hi745002 (by kernel_rfl) (by kernel_rfl) (by kernel_rfl) (by kernel_rfl) ?hQ745002 ?hy745002 (by assumption) ?rest745002
      case hi745002 => (simp only [List.getElem?_toArray, List.getElem?_cons_succ, List.getElem?_cons_zero]; exact rfl)
      case hQ745002 => exact fun _ _ _ h => h
      case hy745002 => (refine Or.inl ⟨by kernel_rfl, ?_⟩; intro w hSw; (try dsimp only at hSw); go_simp; try (with_reducible rfl))
      try simp only [Act.put, List.setIfInBounds_toArray, List.set_cons_zero, List.set_cons_succ]
      refine wpP_take (i := 2) (oi := ?oi745003) (v := ?v745003) ?hi745003 (by kernel_rfl) (by kernel_rfl) (by kernel_rfl) (by kernel_rfl) ?hQ745003 ?hy745003 (by assumption) ?rest745003
      case hi745003 => (simp only [List.getElem?_toArray, List.getElem?_cons_succ, List.getElem?_cons_zero]; exact rfl)
      case hQ745003 => exact fun _ _ _ h => h
      case hy745003 => (refine Or.inl ⟨by kernel_rfl, ?_⟩; intro w hSw; (try dsimp only at hSw); go_simp; try (with_reducible rfl))
      try simp only [Act.put, List.setIfInBounds_toArray, List.set_cons_zero, List.set_cons_succ]
      refine wpP_take (i := 3) (oi := ?oi745004) (v := ?v745004) ?hi745004 (by kernel_rfl) (by kernel_rfl) (by kernel_rfl) (by kernel_rfl) ?hQ745004 ?hy745004 (by assumption) ?rest745004
      case hi745004 => (simp only [List.getElem?_toArray, List.getElem?_cons_succ, List.getElem?_cons_zero]; exact rfl)
      case hQ745004 => exact fun _ _ _ h => h
      case hy745004 => (refine Or.inl ⟨by kernel_rfl, ?_⟩; intro w hSw; (try dsimp only at hSw); go_simp; try (with_reducible rfl))
      try simp only [Act.put, List.setIfInBounds_toArray, List.set_cons_zero, List.set_cons_succ]
      refine wpP_take (i := 4) (oi := ?oi745005) (v := ?v745005) ?hi745005 (by kernel_rfl) (by kernel_rfl) (by kernel_rfl) (by kernel_rfl) ?hQ745005 ?hy745005 (by assumption) ?rest745005
      case hi745005 => (simp only [List.getElem?_toArray, List.getElem?_cons_succ, List.getElem?_cons_zero]; exact rfl)
      case hQ745005 => exact fun _ _ _ h => h
      case hy745005 => (refine Or.inl ⟨by kernel_rfl, ?_⟩; intro w hSw; (try dsimp only at hSw); go_simp; try (with_reducible rfl))
      try simp only [Act.put, List.setIfInBounds_toArray, List.set_cons_zero, List.set_cons_succ]
      refine wpP_take (i := 5) (oi := ?oi745006) (v := ?v745006) ?hi745006 (by kernel_rfl) (by kernel_rfl) (by kernel_rfl) (by kernel_rfl) ?hQ745006 ?hy745006 (by assumption) ?rest745006
      case hi745006 => (simp only [List.getElem?_toArray, List.getElem?_cons_succ, List.getElem?_cons_zero]; exact rfl)
      case hQ745006 => exact fun _ _ _ h => h
      case hy745006 => (refine Or.inl ⟨by kernel_rfl, ?_⟩; intro w hSw; (try dsimp only at hSw); go_simp; try (with_reducible rfl))
      try simp only [Act.put, List.setIfInBounds_toArray, List.set_cons_zero, List.set_cons_succ]
      refine wpP_take (i := 6) (oi := ?oi745007) (v := ?v745007) ?hi745007 (by kernel_rfl) (by kernel_rfl) (by kernel_rfl) (by kernel_rfl) ?hQ745007 ?hy745007 (by assumption) ?rest745007
      case hi745007 => (simp only [List.getElem?_toArray, List.getElem?_cons_succ, List.getElem?_cons_zero]; exact rfl)
      case hQ745007 => exact fun _ _ _ h => h
      case hy745007 => (refine Or.inl ⟨by kernel_rfl, ?_⟩; intro w hSw; (try dsimp only at hSw); go_simp; try (with_reducible rfl))
      try simp only [Act.put, List.setIfInBounds_toArray, List.set_cons_zero, List.set_cons_succ]
      refine wpP_take (i := 7) (oi := ?oi745008) (v := ?v745008) ?hi745008 (by kernel_rfl) (by kernel_rfl) (by kernel_rfl) (by kernel_rfl) ?hQ745008 ?hy745008 (by assumption) ?rest745008
      case hi745008 => (simp only [List.getElem?_toArray, List.getElem?_cons_succ, List.getElem?_cons_zero]; exact rfl)
      case hQ745008 => exact fun _ _ _ h => h
      case hy745008 => (refine Or.inl ⟨by kernel_rfl, ?_⟩; intro w hSw; (try dsimp only at hSw); go_simp; try (with_reducible rfl))
      try simp only [Act.put, List.setIfInBounds_toArray, List.set_cons_zero, List.set_cons_succ]
      refine wpP_take (i := 8) (oi := ?oi745009) (v := ?v745009) ?hi745009 (by kernel_rfl) (by kernel_rfl) (by kernel_rfl) (by kernel_rfl) ?hQ745009 ?hy745009 (by assumption) ?rest745009
      case hi745009 => (simp only [List.getElem?_toArray, List.getElem?_cons_succ, List.getElem?_cons_zero]; exact rfl)
      case hQ745009 => exact fun _ _ _ h => h
      case hy745009 => (refine Or.inl ⟨by kernel_rfl, ?_⟩; intro w hSw; (try dsimp only at hSw); go_simp; try (with_reducible rfl))
      try simp only [Act.put, List.setIfInBounds_toArray, List.set_cons_zero, List.set_cons_succ]
      refine wpP_take (i := 9) (oi := ?oi745010) (v := ?v745010) ?hi745010 (by kernel_rfl) (by kernel_rfl) (by kernel_rfl) (by kernel_rfl) ?hQ745010 ?hy745010 (by assumption) ?rest745010
      case hi745010 => (simp only [List.getElem?_toArray, List.getElem?_cons_succ, List.getElem?_cons_zero]; exact rfl)
      case hQ745010 => exact fun _ _ _ h => h
      case hy745010 => (refine Or.inl ⟨by kernel_rfl, ?_⟩; intro w hSw; (try dsimp only at hSw); go_simp; try (with_reducible rfl))
      try simp only [Act.put, List.setIfInBounds_toArray, List.set_cons_zero, List.set_cons_succ]
      refine wpP_take (i := 10) (oi := ?oi745011) (v := ?v745011) ?hi745011 (by kernel_rfl) (by kernel_rfl) (by kernel_rfl) (by kernel_rfl) ?hQ745011 ?hy745011 (by assumption) ?rest745011
      case hi745011 => (simp only [List.getElem?_toArray, List.getElem?_cons_succ, List.getElem?_cons_zero]; exact rfl)
      case hQ745011 => exact fun _ _ _ h => h
      case hy745011 => (refine Or.inl ⟨by kernel_rfl, ?_⟩; intro w hSw; (try dsimp only at hSw); go_simp; try (with_reducible rfl))
      try simp only [Act.put, List.setIfInBounds_toArray, List.set_cons_zero, List.set_cons_succ]
      refine wpP_take (i := 11) (oi := ?oi745012) (v := ?v745012) ?hi745012 (by kernel_rfl) (by kernel_rfl) (by kernel_rfl) (by kernel_rfl) ?hQ745012 ?hy745012 (by assumption) ?rest745012
      case hi745012 => (simp only [List.getElem?_toArray, List.getElem?_cons_succ, List.getElem?_cons_zero]; exact rfl)
      case hQ745012 => exact fun _ _ _ h => h
      case hy745012 => (refine Or.inl ⟨by kernel_rfl, ?_⟩; intro w hSw; (try dsimp only at hSw); go_simp; try (with_reducible rfl))
      try simp only [Act.put, List.setIfInBounds_toArray, List.set_cons_zero, List.set_cons_succ]
      refine wpP_take (i := 12) (oi := ?oi745013) (v := ?v745013) ?hi745013 (by kernel_rfl) (by kernel_rfl) (by kernel_rfl) (by kernel_rfl) ?hQ745013 ?hy745013 (by assumption) ?rest745013
      case hi745013 => (simp only [List.getElem?_toArray, List.getElem?_cons_succ, List.getElem?_cons_zero]; exact rfl)
      case hQ745013 => exact fun _ _ _ h => h
      case hy745013 => (refine Or.inl ⟨by kernel_rfl, ?_⟩; intro w hSw; (try dsimp only at hSw); go_simp; try (with_reducible rfl))
      try simp only [Act.put, List.setIfInBounds_toArray, List.set_cons_zero, List.set_cons_succ]
      refine wpP_take (i := 13) (oi := ?oi745014) (v := ?v745014) ?hi745014 (by kernel_rfl) (by kernel_rfl) (by kernel_rfl) (by kernel_rfl) ?hQ745014 ?hy745014 (by assumption) ?rest745014
      case hi745014 => (simp only [List.getElem?_toArray, List.getElem?_cons_succ, List.getElem?_cons_zero]; exact rfl)
      case hQ745014 => exact fun _ _ _ h => h
      case hy745014 => (refine Or.inl ⟨by kernel_rfl, ?_⟩; intro w hSw; (try dsimp only at hSw); go_simp; try (with_reducible rfl))
      try simp only [Act.put, List.setIfInBounds_toArray, List.set_cons_zero, List.set_cons_succ]
      refine wpP_take (i := 14) (oi := ?oi745015) (v := ?v745015) ?hi745015 (by kernel_rfl) (by kernel_rfl) (by kernel_rfl) (by kernel_rfl) ?hQ745015 ?hy745015 (by assumption) ?rest745015
      case hi745015 => (simp only [List.getElem?_toArray, List.getElem?_cons_succ, List.getElem?_cons_zero]; exact rfl)
      case hQ745015 => exact fun _ _ _ h => h
      case hy745015 => (refine Or.inl ⟨by kernel_rfl, ?_⟩; intro w hSw; (try dsimp only at hSw); go_simp; try (with_reducible rfl))
      try simp only [Act.put, List.setIfInBounds_toArray, List.set_cons_zero, List.set_cons_succ]
      refine wpP_done (by kernel_rfl) ?_ _
      gi_wp2
      refine ⟨keeps_drew (KeepsOthers.refl _), (KpC.refl _ _).drew, H1.out, H2.out, hB.drew⟩
    · rw [e] at hfb ⊢
      simp only [Nat.reducePow] at hfb
      have hg1 : ¬ ((255 : Int) < (fv : Int) ∧ fsz k = 1) := by omega
      have hg2 : fsz k = 1 → (fv : Int) ≤ 255 := by omega
      have hg3 : fsz k = 2 → (fv : Int) ≤ 65535 := by omega
      have hg4 : (fv : Int) ≤ 4294967295 := by omega
      clear hg1
      try have hg5 := hg2 e
      try have hg6 := hg3 e
      clear hg2 hg3
      gi_wp2
      refine region_P_in_round (fun w' => w'.cell? ⟨w.heap.size, foff k, none⟩ = some (.int .i64 (fv : Int))) [] (by kernel_rfl) (by kernel_rfl) (fun _ _ h => h) ?_ (fun hHeld => ?_)
      · exact (by simp [hcx])
      refine wpP_take (i := 0) (oi := ?oi745016) (v := ?v745016) ?hi745016 (by kernel_rfl) (by kernel_rfl) (by kernel_rfl) (by kernel_rfl) ?hQ745016 ?hy745016 (by assumption) ?rest745016
      case hi745016 => (simp only [List.getElem?_toArray, List.getElem?_cons_succ, List.getElem?_cons_zero]; exact rfl)
      case hQ745016 => exact fun _ _ _ h => h
      case hy745016 => (refine Or.inl ⟨by kernel_rfl, ?_⟩; intro w hSw; (try dsimp only at hSw); go_simp; try (with_reducible rfl))
      try simp only [Act.put, List.setIfInBounds_toArray, List.set_cons_zero, List.set_cons_succ]
      refine wpP_take (i := 1) (oi := ?oi745017) (v := ?v745017) ?hi745017 (by kernel_rfl) (by kernel_rfl) (by kernel_rfl) (by kernel_rfl) ?hQ745017 ?hy745017 (by assumption) ?rest745017
      case hi745017 => (simp only [List.getElem?_toArray, List.getElem?_cons_succ, List.getElem?_cons_zero]; exact rfl)
      case hQ745017 => exact fun _ _ _ h => h
      case hy745017 => (refine Or.inl ⟨by kernel_rfl, ?_⟩; intro w hSw; (try dsimp only at hSw); go_simp; try (with_reducible rfl))
      try simp only [Act.put, List.setIfInBounds_toArray, List.set_cons_zero, List.set_cons_succ]
      refine wpP_take (i := 2) (oi := ?oi745018) (v := ?v745018) ?hi745018 (by kernel_rfl) (by kernel_rfl) (by kernel_rfl) (by kernel_rfl) ?hQ745018 ?hy745018 (by assumption) ?rest745018
      case hi745018 => (simp only [List.getElem?_toArray, List.getElem?_cons_succ, List.getElem?_cons_zero]; exact rfl)
      case hQ745018 => exact fun _ _ _ h => h
      case hy745018 => (refine Or.inl ⟨by kernel_rfl, ?_⟩; intro w hSw; (try dsimp only at hSw); go_simp; try (with_reducible rfl))
      try simp only [Act.put, List.setIfInBounds_toArray, List.set_cons_zero, List.set_cons_succ]
      refine wpP_take (i := 3) (oi := ?oi745019) (v := ?v745019) ?hi745019 (by kernel_rfl) (by kernel_rfl) (by kernel_rfl) (by kernel_rfl) ?hQ745019 ?hy745019 (by assumption) ?rest745019
      case hi745019 => (simp only [List.getElem?_toArray, List.getElem?_cons_succ, List.getElem?_cons_zero]; exact rfl)
      case hQ745019 => exact fun _ _ _ h => h
      case hy745019 => (refine Or.inl ⟨by kernel_rfl, ?_⟩; intro w hSw; (try dsimp only at hSw); go_simp; try (with_reducible rfl))
      try simp only [Act.put, List.setIfInBounds_toArray, List.set_cons_zero, List.set_cons_succ]
      refine wpP_take (i := 4) (oi := ?oi745020) (v := ?v745020) ?hi745020 (by kernel_rfl) (by kernel_rfl) (by kernel_rfl) (by kernel_rfl) ?hQ745020 ?hy745020 (by assumption) ?rest745020
      case hi745020 => (simp only [List.getElem?_toArray, List.getElem?_cons_succ, List.getElem?_cons_zero]; exact rfl)
      case hQ745020 => exact fun _ _ _ h => h
      case hy745020 => (refine Or.inl ⟨by kernel_rfl, ?_⟩; intro w hSw; (try dsimp only at hSw); go_simp; try (with_reducible rfl))
      try simp only [Act.put, List.setIfInBounds_toArray, List.set_cons_zero, List.set_cons_succ]
      refine wpP_take (i := 5) (oi := ?oi745021) (v := ?v745021) ?hi745021 (by kernel_rfl) (by kernel_rfl) (by kernel_rfl) (by kernel_rfl) ?hQ745021 ?hy745021 (by assumption) ?rest745021
      case hi745021 => (simp only [List.getElem?_toArray, List.getElem?_cons_succ, List.getElem?_cons_zero]; exact rfl)
      case hQ745021 => exact fun _ _ _ h => h
      case hy745021 => (refine Or.inl ⟨by kernel_rfl, ?_⟩; intro w hSw; (try dsimp only at hSw); go_simp; try (with_reducible rfl))
      try simp only [Act.put, List.setIfInBounds_toArray, List.set_cons_zero, List.set_cons_succ]
      refine wpP_take (i := 6) (oi := ?oi745022) (v := ?v745022) ?hi745022 (by kernel_rfl) (by kernel_rfl) (by kernel_rfl) (by kernel_rfl) ?hQ745022 ?hy745022 (by assumption) ?rest745022
      case hi745022 => (simp only [List.getElem?_toArray, List.getElem?_cons_succ, List.getElem?_cons_zero]; exact rfl)
      case hQ745022 => exact fun _ _ _ h => h
      case hy745022 => (refine Or.inl ⟨by kernel_rfl, ?_⟩; intro w hSw; (try dsimp only at hSw); go_simp; try (with_reducible rfl))
      try simp only [Act.put, List.setIfInBounds_toArray, List.set_cons_zero, List.set_cons_succ]
      refine wpP_take (i := 7) (oi := ?oi745023) (v := ?v745023) ?hi745023 (by kernel_rfl) (by kernel_rfl) (by kernel_rfl) (by kernel_rfl) ?hQ745023 ?hy745023 (by assumption) ?rest745023
      case hi745023 => (simp only [List.getElem?_toArray, List.getElem?_cons_succ, List.getElem?_cons_zero]; exact rfl)
      case hQ745023 => exact fun _ _ _ h => h
      case hy745023 => (refine Or.inl ⟨by kernel_rfl, ?_⟩; intro w hSw; (try dsimp only at hSw); go_simp; try (with_reducible rfl))
      try simp only [Act.put, List.setIfInBounds_toArray, List.set_cons_zero, List.set_cons_succ]
      refine wpP_take (i := 8) (oi := ?oi745024) (v := ?v745024) ?hi745024 (by kernel_rfl) (by kernel_rfl) (by kernel_rfl) (by kernel_rfl) ?hQ745024 ?hy745024 (by assumption) ?rest745024
      case hi745024 => (simp only [List.getElem?_toArray, List.getElem?_cons_succ, List.getElem?_cons_zero]; exact rfl)
      case hQ745024 => exact fun _ _ _ h => h
      case hy745024 => (refine Or.inl ⟨by kernel_rfl, ?_⟩; intro w hSw; (try dsimp only at hSw); go_simp; try (with_reducible rfl))
      try simp only [Act.put, List.setIfInBounds_toArray, List.set_cons_zero, List.set_cons_succ]
      refine wpP_take (i := 9) (oi := ?oi745025) (v := ?v745025) ?hi745025 (by kernel_rfl) (by kernel_rfl) (by kernel_rfl) (by kernel_rfl) ?hQ745025 ?hy745025 (by assumption) ?rest745025
      case hi745025 => (simp only [List.getElem?_toArray, List.getElem?_cons_succ, List.getElem?_cons_zero]; exact rfl)
      case hQ745025 => exact fun _ _ _ h => h
      case hy745025 => (refine Or.inl ⟨by kernel_rfl, ?_⟩; intro w hSw; (try dsimp only at hSw); go_simp; try (with_reducible rfl))
      try simp only [Act.put, List.setIfInBounds_toArray, List.set_cons_zero, List.set_cons_succ]
      refine wpP_take (i := 10) (oi := ?oi745026) (v := ?v745026) ?hi745026 (by kernel_rfl) (by kernel_rfl) (by kernel_rfl) (by kernel_rfl) ?hQ745026 ?hy745026 (by assumption) ?rest745026
      case hi745026 => (simp only [List.getElem?_toArray, List.getElem?_cons_succ, List.getElem?_cons_zero]; exact rfl)
      case hQ745026 => exact fun _ _ _ h => h
      case hy745026 => (refine Or.inl ⟨by kernel_rfl, ?_⟩; intro w hSw; (try dsimp only at hSw); go_simp; try (with_reducible rfl))
      try simp only [Act.put, List.setIfInBounds_toArray, List.set_cons_zero, List.set_cons_succ]
      refine wpP_take (i := 11) (oi := ?oi745027) (v := ?v745027) ?hi745027 (by kernel_rfl) (by kernel_rfl) (by kernel_rfl) (by kernel_rfl) ?hQ745027 ?hy745027 (by assumption) ?rest745027
      case hi745027 => (simp only [List.getElem?_toArray, List.getElem?_cons_succ, List.getElem?_cons_zero]; exact rfl)
      case hQ745027 => exact fun _ _ _ h => h
      case hy745027 => (refine Or.inl ⟨by kernel_rfl, ?_⟩; intro w hSw; (try dsimp only at hSw); go_simp; try (with_reducible rfl))
      try simp only [Act.put, List.setIfInBounds_toArray, List.set_cons_zero, List.set_cons_succ]
      refine wpP_take (i := 12) (oi := ?oi745028) (v := ?v745028) ?hi745028 (by kernel_rfl) (by kernel_rfl) (by kernel_rfl) (by kernel_rfl) ?hQ745028 ?hy745028 (by assumption) ?rest745028
      case hi745028 => (simp only [List.getElem?_toArray, List.getElem?_cons_succ, List.getElem?_cons_zero]; exact rfl)
      case hQ745028 => exact fun _ _ _ h => h
      case hy745028 => (refine Or.inl ⟨by kernel_rfl, ?_⟩; intro w hSw; (try dsimp only at hSw); go_simp; try (with_reducible rfl))
      try simp only [Act.put, List.setIfInBounds_toArray, List.set_cons_zero, List.set_cons_succ]
      refine wpP_take (i := 13) (oi := ?oi745029) (v := ?v745029) ?hi745029 (by kernel_rfl) (by kernel_rfl) (by kernel_rfl) (by kernel_rfl) ?hQ745029 ?hy745029 (by assumption) ?rest745029
      case hi745029 => (simp only [List.getElem?_toArray, List.getElem?_cons_succ, List.getElem?_cons_zero]; exact rfl)
      case hQ745029 => exact fun _ _ _ h => h
      case hy745029 => (refine Or.inl ⟨by kernel_rfl, ?_⟩; intro w hSw; (try dsimp only at hSw); go_simp; try (with_reducible rfl))
      try simp only [Act.put, List.setIfInBounds_toArray, List.set_cons_zero, List.set_cons_succ]
      refine wpP_take (i := 14) (oi := ?oi745030) (v := ?v745030) ?hi745030 (by kernel_rfl) (by kernel_rfl) (by kernel_rfl) (by kernel_rfl) ?hQ745030 ?hy745030 (by assumption) ?rest745030
      case hi745030 => (simp only [List.getElem?_toArray, List.getElem?_cons_succ, List.getElem?_cons_zero]; exact rfl)
      case hQ745030 => exact fun _ _ _ h => h
      case hy745030 => (refine Or.inl ⟨by kernel_rfl, ?_⟩; intro w hSw; (try dsimp only at hSw); go_simp; try (with_reducible rfl))
      try simp only [Act.put, List.setIfInBounds_toArray, List.set_cons_zero, List.set_cons_succ]
      refine wpP_done (by kernel_rfl) ?_ _
      gi_wp2
      refine ⟨keeps_drew (KeepsOthers.refl _), (KpC.refl _ _).drew, H1.out, H2.out, hB.drew⟩
    · rw [e] at hfb ⊢
      simp only [Nat.reducePow] at hfb
      have hg1 : ¬ ((255 : Int) < (fv : Int) ∧ fsz k = 1) := by omega
      have hg2 : fsz k = 1 → (fv : Int) ≤ 255 := by omega
      have hg3 : fsz k = 2 → (fv : Int) ≤ 65535 := by omega
      have hg4 : (fv : Int) ≤ 4294967295 := by omega
      clear hg1
      try have hg5 := hg2 e
      try have hg6 := hg3 e
      clear hg2 hg3
      gi_wp2
      refine region_P_in_round (fun w' => w'.cell? ⟨w.heap.size, foff k, none⟩ = some (.int .i64 (fv : Int))) [] (by kernel_rfl) (by kernel_rfl) (fun _ _ h => h) ?_ (fun hHeld => ?_)
      · exact (by simp [hcx])
      refine wpP_take (i := 0) (oi := ?oi745031) (v := ?v745031) ?hi745031 (by kernel_rfl) (by kernel_rfl) (by kernel_rfl) (by kernel_rfl) ?hQ745031 ?hy745031 (by assumption) ?rest745031
      case hi745031 => (simp only [List.getElem?_toArray, List.getElem?_cons_succ, List.getElem?_cons_zero]; exact rfl)
      case hQ745031 => exact fun _ _ _ h => h
      case hy745031 => (refine Or.inl ⟨by kernel_rfl, ?_⟩; intro w hSw; (try dsimp only at hSw); go_simp; try (with_reducible rfl))
      try simp only [Act.put, List.setIfInBounds_toArray, List.set_cons_zero, List.set_cons_succ]
      refine wpP_take (i := 1) (oi := ?oi745032) (v := ?v745032) ?hi745032 (by kernel_rfl) (by kernel_rfl) (by kernel_rfl) (by kernel_rfl) ?hQ745032 ?hy745032 (by assumption) ?rest745032
      case hi745032 => (simp only [List.getElem?_toArray, List.getElem?_cons_succ, List.getElem?_cons_zero]; exact rfl)
      case hQ745032 => exact fun _ _ _ h => h
      case hy745032 => (refine Or.inl ⟨by kernel_rfl, ?_⟩; intro w hSw; (try dsimp only at hSw); go_simp; try (with_reducible rfl))
      try simp only [Act.put, List.setIfInBounds_toArray, List.set_cons_zero, List.set_cons_succ]
      refine wpP_take (i := 2) (oi := ?oi745033) (v := ?v745033) ?hi745033 (by kernel_rfl) (by kernel_rfl) (by kernel_rfl) (by kernel_rfl) ?hQ745033 ?hy745033 (by assumption) ?rest745033
      case hi745033 => (simp only [List.getElem?_toArray, List.getElem?_cons_succ, List.getElem?_cons_zero]; exact rfl)
      case hQ745033 => exact fun _ _ _ h => h
      case hy745033 => (refine Or.inl ⟨by kernel_rfl, ?_⟩; intro w hSw; (try dsimp only at hSw); go_simp; try (with_reducible rfl))
      try simp only [Act.put, List.setIfInBounds_toArray, List.set_cons_zero, List.set_cons_succ]
      refine wpP_take (i := 3) (oi := ?oi745034) (v := ?v745034) ?hi745034 (by kernel_rfl) (by kernel_rfl) (by kernel_rfl) (by kernel_rfl) ?hQ745034 ?hy745034 (by assumption) ?rest745034
      case hi745034 => (simp only [List.getElem?_toArray, List.getElem?_cons_succ, List.getElem?_cons_zero]; exact rfl)
      case hQ745034 => exact fun _ _ _ h => h
      case hy745034 => (refine Or.inl ⟨by kernel_rfl, ?_⟩; intro w hSw; (try dsimp only at hSw); go_simp; try (with_reducible rfl))
      try simp only [Act.put, List.setIfInBounds_toArray, List.set_cons_zero, List.set_cons_succ]
      refine wpP_take (i := 4) (oi := ?oi745035) (v := ?v745035) ?hi745035 (by kernel_rfl) (by kernel_rfl) (by kernel_rfl) (by kernel_rfl) ?hQ745035 ?hy745035 (by assumption) ?rest745035
      case hi745035 => (simp only [List.getElem?_toArray, List.getElem?_cons_succ, List.getElem?_cons_zero]; exact rfl)
      case hQ745035 => exact fun _ _ _ h => h
      case hy745035 => (refine Or.inl ⟨by kernel_rfl, ?_⟩; intro w hSw; (try dsimp only at hSw); go_simp; try (with_reducible rfl))
      try simp only [Act.put, List.setIfInBounds_toArray, List.set_cons_zero, List.set_cons_succ]
      refine wpP_take (i := 5) (oi := ?oi745036) (v := ?v745036) ?hi745036 (by kernel_rfl) (by kernel_rfl) (by kernel_rfl) (by kernel_rfl) ?hQ745036 ?hy745036 (by assumption) ?rest745036
      case hi745036 => (simp only [List.getElem?_toArray, List.getElem?_cons_succ, List.getElem?_cons_zero]; exact rfl)
      case hQ745036 => exact fun _ _ _ h => h
      case hy745036 => (refine Or.inl ⟨by kernel_rfl, ?_⟩; intro w hSw; (try dsimp only at hSw); go_simp; try (with_reducible rfl))
      try simp only [Act.put, List.setIfInBounds_toArray, List.set_cons_zero, List.set_cons_succ]
      refine wpP_take (i := 6) (oi := ?oi745037) (v := ?v745037) ?hi745037 (by kernel_rfl) (by kernel_rfl) (by kernel_rfl) (by kernel_rfl) ?hQ745037 ?hy745037 (by assumption) ?rest745037
      case hi745037 => (simp only [List.getElem?_toArray, List.getElem?_cons_succ, List.getElem?_cons_zero]; exact rfl)
      case hQ745037 => exact fun _ _ _ h => h
      case hy745037 => (refine Or.inl ⟨by kernel_rfl, ?_⟩; intro w hSw; (try dsimp only at hSw); go_simp; try (with_reducible rfl))
      try simp only [Act.put, List.setIfInBounds_toArray, List.set_cons_zero, List.set_cons_succ]
      refine wpP_take (i := 7) (oi := ?oi745038) (v := ?v745038) ?hi745038 (by kernel_rfl) (by kernel_rfl) (by kernel_rfl) (by kernel_rfl) ?hQ745038 ?hy745038 (by assumption) ?rest745038
      case hi745038 => (simp only [List.getElem?_toArray, List.getElem?_cons_succ, List.getElem?_cons_zero]; exact rfl)
      case hQ745038 => exact fun _ _ _ h => h
      case hy745038 => (refine Or.inl ⟨by kernel_rfl, ?_⟩; intro w hSw; (try dsimp only at hSw); go_simp; try (with_reducible rfl))
      try simp only [Act.put, List.setIfInBounds_toArray, List.set_cons_zero, List.set_cons_succ]
      refine wpP_take (i := 8) (oi := ?oi745039) (v := ?v745039) ?hi745039 (by kernel_rfl) (by kernel_rfl) (by kernel_rfl) (by kernel_rfl) ?hQ745039 ?hy745039 (by assumption) ?rest745039
      case hi745039 => (simp only [List.getElem?_toArray, List.getElem?_cons_succ, List.getElem?_cons_zero]; exact rfl)
      case hQ745039 => exact fun _ _ _ h => h
      case hy745039 => (refine Or.inl ⟨by kernel_rfl, ?_⟩; intro w hSw; (try dsimp only at hSw); go_simp; try (with_reducible rfl))
      try simp only [Act.put, List.setIfInBounds_toArray, List.set_cons_zero, List.set_cons_succ]
      refine wpP_take (i := 9) (oi := ?oi745040) (v := ?v745040) ?hi745040 (by kernel_rfl) (by kernel_rfl) (by kernel_rfl) (by kernel_rfl) ?hQ745040 ?hy745040 (by assumption) ?rest745040
      case hi745040 => (simp only [List.getElem?_toArray, List.getElem?_cons_succ, List.getElem?_cons_zero]; exact rfl)
      case hQ745040 => exact fun _ _ _ h => h
      case hy745040 => (refine Or.inl ⟨by kernel_rfl, ?_⟩; intro w hSw; (try dsimp only at hSw); go_simp; try (with_reducible rfl))
      try simp only [Act.put, List.setIfInBounds_toArray, List.set_cons_zero, List.set_cons_succ]
      refine wpP_take (i := 10) (oi := ?oi745041) (v := ?v745041) ?hi745041 (by kernel_rfl) (by kernel_rfl) (by kernel_rfl) (by kernel_rfl) ?hQ745041 ?hy745041 (by assumption) ?rest745041
      case hi745041 => (simp only [List.getElem?_toArray, List.getElem?_cons_succ, List.getElem?_cons_zero]; exact rfl)
      case hQ745041 => exact fun _ _ _ h => h
      case hy745041 => (refine Or.inl ⟨by kernel_rfl, ?_⟩; intro w hSw; (try dsimp only at hSw); go_simp; try (with_reducible rfl))
      try simp only [Act.put, List.setIfInBounds_toArray, List.set_cons_zero, List.set_cons_succ]
      refine wpP_take (i := 11) (oi := ?oi745042) (v := ?v745042) ?hi745042 (by kernel_rfl) (by kernel_rfl) (by kernel_rfl) (by kernel_rfl) ?hQ745042 ?hy745042 (by assumption) ?rest745042
      case hi745042 => (simp only [List.getElem?_toArray, List.getElem?_cons_succ, List.getElem?_cons_zero]; exact rfl)
      case hQ745042 => exact fun _ _ _ h => h
      case hy745042 => (refine Or.inl ⟨by kernel_rfl, ?_⟩; intro w hSw; (try dsimp only at hSw); go_simp; try (with_reducible rfl))
      try simp only [Act.put, List.setIfInBounds_toArray, List.set_cons_zero, List.set_cons_succ]
      refine wpP_take (i := 12) (oi := ?oi745043) (v := ?v745043) ?hi745043 (by kernel_rfl) (by kernel_rfl) (by kernel_rfl) (by kernel_rfl) ?hQ745043 ?hy745043 (by assumption) ?rest745043
      case hi745043 => (simp only [List.getElem?_toArray, List.getElem?_cons_succ, List.getElem?_cons_zero]; exact rfl)
      case hQ745043 => exact fun _ _ _ h => h
      case hy745043 => (refine Or.inl ⟨by kernel_rfl, ?_⟩; intro w hSw; (try dsimp only at hSw); go_simp; try (with_reducible rfl))
      try simp only [Act.put, List.setIfInBounds_toArray, List.set_cons_zero, List.set_cons_succ]
      refine wpP_take (i := 13) (oi := ?oi745044) (v := ?v745044) ?hi745044 (by kernel_rfl) (by kernel_rfl) (by kernel_rfl) (by kernel_rfl) ?hQ745044 ?hy745044 (by assumption) ?rest745044
      case hi745044 => (simp only [List.getElem?_toArray, List.getElem?_cons_succ, List.getElem?_cons_zero]; exact rfl)
      case hQ745044 => exact fun _ _ _ h => h
      case hy745044 => (refine Or.inl ⟨by kernel_rfl, ?_⟩; intro w hSw; (try dsimp only at hSw); go_simp; try (with_reducible rfl))
      try simp only [Act.put, List.setIfInBounds_toArray, List.set_cons_zero, List.set_cons_succ]
      refine wpP_take (i := 14) (oi := ?oi745045) (v := ?v745045) ?hi745045 (by kernel_rfl) (by kernel_rfl) (by kernel_rfl) (by kernel_rfl) ?hQ745045 ?hy745045 (by assumption) ?rest745045
      case hi745045 => (simp only [List.getElem?_toArray, List.getElem?_cons_succ, List.getElem?_cons_zero]; exact rfl)
      case hQ745045 => exact fun _ _ _ h => h
      case hy745045 => (refine Or.inl ⟨by kernel_rfl, ?_⟩; intro w hSw; (try dsimp only at hSw); go_simp; try (with_reducible rfl))
      try simp only [Act.put, List.setIfInBounds_toArray, List.set_cons_zero, List.set_cons_succ]
      refine wpP_done (by kernel_rfl) ?_ _
      gi_wp2
      refine ⟨keeps_drew (KeepsOthers.refl _), (KpC.refl _ _).drew, H1.out, H2.out, hB.drew⟩
  case done =>
    rintro D xs W hD rfl ⟨h1, h2, hB⟩ hK
    have hco : W.cell? ⟨w.heap.size + 1, 0, none⟩ = some (.bool false) := by rw [cell_at h2]; rfl
    have hfo := free_of h2 0
    have hb2 := blk_set h2 0 (.bool true)
    have hB2 : Below w.heap.size w (W.setCell ⟨w.heap.size + 1, 0, none⟩ (.bool true)) := below_set hB (by omega)
    have hK2 : (W.setCell ⟨w.heap.size + 1, 0, none⟩ (.bool true)).heap[D]? = some (.deferred (some [])) := blk_set_other hK (by omega) _ _
    have HK := Lib.hid hK2
    have HB := Lib.hid hB2
    have HH := Lib.hid hb2
    clear h1 h2 k0 k1 k2 hB0 hK hb2 hB2 hK2
    go_wp2
    have hbg := (World.putObj_heap_other (r := D) (o := .deferred none) (show w.heap.size + 1 ≠ D by omega)).trans HH.out
    have hc := cell_at hbg 0
    refine ⟨by simp, .inl ⟨_, _, rfl, run_takeDeferred HK.out, ?_⟩⟩
    exact ⟨.bool true, by simp [results, Try.results108, go_sem, hc], rfl, below_putD HB.out (by omega) HK.out⟩
  case stop =>
    rintro D c pre W _ _ h _
    exact h.elim
end Go.Proofs.Ytacdohlhalnioaa
end

/- Contract: an inode is written (the program's). -/
section
set_option linter.unusedSimpArgs false
set_option linter.unusedVariables false
set_option maxRecDepth 20000
namespace Go.Proofs.Ytacdohlhalnioaa
open Go.RowKit
attribute [local go_sem] Oper.semAt_some

theorem inoBytes_len (x : Ino) : (inoBytes x).length = 24 := by
  have e : List.finRange 12 = [0, 1, 2, 3, 4, 5, 6, 7, 8, 9, 10, 11] := by decide
  rw [inoBytes, bytesTo, e]
  simp only [List.flatMap_cons, List.flatMap_nil, List.length_append, ple_length, List.length_nil]
  rfl
/-- A volume with another inode. -/
def putV (v : Vol) (n : Nat) (x : Ino) : Vol := v.set (3 + (n - 1) / 2) ((bk v (3 + (n - 1) / 2)).take ((n - 1) % 2 * 64) ++ inoBytes x ++ (bk v (3 + (n - 1) / 2)).drop ((n - 1) % 2 * 64 + 24))
theorem clone_ok (A : Option Addr) (c n : Nat) (v : Vol) (w : World) (hr : RS w A v) (hn : v.length = n) (h0 : 0 < n) :
    Calls Try.prog 66 #[.slice A n c] w fun e w' => ∃ g c', e = .returned (.slice (some ⟨g, 0, none⟩) n c') ∧ VS w' g v ∧ w.heap.size ≤ g ∧ Below w.heap.size w w' := by
  have hl := hr.1
  obtain ⟨bA, oA, rfl, hbA, hc⟩ := hr.open_ (by omega)
  refine (Try.slices_Clone_string bA oA n c (v.map mk) w (by simp [hn]) (by omega) (fun j hj => ?_)).mono ?_
  · have hj' : j < v.length := by simpa using hj
    rw [hc j hj']
    simp [bk, hj']
  · rintro e w' ⟨u, rfl, hown, _, hb⟩
    rw [List.take_of_length_le (by simp [hn]), strs_zs _ v rfl] at hown
    obtain ⟨g, cap, rfl, hg, hv⟩ := VB.of_own hown hn h0
    exact ⟨g, cap, rfl, hv, hg, hb⟩

set_option maxHeartbeats 4000000 in
theorem iput_ok (A : Option Addr) (c : Nat) (v : Vol) (n : Nat) (x : Ino) (w : World) (hr : RS w A v) (hv : okV v = true) (h1 : 1 ≤ n) (h2 : n ≤ inosV v) (hx : fitI x) :
    Calls Try.prog 77 #[.slice A v.length c, .int .i64 n, .agg #[.int .i64 ((x.kind : Nat) : Int), .int .i64 ((x.links : Nat) : Int), .int .i64 ((x.owner : Nat) : Int), .int .i64 ((x.size : Nat) : Int), .int .i64 ((x.d0 : Nat) : Int), .int .i64 ((x.d1 : Nat) : Int), .int .i64 ((x.d2 : Nat) : Int), .int .i64 ((x.d3 : Nat) : Int), .int .i64 ((x.d4 : Nat) : Int), .int .i64 ((x.d5 : Nat) : Int), .int .i64 ((x.ind : Nat) : Int), .int .i64 ((x.ext : Nat) : Int)]] w fun e w' => ∃ g c', e = .returned (.tuple #[.slice (some ⟨g, 0, none⟩) v.length c', .int .i64 0]) ∧ VS w' g (putV v n x) ∧ w.heap.size ≤ g ∧ Below w.heap.size w w' := by
  obtain ⟨hl, h128, hs⟩ := slot_facts hv h1 h2
  have HP := Lib.hid (fun w hr => iplace_ok A c v n _ _ w hr hv h1 h2 rfl rfl)
  have ho : (n - 1) % 2 * 64 ≤ 64 := by omega
  rw [putV]
  generalize (n - 1) % 2 * 64 = o at *
  generalize 3 + (n - 1) / 2 = B at *
  have HR := Lib.hid hr
  obtain ⟨bA, oA, rfl, hbA, hc⟩ := hr.open_ (by omega)
  have hcB := hc B hl
  obtain ⟨b, hb⟩ : ∃ b, bk v B = b := ⟨_, rfl⟩
  rw [hb] at h128 hcB ⊢
  have hB' : (B : Int) < (v.length : Nat) := by omega
  have HX := Lib.hid hx
  have hxl := inoBytes_len x
  have HB := Lib.hid hb
  clear hr hc hv hs hx hb
  go_enter Try.func77, Try.ntmps77
  go_wp2_with (first
    | (go_at_call 72; refine (HP.out _ (HR.out.below ((Below.refl _ _).alloc (Nat.le_refl _) _))).mono ?_; rintro e w1 ⟨rfl, hb1⟩; have q1 := blk_keep (blk_new w _) hb1; obtain ⟨c0, c1, c2, c3, c4, c5, c6, c7, c8, c9, c10, c11⟩ := cells12 q1; have B1 := Lib.hid (below_keep ((Below.refl _ w).alloc (Nat.le_refl _) _) (Nat.le_refl _) hb1); have Q1 := Lib.hid q1; clear q1)
    | (go_at_call 108; refine (fits_ok x _ HX.out).mono ?_; rintro e w2 ⟨rfl, hb2⟩)
    | (go_at_call 66; refine (clone_ok _ _ v.length v _ (HR.out.below (below_keep B1.out (Nat.le_refl _) hb2)) rfl (by omega)).mono ?_; rintro e w3 ⟨g, cg, rfl, hg, hgs, hb3⟩; have B3 := Lib.hid (below_keep (below_keep B1.out (Nat.le_refl _) hb2) (Nat.le_refl _) hb3); have q3 := blk_keep (blk_keep Q1.out hb2) hb3; clear c0 c1 c2 c3 c4 c5 c6 c7 c8 c9 c10 c11; obtain ⟨c0, c1, c2, c3, c4, c5, c6, c7, c8, c9, c10, c11⟩ := cells12 q3; clear q3)
    | (go_at_call 109; refine (ibytes_ok x _ HX.out.small).mono ?_; rintro e w4 ⟨rfl, hb4⟩; have B4 := Lib.hid (below_keep B3.out (Nat.le_refl _) hb4); have hg4 := hg.keep hb4))
  have hs1 := B1.out.size
  have hs2 := hb2.size
  have hgl : w.heap.size ≤ g := by omega
  have hgB := hg4.cell B hl
  have hgf := hg4.free B
  have hsB := cell_keep hcB B4.out
  have HG := Lib.hid hg4
  clear hg hg4 hb1 hb2 hb3 hb4 c0 c1 c2 c3 c4 c5 c6 c7 c8 c9 c10 c11
  rw [HB.out] at hgB
  have hio : (o : Int) ≤ (b.length : Nat) := by omega
  have hmo : min o 128 = o := by omega
  have hc1 : ¬ (9223372036854775807 < o + 24) := by omega
  have hc2 : ¬ (9223372036854775807 < o + 24 + (104 - o)) := by omega
  have hc3 : ¬ ((128 : Int) < (o : Int)) := by omega
  have hc4 : ¬ ((128 : Int) < (o : Int) + 24) := by omega
  have hc5 : (o : Int) + 24 ≤ 128 := by omega
  have hc6 : (o : Int) ≤ 128 := by omega
  have hw1 : IntKind.i64.wrap ((o : Int) + 24) = (o : Int) + 24 := by simp [IntKind.wrap, IntKind.bits, IntKind.signed]; omega
  have hw2 : ((o : Int) + 24).toNat = o + 24 := by omega
  have hp1 : (0 : Int) ≤ (o : Int) + 24 := by omega
  have htk : List.take (104 - o) (List.drop (o + 24) b) = List.drop (o + 24) b := List.take_of_length_le (by simp [h128])
  go_wp2
  refine region_P (fun w' => w'.cell? ⟨bA, oA + B, none⟩ = some (.string (mk b))) [21] (by kernel_rfl) ?_ (fun hHeld => ?_)
  · exact hsB
  refine wpP_take (i := 0) (oi := ?oi659001) (v := ?v659001) ?hi659001 (by kernel_rfl) (by kernel_rfl) (by kernel_rfl) (by kernel_rfl) ?hQ659001 ?hy659001 (by assumption) ?rest659001
  case hi659001 => (simp only [List.getElem?_toArray, List.getElem?_cons_succ, List.getElem?_cons_zero]; exact rfl)
  case hQ659001 => exact fun _ _ _ h => h
  case hy659001 => (refine Or.inl ⟨by kernel_rfl, ?_⟩; intro w hSw; (try dsimp only at hSw); go_simp; try (with_reducible rfl))
  try simp only [Act.put, List.setIfInBounds_toArray, List.set_cons_zero, List.set_cons_succ]
  refine wpP_take (i := 1) (oi := ?oi659002) (v := ?v659002) ?hi659002 (by kernel_rfl) (by kernel_rfl) (by kernel_rfl) (by kernel_rfl) ?hQ659002 ?hy659002 (by assumption) ?rest659002
  case hi659002 => (simp only [List.getElem?_toArray, List.getElem?_cons_succ, List.getElem?_cons_zero]; exact rfl)
  case hQ659002 => exact fun _ _ _ h => h
  case hy659002 => (refine Or.inl ⟨by kernel_rfl, ?_⟩; intro w hSw; (try dsimp only at hSw); go_simp; try (with_reducible rfl))
  try simp only [Act.put, List.setIfInBounds_toArray, List.set_cons_zero, List.set_cons_succ]
  refine wpP_take (i := 2) (oi := ?oi659003) (v := ?v659003) ?hi659003 (by kernel_rfl) (by kernel_rfl) (by kernel_rfl) (by kernel_rfl) ?hQ659003 ?hy659003 (by assumption) ?rest659003
  case hi659003 => (simp only [List.getElem?_toArray, List.getElem?_cons_succ, List.getElem?_cons_zero]; exact rfl)
  case hQ659003 => exact fun _ _ _ h => h
  case hy659003 => (refine Or.inl ⟨by kernel_rfl, ?_⟩; intro w hSw; (try dsimp only at hSw); go_simp; try (with_reducible rfl))
  try simp only [Act.put, List.setIfInBounds_toArray, List.set_cons_zero, List.set_cons_succ]
  refine wpP_take (i := 3) (oi := ?oi659004) (v := ?v659004) ?hi659004 (by kernel_rfl) (by kernel_rfl) (by kernel_rfl) (by kernel_rfl) ?hQ659004 ?hy659004 (by assumption) ?rest659004
  case hi659004 => (simp only [List.getElem?_toArray, List.getElem?_cons_succ, List.getElem?_cons_zero]; exact rfl)
  case hQ659004 => exact fun _ _ _ h => h
  case hy659004 => (refine Or.inl ⟨by kernel_rfl, ?_⟩; intro w hSw; (try dsimp only at hSw); go_simp; try (with_reducible rfl))
  try simp only [Act.put, List.setIfInBounds_toArray, List.set_cons_zero, List.set_cons_succ]
  refine wpP_take (i := 4) (oi := ?oi659005) (v := ?v659005) ?hi659005 (by kernel_rfl) (by kernel_rfl) (by kernel_rfl) (by kernel_rfl) ?hQ659005 ?hy659005 (by assumption) ?rest659005
  case hi659005 => (simp only [List.getElem?_toArray, List.getElem?_cons_succ, List.getElem?_cons_zero]; exact rfl)
  case hQ659005 => exact fun _ _ _ h => h
  case hy659005 => (refine Or.inl ⟨by kernel_rfl, ?_⟩; intro w hSw; (try dsimp only at hSw); go_simp; try (with_reducible rfl))
  try simp only [Act.put, List.setIfInBounds_toArray, List.set_cons_zero, List.set_cons_succ]
  refine wpP_take (i := 5) (oi := ?oi659006) (v := ?v659006) ?hi659006 (by kernel_rfl) (by kernel_rfl) (by kernel_rfl) (by kernel_rfl) ?hQ659006 ?hy659006 (by assumption) ?rest659006
  case hi659006 => (simp only [List.getElem?_toArray, List.getElem?_cons_succ, List.getElem?_cons_zero]; exact rfl)
  case hQ659006 => exact fun _ _ _ h => h
  case hy659006 => (refine Or.inl ⟨by kernel_rfl, ?_⟩; intro w hSw; (try dsimp only at hSw); go_simp; try (with_reducible rfl))
  try simp only [Act.put, List.setIfInBounds_toArray, List.set_cons_zero, List.set_cons_succ]
  refine wpP_take (i := 6) (oi := ?oi659007) (v := ?v659007) ?hi659007 (by kernel_rfl) (by kernel_rfl) (by kernel_rfl) (by kernel_rfl) ?hQ659007 ?hy659007 (by assumption) ?rest659007
  case hi659007 => (simp only [List.getElem?_toArray, List.getElem?_cons_succ, List.getElem?_cons_zero]; exact rfl)
  case hQ659007 => exact fun _ _ _ h => h
  case hy659007 => (refine Or.inl ⟨by kernel_rfl, ?_⟩; intro w hSw; (try dsimp only at hSw); go_simp; try (with_reducible rfl))
  try simp only [Act.put, List.setIfInBounds_toArray, List.set_cons_zero, List.set_cons_succ]
  refine wpP_take (i := 7) (oi := ?oi659008) (v := ?v659008) ?hi659008 (by kernel_rfl) (by kernel_rfl) (by kernel_rfl) (by kernel_rfl) ?hQ659008 ?hy659008 (by assumption) ?rest659008
  case hi659008 => (simp only [List.getElem?_toArray, List.getElem?_cons_succ, List.getElem?_cons_zero]; exact rfl)
  case hQ659008 => exact fun _ _ _ h => h
  case hy659008 => (refine Or.inl ⟨by kernel_rfl, ?_⟩; intro w hSw; (try dsimp only at hSw); go_simp; try (with_reducible rfl))
  try simp only [Act.put, List.setIfInBounds_toArray, List.set_cons_zero, List.set_cons_succ]
  refine wpP_take (i := 8) (oi := ?oi659009) (v := ?v659009) ?hi659009 (by kernel_rfl) (by kernel_rfl) (by kernel_rfl) (by kernel_rfl) ?hQ659009 ?hy659009 (by assumption) ?rest659009
  case hi659009 => (simp only [List.getElem?_toArray, List.getElem?_cons_succ, List.getElem?_cons_zero]; exact rfl)
  case hQ659009 => exact fun _ _ _ h => h
  case hy659009 => (refine Or.inl ⟨by kernel_rfl, ?_⟩; intro w hSw; (try dsimp only at hSw); go_simp; try (with_reducible rfl))
  try simp only [Act.put, List.setIfInBounds_toArray, List.set_cons_zero, List.set_cons_succ]
  refine wpP_take (i := 9) (oi := ?oi659010) (v := ?v659010) ?hi659010 (by kernel_rfl) (by kernel_rfl) (by kernel_rfl) (by kernel_rfl) ?hQ659010 ?hy659010 (by assumption) ?rest659010
  case hi659010 => (simp only [List.getElem?_toArray, List.getElem?_cons_succ, List.getElem?_cons_zero]; exact rfl)
  case hQ659010 => exact fun _ _ _ h => h
  case hy659010 => (refine Or.inl ⟨by kernel_rfl, ?_⟩; intro w hSw; (try dsimp only at hSw); go_simp; try (with_reducible rfl))
  try simp only [Act.put, List.setIfInBounds_toArray, List.set_cons_zero, List.set_cons_succ]
  refine wpP_take (i := 10) (oi := ?oi659011) (v := ?v659011) ?hi659011 (by kernel_rfl) (by kernel_rfl) (by kernel_rfl) (by kernel_rfl) ?hQ659011 ?hy659011 (by assumption) ?rest659011
  case hi659011 => (simp only [List.getElem?_toArray, List.getElem?_cons_succ, List.getElem?_cons_zero]; exact rfl)
  case hQ659011 => exact fun _ _ _ h => h
  case hy659011 => (refine Or.inl ⟨by kernel_rfl, ?_⟩; intro w hSw; (try dsimp only at hSw); go_simp; try (with_reducible rfl))
  try simp only [Act.put, List.setIfInBounds_toArray, List.set_cons_zero, List.set_cons_succ]
  refine wpP_take (i := 11) (oi := ?oi659012) (v := ?v659012) ?hi659012 (by kernel_rfl) (by kernel_rfl) (by kernel_rfl) (by kernel_rfl) ?hQ659012 ?hy659012 (by assumption) ?rest659012
  case hi659012 => (simp only [List.getElem?_toArray, List.getElem?_cons_succ, List.getElem?_cons_zero]; exact rfl)
  case hQ659012 => exact fun _ _ _ h => h
  case hy659012 => (refine Or.inl ⟨by kernel_rfl, ?_⟩; intro w hSw; (try dsimp only at hSw); go_simp; try (with_reducible rfl))
  try simp only [Act.put, List.setIfInBounds_toArray, List.set_cons_zero, List.set_cons_succ]
  refine wpP_take (i := 12) (oi := ?oi659013) (v := ?v659013) ?hi659013 (by kernel_rfl) (by kernel_rfl) (by kernel_rfl) (by kernel_rfl) ?hQ659013 ?hy659013 (by assumption) ?rest659013
  case hi659013 => (simp only [List.getElem?_toArray, List.getElem?_cons_succ, List.getElem?_cons_zero]; exact rfl)
  case hQ659013 => exact fun _ _ _ h => h
  case hy659013 => (refine Or.inl ⟨by kernel_rfl, ?_⟩; intro w hSw; (try dsimp only at hSw); go_simp; try (with_reducible rfl))
  try simp only [Act.put, List.setIfInBounds_toArray, List.set_cons_zero, List.set_cons_succ]
  refine wpP_take (i := 13) (oi := ?oi659014) (v := ?v659014) ?hi659014 (by kernel_rfl) (by kernel_rfl) (by kernel_rfl) (by kernel_rfl) ?hQ659014 ?hy659014 (by assumption) ?rest659014
  case hi659014 => (simp only [List.getElem?_toArray, List.getElem?_cons_succ, List.getElem?_cons_zero]; exact rfl)
  case hQ659014 => exact fun _ _ _ h => h
  case hy659014 => (refine Or.inl ⟨by kernel_rfl, ?_⟩; intro w hSw; (try dsimp only at hSw); go_simp; try (with_reducible rfl))
  try simp only [Act.put, List.setIfInBounds_toArray, List.set_cons_zero, List.set_cons_succ]
  refine wpP_take (i := 14) (oi := ?oi659015) (v := ?v659015) ?hi659015 (by kernel_rfl) (by kernel_rfl) (by kernel_rfl) (by kernel_rfl) ?hQ659015 ?hy659015 (by assumption) ?rest659015
  case hi659015 => (simp only [List.getElem?_toArray, List.getElem?_cons_succ, List.getElem?_cons_zero]; exact rfl)
  case hQ659015 => exact fun _ _ _ h => h
  case hy659015 => (refine Or.inl ⟨by kernel_rfl, ?_⟩; intro w hSw; (try dsimp only at hSw); go_simp; try (with_reducible rfl))
  try simp only [Act.put, List.setIfInBounds_toArray, List.set_cons_zero, List.set_cons_succ]
  refine wpP_take (i := 15) (oi := ?oi659016) (v := ?v659016) ?hi659016 (by kernel_rfl) (by kernel_rfl) (by kernel_rfl) (by kernel_rfl) ?hQ659016 ?hy659016 (by assumption) ?rest659016
  case hi659016 => (simp only [List.getElem?_toArray, List.getElem?_cons_succ, List.getElem?_cons_zero]; exact rfl)
  case hQ659016 => exact fun _ _ _ h => h
  case hy659016 => (refine Or.inl ⟨by kernel_rfl, ?_⟩; intro w hSw; (try dsimp only at hSw); go_simp; try (with_reducible rfl))
  try simp only [Act.put, List.setIfInBounds_toArray, List.set_cons_zero, List.set_cons_succ]
  refine wpP_take (i := 16) (oi := ?oi659017) (v := ?v659017) ?hi659017 (by kernel_rfl) (by kernel_rfl) (by kernel_rfl) (by kernel_rfl) ?hQ659017 ?hy659017 (by assumption) ?rest659017
  case hi659017 => (simp only [List.getElem?_toArray, List.getElem?_cons_succ, List.getElem?_cons_zero]; exact rfl)
  case hQ659017 => exact fun _ _ _ h => h
  case hy659017 => (refine Or.inl ⟨by kernel_rfl, ?_⟩; intro w hSw; (try dsimp only at hSw); go_simp; try (with_reducible rfl))
  try simp only [Act.put, List.setIfInBounds_toArray, List.set_cons_zero, List.set_cons_succ]
  refine wpP_take (i := 17) (oi := ?oi659018) (v := ?v659018) ?hi659018 (by kernel_rfl) (by kernel_rfl) (by kernel_rfl) (by kernel_rfl) ?hQ659018 ?hy659018 (by assumption) ?rest659018
  case hi659018 => (simp only [List.getElem?_toArray, List.getElem?_cons_succ, List.getElem?_cons_zero]; exact rfl)
  case hQ659018 => exact fun _ _ _ h => h
  case hy659018 => (refine Or.inl ⟨by kernel_rfl, ?_⟩; intro w hSw; (try dsimp only at hSw); go_simp; try (with_reducible rfl))
  try simp only [Act.put, List.setIfInBounds_toArray, List.set_cons_zero, List.set_cons_succ]
  refine wpP_take (i := 18) (oi := ?oi659019) (v := ?v659019) ?hi659019 (by kernel_rfl) (by kernel_rfl) (by kernel_rfl) (by kernel_rfl) ?hQ659019 ?hy659019 (by assumption) ?rest659019
  case hi659019 => (simp only [List.getElem?_toArray, List.getElem?_cons_succ, List.getElem?_cons_zero]; exact rfl)
  case hQ659019 => exact fun _ _ _ h => h
  case hy659019 => (refine Or.inl ⟨by kernel_rfl, ?_⟩; intro w hSw; (try dsimp only at hSw); go_simp; try (with_reducible rfl))
  try simp only [Act.put, List.setIfInBounds_toArray, List.set_cons_zero, List.set_cons_succ]
  refine wpP_take (i := 19) (oi := ?oi659020) (v := ?v659020) ?hi659020 (by kernel_rfl) (by kernel_rfl) (by kernel_rfl) (by kernel_rfl) ?hQ659020 ?hy659020 (by assumption) ?rest659020
  case hi659020 => (simp only [List.getElem?_toArray, List.getElem?_cons_succ, List.getElem?_cons_zero]; exact rfl)
  case hQ659020 => exact fun _ _ _ h => h
  case hy659020 => (refine Or.inl ⟨by kernel_rfl, ?_⟩; intro w hSw; (try dsimp only at hSw); go_simp; try (with_reducible rfl))
  try simp only [Act.put, List.setIfInBounds_toArray, List.set_cons_zero, List.set_cons_succ]
  refine wpP_take (i := 20) (oi := ?oi659021) (v := ?v659021) ?hi659021 (by kernel_rfl) (by kernel_rfl) (by kernel_rfl) (by kernel_rfl) ?hQ659021 ?hy659021 (by assumption) ?rest659021
  case hi659021 => (simp only [List.getElem?_toArray, List.getElem?_cons_succ, List.getElem?_cons_zero]; exact rfl)
  case hQ659021 => exact fun _ _ _ h => h
  case hy659021 => (refine Or.inl ⟨by kernel_rfl, ?_⟩; intro w hSw; (try dsimp only at hSw); go_simp; try (with_reducible rfl))
  try simp only [Act.put, List.setIfInBounds_toArray, List.set_cons_zero, List.set_cons_succ]
  refine wpP_ready (rs := [21]) (by kernel_rfl) (by simp) ?_
  refine AllP.last (o := ?o659022) ?ho659022 (by kernel_rfl) (fun K hK => ?_) AllP.nil
  case ho659022 => (simp only [List.getElem?_toArray, List.getElem?_cons_succ, List.getElem?_cons_zero]; exact rfl)
  go_simp
  refine hK.out _ _ ?_
  clear hK K
  try simp only [Act.put, List.setIfInBounds_toArray, List.set_cons_zero, List.set_cons_succ]
  refine wpP_done (by kernel_rfl) ?_ _
  have hv5 := HG.out.set B (b.take o ++ (inoBytes x ++ b.drop (o + 24))) hl
  have hB5 : Below w.heap.size w (w4.setCell ⟨g, B, none⟩ (.string (mk (b.take o ++ (inoBytes x ++ b.drop (o + 24)))))) := below_set B4.out hgl
  have HV5 := Lib.hid hv5
  have HB5 := Lib.hid hB5
  clear hv5 hB5
  go_wp2
  go_ret2
  refine ⟨g, cg, rfl, ?_, hgl, HB5.out.drew⟩
  rw [List.append_assoc]
  exact HV5.out

set_option maxHeartbeats 1000000 in
theorem iput_no (A : Option Addr) (c : Nat) (v : Vol) (n : Int) (x : Ino) (w : World) (hr : RS w A v) (h : getE v n ≠ 0) :
    Calls Try.prog 77 #[.slice A v.length c, .int .i64 n, .agg #[.int .i64 ((x.kind : Nat) : Int), .int .i64 ((x.links : Nat) : Int), .int .i64 ((x.owner : Nat) : Int), .int .i64 ((x.size : Nat) : Int), .int .i64 ((x.d0 : Nat) : Int), .int .i64 ((x.d1 : Nat) : Int), .int .i64 ((x.d2 : Nat) : Int), .int .i64 ((x.d3 : Nat) : Int), .int .i64 ((x.d4 : Nat) : Int), .int .i64 ((x.d5 : Nat) : Int), .int .i64 ((x.ind : Nat) : Int), .int .i64 ((x.ext : Nat) : Int)]] w fun e w' => e = .returned (.tuple #[.slice none 0 0, .int .i64 (getE v n)]) ∧ Below w.heap.size w w' := by
  have HP := fun w hr => iplace_no A c v n w hr h
  generalize getE v n = er at *
  have hb : (er == 0) = false := by simpa using h
  have hbn : (er != 0) = true := by simpa using h
  have HPl := Lib.hid HP
  have HRR := Lib.hid hr
  clear HP hr
  go_enter Try.func77, Try.ntmps77
  go_wp2_with (go_at_call 72; refine (HPl.out _ (HRR.out.below ((Below.refl _ _).alloc (Nat.le_refl _) _))).mono ?_; rintro e w1 ⟨rfl, hb1⟩; have hb2 := below_keep ((Below.refl _ w).alloc (Nat.le_refl _) _) (Nat.le_refl _) hb1)
  go_ret2
  exact ⟨rfl, hb2⟩
end Go.Proofs.Ytacdohlhalnioaa
end

/- Contract: an inode is taken (the program's). -/
section
set_option linter.unusedSimpArgs false
set_option linter.unusedVariables false
set_option maxRecDepth 20000
namespace Go.Proofs.Ytacdohlhalnioaa
open Go.RowKit
attribute [local go_sem] Oper.semAt_some

def freshI (o : Nat) : Ino := ⟨1, 1, o, 0, 0, 0, 0, 0, 0, 0, 0, 0⟩
theorem freshI_fit (o : Nat) (h : o < 16) : fitI (freshI o) := by
  intro k
  rcases k with ⟨k, hk⟩
  rcases (by omega : k = 0 ∨ k = 1 ∨ k = 2 ∨ k = 3 ∨ k = 4 ∨ k = 5 ∨ k = 6 ∨ k = 7 ∨ k = 8 ∨ k = 9 ∨ k = 10 ∨ k = 11) with rfl | rfl | rfl | rfl | rfl | rfl | rfl | rfl | rfl | rfl | rfl | rfl <;> simp [foff, fsz, Ino.list, freshI] <;> omega

theorem iput_fresh (A : Option Addr) (c : Nat) (v : Vol) (n o : Nat) (w : World) (hr : RS w A v) (hv : okV v = true) (h1 : 1 ≤ n) (h2 : n ≤ inosV v) (ho : o < 16) :
    Calls Try.prog 77 #[.slice A v.length c, .int .i64 n, .agg #[.int .i64 1, .int .i64 1, .int .i64 o, .int .i64 0, .int .i64 0, .int .i64 0, .int .i64 0, .int .i64 0, .int .i64 0, .int .i64 0, .int .i64 0, .int .i64 0]] w fun e w' => ∃ g c', e = .returned (.tuple #[.slice (some ⟨g, 0, none⟩) v.length c', .int .i64 0]) ∧ VS w' g (putV v n (freshI o)) ∧ w.heap.size ≤ g ∧ Below w.heap.size w w' :=
  iput_ok A c v n (freshI o) w hr hv h1 h2 (freshI_fit o ho)

set_option maxHeartbeats 4000000 in
theorem inew_ok (A : Option Addr) (c : Nat) (v : Vol) (n o : Nat) (w : World) (hr : RS w A v) (hv : okV v = true) (h1 : 1 ≤ n) (h2 : n ≤ inosV v) (ho : o < 16) (hn : (inoV v n).kind = 0) (hp : ∀ j, 1 ≤ j → j < n → (inoV v j).kind ≠ 0) :
    Calls Try.prog 34 #[.slice A v.length c, .int .i64 1, .int .i64 o] w fun e w' => ∃ g c', e = .returned (.tuple #[.slice (some ⟨g, 0, none⟩) v.length c', .int .i64 n, .int .i64 0]) ∧ VS w' g (putV v n (freshI o)) ∧ w.heap.size ≤ g ∧ Below w.heap.size w w' := by
  have HV := Lib.hid hv
  have HR := Lib.hid hr
  have HN := Lib.hid hn
  have HP := Lib.hid hp
  have hi := (okV_iff.1 hv).ihi
  clear hv hr hn hp
  go_enter Try.func34, Try.ntmps34
  go_wp2_with (go_at_call 71; refine (of_ok _ _ _ _ HR.out HV.out).mono ?_; rintro e w1 ⟨rfl, hb1⟩)
  obtain ⟨G, hG⟩ : ∃ G, Obj.cells #[.int .i64 v.length, .int .i64 (inosV v), .int .i64 1, .int .i64 2, .int .i64 3, .int .i64 (3 + ((inosV v : Nat) + 1 : Int) / 2)] 66 = G := ⟨_, rfl⟩
  rw [hG]
  have hg0 := blk_new w1 G
  have hB0 : Below w.heap.size w (w1.alloc G) := hb1.alloc hb1.size _
  have hsz := hb1.size
  have hlt0 : w1.heap.size < (w1.alloc G).heap.size := by simp
  generalize w1.alloc G = W0 at *
  generalize w1.heap.size = gg at *
  have HG0 := Lib.hid hg0
  have HB0 := Lib.hid hB0
  clear hg0 hB0 hb1
  go_loopw [11] (fun nv wr => ∃ k : Nat, 1 ≤ k ∧ k ≤ n ∧ nv = .int .i64 k ∧ Hid (wr.heap[gg]? = some G) ∧ Hid (Below w.heap.size w wr)) (fun nv _ => inosV v + 1 - (intOf nv).toNat)
  case atStart => exact ⟨1, Nat.le_refl _, h1, rfl, HG0, HB0⟩
  case round =>
    obtain ⟨k, hk1, hk, rfl, hg, hB⟩ := hrel
    have hgc := hg.out
    rw [← hG] at hgc
    obtain ⟨g0, g1, g2, g3, g4, g5⟩ := cells6 hgc
    clear hgc
    have hki : k ≤ inosV v := by omega
    by_cases hkn : k < n
    · have hne := HP.out k hk1 hkn
      have hne' : (((inoV v k).kind : Int) == 0) = false := by simpa using hne
      go_wp2_with (go_at_call 32; refine (iget_ok _ _ _ k _ (HR.out.below hB.out) HV.out (by omega) (by omega)).mono ?_; rintro e w3 ⟨rfl, hb3⟩)
      refine ⟨⟨k + 1, by omega, by omega, by go_num, ?_, ?_⟩, by simp only [intOf]; omega⟩
      · exact blk_keep (blk_keep hg.out hb3) ((Below.refl _ _).alloc (Nat.le_refl _) _)
      · exact (below_keep hB.out (Nat.le_refl _) hb3).alloc (by have := hB.out.size; have := hb3.size; omega) _
    · obtain rfl : k = n := by omega
      have hz := HN.out
      go_wp2_with (first
        | (go_at_call 32; refine (iget_ok _ _ _ k _ (HR.out.below hB.out) HV.out (by omega) (by omega)).mono ?_; rintro e w3 ⟨rfl, hb3⟩; have HB3 := Lib.hid (below_keep hB.out (Nat.le_refl _) hb3))
        | (go_at_call 77; refine (iput_fresh _ _ v k o _ (HR.out.below (HB3.out.alloc HB3.out.size _)) HV.out (by omega) (by omega) (by omega)).mono ?_; rintro e w4 ⟨g, cg, rfl, hv4, hg4, hb4⟩))
      go_ret3
      have hs3 := HB3.out.size
      have hs4 : w3.heap.size ≤ g := Nat.le_trans (by simp) hg4
      exact ⟨g, cg, rfl, hv4, by omega, below_keep (HB3.out.alloc HB3.out.size _) (Nat.le_refl _) hb4⟩
set_option maxHeartbeats 4000000 in
theorem inew_full (A : Option Addr) (c : Nat) (v : Vol) (o : Nat) (w : World) (hr : RS w A v) (hv : okV v = true) (ho : o < 16) (hp : ∀ j, 1 ≤ j → j ≤ inosV v → (inoV v j).kind ≠ 0) :
    Calls Try.prog 34 #[.slice A v.length c, .int .i64 1, .int .i64 o] w fun e w' => e = .returned (.tuple #[.slice none 0 0, .int .i64 0, .int .i64 10]) ∧ Below w.heap.size w w' := by
  have HV := Lib.hid hv
  have HR := Lib.hid hr
  have HP := Lib.hid hp
  have hi := (okV_iff.1 hv).ihi
  clear hv hr hp
  go_enter Try.func34, Try.ntmps34
  go_wp2_with (go_at_call 71; refine (of_ok _ _ _ _ HR.out HV.out).mono ?_; rintro e w1 ⟨rfl, hb1⟩)
  obtain ⟨G, hG⟩ : ∃ G, Obj.cells #[.int .i64 v.length, .int .i64 (inosV v), .int .i64 1, .int .i64 2, .int .i64 3, .int .i64 (3 + ((inosV v : Nat) + 1 : Int) / 2)] 66 = G := ⟨_, rfl⟩
  rw [hG]
  have hg0 := blk_new w1 G
  have hB0 : Below w.heap.size w (w1.alloc G) := hb1.alloc hb1.size _
  generalize w1.alloc G = W0 at *
  generalize w1.heap.size = gg at *
  have HG0 := Lib.hid hg0
  have HB0 := Lib.hid hB0
  clear hg0 hB0 hb1
  go_loopw [11] (fun nv wr => ∃ k : Nat, 1 ≤ k ∧ k ≤ inosV v + 1 ∧ nv = .int .i64 k ∧ Hid (wr.heap[gg]? = some G) ∧ Hid (Below w.heap.size w wr)) (fun nv _ => inosV v + 1 - (intOf nv).toNat)
  case atStart => exact ⟨1, Nat.le_refl _, by omega, rfl, HG0, HB0⟩
  case round =>
    obtain ⟨k, hk1, hk, rfl, hg, hB⟩ := hrel
    have hgc := hg.out
    rw [← hG] at hgc
    obtain ⟨g0, g1, g2, g3, g4, g5⟩ := cells6 hgc
    clear hgc
    by_cases hki : k ≤ inosV v
    · have hne := HP.out k hk1 hki
      have hne' : (((inoV v k).kind : Int) == 0) = false := by simpa using hne
      go_wp2_with (go_at_call 32; refine (iget_ok _ _ _ k _ (HR.out.below hB.out) HV.out (by omega) (by omega)).mono ?_; rintro e w3 ⟨rfl, hb3⟩)
      refine ⟨⟨k + 1, by omega, by omega, by go_num, ?_, ?_⟩, by simp only [intOf]; omega⟩
      · exact blk_keep (blk_keep hg.out hb3) ((Below.refl _ _).alloc (Nat.le_refl _) _)
      · exact (below_keep hB.out (Nat.le_refl _) hb3).alloc (by have := hB.out.size; have := hb3.size; omega) _
    · go_wp2
      go_ret3
      exact ⟨rfl, hB.out⟩
end Go.Proofs.Ytacdohlhalnioaa
end

/- Contracts of the file's small methods: good, far, size, need, at. -/
section
set_option linter.unusedSimpArgs false
set_option linter.unusedVariables false
set_option maxRecDepth 20000
namespace Go.Proofs.Ytacdohlhalnioaa
open Go.RowKit
attribute [local go_sem] Oper.semAt_some

/-- A file lies open in block F, its volume in block g. -/
structure FileAt (w : World) (F g c L I d n : Nat) (v : Vol) (x : Ino) : Prop where
  blk : w.heap[F]? = some (.cells #[.slice (some ⟨g, 0, none⟩) L c, .int .i64 L, .int .i64 I, .int .i64 1, .int .i64 2, .int .i64 3, .int .i64 d, .int .i64 n, .int .i64 ((x.kind : Nat) : Int), .int .i64 ((x.links : Nat) : Int), .int .i64 ((x.owner : Nat) : Int), .int .i64 ((x.size : Nat) : Int), .int .i64 ((x.d0 : Nat) : Int), .int .i64 ((x.d1 : Nat) : Int), .int .i64 ((x.d2 : Nat) : Int), .int .i64 ((x.d3 : Nat) : Int), .int .i64 ((x.d4 : Nat) : Int), .int .i64 ((x.d5 : Nat) : Int), .int .i64 ((x.ind : Nat) : Int), .int .i64 ((x.ext : Nat) : Int)] 94 (0, 0))
  vol : VS w g v
  len : v.length = L
  ne : F ≠ g
theorem FileAt.keep {w w' : World} {F g c L I d n : Nat} {v : Vol} {x : Ino} (h : FileAt w F g c L I d n v x) (hb : Below w.heap.size w w') : FileAt w' F g c L I d n v x :=
  ⟨blk_keep h.blk hb, h.vol.keep hb, h.len, h.ne⟩
theorem FileAt.lt {w : World} {F g c L I d n : Nat} {v : Vol} {x : Ino} (h : FileAt w F g c L I d n v x) : F < w.heap.size := blk_lt h.blk

def goodN (d L b : Nat) : Bool := decide (d ≤ b) && decide (b < L)
def numV (d L : Nat) (v : Vol) (x : Ino) (k : Nat) : Nat := if k < 6 then x.list.getD (4 + k) 0 else if goodN d L x.ind = true then w2 (bk v x.ind) (2 * (k - 6)) else 0
/-- The block of k; 0: a hole. -/
def atN (d L : Nat) (v : Vol) (x : Ino) (k : Nat) : Nat := if goodN d L (numV d L v x k) = true then numV d L v x k else 0
def holeI (b : Nat) : Int := if b = 0 then -1 else b

set_option maxHeartbeats 400000 in
theorem good_ok (F g c L I d n : Nat) (v : Vol) (x : Ino) (b : Nat) (w : World) (hf : FileAt w F g c L I d n v x) :
    Calls Try.prog 63 #[.pointer (some ⟨F, 0, none⟩), .int .i64 b] w fun e w' => e = .returned (.bool (goodN d L b)) ∧ w = w' := by
  have hb := hf.blk
  have c1 : w.cell? ⟨F, 1, none⟩ = some (.int .i64 L) := by rw [cell_at hb]; rfl
  have c6 : w.cell? ⟨F, 6, none⟩ = some (.int .i64 d) := by rw [cell_at hb]; rfl
  clear hb hf
  by_cases h : d ≤ b
  · by_cases h2 : b < L
    · go_enter Try.func63, Try.ntmps63
      go_wp2
      go_ret
      exact ⟨ret_bool (by simp [goodN, h, h2]), rfl⟩
    · go_enter Try.func63, Try.ntmps63
      go_wp2
      go_ret
      exact ⟨ret_bool (by simp [goodN, h, h2]), rfl⟩
  · go_enter Try.func63, Try.ntmps63
    go_wp2
    go_ret
    exact ⟨ret_bool (by simp [goodN, h]), rfl⟩
set_option maxHeartbeats 400000 in
theorem far_ok (k : Nat) (w : World) (h : 6 ≤ k) (h2 : k < 70) :
    Calls Try.prog 121 #[.int .i64 k] w fun e w' => e = .returned (.int .i64 ((2 * (k - 6) : Nat) : Int)) ∧ w = w' := by
  go_enter Try.func121, Try.ntmps121
  go_wp2
  go_ret
  exact ⟨ret_int (by omega), rfl⟩
set_option maxHeartbeats 400000 in
theorem need_ok (s : Nat) (w : World) (h : s ≤ 8960) :
    Calls Try.prog 53 #[.int .i64 s] w fun e w' => e = .returned (.int .i64 (((s + 127) / 128 : Nat) : Int)) ∧ w = w' := by
  go_enter Try.func53, Try.ntmps53
  go_wp2
  go_ret
  exact ⟨ret_int (by omega), rfl⟩
set_option maxHeartbeats 400000 in
theorem size_ok (F g c L I d n : Nat) (v : Vol) (x : Ino) (w : World) (hf : FileAt w F g c L I d n v x) (hx : x.size < 4294967296) :
    Calls Try.prog 54 #[.pointer (some ⟨F, 0, none⟩)] w fun e w' => e = .returned (.int .i64 ((min x.size 8960 : Nat) : Int)) ∧ w = w' := by
  have hb := hf.blk
  have c11 : w.cell? ⟨F, 11, none⟩ = some (.int .i64 x.size) := by rw [cell_at hb]; rfl
  clear hb hf
  go_enter Try.func54, Try.ntmps54
  go_wp2
  all_goals
    go_ret
    exact ⟨ret_int (by omega), rfl⟩
end Go.Proofs.Ytacdohlhalnioaa
end

/- Contract: the block of a place in a file. -/
section
set_option linter.unusedSimpArgs false
set_option linter.unusedVariables false
set_option maxRecDepth 20000
namespace Go.Proofs.Ytacdohlhalnioaa
open Go.RowKit
attribute [local go_sem] Oper.semAt_some

theorem atN_near {d L : Nat} {v : Vol} {x : Ino} {k : Nat} (hk : k < 6) : numV d L v x k = x.list.getD (4 + k) 0 := by rw [numV, if_pos hk]
theorem i64_or_two (a b : Nat) (ha : a < 256) (hb : b < 256) : bits .or .i64 (a : Int) ((b : Int) * 256) = ((a + 256 * b : Nat) : Int) := by
  rw [show (b : Int) * 256 = ((256 * b : Nat) : Int) from by omega]
  show IntKind.i64.wrap ((BitVec.ofInt 64 (a : Int) ||| BitVec.ofInt 64 ((256 * b : Nat) : Int)).toNat : Int) = _
  rw [BitVec.toNat_or, BitVec.ofInt_natCast, BitVec.ofInt_natCast, BitVec.toNat_ofNat, BitVec.toNat_ofNat, Nat.mod_eq_of_lt (by omega), Nat.mod_eq_of_lt (by omega)]
  have h : a ||| 256 * b = a + 256 * b := by
    have := Nat.two_pow_add_eq_or_of_lt (i := 8) ha b
    rw [Nat.or_comm, Nat.add_comm]
    simpa using this.symm
  rw [h]
  simp [IntKind.wrap, IntKind.bits, IntKind.signed]
  omega
set_option maxHeartbeats 2000000 in
theorem at_ok (F g c L I d n : Nat) (v : Vol) (x : Ino) (k : Nat) (w : World) (hf : FileAt w F g c L I d n v x) (hk : k < 70) (hd : 0 < d) (hs : ∀ j, j < L → (bk v j).length = 128) (hL : L ≤ 223) :
    Calls Try.prog 96 #[.pointer (some ⟨F, 0, none⟩), .int .i64 k] w fun e w' => e = .returned (.int .i64 (holeI (atN d L v x k))) ∧ Below w.heap.size w w' := by
  have HF := Lib.hid hf
  by_cases hk6 : k < 6
  · have hcd : w.cell? ⟨F, 12 + k, none⟩ = some (.int .i64 ((x.list.getD (4 + k) 0 : Nat) : Int)) := by
      rw [cell_at hf.blk]
      rcases (by omega : k = 0 ∨ k = 1 ∨ k = 2 ∨ k = 3 ∨ k = 4 ∨ k = 5) with rfl | rfl | rfl | rfl | rfl | rfl <;> rfl
    have hn := atN_near (d := d) (L := L) (v := v) (x := x) hk6
    have HN := Lib.hid hn
    have HS := Lib.hid hs
    have hki : (k : Int) < 6 := by omega
    clear hf hn hs
    rw [atN, HN.out]
    generalize x.list.getD (4 + k) 0 = b at *
    by_cases hg : goodN d L b = true
    · have hb0 : b ≠ 0 := by simp [goodN] at hg; omega
      rw [if_pos hg, holeI, if_neg hb0]
      go_enter Try.func96, Try.ntmps96
      go_wp2_with (go_at_call 63; refine (good_ok _ _ _ _ _ _ _ _ _ b _ HF.out).mono ?_; rintro e w3 ⟨rfl, rfl⟩)
      go_ret
      exact ⟨rfl, Below.refl _ _⟩
    · have hg' : goodN d L b = false := by simpa using hg
      rw [if_neg hg, holeI, if_pos rfl]
      go_enter Try.func96, Try.ntmps96
      go_wp2_with (go_at_call 63; refine (good_ok _ _ _ _ _ _ _ _ _ b _ HF.out).mono ?_; rintro e w3 ⟨rfl, rfl⟩)
      go_ret
      exact ⟨rfl, Below.refl _ _⟩
  · have c18 : w.cell? ⟨F, 18, none⟩ = some (.int .i64 x.ind) := by rw [cell_at hf.blk]; rfl
    by_cases hgi : goodN d L x.ind = true
    · have hgi2 : d ≤ x.ind ∧ x.ind < L := by simpa [goodN] using hgi
      have hlv := hf.len
      have hsi := hs x.ind (by omega)
      have hci := hf.vol.cell x.ind (by omega)
      have hn : numV d L v x k = w2 (bk v x.ind) (2 * (k - 6)) := by rw [numV, if_neg hk6, if_pos hgi]
      have c0 : w.cell? ⟨F, 0, none⟩ = some (.slice (some ⟨g, 0, none⟩) L c) := by rw [cell_at hf.blk]; rfl
      have hb1 := gb_lt (bk v x.ind) (2 * (k - 6))
      have hb2 := gb_lt (bk v x.ind) (2 * (k - 6) + 1)
      have hor := i64_or_two (gb (bk v x.ind) (2 * (k - 6))) (gb (bk v x.ind) (2 * (k - 6) + 1)) hb1 hb2
      rw [show gb (bk v x.ind) (2 * (k - 6)) + 256 * gb (bk v x.ind) (2 * (k - 6) + 1) = w2 (bk v x.ind) (2 * (k - 6)) from rfl] at hor
      have hw2 := w2_lt (bk v x.ind) (2 * (k - 6))
      have hgood := fun w' (hf' : FileAt w' F g c L I d n v x) b => good_ok F g c L I d n v x b w' hf'
      have HG := Lib.hid hgood
      clear hgood hs hlv
      rw [atN, hn]
      clear hn
      obtain ⟨m, hm⟩ : ∃ m, 2 * (k - 6) = m := ⟨_, rfl⟩
      have hm2 : m + 1 < 128 := by omega
      have hfar := fun w' => far_ok k w' (by omega) hk
      rw [hm] at hb1 hb2 hor hw2 hfar ⊢
      have HFar := Lib.hid hfar
      obtain ⟨b, hb⟩ : ∃ b, bk v x.ind = b := ⟨_, rfl⟩
      rw [hb] at hsi hci hb1 hb2 hor hw2 ⊢
      have hm1 : (m : Int) < 128 := by omega
      have hm1' : (m : Int) + 1 < 128 := by omega
      have hi1 : (x.ind : Int) < (L : Int) := by omega
      have hwm : IntKind.i64.wrap ((m : Int) + 1) = (m : Int) + 1 := by simp [IntKind.wrap, IntKind.bits, IntKind.signed]; omega
      have htm : ((m : Int) + 1).toNat = m + 1 := by omega
      have hpm : (0 : Int) ≤ (m : Int) + 1 := by omega
      have hsh : IntKind.i64.wrap ((gb b (m + 1) : Nat) * 256 : Int) = (gb b (m + 1) : Nat) * 256 := by simp [IntKind.wrap, IntKind.bits, IntKind.signed]; omega
      obtain ⟨b0, hb0⟩ : ∃ b0, gb b m = b0 := ⟨_, rfl⟩
      obtain ⟨b1, hb1'⟩ : ∃ b1, gb b (m + 1) = b1 := ⟨_, rfl⟩
      obtain ⟨nb, hnb⟩ : ∃ nb, w2 b m = nb := ⟨_, rfl⟩
      rw [hnb] at hor hw2 ⊢
      rw [hb0, hb1'] at hor
      rw [hb1'] at hsh
      rw [hb0] at hb1
      rw [hb1'] at hb2
      have HB := Lib.hid hb
      have HM := Lib.hid hm
      have hwb0 : IntKind.i64.wrap (b0 : Int) = (b0 : Int) := by simp [IntKind.wrap, IntKind.bits, IntKind.signed]; omega
      have hwb1 : IntKind.i64.wrap (b1 : Int) = (b1 : Int) := by simp [IntKind.wrap, IntKind.bits, IntKind.signed]; omega
      have HB0 := Lib.hid hb0
      have HB1 := Lib.hid hb1'
      clear hf hfar hb hm hnb
      have hk6' : (6 : Int) ≤ (k : Int) := by omega
      by_cases hg : goodN d L nb = true
      · have hnb0 : nb ≠ 0 := by simp [goodN] at hg; omega
        rw [if_pos hg, holeI, if_neg hnb0]
        go_enter Try.func96, Try.ntmps96
        go_wp2_with (go_at_call 63; refine (HG.out _ HF.out _).mono ?_; rintro e w3 ⟨rfl, rfl⟩)
        refine region_P (fun w' => w'.cell? ⟨F, 0, none⟩ = some (.slice (some ⟨g, 0, none⟩) L c) ∧ w'.cell? ⟨F, 18, none⟩ = some (.int .i64 x.ind) ∧ w'.cell? ⟨g, x.ind, none⟩ = some (.string (mk b))) [] (by kernel_rfl) ?_ (fun hHeld => ?_)
        · exact ⟨c0, c18, hci⟩
        refine wpP_take (i := 0) (oi := ?oi443001) (v := ?v443001) ?hi443001 (by kernel_rfl) (by kernel_rfl) (by kernel_rfl) (by kernel_rfl) ?hQ443001 ?hy443001 (by assumption) ?rest443001
        case hi443001 => (simp only [List.getElem?_toArray, List.getElem?_cons_succ, List.getElem?_cons_zero]; exact rfl)
        case hQ443001 => exact fun _ _ _ h => h
        case hy443001 => (refine Or.inl ⟨by kernel_rfl, ?_⟩; intro w hSw; (try dsimp only at hSw); go_simp; try (with_reducible rfl))
        try simp only [Act.put, List.setIfInBounds_toArray, List.set_cons_zero, List.set_cons_succ]
        refine wpP_take (i := 1) (oi := ?oi443002) (v := ?v443002) ?hi443002 (by kernel_rfl) (by kernel_rfl) (by kernel_rfl) (by kernel_rfl) ?hQ443002 ?hy443002 (by assumption) ?rest443002
        case hi443002 => (simp only [List.getElem?_toArray, List.getElem?_cons_succ, List.getElem?_cons_zero]; exact rfl)
        case hQ443002 => exact fun _ _ _ h => h
        case hy443002 => (refine Or.inl ⟨by kernel_rfl, ?_⟩; intro w hSw; (try dsimp only at hSw); go_simp; try (with_reducible rfl))
        try simp only [Act.put, List.setIfInBounds_toArray, List.set_cons_zero, List.set_cons_succ]
        refine wpP_take (i := 2) (oi := ?oi443003) (v := ?v443003) ?hi443003 (by kernel_rfl) (by kernel_rfl) (by kernel_rfl) (by kernel_rfl) ?hQ443003 ?hy443003 (by assumption) ?rest443003
        case hi443003 => (simp only [List.getElem?_toArray, List.getElem?_cons_succ, List.getElem?_cons_zero]; exact rfl)
        case hQ443003 => exact fun _ _ _ h => h
        case hy443003 => (refine Or.inl ⟨by kernel_rfl, ?_⟩; intro w hSw; (try dsimp only at hSw); go_simp; try (with_reducible rfl))
        try simp only [Act.put, List.setIfInBounds_toArray, List.set_cons_zero, List.set_cons_succ]
        refine wpP_take (i := 3) (oi := ?oi443004) (v := ?v443004) ?hi443004 (by kernel_rfl) (by kernel_rfl) (by kernel_rfl) (by kernel_rfl) ?hQ443004 ?hy443004 (by assumption) ?rest443004
        case hi443004 => (simp only [List.getElem?_toArray, List.getElem?_cons_succ, List.getElem?_cons_zero]; exact rfl)
        case hQ443004 => exact fun _ _ _ h => h
        case hy443004 => (refine Or.inl ⟨by kernel_rfl, ?_⟩; intro w hSw; (try dsimp only at hSw); go_simp; try (with_reducible rfl))
        try simp only [Act.put, List.setIfInBounds_toArray, List.set_cons_zero, List.set_cons_succ]
        refine wpP_take (i := 4) (oi := ?oi443005) (v := ?v443005) ?hi443005 (by kernel_rfl) (by kernel_rfl) (by kernel_rfl) (by kernel_rfl) ?hQ443005 ?hy443005 (by assumption) ?rest443005
        case hi443005 => (simp only [List.getElem?_toArray, List.getElem?_cons_succ, List.getElem?_cons_zero]; exact rfl)
        case hQ443005 => exact fun _ _ _ h => h
        case hy443005 => (refine Or.inl ⟨by kernel_rfl, ?_⟩; intro w hSw; (try dsimp only at hSw); go_simp; try (with_reducible rfl))
        try simp only [Act.put, List.setIfInBounds_toArray, List.set_cons_zero, List.set_cons_succ]
        refine wpP_take (i := 5) (oi := ?oi443006) (v := ?v443006) ?hi443006 (by kernel_rfl) (by kernel_rfl) (by kernel_rfl) (by kernel_rfl) ?hQ443006 ?hy443006 (by assumption) ?rest443006
        case hi443006 => (simp only [List.getElem?_toArray, List.getElem?_cons_succ, List.getElem?_cons_zero]; exact rfl)
        case hQ443006 => exact fun _ _ _ h => h
        case hy443006 => (refine Or.inl ⟨by kernel_rfl, ?_⟩; intro w hSw; (try dsimp only at hSw); go_simp; try (with_reducible rfl))
        try simp only [Act.put, List.setIfInBounds_toArray, List.set_cons_zero, List.set_cons_succ]
        refine wpP_take (i := 6) (oi := ?oi443007) (v := ?v443007) ?hi443007 (by kernel_rfl) (by kernel_rfl) (by kernel_rfl) (by kernel_rfl) ?hQ443007 ?hy443007 (by assumption) ?rest443007
        case hi443007 => (simp only [List.getElem?_toArray, List.getElem?_cons_succ, List.getElem?_cons_zero]; exact rfl)
        case hQ443007 => exact fun _ _ _ h => h
        case hy443007 => (refine Or.inl ⟨by kernel_rfl, ?_⟩; intro w hSw; (try dsimp only at hSw); go_simp; try (with_reducible rfl))
        try simp only [Act.put, List.setIfInBounds_toArray, List.set_cons_zero, List.set_cons_succ]
        refine wpP_take (i := 7) (oi := ?oi443008) (v := ?v443008) ?hi443008 (by kernel_rfl) (by kernel_rfl) (by kernel_rfl) (by kernel_rfl) ?hQ443008 ?hy443008 (by assumption) ?rest443008
        case hi443008 => (simp only [List.getElem?_toArray, List.getElem?_cons_succ, List.getElem?_cons_zero]; exact rfl)
        case hQ443008 => exact fun _ _ _ h => h
        case hy443008 => (refine Or.inl ⟨by kernel_rfl, ?_⟩; intro w hSw; (try dsimp only at hSw); go_simp; try (with_reducible rfl))
        try simp only [Act.put, List.setIfInBounds_toArray, List.set_cons_zero, List.set_cons_succ]
        refine wpP_take (i := 8) (oi := ?oi443009) (v := ?v443009) ?hi443009 (by kernel_rfl) (by kernel_rfl) (by kernel_rfl) (by kernel_rfl) ?hQ443009 ?hy443009 (by assumption) ?rest443009
        case hi443009 => (simp only [List.getElem?_toArray, List.getElem?_cons_succ, List.getElem?_cons_zero]; exact rfl)
        case hQ443009 => exact fun _ _ _ h => h
        case hy443009 => (refine Or.inl ⟨by kernel_rfl, ?_⟩; intro w hSw; (try dsimp only at hSw); go_simp; try (with_reducible rfl))
        try simp only [Act.put, List.setIfInBounds_toArray, List.set_cons_zero, List.set_cons_succ]
        refine wpP_take (i := 9) (oi := ?oi443010) (v := ?v443010) ?hi443010 (by kernel_rfl) (by kernel_rfl) (by kernel_rfl) (by kernel_rfl) ?hQ443010 ?hy443010 (by assumption) ?rest443010
        case hi443010 => (simp only [List.getElem?_toArray, List.getElem?_cons_succ, List.getElem?_cons_zero]; exact rfl)
        case hQ443010 => exact fun _ _ _ h => h
        case hy443010 => (refine Or.inl ⟨by kernel_rfl, ?_⟩; intro w hSw; (try dsimp only at hSw); go_simp; try (with_reducible rfl))
        try simp only [Act.put, List.setIfInBounds_toArray, List.set_cons_zero, List.set_cons_succ]
        refine wpP_take (i := 10) (oi := ?oi443011) (v := ?v443011) ?hi443011 (by kernel_rfl) (by kernel_rfl) (by kernel_rfl) (by kernel_rfl) ?hQ443011 ?hy443011 (by assumption) ?rest443011
        case hi443011 => (simp only [List.getElem?_toArray, List.getElem?_cons_succ, List.getElem?_cons_zero]; exact rfl)
        case hQ443011 => exact fun _ _ _ h => h
        case hy443011 => (refine Or.inl ⟨by kernel_rfl, ?_⟩; intro w hSw; (try dsimp only at hSw); go_simp; try (with_reducible rfl))
        try simp only [Act.put, List.setIfInBounds_toArray, List.set_cons_zero, List.set_cons_succ]
        refine wpP_take (i := 11) (oi := ?oi443012) (v := ?v443012) ?hi443012 (by kernel_rfl) (by kernel_rfl) (by kernel_rfl) (by kernel_rfl) ?hQ443012 ?hy443012 (by assumption) ?rest443012
        case hi443012 => (simp only [List.getElem?_toArray, List.getElem?_cons_succ, List.getElem?_cons_zero]; exact rfl)
        case hQ443012 => exact fun _ _ _ h => h
        case hy443012 => (refine Or.inl ⟨by kernel_rfl, ?_⟩; intro w hSw; (try dsimp only at hSw); go_simp; try (with_reducible rfl))
        try simp only [Act.put, List.setIfInBounds_toArray, List.set_cons_zero, List.set_cons_succ]
        refine wpP_done (by kernel_rfl) ?_ _
        go_wp2
        refine region_P (fun _ => True) [] (by kernel_rfl) ?_ (fun hHeld => ?_)
        · exact trivial
        refine wpP_take (i := 0) (oi := ?oi443013) (v := ?v443013) ?hi443013 (by kernel_rfl) (by kernel_rfl) (by kernel_rfl) (by kernel_rfl) ?hQ443013 ?hy443013 (by assumption) ?rest443013
        case hi443013 => (simp only [List.getElem?_toArray, List.getElem?_cons_succ, List.getElem?_cons_zero]; exact rfl)
        case hQ443013 => exact fun _ _ _ h => h
        case hy443013 => (refine Or.inl ⟨by kernel_rfl, ?_⟩; intro w hSw; (try dsimp only at hSw); go_simp; try (with_reducible rfl))
        try simp only [Act.put, List.setIfInBounds_toArray, List.set_cons_zero, List.set_cons_succ]
        refine wpP_take (i := 1) (oi := ?oi443014) (v := ?v443014) ?hi443014 (by kernel_rfl) (by kernel_rfl) (by kernel_rfl) (by kernel_rfl) ?hQ443014 ?hy443014 (by assumption) ?rest443014
        case hi443014 => (simp only [List.getElem?_toArray, List.getElem?_cons_succ, List.getElem?_cons_zero]; exact rfl)
        case hQ443014 => exact fun _ _ _ h => h
        case hy443014 => (refine Or.inl ⟨by kernel_rfl, ?_⟩; intro w hSw; (try dsimp only at hSw); go_simp; try (with_reducible rfl))
        try simp only [Act.put, List.setIfInBounds_toArray, List.set_cons_zero, List.set_cons_succ]
        refine wpP_take (i := 5) (oi := ?oi443015) (v := ?v443015) ?hi443015 (by kernel_rfl) (by kernel_rfl) (by kernel_rfl) (by kernel_rfl) ?hQ443015 ?hy443015 (by assumption) ?rest443015
        case hi443015 => (simp only [List.getElem?_toArray, List.getElem?_cons_succ, List.getElem?_cons_zero]; exact rfl)
        case hQ443015 => exact fun _ _ _ h => h
        case hy443015 => (refine Or.inl ⟨by kernel_rfl, ?_⟩; intro w hSw; (try dsimp only at hSw); go_simp; try (with_reducible rfl))
        try simp only [Act.put, List.setIfInBounds_toArray, List.set_cons_zero, List.set_cons_succ]
        refine wpP_take (i := 6) (oi := ?oi443016) (v := ?v443016) ?hi443016 (by kernel_rfl) (by kernel_rfl) (by kernel_rfl) (by kernel_rfl) ?hQ443016 ?hy443016 (by assumption) ?rest443016
        case hi443016 => (simp only [List.getElem?_toArray, List.getElem?_cons_succ, List.getElem?_cons_zero]; exact rfl)
        case hQ443016 => exact fun _ _ _ h => h
        case hy443016 => (refine Or.inl ⟨by kernel_rfl, ?_⟩; intro w hSw; (try dsimp only at hSw); go_simp; try (with_reducible rfl))
        try simp only [Act.put, List.setIfInBounds_toArray, List.set_cons_zero, List.set_cons_succ]
        refine wpP_ready (rs := [2]) (by kernel_rfl) (by simp) ?_
        refine AllP.cons (o := ?o443017) ?ho443017 (fun K hK => ?_) AllP.nil
        case ho443017 => (simp only [List.getElem?_toArray, List.getElem?_cons_succ, List.getElem?_cons_zero]; exact rfl)
        go_simp
        go_at_call 121
        refine (HFar.out _).mono ?_
        rintro e w3 ⟨rfl, rfl⟩
        refine hK.out _ _ ?_ (fun hHeld => ?_)
        · exact trivial
        clear hK K
        try simp only [Act.put, List.setIfInBounds_toArray, List.set_cons_zero, List.set_cons_succ]
        refine wpP_take (i := 3) (oi := ?oi443018) (v := ?v443018) ?hi443018 (by kernel_rfl) (by kernel_rfl) (by kernel_rfl) (by kernel_rfl) ?hQ443018 ?hy443018 (by assumption) ?rest443018
        case hi443018 => (simp only [List.getElem?_toArray, List.getElem?_cons_succ, List.getElem?_cons_zero]; exact rfl)
        case hQ443018 => exact fun _ _ _ h => h
        case hy443018 => (refine Or.inl ⟨by kernel_rfl, ?_⟩; intro w hSw; (try dsimp only at hSw); go_simp; try (with_reducible rfl))
        try simp only [Act.put, List.setIfInBounds_toArray, List.set_cons_zero, List.set_cons_succ]
        refine wpP_take (i := 4) (oi := ?oi443019) (v := ?v443019) ?hi443019 (by kernel_rfl) (by kernel_rfl) (by kernel_rfl) (by kernel_rfl) ?hQ443019 ?hy443019 (by assumption) ?rest443019
        case hi443019 => (simp only [List.getElem?_toArray, List.getElem?_cons_succ, List.getElem?_cons_zero]; exact rfl)
        case hQ443019 => exact fun _ _ _ h => h
        case hy443019 => (refine Or.inl ⟨by kernel_rfl, ?_⟩; intro w hSw; (try dsimp only at hSw); go_simp; try (with_reducible rfl))
        try simp only [Act.put, List.setIfInBounds_toArray, List.set_cons_zero, List.set_cons_succ]
        refine wpP_ready (rs := [7]) (by kernel_rfl) (by simp) ?_
        refine AllP.cons (o := ?o443020) ?ho443020 (fun K hK => ?_) AllP.nil
        case ho443020 => (simp only [List.getElem?_toArray, List.getElem?_cons_succ, List.getElem?_cons_zero]; exact rfl)
        go_simp
        go_at_call 121
        refine (HFar.out _).mono ?_
        rintro e w3 ⟨rfl, rfl⟩
        refine hK.out _ _ ?_ (fun hHeld => ?_)
        · exact trivial
        clear hK K
        try simp only [Act.put, List.setIfInBounds_toArray, List.set_cons_zero, List.set_cons_succ]
        refine wpP_take (i := 8) (oi := ?oi443021) (v := ?v443021) ?hi443021 (by kernel_rfl) (by kernel_rfl) (by kernel_rfl) (by kernel_rfl) ?hQ443021 ?hy443021 (by assumption) ?rest443021
        case hi443021 => (simp only [List.getElem?_toArray, List.getElem?_cons_succ, List.getElem?_cons_zero]; exact rfl)
        case hQ443021 => exact fun _ _ _ h => h
        case hy443021 => (refine Or.inl ⟨by kernel_rfl, ?_⟩; intro w hSw; (try dsimp only at hSw); go_simp; try (with_reducible rfl))
        try simp only [Act.put, List.setIfInBounds_toArray, List.set_cons_zero, List.set_cons_succ]
        refine wpP_take (i := 9) (oi := ?oi443022) (v := ?v443022) ?hi443022 (by kernel_rfl) (by kernel_rfl) (by kernel_rfl) (by kernel_rfl) ?hQ443022 ?hy443022 (by assumption) ?rest443022
        case hi443022 => (simp only [List.getElem?_toArray, List.getElem?_cons_succ, List.getElem?_cons_zero]; exact rfl)
        case hQ443022 => exact fun _ _ _ h => h
        case hy443022 => (refine Or.inl ⟨by kernel_rfl, ?_⟩; intro w hSw; (try dsimp only at hSw); go_simp; try (with_reducible rfl))
        try simp only [Act.put, List.setIfInBounds_toArray, List.set_cons_zero, List.set_cons_succ]
        refine wpP_take (i := 10) (oi := ?oi443023) (v := ?v443023) ?hi443023 (by kernel_rfl) (by kernel_rfl) (by kernel_rfl) (by kernel_rfl) ?hQ443023 ?hy443023 (by assumption) ?rest443023
        case hi443023 => (simp only [List.getElem?_toArray, List.getElem?_cons_succ, List.getElem?_cons_zero]; exact rfl)
        case hQ443023 => exact fun _ _ _ h => h
        case hy443023 => (refine Or.inl ⟨by kernel_rfl, ?_⟩; intro w hSw; (try dsimp only at hSw); go_simp; try (with_reducible rfl))
        try simp only [Act.put, List.setIfInBounds_toArray, List.set_cons_zero, List.set_cons_succ]
        refine wpP_take (i := 11) (oi := ?oi443024) (v := ?v443024) ?hi443024 (by kernel_rfl) (by kernel_rfl) (by kernel_rfl) (by kernel_rfl) ?hQ443024 ?hy443024 (by assumption) ?rest443024
        case hi443024 => (simp only [List.getElem?_toArray, List.getElem?_cons_succ, List.getElem?_cons_zero]; exact rfl)
        case hQ443024 => exact fun _ _ _ h => h
        case hy443024 => (refine Or.inl ⟨by kernel_rfl, ?_⟩; intro w hSw; (try dsimp only at hSw); go_simp; try (with_reducible rfl))
        try simp only [Act.put, List.setIfInBounds_toArray, List.set_cons_zero, List.set_cons_succ]
        refine wpP_take (i := 12) (oi := ?oi443025) (v := ?v443025) ?hi443025 (by kernel_rfl) (by kernel_rfl) (by kernel_rfl) (by kernel_rfl) ?hQ443025 ?hy443025 (by assumption) ?rest443025
        case hi443025 => (simp only [List.getElem?_toArray, List.getElem?_cons_succ, List.getElem?_cons_zero]; exact rfl)
        case hQ443025 => exact fun _ _ _ h => h
        case hy443025 => (refine Or.inl ⟨by kernel_rfl, ?_⟩; intro w hSw; (try dsimp only at hSw); go_simp; try (with_reducible rfl))
        try simp only [Act.put, List.setIfInBounds_toArray, List.set_cons_zero, List.set_cons_succ]
        refine wpP_take (i := 13) (oi := ?oi443026) (v := ?v443026) ?hi443026 (by kernel_rfl) (by kernel_rfl) (by kernel_rfl) (by kernel_rfl) ?hQ443026 ?hy443026 (by assumption) ?rest443026
        case hi443026 => (simp only [List.getElem?_toArray, List.getElem?_cons_succ, List.getElem?_cons_zero]; exact rfl)
        case hQ443026 => exact fun _ _ _ h => h
        case hy443026 => (refine Or.inl ⟨by kernel_rfl, ?_⟩; intro w hSw; (try dsimp only at hSw); go_simp; try (with_reducible rfl))
        try simp only [Act.put, List.setIfInBounds_toArray, List.set_cons_zero, List.set_cons_succ]
        refine wpP_done (by kernel_rfl) ?_ _
        go_wp2_with (go_at_call 63; refine (HG.out _ (HF.out.keep ((Below.refl _ w).drew.drew)) nb).mono ?_; rintro e w3 ⟨rfl, rfl⟩)
        go_ret
        exact ⟨rfl, (Below.refl _ _).drew.drew⟩
      · have hg' : goodN d L nb = false := by simpa using hg
        rw [if_neg hg, holeI, if_pos rfl]
        go_enter Try.func96, Try.ntmps96
        go_wp2_with (go_at_call 63; refine (HG.out _ HF.out _).mono ?_; rintro e w3 ⟨rfl, rfl⟩)
        refine region_P (fun w' => w'.cell? ⟨F, 0, none⟩ = some (.slice (some ⟨g, 0, none⟩) L c) ∧ w'.cell? ⟨F, 18, none⟩ = some (.int .i64 x.ind) ∧ w'.cell? ⟨g, x.ind, none⟩ = some (.string (mk b))) [] (by kernel_rfl) ?_ (fun hHeld => ?_)
        · exact ⟨c0, c18, hci⟩
        refine wpP_take (i := 0) (oi := ?oi443027) (v := ?v443027) ?hi443027 (by kernel_rfl) (by kernel_rfl) (by kernel_rfl) (by kernel_rfl) ?hQ443027 ?hy443027 (by assumption) ?rest443027
        case hi443027 => (simp only [List.getElem?_toArray, List.getElem?_cons_succ, List.getElem?_cons_zero]; exact rfl)
        case hQ443027 => exact fun _ _ _ h => h
        case hy443027 => (refine Or.inl ⟨by kernel_rfl, ?_⟩; intro w hSw; (try dsimp only at hSw); go_simp; try (with_reducible rfl))
        try simp only [Act.put, List.setIfInBounds_toArray, List.set_cons_zero, List.set_cons_succ]
        refine wpP_take (i := 1) (oi := ?oi443028) (v := ?v443028) ?hi443028 (by kernel_rfl) (by kernel_rfl) (by kernel_rfl) (by kernel_rfl) ?hQ443028 ?hy443028 (by assumption) ?rest443028
        case hi443028 => (simp only [List.getElem?_toArray, List.getElem?_cons_succ, List.getElem?_cons_zero]; exact rfl)
        case hQ443028 => exact fun _ _ _ h => h
        case hy443028 => (refine Or.inl ⟨by kernel_rfl, ?_⟩; intro w hSw; (try dsimp only at hSw); go_simp; try (with_reducible rfl))
        try simp only [Act.put, List.setIfInBounds_toArray, List.set_cons_zero, List.set_cons_succ]
        refine wpP_take (i := 2) (oi := ?oi443029) (v := ?v443029) ?hi443029 (by kernel_rfl) (by kernel_rfl) (by kernel_rfl) (by kernel_rfl) ?hQ443029 ?hy443029 (by assumption) ?rest443029
        case hi443029 => (simp only [List.getElem?_toArray, List.getElem?_cons_succ, List.getElem?_cons_zero]; exact rfl)
        case hQ443029 => exact fun _ _ _ h => h
        case hy443029 => (refine Or.inl ⟨by kernel_rfl, ?_⟩; intro w hSw; (try dsimp only at hSw); go_simp; try (with_reducible rfl))
        try simp only [Act.put, List.setIfInBounds_toArray, List.set_cons_zero, List.set_cons_succ]
        refine wpP_take (i := 3) (oi := ?oi443030) (v := ?v443030) ?hi443030 (by kernel_rfl) (by kernel_rfl) (by kernel_rfl) (by kernel_rfl) ?hQ443030 ?hy443030 (by assumption) ?rest443030
        case hi443030 => (simp only [List.getElem?_toArray, List.getElem?_cons_succ, List.getElem?_cons_zero]; exact rfl)
        case hQ443030 => exact fun _ _ _ h => h
        case hy443030 => (refine Or.inl ⟨by kernel_rfl, ?_⟩; intro w hSw; (try dsimp only at hSw); go_simp; try (with_reducible rfl))
        try simp only [Act.put, List.setIfInBounds_toArray, List.set_cons_zero, List.set_cons_succ]
        refine wpP_take (i := 4) (oi := ?oi443031) (v := ?v443031) ?hi443031 (by kernel_rfl) (by kernel_rfl) (by kernel_rfl) (by kernel_rfl) ?hQ443031 ?hy443031 (by assumption) ?rest443031
        case hi443031 => (simp only [List.getElem?_toArray, List.getElem?_cons_succ, List.getElem?_cons_zero]; exact rfl)
        case hQ443031 => exact fun _ _ _ h => h
        case hy443031 => (refine Or.inl ⟨by kernel_rfl, ?_⟩; intro w hSw; (try dsimp only at hSw); go_simp; try (with_reducible rfl))
        try simp only [Act.put, List.setIfInBounds_toArray, List.set_cons_zero, List.set_cons_succ]
        refine wpP_take (i := 5) (oi := ?oi443032) (v := ?v443032) ?hi443032 (by kernel_rfl) (by kernel_rfl) (by kernel_rfl) (by kernel_rfl) ?hQ443032 ?hy443032 (by assumption) ?rest443032
        case hi443032 => (simp only [List.getElem?_toArray, List.getElem?_cons_succ, List.getElem?_cons_zero]; exact rfl)
        case hQ443032 => exact fun _ _ _ h => h
        case hy443032 => (refine Or.inl ⟨by kernel_rfl, ?_⟩; intro w hSw; (try dsimp only at hSw); go_simp; try (with_reducible rfl))
        try simp only [Act.put, List.setIfInBounds_toArray, List.set_cons_zero, List.set_cons_succ]
        refine wpP_take (i := 6) (oi := ?oi443033) (v := ?v443033) ?hi443033 (by kernel_rfl) (by kernel_rfl) (by kernel_rfl) (by kernel_rfl) ?hQ443033 ?hy443033 (by assumption) ?rest443033
        case hi443033 => (simp only [List.getElem?_toArray, List.getElem?_cons_succ, List.getElem?_cons_zero]; exact rfl)
        case hQ443033 => exact fun _ _ _ h => h
        case hy443033 => (refine Or.inl ⟨by kernel_rfl, ?_⟩; intro w hSw; (try dsimp only at hSw); go_simp; try (with_reducible rfl))
        try simp only [Act.put, List.setIfInBounds_toArray, List.set_cons_zero, List.set_cons_succ]
        refine wpP_take (i := 7) (oi := ?oi443034) (v := ?v443034) ?hi443034 (by kernel_rfl) (by kernel_rfl) (by kernel_rfl) (by kernel_rfl) ?hQ443034 ?hy443034 (by assumption) ?rest443034
        case hi443034 => (simp only [List.getElem?_toArray, List.getElem?_cons_succ, List.getElem?_cons_zero]; exact rfl)
        case hQ443034 => exact fun _ _ _ h => h
        case hy443034 => (refine Or.inl ⟨by kernel_rfl, ?_⟩; intro w hSw; (try dsimp only at hSw); go_simp; try (with_reducible rfl))
        try simp only [Act.put, List.setIfInBounds_toArray, List.set_cons_zero, List.set_cons_succ]
        refine wpP_take (i := 8) (oi := ?oi443035) (v := ?v443035) ?hi443035 (by kernel_rfl) (by kernel_rfl) (by kernel_rfl) (by kernel_rfl) ?hQ443035 ?hy443035 (by assumption) ?rest443035
        case hi443035 => (simp only [List.getElem?_toArray, List.getElem?_cons_succ, List.getElem?_cons_zero]; exact rfl)
        case hQ443035 => exact fun _ _ _ h => h
        case hy443035 => (refine Or.inl ⟨by kernel_rfl, ?_⟩; intro w hSw; (try dsimp only at hSw); go_simp; try (with_reducible rfl))
        try simp only [Act.put, List.setIfInBounds_toArray, List.set_cons_zero, List.set_cons_succ]
        refine wpP_take (i := 9) (oi := ?oi443036) (v := ?v443036) ?hi443036 (by kernel_rfl) (by kernel_rfl) (by kernel_rfl) (by kernel_rfl) ?hQ443036 ?hy443036 (by assumption) ?rest443036
        case hi443036 => (simp only [List.getElem?_toArray, List.getElem?_cons_succ, List.getElem?_cons_zero]; exact rfl)
        case hQ443036 => exact fun _ _ _ h => h
        case hy443036 => (refine Or.inl ⟨by kernel_rfl, ?_⟩; intro w hSw; (try dsimp only at hSw); go_simp; try (with_reducible rfl))
        try simp only [Act.put, List.setIfInBounds_toArray, List.set_cons_zero, List.set_cons_succ]
        refine wpP_take (i := 10) (oi := ?oi443037) (v := ?v443037) ?hi443037 (by kernel_rfl) (by kernel_rfl) (by kernel_rfl) (by kernel_rfl) ?hQ443037 ?hy443037 (by assumption) ?rest443037
        case hi443037 => (simp only [List.getElem?_toArray, List.getElem?_cons_succ, List.getElem?_cons_zero]; exact rfl)
        case hQ443037 => exact fun _ _ _ h => h
        case hy443037 => (refine Or.inl ⟨by kernel_rfl, ?_⟩; intro w hSw; (try dsimp only at hSw); go_simp; try (with_reducible rfl))
        try simp only [Act.put, List.setIfInBounds_toArray, List.set_cons_zero, List.set_cons_succ]
        refine wpP_take (i := 11) (oi := ?oi443038) (v := ?v443038) ?hi443038 (by kernel_rfl) (by kernel_rfl) (by kernel_rfl) (by kernel_rfl) ?hQ443038 ?hy443038 (by assumption) ?rest443038
        case hi443038 => (simp only [List.getElem?_toArray, List.getElem?_cons_succ, List.getElem?_cons_zero]; exact rfl)
        case hQ443038 => exact fun _ _ _ h => h
        case hy443038 => (refine Or.inl ⟨by kernel_rfl, ?_⟩; intro w hSw; (try dsimp only at hSw); go_simp; try (with_reducible rfl))
        try simp only [Act.put, List.setIfInBounds_toArray, List.set_cons_zero, List.set_cons_succ]
        refine wpP_done (by kernel_rfl) ?_ _
        go_wp2
        refine region_P (fun _ => True) [] (by kernel_rfl) ?_ (fun hHeld => ?_)
        · exact trivial
        refine wpP_take (i := 0) (oi := ?oi443039) (v := ?v443039) ?hi443039 (by kernel_rfl) (by kernel_rfl) (by kernel_rfl) (by kernel_rfl) ?hQ443039 ?hy443039 (by assumption) ?rest443039
        case hi443039 => (simp only [List.getElem?_toArray, List.getElem?_cons_succ, List.getElem?_cons_zero]; exact rfl)
        case hQ443039 => exact fun _ _ _ h => h
        case hy443039 => (refine Or.inl ⟨by kernel_rfl, ?_⟩; intro w hSw; (try dsimp only at hSw); go_simp; try (with_reducible rfl))
        try simp only [Act.put, List.setIfInBounds_toArray, List.set_cons_zero, List.set_cons_succ]
        refine wpP_take (i := 1) (oi := ?oi443040) (v := ?v443040) ?hi443040 (by kernel_rfl) (by kernel_rfl) (by kernel_rfl) (by kernel_rfl) ?hQ443040 ?hy443040 (by assumption) ?rest443040
        case hi443040 => (simp only [List.getElem?_toArray, List.getElem?_cons_succ, List.getElem?_cons_zero]; exact rfl)
        case hQ443040 => exact fun _ _ _ h => h
        case hy443040 => (refine Or.inl ⟨by kernel_rfl, ?_⟩; intro w hSw; (try dsimp only at hSw); go_simp; try (with_reducible rfl))
        try simp only [Act.put, List.setIfInBounds_toArray, List.set_cons_zero, List.set_cons_succ]
        refine wpP_take (i := 5) (oi := ?oi443041) (v := ?v443041) ?hi443041 (by kernel_rfl) (by kernel_rfl) (by kernel_rfl) (by kernel_rfl) ?hQ443041 ?hy443041 (by assumption) ?rest443041
        case hi443041 => (simp only [List.getElem?_toArray, List.getElem?_cons_succ, List.getElem?_cons_zero]; exact rfl)
        case hQ443041 => exact fun _ _ _ h => h
        case hy443041 => (refine Or.inl ⟨by kernel_rfl, ?_⟩; intro w hSw; (try dsimp only at hSw); go_simp; try (with_reducible rfl))
        try simp only [Act.put, List.setIfInBounds_toArray, List.set_cons_zero, List.set_cons_succ]
        refine wpP_take (i := 6) (oi := ?oi443042) (v := ?v443042) ?hi443042 (by kernel_rfl) (by kernel_rfl) (by kernel_rfl) (by kernel_rfl) ?hQ443042 ?hy443042 (by assumption) ?rest443042
        case hi443042 => (simp only [List.getElem?_toArray, List.getElem?_cons_succ, List.getElem?_cons_zero]; exact rfl)
        case hQ443042 => exact fun _ _ _ h => h
        case hy443042 => (refine Or.inl ⟨by kernel_rfl, ?_⟩; intro w hSw; (try dsimp only at hSw); go_simp; try (with_reducible rfl))
        try simp only [Act.put, List.setIfInBounds_toArray, List.set_cons_zero, List.set_cons_succ]
        refine wpP_ready (rs := [2]) (by kernel_rfl) (by simp) ?_
        refine AllP.cons (o := ?o443043) ?ho443043 (fun K hK => ?_) AllP.nil
        case ho443043 => (simp only [List.getElem?_toArray, List.getElem?_cons_succ, List.getElem?_cons_zero]; exact rfl)
        go_simp
        go_at_call 121
        refine (HFar.out _).mono ?_
        rintro e w3 ⟨rfl, rfl⟩
        refine hK.out _ _ ?_ (fun hHeld => ?_)
        · exact trivial
        clear hK K
        try simp only [Act.put, List.setIfInBounds_toArray, List.set_cons_zero, List.set_cons_succ]
        refine wpP_take (i := 3) (oi := ?oi443044) (v := ?v443044) ?hi443044 (by kernel_rfl) (by kernel_rfl) (by kernel_rfl) (by kernel_rfl) ?hQ443044 ?hy443044 (by assumption) ?rest443044
        case hi443044 => (simp only [List.getElem?_toArray, List.getElem?_cons_succ, List.getElem?_cons_zero]; exact rfl)
        case hQ443044 => exact fun _ _ _ h => h
        case hy443044 => (refine Or.inl ⟨by kernel_rfl, ?_⟩; intro w hSw; (try dsimp only at hSw); go_simp; try (with_reducible rfl))
        try simp only [Act.put, List.setIfInBounds_toArray, List.set_cons_zero, List.set_cons_succ]
        refine wpP_take (i := 4) (oi := ?oi443045) (v := ?v443045) ?hi443045 (by kernel_rfl) (by kernel_rfl) (by kernel_rfl) (by kernel_rfl) ?hQ443045 ?hy443045 (by assumption) ?rest443045
        case hi443045 => (simp only [List.getElem?_toArray, List.getElem?_cons_succ, List.getElem?_cons_zero]; exact rfl)
        case hQ443045 => exact fun _ _ _ h => h
        case hy443045 => (refine Or.inl ⟨by kernel_rfl, ?_⟩; intro w hSw; (try dsimp only at hSw); go_simp; try (with_reducible rfl))
        try simp only [Act.put, List.setIfInBounds_toArray, List.set_cons_zero, List.set_cons_succ]
        refine wpP_ready (rs := [7]) (by kernel_rfl) (by simp) ?_
        refine AllP.cons (o := ?o443046) ?ho443046 (fun K hK => ?_) AllP.nil
        case ho443046 => (simp only [List.getElem?_toArray, List.getElem?_cons_succ, List.getElem?_cons_zero]; exact rfl)
        go_simp
        go_at_call 121
        refine (HFar.out _).mono ?_
        rintro e w3 ⟨rfl, rfl⟩
        refine hK.out _ _ ?_ (fun hHeld => ?_)
        · exact trivial
        clear hK K
        try simp only [Act.put, List.setIfInBounds_toArray, List.set_cons_zero, List.set_cons_succ]
        refine wpP_take (i := 8) (oi := ?oi443047) (v := ?v443047) ?hi443047 (by kernel_rfl) (by kernel_rfl) (by kernel_rfl) (by kernel_rfl) ?hQ443047 ?hy443047 (by assumption) ?rest443047
        case hi443047 => (simp only [List.getElem?_toArray, List.getElem?_cons_succ, List.getElem?_cons_zero]; exact rfl)
        case hQ443047 => exact fun _ _ _ h => h
        case hy443047 => (refine Or.inl ⟨by kernel_rfl, ?_⟩; intro w hSw; (try dsimp only at hSw); go_simp; try (with_reducible rfl))
        try simp only [Act.put, List.setIfInBounds_toArray, List.set_cons_zero, List.set_cons_succ]
        refine wpP_take (i := 9) (oi := ?oi443048) (v := ?v443048) ?hi443048 (by kernel_rfl) (by kernel_rfl) (by kernel_rfl) (by kernel_rfl) ?hQ443048 ?hy443048 (by assumption) ?rest443048
        case hi443048 => (simp only [List.getElem?_toArray, List.getElem?_cons_succ, List.getElem?_cons_zero]; exact rfl)
        case hQ443048 => exact fun _ _ _ h => h
        case hy443048 => (refine Or.inl ⟨by kernel_rfl, ?_⟩; intro w hSw; (try dsimp only at hSw); go_simp; try (with_reducible rfl))
        try simp only [Act.put, List.setIfInBounds_toArray, List.set_cons_zero, List.set_cons_succ]
        refine wpP_take (i := 10) (oi := ?oi443049) (v := ?v443049) ?hi443049 (by kernel_rfl) (by kernel_rfl) (by kernel_rfl) (by kernel_rfl) ?hQ443049 ?hy443049 (by assumption) ?rest443049
        case hi443049 => (simp only [List.getElem?_toArray, List.getElem?_cons_succ, List.getElem?_cons_zero]; exact rfl)
        case hQ443049 => exact fun _ _ _ h => h
        case hy443049 => (refine Or.inl ⟨by kernel_rfl, ?_⟩; intro w hSw; (try dsimp only at hSw); go_simp; try (with_reducible rfl))
        try simp only [Act.put, List.setIfInBounds_toArray, List.set_cons_zero, List.set_cons_succ]
        refine wpP_take (i := 11) (oi := ?oi443050) (v := ?v443050) ?hi443050 (by kernel_rfl) (by kernel_rfl) (by kernel_rfl) (by kernel_rfl) ?hQ443050 ?hy443050 (by assumption) ?rest443050
        case hi443050 => (simp only [List.getElem?_toArray, List.getElem?_cons_succ, List.getElem?_cons_zero]; exact rfl)
        case hQ443050 => exact fun _ _ _ h => h
        case hy443050 => (refine Or.inl ⟨by kernel_rfl, ?_⟩; intro w hSw; (try dsimp only at hSw); go_simp; try (with_reducible rfl))
        try simp only [Act.put, List.setIfInBounds_toArray, List.set_cons_zero, List.set_cons_succ]
        refine wpP_take (i := 12) (oi := ?oi443051) (v := ?v443051) ?hi443051 (by kernel_rfl) (by kernel_rfl) (by kernel_rfl) (by kernel_rfl) ?hQ443051 ?hy443051 (by assumption) ?rest443051
        case hi443051 => (simp only [List.getElem?_toArray, List.getElem?_cons_succ, List.getElem?_cons_zero]; exact rfl)
        case hQ443051 => exact fun _ _ _ h => h
        case hy443051 => (refine Or.inl ⟨by kernel_rfl, ?_⟩; intro w hSw; (try dsimp only at hSw); go_simp; try (with_reducible rfl))
        try simp only [Act.put, List.setIfInBounds_toArray, List.set_cons_zero, List.set_cons_succ]
        refine wpP_take (i := 13) (oi := ?oi443052) (v := ?v443052) ?hi443052 (by kernel_rfl) (by kernel_rfl) (by kernel_rfl) (by kernel_rfl) ?hQ443052 ?hy443052 (by assumption) ?rest443052
        case hi443052 => (simp only [List.getElem?_toArray, List.getElem?_cons_succ, List.getElem?_cons_zero]; exact rfl)
        case hQ443052 => exact fun _ _ _ h => h
        case hy443052 => (refine Or.inl ⟨by kernel_rfl, ?_⟩; intro w hSw; (try dsimp only at hSw); go_simp; try (with_reducible rfl))
        try simp only [Act.put, List.setIfInBounds_toArray, List.set_cons_zero, List.set_cons_succ]
        refine wpP_done (by kernel_rfl) ?_ _
        go_wp2_with (go_at_call 63; refine (HG.out _ (HF.out.keep ((Below.refl _ w).drew.drew)) nb).mono ?_; rintro e w3 ⟨rfl, rfl⟩)
        go_ret
        exact ⟨rfl, (Below.refl _ _).drew.drew⟩
    · have hgi' : goodN d L x.ind = false := by simpa using hgi
      have hz : atN d L v x k = 0 := by
        have : numV d L v x k = 0 := by rw [numV, if_neg hk6, if_neg hgi]
        rw [atN, this]
        split <;> rfl
      have hg0 : goodN d L 0 = false := by simp [goodN]; omega
      rw [hz, holeI, if_pos rfl]
      clear hs hf hz
      go_enter Try.func96, Try.ntmps96
      go_wp2_with (go_at_call 63; refine (good_ok _ _ _ _ _ _ _ _ _ _ _ HF.out).mono ?_; rintro e w3 ⟨rfl, rfl⟩)
      go_ret
      exact ⟨rfl, Below.refl _ _⟩
end Go.Proofs.Ytacdohlhalnioaa
end

/- Contract: a file is opened. -/
section
set_option linter.unusedSimpArgs false
set_option linter.unusedVariables false
set_option maxRecDepth 20000
namespace Go.Proofs.Ytacdohlhalnioaa
open Go.RowKit
attribute [local go_sem] Oper.semAt_some

set_option maxHeartbeats 2000000 in
theorem open_ok (A : Option Addr) (c : Nat) (v : Vol) (n : Nat) (w : World) (hr : RS w A v) (hv : okV v = true) (h1 : 1 ≤ n) (h2 : n ≤ inosV v) :
    Calls Try.prog 51 #[.slice A v.length c, .int .i64 n] w fun e w' => ∃ F g c', e = .returned (.tuple #[.pointer (some ⟨F, 0, none⟩), .int .i64 0]) ∧ FileAt w' F g c' v.length (inosV v) (dataV v) n v (inoV v n) ∧ w.heap.size ≤ F ∧ w.heap.size ≤ g ∧ Below w.heap.size w w' := by
  have h0 : 0 < v.length := by have := (okV_iff.1 hv).lo; omega
  have hdd : (3 + ((inosV v : Nat) + 1 : Int) / 2) = ((dataV v : Nat) : Int) := by rw [dataV]; omega
  have HV := Lib.hid hv
  have HR := Lib.hid hr
  clear hv hr
  obtain ⟨d, hd⟩ : ∃ d, dataV v = d := ⟨_, rfl⟩
  rw [hd] at hdd ⊢
  generalize hI : inoV v n = x at *
  go_enter Try.func51, Try.ntmps51
  go_wp2_with (first
    | (go_at_call 32; refine (iget_ok _ _ _ n _ HR.out HV.out h1 h2).mono ?_; rw [hI]; rintro e w1 ⟨rfl, hb1⟩; have B1 := Lib.hid hb1; clear hb1)
    | (go_at_call 71; refine (of_ok _ _ _ _ (HR.out.below (B1.out.alloc B1.out.size _)) HV.out).mono ?_; rw [hdd]; rintro e w2 ⟨rfl, hb2⟩; have B2 := Lib.hid hb2; clear hb2))
  obtain ⟨G, hG⟩ : ∃ G, Obj.cells #[.int .i64 v.length, .int .i64 (inosV v), .int .i64 1, .int .i64 2, .int .i64 3, .int .i64 d] 66 = G := ⟨_, rfl⟩
  obtain ⟨X, hX⟩ : ∃ X, Obj.cells #[.int .i64 ((x.kind : Nat) : Int), .int .i64 ((x.links : Nat) : Int), .int .i64 ((x.owner : Nat) : Int), .int .i64 ((x.size : Nat) : Int), .int .i64 ((x.d0 : Nat) : Int), .int .i64 ((x.d1 : Nat) : Int), .int .i64 ((x.d2 : Nat) : Int), .int .i64 ((x.d3 : Nat) : Int), .int .i64 ((x.d4 : Nat) : Int), .int .i64 ((x.d5 : Nat) : Int), .int .i64 ((x.ind : Nat) : Int), .int .i64 ((x.ext : Nat) : Int)] 45 = X := ⟨_, rfl⟩
  rw [hX] at B2
  have k1 : w2.heap[w1.heap.size]? = some X := blk_keep (blk_new w1 X) B2.out
  have k1' := heap_alloc_lt w2 G X _ k1
  have k2 := blk_new w2 G
  have hB0 : Below w.heap.size w (w2.alloc G) := (below_keep (B1.out.alloc B1.out.size _) (Nat.le_refl _) B2.out).alloc (by have := B1.out.size; have := B2.out.size; simp at this; omega) _
  rw [hG]
  generalize w2.alloc G = W0 at *
  generalize w2.heap.size = gq at *
  generalize w1.heap.size = xq at *
  rw [← hX] at k1'
  rw [← hG] at k2
  obtain ⟨g0, g1, g2, g3, g4, g5⟩ := cells6 k2
  obtain ⟨q0, q1, q2, q3, q4, q5, q6, q7, q8, q9, q10, q11⟩ := cells12 k1'
  have K1 := Lib.hid k1'
  have K2 := Lib.hid k2
  have HB0 := Lib.hid hB0
  clear hB0 k1' k2 k1 hX hG B1 B2
  refine region_P (fun w' => w'.cell? ⟨gq, 0, none⟩ = some (.int .i64 v.length) ∧ w'.cell? ⟨gq, 1, none⟩ = some (.int .i64 (inosV v)) ∧ w'.cell? ⟨gq, 2, none⟩ = some (.int .i64 1) ∧ w'.cell? ⟨gq, 3, none⟩ = some (.int .i64 2) ∧ w'.cell? ⟨gq, 4, none⟩ = some (.int .i64 3) ∧ w'.cell? ⟨gq, 5, none⟩ = some (.int .i64 d) ∧ w'.cell? ⟨xq, 0, none⟩ = some (.int .i64 x.kind) ∧ w'.cell? ⟨xq, 1, none⟩ = some (.int .i64 x.links) ∧ w'.cell? ⟨xq, 2, none⟩ = some (.int .i64 x.owner) ∧ w'.cell? ⟨xq, 3, none⟩ = some (.int .i64 x.size) ∧ w'.cell? ⟨xq, 4, none⟩ = some (.int .i64 x.d0) ∧ w'.cell? ⟨xq, 5, none⟩ = some (.int .i64 x.d1) ∧ w'.cell? ⟨xq, 6, none⟩ = some (.int .i64 x.d2) ∧ w'.cell? ⟨xq, 7, none⟩ = some (.int .i64 x.d3) ∧ w'.cell? ⟨xq, 8, none⟩ = some (.int .i64 x.d4) ∧ w'.cell? ⟨xq, 9, none⟩ = some (.int .i64 x.d5) ∧ w'.cell? ⟨xq, 10, none⟩ = some (.int .i64 x.ind) ∧ w'.cell? ⟨xq, 11, none⟩ = some (.int .i64 x.ext)) [] (by kernel_rfl) ?_ (fun hHeld => ?_)
  · exact ⟨g0, g1, g2, g3, g4, g5, q0, q1, q2, q3, q4, q5, q6, q7, q8, q9, q10, q11⟩
  refine wpP_take (i := 0) (oi := ?oi357001) (v := ?v357001) ?hi357001 (by kernel_rfl) (by kernel_rfl) (by kernel_rfl) (by kernel_rfl) ?hQ357001 ?hy357001 (by assumption) ?rest357001
  case hi357001 => (simp only [List.getElem?_toArray, List.getElem?_cons_succ, List.getElem?_cons_zero]; exact rfl)
  case hQ357001 => exact fun _ _ _ h => h
  case hy357001 => (refine Or.inl ⟨by kernel_rfl, ?_⟩; intro w hSw; (try dsimp only at hSw); go_simp; try (with_reducible rfl))
  try simp only [Act.put, List.setIfInBounds_toArray, List.set_cons_zero, List.set_cons_succ]
  refine wpP_take (i := 2) (oi := ?oi357002) (v := ?v357002) ?hi357002 (by kernel_rfl) (by kernel_rfl) (by kernel_rfl) (by kernel_rfl) ?hQ357002 ?hy357002 (by assumption) ?rest357002
  case hi357002 => (simp only [List.getElem?_toArray, List.getElem?_cons_succ, List.getElem?_cons_zero]; exact rfl)
  case hQ357002 => exact fun _ _ _ h => h
  case hy357002 => (refine Or.inl ⟨by kernel_rfl, ?_⟩; intro w hSw; (try dsimp only at hSw); go_simp; try (with_reducible rfl))
  try simp only [Act.put, List.setIfInBounds_toArray, List.set_cons_zero, List.set_cons_succ]
  refine wpP_take (i := 3) (oi := ?oi357003) (v := ?v357003) ?hi357003 (by kernel_rfl) (by kernel_rfl) (by kernel_rfl) (by kernel_rfl) ?hQ357003 ?hy357003 (by assumption) ?rest357003
  case hi357003 => (simp only [List.getElem?_toArray, List.getElem?_cons_succ, List.getElem?_cons_zero]; exact rfl)
  case hQ357003 => exact fun _ _ _ h => h
  case hy357003 => (refine Or.inl ⟨by kernel_rfl, ?_⟩; intro w hSw; (try dsimp only at hSw); go_simp; try (with_reducible rfl))
  try simp only [Act.put, List.setIfInBounds_toArray, List.set_cons_zero, List.set_cons_succ]
  refine wpP_take (i := 4) (oi := ?oi357004) (v := ?v357004) ?hi357004 (by kernel_rfl) (by kernel_rfl) (by kernel_rfl) (by kernel_rfl) ?hQ357004 ?hy357004 (by assumption) ?rest357004
  case hi357004 => (simp only [List.getElem?_toArray, List.getElem?_cons_succ, List.getElem?_cons_zero]; exact rfl)
  case hQ357004 => exact fun _ _ _ h => h
  case hy357004 => (refine Or.inl ⟨by kernel_rfl, ?_⟩; intro w hSw; (try dsimp only at hSw); go_simp; try (with_reducible rfl))
  try simp only [Act.put, List.setIfInBounds_toArray, List.set_cons_zero, List.set_cons_succ]
  refine wpP_ready (rs := [1]) (by kernel_rfl) (by simp) ?_
  refine AllP.cons (o := ?o357005) ?ho357005 (fun K hK => ?_) AllP.nil
  case ho357005 => (simp only [List.getElem?_toArray, List.getElem?_cons_succ, List.getElem?_cons_zero]; exact rfl)
  go_simp
  go_at_call 66
  refine (clone_ok _ _ v.length v _ (HR.out.below HB0.out.drew) rfl h0).mono ?_
  rintro e w3 ⟨g, cg, rfl, hvs, hgs, hb3⟩
  refine hK.out _ _ ?_ (fun hHeld => ?_)
  · exact ⟨cell_keep hHeld.1 hb3, cell_keep hHeld.2.1 hb3, cell_keep hHeld.2.2.1 hb3, cell_keep hHeld.2.2.2.1 hb3, cell_keep hHeld.2.2.2.2.1 hb3, cell_keep hHeld.2.2.2.2.2.1 hb3, cell_keep hHeld.2.2.2.2.2.2.1 hb3, cell_keep hHeld.2.2.2.2.2.2.2.1 hb3, cell_keep hHeld.2.2.2.2.2.2.2.2.1 hb3, cell_keep hHeld.2.2.2.2.2.2.2.2.2.1 hb3, cell_keep hHeld.2.2.2.2.2.2.2.2.2.2.1 hb3, cell_keep hHeld.2.2.2.2.2.2.2.2.2.2.2.1 hb3, cell_keep hHeld.2.2.2.2.2.2.2.2.2.2.2.2.1 hb3, cell_keep hHeld.2.2.2.2.2.2.2.2.2.2.2.2.2.1 hb3, cell_keep hHeld.2.2.2.2.2.2.2.2.2.2.2.2.2.2.1 hb3, cell_keep hHeld.2.2.2.2.2.2.2.2.2.2.2.2.2.2.2.1 hb3, cell_keep hHeld.2.2.2.2.2.2.2.2.2.2.2.2.2.2.2.2.1 hb3, cell_keep hHeld.2.2.2.2.2.2.2.2.2.2.2.2.2.2.2.2.2 hb3⟩
  clear hK K
  try simp only [Act.put, List.setIfInBounds_toArray, List.set_cons_zero, List.set_cons_succ]
  refine wpP_take (i := 5) (oi := ?oi357006) (v := ?v357006) ?hi357006 (by kernel_rfl) (by kernel_rfl) (by kernel_rfl) (by kernel_rfl) ?hQ357006 ?hy357006 (by assumption) ?rest357006
  case hi357006 => (simp only [List.getElem?_toArray, List.getElem?_cons_succ, List.getElem?_cons_zero]; exact rfl)
  case hQ357006 => exact fun _ _ _ h => h
  case hy357006 => (refine Or.inl ⟨by kernel_rfl, ?_⟩; intro w hSw; (try dsimp only at hSw); go_simp; try (with_reducible rfl))
  try simp only [Act.put, List.setIfInBounds_toArray, List.set_cons_zero, List.set_cons_succ]
  refine wpP_ready (rs := [6]) (by kernel_rfl) (by simp) ?_
  refine AllP.cons (o := ?o357007) ?ho357007 (fun K hK => ?_) AllP.nil
  case ho357007 => (simp only [List.getElem?_toArray, List.getElem?_cons_succ, List.getElem?_cons_zero]; exact rfl)
  go_simp
  refine hK.out _ _ ?_ (fun hHeld => ?_)
  · exact (by have hal := (Below.refl w3.heap.size w3).alloc (Nat.le_refl _) (.cells #[.slice (some ⟨g, 0, none⟩) v.length cg, .int .i64 v.length, .int .i64 (inosV v), .int .i64 1, .int .i64 2, .int .i64 3, .int .i64 d, .int .i64 n, .int .i64 ((x.kind : Nat) : Int), .int .i64 ((x.links : Nat) : Int), .int .i64 ((x.owner : Nat) : Int), .int .i64 ((x.size : Nat) : Int), .int .i64 ((x.d0 : Nat) : Int), .int .i64 ((x.d1 : Nat) : Int), .int .i64 ((x.d2 : Nat) : Int), .int .i64 ((x.d3 : Nat) : Int), .int .i64 ((x.d4 : Nat) : Int), .int .i64 ((x.d5 : Nat) : Int), .int .i64 ((x.ind : Nat) : Int), .int .i64 ((x.ext : Nat) : Int)] 94); exact ⟨cell_keep hHeld.1 hal, cell_keep hHeld.2.1 hal, cell_keep hHeld.2.2.1 hal, cell_keep hHeld.2.2.2.1 hal, cell_keep hHeld.2.2.2.2.1 hal, cell_keep hHeld.2.2.2.2.2.1 hal, cell_keep hHeld.2.2.2.2.2.2.1 hal, cell_keep hHeld.2.2.2.2.2.2.2.1 hal, cell_keep hHeld.2.2.2.2.2.2.2.2.1 hal, cell_keep hHeld.2.2.2.2.2.2.2.2.2.1 hal, cell_keep hHeld.2.2.2.2.2.2.2.2.2.2.1 hal, cell_keep hHeld.2.2.2.2.2.2.2.2.2.2.2.1 hal, cell_keep hHeld.2.2.2.2.2.2.2.2.2.2.2.2.1 hal, cell_keep hHeld.2.2.2.2.2.2.2.2.2.2.2.2.2.1 hal, cell_keep hHeld.2.2.2.2.2.2.2.2.2.2.2.2.2.2.1 hal, cell_keep hHeld.2.2.2.2.2.2.2.2.2.2.2.2.2.2.2.1 hal, cell_keep hHeld.2.2.2.2.2.2.2.2.2.2.2.2.2.2.2.2.1 hal, cell_keep hHeld.2.2.2.2.2.2.2.2.2.2.2.2.2.2.2.2.2 hal⟩)
  clear hK K
  try simp only [Act.put, List.setIfInBounds_toArray, List.set_cons_zero, List.set_cons_succ]
  refine wpP_take (i := 7) (oi := ?oi357008) (v := ?v357008) ?hi357008 (by kernel_rfl) (by kernel_rfl) (by kernel_rfl) (by kernel_rfl) ?hQ357008 ?hy357008 (by assumption) ?rest357008
  case hi357008 => (simp only [List.getElem?_toArray, List.getElem?_cons_succ, List.getElem?_cons_zero]; exact rfl)
  case hQ357008 => exact fun _ _ _ h => h
  case hy357008 => (refine Or.inl ⟨by kernel_rfl, ?_⟩; intro w hSw; (try dsimp only at hSw); go_simp; try (with_reducible rfl))
  try simp only [Act.put, List.setIfInBounds_toArray, List.set_cons_zero, List.set_cons_succ]
  refine wpP_take (i := 8) (oi := ?oi357009) (v := ?v357009) ?hi357009 (by kernel_rfl) (by kernel_rfl) (by kernel_rfl) (by kernel_rfl) ?hQ357009 ?hy357009 (by assumption) ?rest357009
  case hi357009 => (simp only [List.getElem?_toArray, List.getElem?_cons_succ, List.getElem?_cons_zero]; exact rfl)
  case hQ357009 => exact fun _ _ _ h => h
  case hy357009 => (refine Or.inl ⟨by kernel_rfl, ?_⟩; intro w hSw; (try dsimp only at hSw); go_simp; try (with_reducible rfl))
  try simp only [Act.put, List.setIfInBounds_toArray, List.set_cons_zero, List.set_cons_succ]
  refine wpP_done (by kernel_rfl) ?_ _
  go_wp2
  go_ret2
  have hs0 := HB0.out.size
  have hs3 : W0.heap.size ≤ w3.heap.size := hb3.size
  have hs4 : W0.heap.size ≤ g := hgs
  have hBx : Below w.heap.size w (w3.alloc (.cells #[.slice (some ⟨g, 0, none⟩) v.length cg, .int .i64 v.length, .int .i64 (inosV v), .int .i64 1, .int .i64 2, .int .i64 3, .int .i64 d, .int .i64 n, .int .i64 ((x.kind : Nat) : Int), .int .i64 ((x.links : Nat) : Int), .int .i64 ((x.owner : Nat) : Int), .int .i64 ((x.size : Nat) : Int), .int .i64 ((x.d0 : Nat) : Int), .int .i64 ((x.d1 : Nat) : Int), .int .i64 ((x.d2 : Nat) : Int), .int .i64 ((x.d3 : Nat) : Int), .int .i64 ((x.d4 : Nat) : Int), .int .i64 ((x.d5 : Nat) : Int), .int .i64 ((x.ind : Nat) : Int), .int .i64 ((x.ext : Nat) : Int)] 94)) := (below_keep HB0.out (Nat.le_refl _) (below_und hb3)).alloc (by omega) _
  exact ⟨w3.heap.size, g, cg, rfl, ⟨blk_new w3 _, hvs.keep ((Below.refl _ _).alloc (Nat.le_refl _) _), rfl, by have := hvs.lt; omega⟩, by omega, by omega, hBx⟩
set_option maxHeartbeats 1000000 in
theorem open_no (A : Option Addr) (c : Nat) (v : Vol) (n : Int) (w : World) (hr : RS w A v) (h : getE v n ≠ 0) :
    Calls Try.prog 51 #[.slice A v.length c, .int .i64 n] w fun e w' => e = .returned (.tuple #[.pointer none, .int .i64 (getE v n)]) ∧ Below w.heap.size w w' := by
  have HP := Lib.hid (fun w hr => iget_no A c v n w hr h)
  have HR := Lib.hid hr
  clear hr
  generalize getE v n = er at *
  have hb : (er == 0) = false := by simpa using h
  have hbn : (er != 0) = true := by simpa using h
  go_enter Try.func51, Try.ntmps51
  go_wp2_with (go_at_call 32; refine (HP.out _ HR.out).mono ?_; rintro e w1 ⟨rfl, hb1⟩)
  go_ret2
  exact ⟨rfl, hb1.alloc hb1.size _⟩
end Go.Proofs.Ytacdohlhalnioaa
end

/- Contract: the blocks of a file, one by one (the iterator). -/
section
set_option linter.unusedSimpArgs false
set_option linter.unusedVariables false
set_option maxRecDepth 20000
namespace Go.Proofs.Ytacdohlhalnioaa
open Go.RowKit
attribute [local go_sem] Oper.semAt_some

set_option maxHeartbeats 400000 in
theorem all_ok (F m : Nat) (w : World) :
    Calls Try.prog 52 #[.pointer (some ⟨F, 0, none⟩), .int .i64 m] w fun e w' => e = .returned (.func (.func 95) #[] #[.pointer (some ⟨w.heap.size + 1, 0, none⟩), .pointer (some ⟨w.heap.size, 0, none⟩)]) ∧ (w.alloc (.cells #[.pointer (some ⟨F, 0, none⟩)] 75)).alloc (.cells #[.int .i64 m] 3) = w' := by
  go_enter Try.func52, Try.ntmps52
  go_wp2
  go_ret
  exact ⟨rfl, rfl⟩

set_option maxHeartbeats 4000000 in
theorem all1_in (N l F g c L I d n Bn Bf m : Nat) (v : Vol) (x : Ino) (Fr : Nat → Prop) (W : World) (hn : W.heap[Bn]? = some (.cells #[.int .i64 m] 3 (0, 0))) (hf : W.heap[Bf]? = some (.cells #[.pointer (some ⟨F, 0, none⟩)] 75 (0, 0))) (hA : FileAt W F g c L I d n v x)
    (hF1 : ¬ Fr Bn) (hF2 : ¬ Fr Bf) (hF3 : ¬ Fr F) (hF4 : ¬ Fr g) (hm : m ≤ 70) (hd : 0 < d) (hs : ∀ j, j < L → (bk v j).length = 128) (hL : L ≤ 223)
    (J Jx : List Nat → World → Prop) (hJ : AbidesFrom W.heap.size J)
    (hY : ∀ pre k W1, J pre W1 → pre.length < m → k < m → YieldAt Fence.wide (N - 1) Try.prog l #[.int .i64 k, .int .i64 (holeI (atN d L v x k))] W1 fun e W' =>
      (e = .returned (.bool true) ∧ J (pre ++ [k]) W' ∧ KpC Fr W1 W') ∨ (e = .returned (.bool false) ∧ Jx (pre ++ [k]) W')) (h0 : J [] W) :
    CallsIn Fence.wide N Try.prog 95 #[.func (.yield l) #[] #[], .pointer (some ⟨Bn, 0, none⟩), .pointer (some ⟨Bf, 0, none⟩)] W fun e W' => (∃ v, e = .returned v) ∧
      ((∃ ys, ys = List.range m ∧ J ys W') ∨ (∃ pre, True ∧ Jx pre W')) := by
  have HY := Lib.hid hY
  have HJ := Lib.hid hJ
  have HJ0 := Lib.hid h0
  have HS := Lib.hid hs
  have hcn : W.cell? ⟨Bn, 0, none⟩ = some (.int .i64 m) := by rw [cell_at hn]; rfl
  have hp : Hid (W.heap[Bn]? = some (.cells #[.int .i64 m] 3 (0, 0)) ∧ W.heap[Bf]? = some (.cells #[.pointer (some ⟨F, 0, none⟩)] 75 (0, 0)) ∧ FileAt W F g c L I d n v x) := ⟨hn, hf, hA⟩
  have hnx : ∀ W1 W2 : World, KpC Fr W1 W2 → (W1.heap[Bn]? = some (.cells #[.int .i64 m] 3 (0, 0)) ∧ W1.heap[Bf]? = some (.cells #[.pointer (some ⟨F, 0, none⟩)] 75 (0, 0)) ∧ FileAt W1 F g c L I d n v x) →
      Hid (W2.heap[Bn]? = some (.cells #[.int .i64 m] 3 (0, 0)) ∧ W2.heap[Bf]? = some (.cells #[.pointer (some ⟨F, 0, none⟩)] 75 (0, 0)) ∧ FileAt W2 F g c L I d n v x) := by
    rintro W1 W2 hk ⟨e1, e2, e3⟩
    refine ⟨hk _ _ _ _ e1 hF1, hk _ _ _ _ e2 hF2, hk _ _ _ _ e3.blk hF3, ?_, e3.len, e3.ne⟩
    obtain ⟨cur, hg, hc⟩ := e3.vol
    exact ⟨cur, hk _ _ _ _ hg hF4, hc⟩
  have HN := Lib.hid hnx
  clear hY hJ h0 hn hf hA hs hnx
  refine callsIn_of_wp Try.func95 rfl trivial ?_ rfl
  simp only [Try.ntmps95, List.size_toArray, List.length_cons, List.length_nil, Nat.reduceAdd, Nat.reduceSub, Array.replicate_succ, Array.replicate_zero, List.push_toArray, List.append_toArray, List.nil_append, List.cons_append]
  gi_wp2
  gi_loopw [6] (fun i wr => ∃ k : Nat, k ≤ m ∧ i = .int .i64 k ∧ Hid (J (List.range k) wr) ∧ Hid (wr.heap[Bn]? = some (.cells #[.int .i64 m] 3 (0, 0)) ∧ wr.heap[Bf]? = some (.cells #[.pointer (some ⟨F, 0, none⟩)] 75 (0, 0)) ∧ FileAt wr F g c L I d n v x)) (fun i _ => m - (intOf i).toNat)
  case atStart => exact ⟨0, by omega, rfl, HJ0, hp⟩
  case round =>
    obtain ⟨k, hk, rfl, hJk, hq⟩ := hrel
    by_cases hlt : k < m
    · have hcf : wr.cell? ⟨Bf, 0, none⟩ = some (.pointer (some ⟨F, 0, none⟩)) := by rw [cell_at hq.out.2.1]; rfl
      gi_wp2_with (refine ⟨trivial, fun h => by simp [Fence.wide] at h, callsIn_wide.2 ?_⟩; go_at_call 96; refine (at_ok _ _ _ _ _ _ _ _ _ k _ hq.out.2.2 (by omega) hd HS.out hL).mono ?_; rintro e w3 ⟨rfl, hb3⟩; have hJ3 : Hid (J (List.range k) w3) := HJ.out _ wr w3 none hJk.out ⟨hb3.os, hb3.tape, hb3.output, hb3.size, fun q hq _ => hb3.block q hq⟩ (fun r e => by cases e); obtain ⟨fn, tmps, assign, body, hy, hR⟩ := HY.out (List.range k) k w3 hJ3.out (by simpa using hlt) hlt)
      refine ⟨fun h => by simp [Fence.wide] at h, hR.mono ?_⟩
      have hk3 : KpC Fr wr w3 := KpC.of_below hb3
      rintro e W3 (⟨rfl, hJ4, hk4⟩ | ⟨rfl, hJx3⟩)
      · have hq4 := HN.out _ _ hk4 (HN.out _ _ hk3 hq.out).out
        clear hk3 hk4
        have HJ4 := Lib.hid hJ4
        clear hJ4
        gi_wp2
        refine ⟨⟨k + 1, by omega, by go_num, ?_, hq4⟩, by simp only [intOf]; omega⟩
        rw [List.range_succ]
        exact HJ4
      · gi_wp2
        refine bodyPost_ret (results_none rfl _ _ _) rfl ?_
        exact ⟨⟨_, rfl⟩, .inr ⟨_, trivial, hJx3⟩⟩
    · obtain rfl : k = m := by omega
      gi_wp2
      go_end0
      exact ⟨⟨_, rfl⟩, .inl ⟨_, rfl, hJk.out⟩⟩

theorem all_stops (N F g c L I d n Bn Bf m : Nat) (v : Vol) (x : Ino) (Fr : Nat → Prop) (w : World) (hn : w.heap[Bn]? = some (.cells #[.int .i64 m] 3 (0, 0))) (hf : w.heap[Bf]? = some (.cells #[.pointer (some ⟨F, 0, none⟩)] 75 (0, 0))) (hA : FileAt w F g c L I d n v x)
    (hF1 : ¬ Fr Bn) (hF2 : ¬ Fr Bf) (hF3 : ¬ Fr F) (hF4 : ¬ Fr g) (hm : m ≤ 70) (hd : 0 < d) (hs : ∀ j, j < L → (bk v j).length = 128) (hL : L ≤ 223) :
    SeqStopsK Fence.wide N Try.prog 95 #[.pointer (some ⟨Bn, 0, none⟩), .pointer (some ⟨Bf, 0, none⟩)] (fun k : Fin m => #[.int .i64 (k : Nat), .int .i64 (holeI (atN d L v x k))]) (KpC Fr) (fun xs => xs = List.finRange m) (fun _ => True) m w := by
  intro l J Jx W hW hJ hJx hY h0
  refine (all1_in N l F g c L I d n Bn Bf m v x Fr W (blk_keep hn hW) (blk_keep hf hW) (hA.keep hW) hF1 hF2 hF3 hF4 hm hd hs hL (fun xs W => ∃ ys : List (Fin m), ys.map (fun k => k.val) = xs ∧ J ys W) (fun xs W => ∃ ys : List (Fin m), ys.map (fun k => k.val) = xs ∧ Jx ys W)
    (fun s A B row hs hg hr => by
      obtain ⟨ys, e, hj⟩ := hs
      exact ⟨ys, e, hJ ys A B row hj hg hr⟩) ?_ ⟨[], rfl, h0⟩).mono ?_
  · rintro pre k W1 ⟨ys, rfl, hj⟩ hlen hx
    obtain ⟨fn, tmps, assign, body, hy, hR⟩ := hY ys ⟨k, hx⟩ W1 hj (by simpa using hlen)
    refine ⟨fn, tmps, assign, body, hy, hR.mono ?_⟩
    rintro e W' (⟨he, h1, h2⟩ | ⟨he, h1⟩)
    · exact .inl ⟨he, ⟨ys ++ [⟨k, hx⟩], by simp, h1⟩, h2⟩
    · exact .inr ⟨he, ys ++ [⟨k, hx⟩], by simp, h1⟩
  · rintro e W' ⟨he, ⟨ys, rfl, zs, hz, hj⟩ | ⟨pre, _, zs, hz, hj⟩⟩
    · refine ⟨he, .inl ⟨zs, ?_, hj⟩⟩
      apply List.map_inj_right (f := fun k : Fin m => k.val) (fun a b h => Fin.ext h) |>.1
      rw [hz]
      exact (List.ext_getElem (by simp) (by simp)).symm
    · exact ⟨he, .inr ⟨zs, trivial, hj⟩⟩
end Go.Proofs.Ytacdohlhalnioaa
end

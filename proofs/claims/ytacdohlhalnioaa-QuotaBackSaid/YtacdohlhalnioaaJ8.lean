/- Joined: XL1 XQ1 XQ2 XQ3 XQ4 XQ5 XQ6 XQ7 XQ8. -/
import Derived.Test.YtacdohlhalnioaaJ6
import Derived.Test.YtacdohlhalnioaaJ7
import Derived.Test.YtacdohlhalnioaaJ5
/- Contracts of the law's helpers: is a volume great; the chapter's example. -/
section
set_option linter.unusedSimpArgs false
set_option linter.unusedVariables false
set_option maxRecDepth 20000
namespace Go.Proofs.Ytacdohlhalnioaa
open Go.RowKit
attribute [local go_sem] Oper.semAt_some

/-- A volume that is gone through. -/
def smallV (v : Vol) : Bool := decide (v.length ≤ 64) && v.all fun s => decide (s.length ≤ 300)
theorem smallV_iff {v : Vol} : smallV v = true ↔ v.length ≤ 64 ∧ ∀ j, j < v.length → (bk v j).length ≤ 300 := by
  simp only [smallV, Bool.and_eq_true, decide_eq_true_eq, List.all_eq_true]
  constructor
  · rintro ⟨h1, h2⟩
    exact ⟨h1, fun j hj => by rw [← bk_get v j hj]; exact h2 _ (List.getElem_mem hj)⟩
  · rintro ⟨h1, h2⟩
    refine ⟨h1, fun s hs => ?_⟩
    obtain ⟨j, hj, rfl⟩ := List.getElem_of_mem hs
    rw [bk_get v j hj]
    exact h2 j hj
def greatI (v : Vol) : Int := if smallV v = true then 0 else 1
theorem greatI_small {v : Vol} (h : v.length ≤ 64) (h2 : ∀ j, j < v.length → (bk v j).length ≤ 300) : greatI v = 0 := if_pos (smallV_iff.2 ⟨h, h2⟩)
theorem greatI_long {v : Vol} (h : 64 < v.length) : greatI v = 1 := if_neg fun e => by have := (smallV_iff.1 e).1; omega
theorem greatI_one {v : Vol} {j : Nat} (hj : j < v.length) (h : 300 < (bk v j).length) : greatI v = 1 := if_neg fun e => by have := (smallV_iff.1 e).2 j hj; omega
set_option maxHeartbeats 1000000 in
theorem great_ok (A : Option Addr) (c : Nat) (v : Vol) (w : World) (hr : RS w A v) :
    Calls Try.prog 16 #[.slice A v.length c] w fun e w' => e = .returned (.int .i64 (greatI v)) ∧ w = w' := by
  have hl := hr.1
  by_cases h64 : 64 < v.length
  · rw [greatI_long h64]
    have hi : (64 : Int) < (v.length : Nat) := by omega
    clear hr
    go_enter Try.func16, Try.ntmps16
    go_wp2
    go_ret
    exact ⟨rfl, rfl⟩
  · have hi : ¬ (64 : Int) < (v.length : Nat) := by omega
    by_cases h0 : v.length = 0
    · rw [greatI_small (by omega) (fun j hj => by omega)]
      clear hr hi h64
      have hz : v = [] := List.length_eq_zero_iff.1 h0
      subst hz
      go_enter Try.func16, Try.ntmps16
      go_wp2
      go_loop [10] (fun iv => iv = .int .i64 0) (fun iv => 0)
      case atStart => rfl
      case round =>
        subst hrel
        go_wp2
        go_ret
        exact ⟨rfl, rfl⟩
    · obtain ⟨bA, oA, rfl, hbA, hc⟩ := hr.open_ (by omega)
      have HC := Lib.hid hc
      clear hr hc
      go_enter Try.func16, Try.ntmps16
      go_wp2
      go_loop [10] (fun iv => ∃ k : Nat, k ≤ v.length ∧ iv = .int .i64 k ∧ ∀ j, j < k → (bk v j).length ≤ 300) (fun iv => v.length - (intOf iv).toNat)
      case atStart => exact ⟨0, by omega, rfl, fun j hj => by omega⟩
      case round =>
        obtain ⟨k, hk, rfl, hall⟩ := hrel
        have HA := Lib.hid hall
        clear hall
        by_cases hlt : k < v.length
        · have hci := HC.out k hlt
          have hki : (k : Int) < (v.length : Nat) := by omega
          by_cases h3 : 300 < (bk v k).length
          · have h3i : (300 : Int) < ((bk v k).length : Nat) := by omega
            have hg := greatI_one hlt h3
            have HG := Lib.hid hg
            clear hg h3
            generalize bk v k = s at *
            go_wp2
            go_ret
            exact ⟨ret_int HG.out.symm, rfl⟩
          · have h3i : ¬ (300 : Int) < ((bk v k).length : Nat) := by omega
            have hall : ∀ j, j < k + 1 → (bk v j).length ≤ 300 := fun j hj => by
              rcases Nat.lt_or_ge j k with h | h
              · exact HA.out j h
              · have : j = k := by omega
                rw [this]; omega
            have HA2 := Lib.hid hall
            clear hall
            generalize bk v k = s at *
            go_wp2
            exact ⟨⟨k + 1, by omega, by go_num, HA2.out⟩, by simp only [intOf]; omega⟩
        · have hg : greatI v = 0 := greatI_small (by omega) (fun j hj => HA.out j (by omega))
          have HG := Lib.hid hg
          clear hg
          have hki : ¬ (k : Int) < (v.length : Nat) := by omega
          go_wp2
          go_ret
          exact ⟨ret_int HG.out.symm, rfl⟩
theorem own_open {w : World} {base e n : Nat} {u : Value} {xs : List Value} (h : w.ownsRow base e 1 u n xs) (h0 : 0 < n) : ∃ g cap, u = .slice (some ⟨g, 0, none⟩) n cap ∧ base ≤ g ∧ ∀ j y, xs[j]? = some y → w.cell? ⟨g, j, none⟩ = some y := by
  rcases h.2 with ⟨rfl, h1⟩ | ⟨g, cap, cur, rfl, h1, _⟩
  · omega
  · refine ⟨g, cap, rfl, h1, fun j y hy => ?_⟩
    have := h.cells (g := g) rfl j y hy
    by_cases hj : j = 0
    · subst hj; simpa [Addr.add] using this
    · simpa [Addr.add, hj] using this
set_option maxHeartbeats 4000000 in
theorem fixed_ok (w : World) :
    Calls Try.prog 17 #[] w fun e w' => e = .returned (.bool true) ∧ Below w.heap.size w w' := by
  obtain ⟨f1, f2, f3, f4, f5, f6, f7, f8, f9, f10, f11, f12, f13⟩ := fx_facts
  have hfmt := Lib.hid (fun w => format_ok 24 4 w (by decide))
  have hnew := Lib.hid (fun w A c hr => inew_ok A c fx1 1 0 w hr f1 (Nat.le_refl _) (by omega) (by omega) f2 (fun j h1 h2 => by omega))
  have hwr := Lib.hid (fun w A c hr => write_ok A c fx2 1 300 [120] w hr f5 (Nat.le_refl _) (by omega) (by simp) (by simp))
  have hbl := Lib.hid (fun w A c hr => blocks_ok A c fx3 1 w hr f9 (Nat.le_refl _) (by omega) (inoV_size _ _))
  have hct := Lib.hid (fun w A c hr => count_ok A c fx3 1 w hr f9 (Nat.le_refl _) (by omega) (inoV_size _ _))
  rw [f4, show putV fx1 1 (freshI 0) = fx2 from rfl] at hnew
  rw [f7] at hwr
  rw [f11, f12] at hbl
  rw [f11, f13] at hct
  rw [show fmtV 24 4 = fx1 from rfl] at hfmt
  obtain ⟨⟨v', x'⟩, hR⟩ := Option.isSome_iff_exists.1 f8
  have hx3 : fx3 = putV v' 1 (if min x'.size 8960 < 301 then x'.setS 301 else x') := by rw [fx3, hR]
  have hwr2 : Hid (∀ w A c, RS w A fx2 → Calls Try.prog 35 #[.slice A 24 c, .int .i64 1, .int .i64 300, .string (mk [120])] w fun e w' => ∃ g c', e = .returned (.tuple #[.slice (some ⟨g, 0, none⟩) 24 c', .int .i64 0]) ∧ VS w' g fx3 ∧ w.heap.size ≤ g ∧ Below w.heap.size w w') := by
    refine Lib.hid fun w A c hr => (hwr.out w A c hr).mono ?_
    intro e w' h
    rw [show wrV [(120 : UInt8)].length fx2 (inoV fx2 1) 300 [120] = some (v', x') from hR] at h
    simp only [WAns] at h
    rw [show (300 + [(120 : UInt8)].length) = 301 from rfl, ← hx3, f7] at h
    exact h
  clear hwr hx3 hR f1 f2 f3 f5 f6 f8 f9 f10 f12 f13
  have L1 := Lib.hid f4
  have L2 := Lib.hid f7
  have L3 := Lib.hid f11
  clear f4 f7 f11
  generalize fx1 = a1 at *
  generalize fx2 = a2 at *
  generalize fx3 = a3 at *
  go_enter Try.func17, Try.ntmps17
  go_wp2_with (first
    | (go_at_call 48; refine (hfmt.out _).mono ?_; rintro e w1 ⟨g1, rfl, hg1, hs1, hb1⟩)
    | (go_at_call 34; refine (hnew.out _ _ _ (hg1.rs (by rw [L1.out]; omega))).mono ?_; rintro e w2 ⟨g2, c2, rfl, hg2, hs2, hb2⟩)
    | (go_at_call 35; refine (hwr2.out _ _ _ (hg2.rs (by rw [L2.out]; omega))).mono ?_; rintro e w3 ⟨g3, c3, rfl, hg3, hs3, hb3⟩)
    | (go_at_call 18; refine (hbl.out _ _ _ (hg3.rs (by rw [L3.out]; omega))).mono ?_; rintro e w4 ⟨u, rfl, ho4, hb4⟩; obtain ⟨g4, cap4, rfl, hs4, hc4⟩ := own_open ho4 (by simp); have k0 := hc4 0 _ rfl; have k1 := hc4 1 _ rfl; have k2 := hc4 2 _ rfl; clear hc4 ho4)
    | (go_at_call 22; refine (hct.out _ _ _ ((hg3.rs (by rw [L3.out]; omega)).below hb4)).mono ?_; rintro e w5 ⟨rfl, hb5⟩))
  go_ret
  refine ⟨rfl, ?_⟩
  have s1 := hb1.size
  have s2 := hb2.size
  have s3 := hb3.size
  have s4 := hb4.size
  exact below_keep (below_keep (below_keep (below_keep hb1 (Nat.le_refl _) hb2) (by omega) hb3) (by omega) hb4) (by omega) hb5
end Go.Proofs.Ytacdohlhalnioaa
end

/- Contracts: the numbers of all inodes that are (the program's and the document's). -/
section
set_option linter.unusedSimpArgs false
set_option linter.unusedVariables false
set_option maxRecDepth 20000
namespace Go.Proofs.Ytacdohlhalnioaa
open Go.RowKit
attribute [local go_sem] Oper.semAt_some

/-- The inodes that are, among the first k. -/
def inAll (v : Vol) (k : Nat) : List Nat := ((List.range k).map (· + 1)).filter fun n => (inoV v n).kind != 0
theorem inAll_succ (v : Vol) (k : Nat) : inAll v (k + 1) = inAll v k ++ (if (inoV v (k + 1)).kind = 0 then [] else [k + 1]) := by
  rw [inAll, inAll, List.range_succ, List.map_append, List.filter_append]
  congr 1
  by_cases h : (inoV v (k + 1)).kind = 0
  · simp [h]
  · simp [h]
theorem inAll_le (v : Vol) (k : Nat) : (inAll v k).length ≤ k := by
  refine Nat.le_trans (List.length_filter_le _ _) ?_
  simp
/-- The numbers of all inodes that are. -/
def allL (v : Vol) : List Nat := if okV v = true then inAll v (inosV v) else []
def nats (l : List Nat) : List Value := l.map fun n => .int .i64 (n : Nat)
@[simp] theorem nats_length (l : List Nat) : (nats l).length = l.length := by simp [nats]
theorem nats_snoc (l : List Nat) (n : Nat) : nats (l ++ [n]) = nats l ++ [.int .i64 (n : Nat)] := by simp [nats]
theorem below_keep' {B : Nat} {w W w1 : World} (h : Below B w W) (hB : B ≤ W.heap.size) (hb : Below W.heap.size W w1) : Below B w w1 := h.trans (hb.mono hB)
theorem cell_one_at (w : World) (v : Value) (t : TypeId) {m : Nat} (h : w.heap.size = m) : ∀ (j : Nat) (u : Value), [v][j]? = some u → (w.alloc (.cells #[v] t)).cell? ((⟨m, 0, none⟩ : Addr).add j) = some u := by
  subst h
  exact cell_one_new w v t
theorem grow_box {W W1 W2 : World} {e : TypeId} {q base m : Nat} {o : Obj} {u u' y : Value} {xs : List Value} (hq : W.heap[q]? = some o) (ho : W.ownsRow base e 1 u m xs) (hne : ∀ g, u.ownBlock = some g → g ≠ q) (hb : Below W.heap.size W W1) (hg : (W1.alloc (.cells #[y] e)).grownBy W2 u.ownBlock)
    (how : u'.ownBlock = u.ownBlock ∨ u'.ownBlock = some (W1.alloc (.cells #[y] e)).heap.size) :
    W2.heap[q]? = some o ∧ (∀ g, u'.ownBlock = some g → g ≠ q) ∧ ∀ (w : World) (B : Nat), Below B w W → B ≤ W.heap.size → B ≤ base → Below B w W2 := by
  have hl := blk_lt hq
  have hs := hb.size
  refine ⟨(hg.block q (by simp; omega) (fun e => hne q e.symm rfl)).trans (blk_keep hq (hb.alloc hb.size _)), fun r e => ?_, fun w B h1 h2 h3 => (below_keep' h1 h2 (hb.alloc hb.size _)).grown hg (by simp; omega) (fun r e => Nat.le_trans h3 (ho.lt r e).1)⟩
  rcases how with h | h
  · rw [h] at e
    exact hne r e
  · rw [h] at e
    have := Option.some.inj e
    simp at this
    omega
set_option maxHeartbeats 4000000 in
theorem iall_ok (A : Option Addr) (c : Nat) (v : Vol) (w : World) (hr : RS w A v) :
    Calls Try.prog 31 #[.slice A v.length c] w fun e w' => ∃ u, e = .returned u ∧ w'.ownsRow w.heap.size 3 1 u (allL v).length (nats (allL v)) ∧ Below w.heap.size w w' := by
  obtain ⟨i0, hi0, hz0, hz1, hz2⟩ := info_parts (show (Try.prog.info? 3).map (fun i => (i.zero, i.size, i.bytes)) = some (some (.int .i64 0), 1, 8) by kernel_rfl)
  have HR := Lib.hid hr
  clear hr
  by_cases hv : okV v = true
  · have hi64 := (okV_iff.1 hv).ihi
    rw [allL, if_pos hv]
    have hget := Lib.hid (fun n w h1 h2 hr => iget_ok A c v n w hr hv h1 h2)
    have HV := Lib.hid hv
    clear hv
    go_enter Try.func31, Try.ntmps31
    go_wp2_with (go_at_call 71; refine (of_ok _ _ _ _ HR.out HV.out).mono ?_; rintro e w1 ⟨rfl, hb1⟩; have B1 := Lib.hid hb1; clear hb1)
    obtain ⟨G, hG⟩ : ∃ G, Obj.cells #[.int .i64 v.length, .int .i64 (inosV v), .int .i64 1, .int .i64 2, .int .i64 3, .int .i64 (3 + ((inosV v : Nat) + 1 : Int) / 2)] 66 = G := ⟨_, rfl⟩
    have hbA := B1.out.alloc B1.out.size (.cells #[.int .i64 v.length, .int .i64 (inosV v), .int .i64 1, .int .i64 2, .int .i64 3, .int .i64 (3 + ((inosV v : Nat) + 1 : Int) / 2)] 66)
    have hq := blk_new w1 (.cells #[.int .i64 v.length, .int .i64 (inosV v), .int .i64 1, .int .i64 2, .int .i64 3, .int .i64 (3 + ((inosV v : Nat) + 1 : Int) / 2)] 66)
    have BA := Lib.hid hbA
    have HQ := Lib.hid hq
    have hs1 := B1.out.size
    clear hbA hq hG
    generalize w1.heap.size = q at *
    go_loopw [5, 6] (fun uv iv wr => ∃ k : Nat, k ≤ inosV v ∧ iv = .int .i64 ((k : Int) + 1) ∧ Hid (wr.ownsRow w.heap.size 3 1 uv (inAll v k).length (nats (inAll v k)) ∧ (∀ g, uv.ownBlock = some g → g ≠ q)) ∧ Hid (wr.heap[q]? = some (.cells #[.int .i64 v.length, .int .i64 (inosV v), .int .i64 1, .int .i64 2, .int .i64 3, .int .i64 (3 + ((inosV v : Nat) + 1 : Int) / 2)] 66 (0, 0))) ∧ Hid (Below w.heap.size w wr)) (fun _ iv _ => inosV v + 1 - (intOf iv).toNat)
    case atStart => exact ⟨0, by omega, rfl, ⟨World.ownsRow_nil _ _ _ _, fun g e => by cases e⟩, HQ, BA⟩
    case round =>
      obtain ⟨k, hk, rfl, ho, hq, hB⟩ := hrel
      have hle := inAll_le v k
      have hsn := inAll_succ v k
      obtain ⟨l, hl⟩ : ∃ l, inAll v k = l := ⟨_, rfl⟩
      rw [hl] at ho hle hsn
      have HL := Lib.hid hl
      clear hl
      obtain ⟨ua, uc, rfl⟩ := own_slice ho.out.1
      obtain ⟨q0, q1, q2, q3, q4, q5⟩ := cells6 hq.out
      have hBs := hB.out.size
      by_cases hlt : k < inosV v
      · have hki : (k : Int) + 1 ≤ (inosV v : Nat) := by omega
        have hg1 := hget.out (k + 1) wr (by omega) (by omega) (HR.out.below hB.out)
        have hwi : IntKind.i64.wrap ((k : Int) + 1 + 1) = (k : Int) + 1 + 1 := by simp [IntKind.wrap, IntKind.bits, IntKind.signed]; omega
        rw [show ((k + 1 : Nat) : Int) = (k : Int) + 1 from rfl] at hg1
        obtain ⟨x, hx⟩ : ∃ x, inoV v (k + 1) = x := ⟨_, rfl⟩
        rw [hx] at hg1 hsn
        have HG1 := Lib.hid hg1
        have HSN := Lib.hid hsn
        clear hx hg1 hsn
        by_cases h0 : x.kind = 0
        · have hbn : (((x.kind : Nat) : Int) != 0) = false := by simp [h0]
          have H0 := Lib.hid h0
          clear h0
          go_wp2_with (go_at_call 32; refine HG1.out.mono ?_; rintro e w3 ⟨rfl, hb3⟩; obtain ⟨x0, x1, x2, x3, x4, x5, x6, x7, x8, x9, x10, x11⟩ := cells12 (blk_new w3 (.cells #[.int .i64 ((x.kind : Nat) : Int), .int .i64 ((x.links : Nat) : Int), .int .i64 ((x.owner : Nat) : Int), .int .i64 ((x.size : Nat) : Int), .int .i64 ((x.d0 : Nat) : Int), .int .i64 ((x.d1 : Nat) : Int), .int .i64 ((x.d2 : Nat) : Int), .int .i64 ((x.d3 : Nat) : Int), .int .i64 ((x.d4 : Nat) : Int), .int .i64 ((x.d5 : Nat) : Int), .int .i64 ((x.ind : Nat) : Int), .int .i64 ((x.ext : Nat) : Int)] 45)); have B3 := Lib.hid (hb3.alloc hb3.size (.cells #[.int .i64 ((x.kind : Nat) : Int), .int .i64 ((x.links : Nat) : Int), .int .i64 ((x.owner : Nat) : Int), .int .i64 ((x.size : Nat) : Int), .int .i64 ((x.d0 : Nat) : Int), .int .i64 ((x.d1 : Nat) : Int), .int .i64 ((x.d2 : Nat) : Int), .int .i64 ((x.d3 : Nat) : Int), .int .i64 ((x.d4 : Nat) : Int), .int .i64 ((x.d5 : Nat) : Int), .int .i64 ((x.ind : Nat) : Int), .int .i64 ((x.ext : Nat) : Int)] 45)); clear hb3)
          refine ⟨⟨k + 1, by omega, by go_num, ⟨?_, ho.out.2⟩, blk_keep hq.out B3.out, below_keep' hB.out hBs B3.out⟩, by simp only [intOf]; omega⟩
          rw [HSN.out, if_pos H0.out, List.append_nil]
          exact own_below ho.out.1 B3.out
        · have hbn : (((x.kind : Nat) : Int) != 0) = true := by simp [h0]
          go_wp2_with (first
            | (go_at_call 32; refine HG1.out.mono ?_; rintro e w3 ⟨rfl, hb3⟩; obtain ⟨x0, x1, x2, x3, x4, x5, x6, x7, x8, x9, x10, x11⟩ := cells12 (blk_new w3 (.cells #[.int .i64 ((x.kind : Nat) : Int), .int .i64 ((x.links : Nat) : Int), .int .i64 ((x.owner : Nat) : Int), .int .i64 ((x.size : Nat) : Int), .int .i64 ((x.d0 : Nat) : Int), .int .i64 ((x.d1 : Nat) : Int), .int .i64 ((x.d2 : Nat) : Int), .int .i64 ((x.d3 : Nat) : Int), .int .i64 ((x.d4 : Nat) : Int), .int .i64 ((x.d5 : Nat) : Int), .int .i64 ((x.ind : Nat) : Int), .int .i64 ((x.ext : Nat) : Int)] 45)); have B3 := Lib.hid (hb3.alloc hb3.size (.cells #[.int .i64 ((x.kind : Nat) : Int), .int .i64 ((x.links : Nat) : Int), .int .i64 ((x.owner : Nat) : Int), .int .i64 ((x.size : Nat) : Int), .int .i64 ((x.d0 : Nat) : Int), .int .i64 ((x.d1 : Nat) : Int), .int .i64 ((x.d2 : Nat) : Int), .int .i64 ((x.d3 : Nat) : Int), .int .i64 ((x.d4 : Nat) : Int), .int .i64 ((x.d5 : Nat) : Int), .int .i64 ((x.ind : Nat) : Int), .int .i64 ((x.ext : Nat) : Int)] 45)); clear hb3)
            | (at_builtin; refine wpList_append_own_at _ rfl _ _ 26 rfl w.heap.size 3 i0 (.int .i64 0) 1 8 Try.underlying26 hi0 hz0 hz1 hz2 rfl (by decide) _ l.length _ rfl (own_below ho.out.1 (B3.out.alloc B3.out.size _)) ⟨w3.heap.size + 1, 0, none⟩ 1 1 [.int .i64 ((k : Int) + 1)] rfl rfl (cell_one_at _ _ _ (by simp)) (by simp [Value.oneCell']) (by simp only [maxLen]; omega) (by omega) (by have := B3.out.size; simp at this; simp; omega) ?_; intro u' w5 hown' hgrow _ howb; have EG := Lib.hid hgrow; have EO := Lib.hid hown'; have EB := Lib.hid howb; clear hgrow hown' howb))
          obtain ⟨z1, z2, z3⟩ := grow_box hq.out ho.out.1 ho.out.2 B3.out EG.out EB.out
          refine ⟨⟨k + 1, by omega, by go_num, ⟨?_, z2⟩, z1, z3 _ _ hB.out hBs (Nat.le_refl _)⟩, by simp only [intOf]; omega⟩
          rw [HSN.out, if_neg h0, nats_snoc, List.length_append]
          exact EO.out
      · have hki : ¬ (k : Int) + 1 ≤ (inosV v : Nat) := by omega
        obtain rfl : k = inosV v := by omega
        clear hsn
        go_wp2
        go_ret
        rw [HL.out]
        exact ⟨_, rfl, ho.out.1, hB.out⟩
  · have hv' : okV v = false := by simpa using hv
    rw [allL, if_neg hv]
    have HV := Lib.hid hv'
    clear hv hv'
    go_enter Try.func31, Try.ntmps31
    go_wp2_with (go_at_call 71; refine (of_no _ _ _ _ HR.out HV.out).mono ?_; rintro e w1 ⟨rfl, hb1⟩; have B1 := Lib.hid hb1; clear hb1)
    obtain ⟨q0, q1, q2, q3, q4, q5⟩ := cells6 (blk_new w1 (.cells #[.int .i64 0, .int .i64 0, .int .i64 0, .int .i64 0, .int .i64 0, .int .i64 0] 66))
    have BA := Lib.hid (B1.out.alloc B1.out.size (.cells #[.int .i64 0, .int .i64 0, .int .i64 0, .int .i64 0, .int .i64 0, .int .i64 0] 66))
    have CA := Lib.hid q1
    clear q0 q1 q2 q3 q4 q5
    go_loopw [5, 6] (fun uv iv wr => uv = .slice none 0 0 ∧ iv = .int .i64 1 ∧ Hid (wr.cell? ⟨w1.heap.size, 1, none⟩ = some (.int .i64 0)) ∧ Hid (Below w.heap.size w wr)) (fun _ _ _ => 0)
    case atStart => exact ⟨rfl, rfl, CA, BA⟩
    case round =>
      obtain ⟨rfl, rfl, h1, hB⟩ := hrel
      have h1' := h1.out
      go_wp2
      go_ret
      exact ⟨_, rfl, World.ownsRow_nil _ _ _ _, hB.out⟩
set_option maxHeartbeats 4000000 in
theorem rall_ok (A : Option Addr) (c : Nat) (v : Vol) (w : World) (hr : RS w A v) :
    Calls Try.prog 74 #[.slice A v.length c] w fun e w' => ∃ u, e = .returned u ∧ w'.ownsRow w.heap.size 3 1 u (allL v).length (nats (allL v)) ∧ Below w.heap.size w w' := by
  obtain ⟨i0, hi0, hz0, hz1, hz2⟩ := info_parts (show (Try.prog.info? 3).map (fun i => (i.zero, i.size, i.bytes)) = some (some (.int .i64 0), 1, 8) by kernel_rfl)
  have HR := Lib.hid hr
  clear hr
  by_cases hv : okV v = true
  · have hi64 := (okV_iff.1 hv).ihi
    rw [allL, if_pos hv]
    have hget := Lib.hid (fun n w h1 h2 hr => rget18_ok A c v n w hr hv h1 h2)
    have HV := Lib.hid hv
    clear hv
    go_enter Try.func74, Try.ntmps74
    go_wp2_with (go_at_call 46; refine (rof_ok _ _ _ _ HR.out HV.out).mono ?_; rintro e w1 ⟨rfl, hb1⟩; have B1 := Lib.hid hb1; clear hb1)
    obtain ⟨G, hG⟩ : ∃ G, Obj.cells #[.int .i64 v.length, .int .i64 (inosV v), .int .i64 1, .int .i64 2, .int .i64 3, .int .i64 (3 + ((inosV v : Nat) + 1 : Int) / 2)] 66 = G := ⟨_, rfl⟩
    have hbA := B1.out.alloc B1.out.size (.cells #[.int .i64 v.length, .int .i64 (inosV v), .int .i64 1, .int .i64 2, .int .i64 3, .int .i64 (3 + ((inosV v : Nat) + 1 : Int) / 2)] 66)
    have hq := blk_new w1 (.cells #[.int .i64 v.length, .int .i64 (inosV v), .int .i64 1, .int .i64 2, .int .i64 3, .int .i64 (3 + ((inosV v : Nat) + 1 : Int) / 2)] 66)
    have BA := Lib.hid hbA
    have HQ := Lib.hid hq
    have hs1 := B1.out.size
    clear hbA hq hG
    generalize w1.heap.size = q at *
    go_loopw [5, 6] (fun uv iv wr => ∃ k : Nat, k ≤ inosV v ∧ iv = .int .i64 ((k : Int) + 1) ∧ Hid (wr.ownsRow w.heap.size 3 1 uv (inAll v k).length (nats (inAll v k)) ∧ (∀ g, uv.ownBlock = some g → g ≠ q)) ∧ Hid (wr.heap[q]? = some (.cells #[.int .i64 v.length, .int .i64 (inosV v), .int .i64 1, .int .i64 2, .int .i64 3, .int .i64 (3 + ((inosV v : Nat) + 1 : Int) / 2)] 66 (0, 0))) ∧ Hid (Below w.heap.size w wr)) (fun _ iv _ => inosV v + 1 - (intOf iv).toNat)
    case atStart => exact ⟨0, by omega, rfl, ⟨World.ownsRow_nil _ _ _ _, fun g e => by cases e⟩, HQ, BA⟩
    case round =>
      obtain ⟨k, hk, rfl, ho, hq, hB⟩ := hrel
      have hle := inAll_le v k
      have hsn := inAll_succ v k
      obtain ⟨l, hl⟩ : ∃ l, inAll v k = l := ⟨_, rfl⟩
      rw [hl] at ho hle hsn
      have HL := Lib.hid hl
      clear hl
      obtain ⟨ua, uc, rfl⟩ := own_slice ho.out.1
      obtain ⟨q0, q1, q2, q3, q4, q5⟩ := cells6 hq.out
      have hBs := hB.out.size
      by_cases hlt : k < inosV v
      · have hki : (k : Int) + 1 ≤ (inosV v : Nat) := by omega
        have hg1 := hget.out (k + 1) wr (by omega) (by omega) (HR.out.below hB.out)
        have hwi : IntKind.i64.wrap ((k : Int) + 1 + 1) = (k : Int) + 1 + 1 := by simp [IntKind.wrap, IntKind.bits, IntKind.signed]; omega
        rw [show ((k + 1 : Nat) : Int) = (k : Int) + 1 from rfl] at hg1
        obtain ⟨x, hx⟩ : ∃ x, inoV v (k + 1) = x := ⟨_, rfl⟩
        rw [hx] at hg1 hsn
        have HG1 := Lib.hid hg1
        have HSN := Lib.hid hsn
        clear hx hg1 hsn
        by_cases h0 : x.kind = 0
        · have hbn : (((x.kind : Nat) : Int) != 0) = false := by simp [h0]
          have H0 := Lib.hid h0
          clear h0
          go_wp2_with (go_at_call 55; refine HG1.out.mono ?_; rintro e w3 ⟨rfl, hb3⟩; obtain ⟨x0, x1, x2, x3, x4, x5, x6, x7, x8, x9, x10, x11⟩ := cells12 (blk_new w3 (.cells #[.int .i64 ((x.kind : Nat) : Int), .int .i64 ((x.links : Nat) : Int), .int .i64 ((x.owner : Nat) : Int), .int .i64 ((x.size : Nat) : Int), .int .i64 ((x.d0 : Nat) : Int), .int .i64 ((x.d1 : Nat) : Int), .int .i64 ((x.d2 : Nat) : Int), .int .i64 ((x.d3 : Nat) : Int), .int .i64 ((x.d4 : Nat) : Int), .int .i64 ((x.d5 : Nat) : Int), .int .i64 ((x.ind : Nat) : Int), .int .i64 ((x.ext : Nat) : Int)] 45)); have B3 := Lib.hid (hb3.alloc hb3.size (.cells #[.int .i64 ((x.kind : Nat) : Int), .int .i64 ((x.links : Nat) : Int), .int .i64 ((x.owner : Nat) : Int), .int .i64 ((x.size : Nat) : Int), .int .i64 ((x.d0 : Nat) : Int), .int .i64 ((x.d1 : Nat) : Int), .int .i64 ((x.d2 : Nat) : Int), .int .i64 ((x.d3 : Nat) : Int), .int .i64 ((x.d4 : Nat) : Int), .int .i64 ((x.d5 : Nat) : Int), .int .i64 ((x.ind : Nat) : Int), .int .i64 ((x.ext : Nat) : Int)] 45)); clear hb3)
          refine ⟨⟨k + 1, by omega, by go_num, ⟨?_, ho.out.2⟩, blk_keep hq.out B3.out, below_keep' hB.out hBs B3.out⟩, by simp only [intOf]; omega⟩
          rw [HSN.out, if_pos H0.out, List.append_nil]
          exact own_below ho.out.1 B3.out
        · have hbn : (((x.kind : Nat) : Int) != 0) = true := by simp [h0]
          go_wp2_with (first
            | (go_at_call 55; refine HG1.out.mono ?_; rintro e w3 ⟨rfl, hb3⟩; obtain ⟨x0, x1, x2, x3, x4, x5, x6, x7, x8, x9, x10, x11⟩ := cells12 (blk_new w3 (.cells #[.int .i64 ((x.kind : Nat) : Int), .int .i64 ((x.links : Nat) : Int), .int .i64 ((x.owner : Nat) : Int), .int .i64 ((x.size : Nat) : Int), .int .i64 ((x.d0 : Nat) : Int), .int .i64 ((x.d1 : Nat) : Int), .int .i64 ((x.d2 : Nat) : Int), .int .i64 ((x.d3 : Nat) : Int), .int .i64 ((x.d4 : Nat) : Int), .int .i64 ((x.d5 : Nat) : Int), .int .i64 ((x.ind : Nat) : Int), .int .i64 ((x.ext : Nat) : Int)] 45)); have B3 := Lib.hid (hb3.alloc hb3.size (.cells #[.int .i64 ((x.kind : Nat) : Int), .int .i64 ((x.links : Nat) : Int), .int .i64 ((x.owner : Nat) : Int), .int .i64 ((x.size : Nat) : Int), .int .i64 ((x.d0 : Nat) : Int), .int .i64 ((x.d1 : Nat) : Int), .int .i64 ((x.d2 : Nat) : Int), .int .i64 ((x.d3 : Nat) : Int), .int .i64 ((x.d4 : Nat) : Int), .int .i64 ((x.d5 : Nat) : Int), .int .i64 ((x.ind : Nat) : Int), .int .i64 ((x.ext : Nat) : Int)] 45)); clear hb3)
            | (at_builtin; refine wpList_append_own_at _ rfl _ _ 26 rfl w.heap.size 3 i0 (.int .i64 0) 1 8 Try.underlying26 hi0 hz0 hz1 hz2 rfl (by decide) _ l.length _ rfl (own_below ho.out.1 (B3.out.alloc B3.out.size _)) ⟨w3.heap.size + 1, 0, none⟩ 1 1 [.int .i64 ((k : Int) + 1)] rfl rfl (cell_one_at _ _ _ (by simp)) (by simp [Value.oneCell']) (by simp only [maxLen]; omega) (by omega) (by have := B3.out.size; simp at this; simp; omega) ?_; intro u' w5 hown' hgrow _ howb; have EG := Lib.hid hgrow; have EO := Lib.hid hown'; have EB := Lib.hid howb; clear hgrow hown' howb))
          obtain ⟨z1, z2, z3⟩ := grow_box hq.out ho.out.1 ho.out.2 B3.out EG.out EB.out
          refine ⟨⟨k + 1, by omega, by go_num, ⟨?_, z2⟩, z1, z3 _ _ hB.out hBs (Nat.le_refl _)⟩, by simp only [intOf]; omega⟩
          rw [HSN.out, if_neg h0, nats_snoc, List.length_append]
          exact EO.out
      · have hki : ¬ (k : Int) + 1 ≤ (inosV v : Nat) := by omega
        obtain rfl : k = inosV v := by omega
        clear hsn
        go_wp2
        go_ret
        rw [HL.out]
        exact ⟨_, rfl, ho.out.1, hB.out⟩
  · have hv' : okV v = false := by simpa using hv
    rw [allL, if_neg hv]
    have HV := Lib.hid hv'
    clear hv hv'
    go_enter Try.func74, Try.ntmps74
    go_wp2_with (go_at_call 46; refine (rof_no _ _ _ _ HR.out HV.out).mono ?_; rintro e w1 ⟨rfl, hb1⟩; have B1 := Lib.hid hb1; clear hb1)
    obtain ⟨q0, q1, q2, q3, q4, q5⟩ := cells6 (blk_new w1 (.cells #[.int .i64 0, .int .i64 0, .int .i64 0, .int .i64 0, .int .i64 0, .int .i64 0] 66))
    have BA := Lib.hid (B1.out.alloc B1.out.size (.cells #[.int .i64 0, .int .i64 0, .int .i64 0, .int .i64 0, .int .i64 0, .int .i64 0] 66))
    have CA := Lib.hid q1
    clear q0 q1 q2 q3 q4 q5
    go_loopw [5, 6] (fun uv iv wr => uv = .slice none 0 0 ∧ iv = .int .i64 1 ∧ Hid (wr.cell? ⟨w1.heap.size, 1, none⟩ = some (.int .i64 0)) ∧ Hid (Below w.heap.size w wr)) (fun _ _ _ => 0)
    case atStart => exact ⟨rfl, rfl, CA, BA⟩
    case round =>
      obtain ⟨rfl, rfl, h1, hB⟩ := hrel
      have h1' := h1.out
      go_wp2
      go_ret
      exact ⟨_, rfl, World.ownsRow_nil _ _ _ _, hB.out⟩
end Go.Proofs.Ytacdohlhalnioaa
end

/- Contracts: a volume more than is gone through (layer 18's); an owner's place; the limit (the program's and the document's). -/
section
set_option linter.unusedSimpArgs false
set_option linter.unusedVariables false
set_option maxRecDepth 20000
namespace Go.Proofs.Ytacdohlhalnioaa
open Go.RowKit
attribute [local go_sem] Oper.semAt_some

def smallQ (v : Vol) : Bool := decide (v.length ≤ 80) && v.all fun s => decide (s.length ≤ 200)
theorem smallQ_iff {v : Vol} : smallQ v = true ↔ v.length ≤ 80 ∧ ∀ j, j < v.length → (bk v j).length ≤ 200 := by
  simp only [smallQ, Bool.and_eq_true, decide_eq_true_eq, List.all_eq_true]
  constructor
  · rintro ⟨h1, h2⟩
    exact ⟨h1, fun j hj => by rw [← bk_get v j hj]; exact h2 _ (List.getElem_mem hj)⟩
  · rintro ⟨h1, h2⟩
    refine ⟨h1, fun s hs => ?_⟩
    obtain ⟨j, hj, rfl⟩ := List.getElem_of_mem hs
    rw [bk_get v j hj]
    exact h2 j hj
def greatQ (v : Vol) : Int := if smallQ v = true then 0 else 1
theorem greatQ_small {v : Vol} (h : v.length ≤ 80) (h2 : ∀ j, j < v.length → (bk v j).length ≤ 200) : greatQ v = 0 := if_pos (smallQ_iff.2 ⟨h, h2⟩)
theorem greatQ_long {v : Vol} (h : 80 < v.length) : greatQ v = 1 := if_neg fun e => by have := (smallQ_iff.1 e).1; omega
theorem greatQ_one {v : Vol} {j : Nat} (hj : j < v.length) (h : 200 < (bk v j).length) : greatQ v = 1 := if_neg fun e => by have := (smallQ_iff.1 e).2 j hj; omega
set_option maxHeartbeats 1000000 in
theorem great18_ok (A : Option Addr) (c : Nat) (v : Vol) (w : World) (hr : RS w A v) :
    Calls Try.prog 25 #[.slice A v.length c] w fun e w' => e = .returned (.int .i64 (greatQ v)) ∧ w = w' := by
  have hl := hr.1
  by_cases h64 : 80 < v.length
  · rw [greatQ_long h64]
    have hi : (80 : Int) < (v.length : Nat) := by omega
    clear hr
    go_enter Try.func25, Try.ntmps25
    go_wp2
    go_ret
    exact ⟨rfl, rfl⟩
  · have hi : ¬ (80 : Int) < (v.length : Nat) := by omega
    by_cases h0 : v.length = 0
    · rw [greatQ_small (by omega) (fun j hj => by omega)]
      clear hr hi h64
      have hz : v = [] := List.length_eq_zero_iff.1 h0
      subst hz
      go_enter Try.func25, Try.ntmps25
      go_wp2
      go_loop [3] (fun iv => iv = .int .i64 0) (fun iv => 0)
      case atStart => rfl
      case round =>
        subst hrel
        go_wp2
        go_ret
        exact ⟨rfl, rfl⟩
    · obtain ⟨bA, oA, rfl, hbA, hc⟩ := hr.open_ (by omega)
      have HC := Lib.hid hc
      clear hr hc
      go_enter Try.func25, Try.ntmps25
      go_wp2
      go_loop [3] (fun iv => ∃ k : Nat, k ≤ v.length ∧ iv = .int .i64 k ∧ ∀ j, j < k → (bk v j).length ≤ 200) (fun iv => v.length - (intOf iv).toNat)
      case atStart => exact ⟨0, by omega, rfl, fun j hj => by omega⟩
      case round =>
        obtain ⟨k, hk, rfl, hall⟩ := hrel
        have HA := Lib.hid hall
        clear hall
        by_cases hlt : k < v.length
        · have hci := HC.out k hlt
          have hki : (k : Int) < (v.length : Nat) := by omega
          by_cases h3 : 200 < (bk v k).length
          · have h3i : (200 : Int) < ((bk v k).length : Nat) := by omega
            have hg := greatQ_one hlt h3
            have HG := Lib.hid hg
            clear hg h3
            generalize bk v k = s at *
            go_wp2
            go_ret
            exact ⟨ret_int HG.out.symm, rfl⟩
          · have h3i : ¬ (200 : Int) < ((bk v k).length : Nat) := by omega
            have hall : ∀ j, j < k + 1 → (bk v j).length ≤ 200 := fun j hj => by
              rcases Nat.lt_or_ge j k with h | h
              · exact HA.out j h
              · have : j = k := by omega
                rw [this]; omega
            have HA2 := Lib.hid hall
            clear hall
            generalize bk v k = s at *
            go_wp2
            exact ⟨⟨k + 1, by omega, by go_num, HA2.out⟩, by simp only [intOf]; omega⟩
        · have hg : greatQ v = 0 := greatQ_small (by omega) (fun j hj => HA.out j (by omega))
          have HG := Lib.hid hg
          clear hg
          have hki : ¬ (k : Int) < (v.length : Nat) := by omega
          go_wp2
          go_ret
          exact ⟨ret_int HG.out.symm, rfl⟩
/-- Is there such an owner, on such a volume? The error. -/
def limE (v : Vol) (o : Int) : Int := if okV v = true then (if 0 ≤ o ∧ o < 16 then 0 else 1) else 3
def limitV (v : Vol) (o : Nat) : Nat := w2 (bk v 1) (2 * o)
theorem limE_ok {v : Vol} {o : Int} (h : limE v o = 0) : okV v = true ∧ 0 ≤ o ∧ o < 16 := by
  unfold limE at h
  split at h
  · rename_i h1
    split at h
    · rename_i h2
      exact ⟨h1, h2⟩
    · cases h
  · cases h
set_option maxHeartbeats 400000 in
theorem may_ok (o : Int) (w : World) : Calls Try.prog 104 #[.int .i64 o] w fun e w' => e = .returned (.bool (decide (0 ≤ o ∧ o < 16))) ∧ w = w' := by
  by_cases h1 : 0 ≤ o
  · by_cases h2 : o < 16
    · go_enter Try.func104, Try.ntmps104
      go_wp2
      go_ret
      exact ⟨ret_bool (by simp [h1, h2]), rfl⟩
    · go_enter Try.func104, Try.ntmps104
      go_wp2
      go_ret
      exact ⟨ret_bool (by simp [h1, h2]), rfl⟩
  · go_enter Try.func104, Try.ntmps104
    go_wp2
    go_ret
    exact ⟨ret_bool (by have h9 : ¬ 0 ≤ o := by omega
                        simp [h9]), rfl⟩
theorem blk_set6 {w : World} {k t : Nat} {b0 b1 b2 b3 b4 b5 a0 a1 a2 a3 a4 a5 : Value} {fz : Nat × Nat} (h : w.heap[k]? = some (.cells #[b0, b1, b2, b3, b4, b5] t fz)) :
    ((((((w.setCell ⟨k, 0, none⟩ a0).setCell ⟨k, 1, none⟩ a1).setCell ⟨k, 2, none⟩ a2).setCell ⟨k, 3, none⟩ a3).setCell ⟨k, 4, none⟩ a4).setCell ⟨k, 5, none⟩ a5).heap[k]? = some (.cells #[a0, a1, a2, a3, a4, a5] t fz) := by
  have h1 := blk_set (blk_set (blk_set (blk_set (blk_set (blk_set h 0 a0) 1 a1) 2 a2) 3 a3) 4 a4) 5 a5
  simpa using h1
set_option maxHeartbeats 2000000 in
theorem qplace_ok (A : Option Addr) (c : Nat) (v : Vol) (o : Nat) (w : World) (hr : RS w A v) (hv : okV v = true) (ho : o < 16) :
    Calls Try.prog 65 #[.slice A v.length c, .int .i64 o] w fun e w' => e = .returned (.tuple #[.agg #[.int .i64 v.length, .int .i64 (inosV v), .int .i64 1, .int .i64 2, .int .i64 3, .int .i64 (3 + ((inosV v : Nat) + 1 : Int) / 2)], .int .i64 ((2 * o : Nat) : Int), .int .i64 0]) ∧ Below w.heap.size w w' := by
  have HR := Lib.hid hr
  have HV := Lib.hid hv
  have hoi : (o : Int) < 16 := by omega
  have hb0 : Below w.heap.size w (w.alloc (.cells #[.int .i64 0, .int .i64 0, .int .i64 0, .int .i64 0, .int .i64 0, .int .i64 0] 66)) := (Below.refl _ _).alloc (Nat.le_refl _) _
  have hq0 := blk_new w (.cells #[.int .i64 0, .int .i64 0, .int .i64 0, .int .i64 0, .int .i64 0, .int .i64 0] 66)
  have HB0 := Lib.hid hb0
  have HQ0 := Lib.hid hq0
  have hmay := Lib.hid (fun w => may_ok o w)
  rw [show decide ((0 : Int) ≤ (o : Int) ∧ (o : Int) < 16) = true from decide_eq_true ⟨by omega, hoi⟩] at hmay
  clear hr hv hb0 hq0
  go_enter Try.func65, Try.ntmps65
  go_wp2_with (first
    | (go_at_call 71; refine (of_ok _ _ _ _ (HR.out.below HB0.out) HV.out).mono ?_; rintro e w1 ⟨rfl, hb1⟩; have hB := (below_keep HB0.out (Nat.le_refl _) hb1).alloc (below_keep HB0.out (Nat.le_refl _) hb1).size (.cells #[.int .i64 v.length, .int .i64 (inosV v), .int .i64 1, .int .i64 2, .int .i64 3, .int .i64 (3 + ((inosV v : Nat) + 1 : Int) / 2)] 66); have hq := heap_alloc_lt _ (.cells #[.int .i64 v.length, .int .i64 (inosV v), .int .i64 1, .int .i64 2, .int .i64 3, .int .i64 (3 + ((inosV v : Nat) + 1 : Int) / 2)] 66) _ _ (blk_keep HQ0.out hb1); obtain ⟨c0, c1, c2, c3, c4, c5⟩ := cells6 (blk_new w1 (.cells #[.int .i64 v.length, .int .i64 (inosV v), .int .i64 1, .int .i64 2, .int .i64 3, .int .i64 (3 + ((inosV v : Nat) + 1 : Int) / 2)] 66)); obtain ⟨d0, d1, d2, d3, d4, d5⟩ := cells6 hq; have f0 := free_of hq 0; have f1 := free_of hq 1; have f2 := free_of hq 2; have f3 := free_of hq 3; have f4 := free_of hq 4; have f5 := free_of hq 5; have HB := Lib.hid hB; have HQ := Lib.hid hq; clear hb1 hB hq)
    | (go_at_call 104; refine (hmay.out _).mono ?_; rintro e w2 ⟨rfl, rfl⟩))
  have hbf := blk_set6 (a0 := .int .i64 v.length) (a1 := .int .i64 (inosV v)) (a2 := .int .i64 1) (a3 := .int .i64 2) (a4 := .int .i64 3) (a5 := .int .i64 (3 + ((inosV v : Nat) + 1 : Int) / 2)) HQ.out
  obtain ⟨r0, r1, r2, r3, r4, r5⟩ := cells6 hbf
  refine bodyPost_ret (v := .tuple #[.agg #[.int .i64 v.length, .int .i64 (inosV v), .int .i64 1, .int .i64 2, .int .i64 3, .int .i64 (3 + ((inosV v : Nat) + 1 : Int) / 2)], .int .i64 (2 * (o : Int)), .int .i64 0]) (by simp [results, Try.results65, go_sem, r0, r1, r2, r3, r4, r5]) rfl ⟨rfl, ?_⟩
  exact below_set6 HB.out (Nat.le_refl _)
set_option maxHeartbeats 2000000 in
theorem qplace_no (A : Option Addr) (c : Nat) (v : Vol) (o : Int) (w : World) (hr : RS w A v) (h : limE v o ≠ 0) :
    Calls Try.prog 65 #[.slice A v.length c, .int .i64 o] w fun e w' => e = .returned (.tuple #[.agg #[.int .i64 0, .int .i64 0, .int .i64 0, .int .i64 0, .int .i64 0, .int .i64 0], .int .i64 0, .int .i64 (limE v o)]) ∧ Below w.heap.size w w' := by
  have HR := Lib.hid hr
  have hb0 : Below w.heap.size w (w.alloc (.cells #[.int .i64 0, .int .i64 0, .int .i64 0, .int .i64 0, .int .i64 0, .int .i64 0] 66)) := (Below.refl _ _).alloc (Nat.le_refl _) _
  have hq0 := blk_new w (.cells #[.int .i64 0, .int .i64 0, .int .i64 0, .int .i64 0, .int .i64 0, .int .i64 0] 66)
  have HB0 := Lib.hid hb0
  have HQ0 := Lib.hid hq0
  clear hr hb0 hq0
  by_cases hv : okV v = true
  · have ho : ¬ (0 ≤ o ∧ o < 16) := fun e => h (by rw [limE, if_pos hv, if_pos e])
    rw [show limE v o = 1 from by rw [limE, if_pos hv, if_neg ho]]
    have HV := Lib.hid hv
    have hmay := Lib.hid (fun w => may_ok o w)
    rw [show decide ((0 : Int) ≤ o ∧ o < 16) = false from decide_eq_false ho] at hmay
    clear hv h ho
    go_enter Try.func65, Try.ntmps65
    go_wp2_with (first
      | (go_at_call 71; refine (of_ok _ _ _ _ (HR.out.below HB0.out) HV.out).mono ?_; rintro e w1 ⟨rfl, hb1⟩; have hB := (below_keep HB0.out (Nat.le_refl _) hb1).alloc (below_keep HB0.out (Nat.le_refl _) hb1).size (.cells #[.int .i64 v.length, .int .i64 (inosV v), .int .i64 1, .int .i64 2, .int .i64 3, .int .i64 (3 + ((inosV v : Nat) + 1 : Int) / 2)] 66); have hq := heap_alloc_lt _ (.cells #[.int .i64 v.length, .int .i64 (inosV v), .int .i64 1, .int .i64 2, .int .i64 3, .int .i64 (3 + ((inosV v : Nat) + 1 : Int) / 2)] 66) _ _ (blk_keep HQ0.out hb1); obtain ⟨d0, d1, d2, d3, d4, d5⟩ := cells6 hq; have f0 := free_of hq 0; have f1 := free_of hq 1; have f2 := free_of hq 2; have f3 := free_of hq 3; have f4 := free_of hq 4; have f5 := free_of hq 5; have HB := Lib.hid hB; have HQ := Lib.hid hq; clear hb1 hB hq)
      | (go_at_call 104; refine (hmay.out _).mono ?_; rintro e w2 ⟨rfl, rfl⟩))
    have hbf := blk_set6 (a0 := .int .i64 0) (a1 := .int .i64 0) (a2 := .int .i64 0) (a3 := .int .i64 0) (a4 := .int .i64 0) (a5 := .int .i64 0) HQ.out
    obtain ⟨r0, r1, r2, r3, r4, r5⟩ := cells6 hbf
    refine bodyPost_ret (v := .tuple #[.agg #[.int .i64 0, .int .i64 0, .int .i64 0, .int .i64 0, .int .i64 0, .int .i64 0], .int .i64 0, .int .i64 1]) (by simp [results, Try.results65, go_sem, r0, r1, r2, r3, r4, r5]) rfl ⟨rfl, ?_⟩
    exact below_set6 HB.out (Nat.le_refl _)
  · have hv' : okV v = false := by simpa using hv
    rw [show limE v o = 3 from by rw [limE, if_neg hv]]
    have HV := Lib.hid hv'
    clear hv hv' h
    go_enter Try.func65, Try.ntmps65
    go_wp2_with (go_at_call 71; refine (of_no _ _ _ _ (HR.out.below HB0.out) HV.out).mono ?_; rintro e w1 ⟨rfl, hb1⟩; have hB := (below_keep HB0.out (Nat.le_refl _) hb1).alloc (below_keep HB0.out (Nat.le_refl _) hb1).size (.cells #[.int .i64 0, .int .i64 0, .int .i64 0, .int .i64 0, .int .i64 0, .int .i64 0] 66); have hq := heap_alloc_lt _ (.cells #[.int .i64 0, .int .i64 0, .int .i64 0, .int .i64 0, .int .i64 0, .int .i64 0] 66) _ _ (blk_keep HQ0.out hb1); obtain ⟨d0, d1, d2, d3, d4, d5⟩ := cells6 hq; have f0 := free_of hq 0; have f1 := free_of hq 1; have f2 := free_of hq 2; have f3 := free_of hq 3; have f4 := free_of hq 4; have f5 := free_of hq 5; have HB := Lib.hid hB; have HQ := Lib.hid hq; clear hb1 hB hq)
    have hbf := blk_set6 (a0 := .int .i64 0) (a1 := .int .i64 0) (a2 := .int .i64 0) (a3 := .int .i64 0) (a4 := .int .i64 0) (a5 := .int .i64 0) HQ.out
    obtain ⟨r0, r1, r2, r3, r4, r5⟩ := cells6 hbf
    refine bodyPost_ret (v := .tuple #[.agg #[.int .i64 0, .int .i64 0, .int .i64 0, .int .i64 0, .int .i64 0, .int .i64 0], .int .i64 0, .int .i64 3]) (by simp [results, Try.results65, go_sem, r0, r1, r2, r3, r4, r5]) rfl ⟨rfl, ?_⟩
    exact below_set6 HB.out (Nat.le_refl _)
set_option maxHeartbeats 2000000 in
theorem limit_ok (A : Option Addr) (c : Nat) (v : Vol) (o : Nat) (w : World) (hr : RS w A v) (hv : okV v = true) (ho : o < 16) :
    Calls Try.prog 29 #[.slice A v.length c, .int .i64 o] w fun e w' => e = .returned (.tuple #[.int .i64 ((limitV v o : Nat) : Int), .int .i64 0]) ∧ Below w.heap.size w w' := by
  have H := okV_iff.1 hv
  have hlo := H.lo
  have s1 := H.size 1 (by omega)
  have HP := Lib.hid (fun w hr => qplace_ok A c v o w hr hv ho)
  have HR := Lib.hid hr
  obtain ⟨bA, oA, rfl, hbA, hc⟩ := hr.open_ (by omega)
  have hc1 := hc 1 (by omega)
  rw [limitV]
  have hle := le_two (((bk v 1).drop (2 * o)).take 2) (by simp [s1]; omega)
  rw [w2_take _ _ _ (by omega), w2_drop, Nat.add_zero] at hle
  obtain ⟨s, hs⟩ : ∃ s, bk v 1 = s := ⟨_, rfl⟩
  rw [hs] at s1 hc1 hle ⊢
  obtain ⟨p, hp⟩ : ∃ p, 2 * o = p := ⟨_, rfl⟩
  rw [hp] at HP hle ⊢
  have HLE := Lib.hid hle
  have hl1 : (1 : Int) < (v.length : Nat) := by omega
  have hw2 : IntKind.i64.wrap ((p : Int) + 2) = (p : Int) + 2 := by simp [IntKind.wrap, IntKind.bits, IntKind.signed]; omega
  have hp2 : (p : Int) ≤ (p : Int) + 2 := by omega
  have hp3 : (p : Int) + 2 ≤ 128 := by omega
  have hp4 : ((p : Int) + 2).toNat = p + 2 := by omega
  have hp5 : p + 2 - p = 2 := by omega
  clear hr hc hv H hs hp hle
  go_enter Try.func29, Try.ntmps29
  go_wp2_with (first
    | (go_at_call 65; refine (HP.out _ HR.out).mono ?_; rintro e w1 ⟨rfl, hb1⟩; have hB := hb1.alloc hb1.size (.cells #[.int .i64 v.length, .int .i64 (inosV v), .int .i64 1, .int .i64 2, .int .i64 3, .int .i64 (3 + ((inosV v : Nat) + 1 : Int) / 2)] 66); obtain ⟨g0, g1, g2, g3, g4, g5⟩ := cells6 (blk_new w1 (.cells #[.int .i64 v.length, .int .i64 (inosV v), .int .i64 1, .int .i64 2, .int .i64 3, .int .i64 (3 + ((inosV v : Nat) + 1 : Int) / 2)] 66)); have hc2 := cell_keep hc1 hB; have HB := Lib.hid hB; clear hb1 hB)
    | (go_at_call 69; refine (get_ok ((s.drop p).take 2) _ (by simp; omega)).mono ?_; rintro e w2 ⟨rfl, rfl⟩))
  go_ret2
  refine ⟨?_, HB.out⟩
  have hb := w2_lt s p
  rw [HLE.out]
  have e : wrap64 ((w2 s p : Nat) : Int) = ((w2 s p : Nat) : Int) := by simp [wrap64]; omega
  rw [e]
  rfl
set_option maxHeartbeats 400000 in
theorem limit_no (A : Option Addr) (c : Nat) (v : Vol) (o : Int) (w : World) (hr : RS w A v) (h : limE v o ≠ 0) :
    Calls Try.prog 29 #[.slice A v.length c, .int .i64 o] w fun e w' => e = .returned (.tuple #[.int .i64 0, .int .i64 (limE v o)]) ∧ Below w.heap.size w w' := by
  have HP := Lib.hid (fun w hr => qplace_no A c v o w hr h)
  have HR := Lib.hid hr
  clear hr
  generalize limE v o = er at *
  have hb : (er == 0) = false := by simpa using h
  have hbn : (er != 0) = true := by simpa using h
  go_enter Try.func29, Try.ntmps29
  go_wp2_with (go_at_call 65; refine (HP.out _ HR.out).mono ?_; rintro e w1 ⟨rfl, hb1⟩; have HB := Lib.hid (hb1.alloc hb1.size (.cells #[.int .i64 0, .int .i64 0, .int .i64 0, .int .i64 0, .int .i64 0, .int .i64 0] 66)); clear hb1)
  go_ret2
  exact ⟨rfl, HB.out⟩
set_option maxHeartbeats 2000000 in
theorem rlimit_ok (A : Option Addr) (c : Nat) (v : Vol) (o : Nat) (w : World) (hr : RS w A v) (hv : okV v = true) (ho : o < 16) :
    Calls Try.prog 42 #[.slice A v.length c, .int .i64 o] w fun e w' => e = .returned (.tuple #[.int .i64 ((limitV v o : Nat) : Int), .int .i64 0]) ∧ Below w.heap.size w w' := by
  have H := okV_iff.1 hv
  have hlo := H.lo
  have s1 := H.size 1 (by omega)
  have HR := Lib.hid hr
  have HV := Lib.hid hv
  obtain ⟨bA, oA, rfl, hbA, hc⟩ := hr.open_ (by omega)
  have hc1 := hc 1 (by omega)
  rw [limitV, w2]
  obtain ⟨s, hs⟩ : ∃ s, bk v 1 = s := ⟨_, rfl⟩
  rw [hs] at s1 hc1 ⊢
  obtain ⟨p, hp⟩ : ∃ p, 2 * o = p := ⟨_, rfl⟩
  rw [hp]
  have hpo : (2 : Int) * (o : Int) = (p : Int) := by omega
  have hg1 := gb_lt s p
  have hg2 := gb_lt s (p + 1)
  have hl1 : (1 : Int) < (v.length : Nat) := by omega
  have hwp : IntKind.i64.wrap (p : Int) = (p : Int) := by simp [IntKind.wrap, IntKind.bits, IntKind.signed]; omega
  have hw2 : IntKind.i64.wrap ((p : Int) + 1) = (p : Int) + 1 := by simp [IntKind.wrap, IntKind.bits, IntKind.signed]; omega
  have hp2 : (p : Int) < 128 := by omega
  have hp3 : (p : Int) + 1 < 128 := by omega
  have hp4 : ((p : Int) + 1).toNat = p + 1 := by omega
  have hp5 : (0 : Int) ≤ (p : Int) + 1 := by omega
  have hoi : ¬ ((15 : Int) < (o : Int)) := by omega
  have hm : IntKind.i64.wrap (256 * ((gb s (p + 1) : Nat) : Int)) = 256 * ((gb s (p + 1) : Nat) : Int) := by simp [IntKind.wrap, IntKind.bits, IntKind.signed]; omega
  have ha : IntKind.i64.wrap (((gb s p : Nat) : Int) + 256 * ((gb s (p + 1) : Nat) : Int)) = ((gb s p : Nat) : Int) + 256 * ((gb s (p + 1) : Nat) : Int) := by simp [IntKind.wrap, IntKind.bits, IntKind.signed]; omega
  clear hr hc hv H hs hp
  go_enter Try.func42, Try.ntmps42
  go_wp2_with (go_at_call 46; refine (rof_ok _ _ _ _ HR.out HV.out).mono ?_; rintro e w1 ⟨rfl, hb1⟩; have hB := hb1.alloc hb1.size (.cells #[.int .i64 v.length, .int .i64 (inosV v), .int .i64 1, .int .i64 2, .int .i64 3, .int .i64 (3 + ((inosV v : Nat) + 1 : Int) / 2)] 66); obtain ⟨g0, g1, g2, g3, g4, g5⟩ := cells6 (blk_new w1 (.cells #[.int .i64 v.length, .int .i64 (inosV v), .int .i64 1, .int .i64 2, .int .i64 3, .int .i64 (3 + ((inosV v : Nat) + 1 : Int) / 2)] 66)); have hc2 := cell_keep hc1 hB; have HB := Lib.hid hB; clear hb1 hB)
  go_quiet (fail)
  rename_i nq
  go_wp2
  go_ret2
  exact ⟨rfl, below_keep HB.out (Nat.le_refl _) (below_drewN' _ _)⟩
set_option maxHeartbeats 2000000 in
theorem rlimit_no (A : Option Addr) (c : Nat) (v : Vol) (o : Int) (w : World) (hr : RS w A v) (h : limE v o ≠ 0) :
    Calls Try.prog 42 #[.slice A v.length c, .int .i64 o] w fun e w' => e = .returned (.tuple #[.int .i64 0, .int .i64 (limE v o)]) ∧ Below w.heap.size w w' := by
  have HR := Lib.hid hr
  clear hr
  by_cases hv : okV v = true
  · have ho : ¬ (0 ≤ o ∧ o < 16) := fun e => h (by rw [limE, if_pos hv, if_pos e])
    rw [show limE v o = 1 from by rw [limE, if_pos hv, if_neg ho]]
    have HV := Lib.hid hv
    have ho' : o < 0 ∨ (0 ≤ o ∧ 15 < o) := by omega
    clear hv h ho
    rcases ho' with h1 | ⟨h1, h2⟩
    all_goals
      go_enter Try.func42, Try.ntmps42
      go_wp2_with (go_at_call 46; refine (rof_ok _ _ _ _ HR.out HV.out).mono ?_; rintro e w1 ⟨rfl, hb1⟩; have HB := Lib.hid (hb1.alloc hb1.size (.cells #[.int .i64 v.length, .int .i64 (inosV v), .int .i64 1, .int .i64 2, .int .i64 3, .int .i64 (3 + ((inosV v : Nat) + 1 : Int) / 2)] 66)); clear hb1)
      go_ret2
      exact ⟨rfl, HB.out⟩
  · have hv' : okV v = false := by simpa using hv
    rw [show limE v o = 3 from by rw [limE, if_neg hv]]
    have HV := Lib.hid hv'
    clear hv hv' h
    go_enter Try.func42, Try.ntmps42
    go_wp2_with (go_at_call 46; refine (rof_no _ _ _ _ HR.out HV.out).mono ?_; rintro e w1 ⟨rfl, hb1⟩; have HB := Lib.hid (hb1.alloc hb1.size (.cells #[.int .i64 0, .int .i64 0, .int .i64 0, .int .i64 0, .int .i64 0, .int .i64 0] 66)); clear hb1)
    go_ret2
    exact ⟨rfl, HB.out⟩
def limI (v : Vol) (o : Int) : Int := if limE v o = 0 then ((limitV v o.toNat : Nat) : Int) else 0
theorem limit_all (A : Option Addr) (c : Nat) (v : Vol) (o : Int) (w : World) (hr : RS w A v) :
    Calls Try.prog 29 #[.slice A v.length c, .int .i64 o] w fun e w' => e = .returned (.tuple #[.int .i64 (limI v o), .int .i64 (limE v o)]) ∧ Below w.heap.size w w' := by
  by_cases h : limE v o = 0
  · obtain ⟨h1, h2, h3⟩ := limE_ok h
    rw [limI, if_pos h, h]
    obtain ⟨o, rfl⟩ := Int.eq_ofNat_of_zero_le h2
    exact limit_ok A c v o w hr h1 (by omega)
  · rw [limI, if_neg h]
    exact limit_no A c v o w hr h
theorem rlimit_all (A : Option Addr) (c : Nat) (v : Vol) (o : Int) (w : World) (hr : RS w A v) :
    Calls Try.prog 42 #[.slice A v.length c, .int .i64 o] w fun e w' => e = .returned (.tuple #[.int .i64 (limI v o), .int .i64 (limE v o)]) ∧ Below w.heap.size w w' := by
  by_cases h : limE v o = 0
  · obtain ⟨h1, h2, h3⟩ := limE_ok h
    rw [limI, if_pos h, h]
    obtain ⟨o, rfl⟩ := Int.eq_ofNat_of_zero_le h2
    exact rlimit_ok A c v o w hr h1 (by omega)
  · rw [limI, if_neg h]
    exact rlimit_no A c v o w hr h
end Go.Proofs.Ytacdohlhalnioaa
end

/- Contracts: the blocks of an owner: the iterator over an owner's inodes. -/
section
set_option linter.unusedVariables false
set_option linter.unusedSimpArgs false
set_option maxRecDepth 20000
namespace Go.Proofs.Ytacdohlhalnioaa
open Go.RowKit
attribute [local go_sem] Oper.semAt_some

theorem RS.kpc {Fr : Nat → Prop} {W W' : World} {A : Option Addr} {v : Vol} (h : RS W A v) (hk : KpC Fr W W') (hA : 0 < v.length → ∀ b o s, A = some ⟨b, o, s⟩ → ¬ Fr b) : RS W' A v := by
  refine ⟨h.1, fun h0 => ?_⟩
  obtain ⟨b, o, e, hb, hc⟩ := h.open_ h0
  refine ⟨b, o, e, fun j hj => ?_⟩
  have hc0 := hc j hj
  have hblk : ∃ cs T fz, W.heap[b]? = some (.cells cs T fz) := by
    unfold World.cell? at hc0
    cases hh : W.heap[b]? with
    | none => simp [hh] at hc0
    | some ob =>
      cases ob with
      | cells cs T fz => exact ⟨cs, T, fz, rfl⟩
      | _ => simp [hh] at hc0
  obtain ⟨cs, T, fz, hblk⟩ := hblk
  have h2 := hk _ _ _ _ hblk (hA h0 b o none e)
  rw [World.cell?_of_block (h2.trans hblk.symm)]
  exact hc0
/-- The inodes of an owner. -/
def ownL (v : Vol) (o : Int) : List Nat := (allL v).filter fun n => (((inoV v n).owner : Nat) : Int) == o
theorem allL_mem {v : Vol} {n : Nat} (h : n ∈ allL v) : okV v = true ∧ 1 ≤ n ∧ n ≤ inosV v := by
  unfold allL at h
  split at h
  · rename_i hv
    rw [inAll, List.mem_filter, List.mem_map] at h
    obtain ⟨⟨k, hk, rfl⟩, _⟩ := h
    have := List.mem_range.1 hk
    exact ⟨hv, by omega, by omega⟩
  · cases h
set_option maxHeartbeats 400000 in
theorem qof_ok (A : Option Addr) (L c : Nat) (o : Int) (w : World) :
    Calls Try.prog 70 #[.slice A L c, .int .i64 o] w fun e w' => e = .returned (.func (.func 105) #[] #[.pointer (some ⟨w.heap.size, 0, none⟩), .pointer (some ⟨w.heap.size + 1, 0, none⟩)]) ∧ (w.alloc (.cells #[.slice A L c] 22)).alloc (.cells #[.int .i64 o] 3) = w' := by
  go_enter Try.func70, Try.ntmps70
  go_wp2
  go_ret
  exact ⟨rfl, rfl⟩
theorem take_filter_succ {α : Type} (p : α → Bool) (l : List α) (k : Nat) (x : α) (h : l[k]? = some x) : (l.take (k + 1)).filter p = (l.take k).filter p ++ (if p x = true then [x] else []) := by
  rw [List.take_add_one, h, List.filter_append]
  congr 1
  cases hp : p x <;> simp [hp]
set_option maxHeartbeats 8000000 in
theorem qof1_in (N l Bv Bo c : Nat) (A : Option Addr) (v : Vol) (o : Int) (Fr : Nat → Prop) (W : World) (hv : W.heap[Bv]? = some (.cells #[.slice A v.length c] 22 (0, 0))) (ho : W.heap[Bo]? = some (.cells #[.int .i64 o] 3 (0, 0))) (hr : RS W A v)
    (hF1 : ¬ Fr Bv) (hF2 : ¬ Fr Bo) (hF3 : 0 < v.length → ∀ b o s, A = some ⟨b, o, s⟩ → ¬ Fr b) (hF : ∀ k, Fr k → k < W.heap.size)
    (J Jx : List Nat → World → Prop) (hJ : AbidesFrom W.heap.size J)
    (hY : ∀ pre n W1, J pre W1 → pre.length < (ownL v o).length → n ∈ ownL v o → YieldAt Fence.wide (N - 1) Try.prog l #[.int .i64 n] W1 fun e W' =>
      (e = .returned (.bool true) ∧ J (pre ++ [n]) W' ∧ KpC Fr W1 W') ∨ (e = .returned (.bool false) ∧ Jx (pre ++ [n]) W')) (h0 : J [] W) :
    CallsIn Fence.wide N Try.prog 105 #[.func (.yield l) #[] #[], .pointer (some ⟨Bv, 0, none⟩), .pointer (some ⟨Bo, 0, none⟩)] W fun e W' => (∃ v, e = .returned v) ∧
      ((∃ ys, ys = ownL v o ∧ J ys W') ∨ (∃ pre, True ∧ Jx pre W')) := by
  obtain ⟨L, hL⟩ : ∃ L, allL v = L := ⟨_, rfl⟩
  have hmem := Lib.hid (fun n (h : n ∈ L) => allL_mem (v := v) (n := n) (by rw [hL]; exact h))
  have hoL : ownL v o = L.filter fun n => (((inoV v n).owner : Nat) : Int) == o := by rw [ownL, hL]
  rw [hoL] at hY
  have hL64 : L.length ≤ 65536 := by
    rw [← hL, allL]
    split
    · exact Nat.le_trans (inAll_le _ _) (by rw [inosV]; have := w2_lt (bk v 0) 6; omega)
    · simp
  have HOL := Lib.hid hoL
  have hal := Lib.hid (fun w hr => iall_ok A c v w hr)
  rw [hL] at hal
  clear hL hoL
  have HY := Lib.hid hY
  have HJ := Lib.hid hJ
  have HJ0 := Lib.hid h0
  have hcv : W.cell? ⟨Bv, 0, none⟩ = some (.slice A v.length c) := by rw [cell_at hv]; rfl
  have hp : Hid (W.heap[Bv]? = some (.cells #[.slice A v.length c] 22 (0, 0)) ∧ W.heap[Bo]? = some (.cells #[.int .i64 o] 3 (0, 0)) ∧ RS W A v) := ⟨hv, ho, hr⟩
  have hnx : ∀ W1 W2 : World, KpC Fr W1 W2 → (W1.heap[Bv]? = some (.cells #[.slice A v.length c] 22 (0, 0)) ∧ W1.heap[Bo]? = some (.cells #[.int .i64 o] 3 (0, 0)) ∧ RS W1 A v) →
      Hid (W2.heap[Bv]? = some (.cells #[.slice A v.length c] 22 (0, 0)) ∧ W2.heap[Bo]? = some (.cells #[.int .i64 o] 3 (0, 0)) ∧ RS W2 A v) := by
    rintro W1 W2 hk ⟨e1, e2, e3⟩
    exact ⟨hk _ _ _ _ e1 hF1, hk _ _ _ _ e2 hF2, e3.kpc hk hF3⟩
  have HN := Lib.hid hnx
  have HFr := Lib.hid hF
  have HAb := Lib.hid (fun (pre : List Nat) (W1 W2 : World) (h1 : J pre W1) (hs : W.heap.size ≤ W1.heap.size) (h2 : Below W1.heap.size W1 W2) => HJ.out pre W1 W2 none h1 ⟨h2.os, h2.tape, h2.output, h2.size, fun q hq _ => h2.block q hq⟩ (fun r e => by cases e))
  clear hY hJ h0 hv ho hr hnx hF
  refine callsIn_of_wp Try.func105 rfl trivial ?_ rfl
  simp only [Try.ntmps105, List.size_toArray, List.length_cons, List.length_nil, Nat.reduceAdd, Nat.reduceSub, Array.replicate_succ, Array.replicate_zero, List.push_toArray, List.append_toArray, List.nil_append, List.cons_append]
  gi_wp2_with (refine ⟨trivial, fun h => by simp [Fence.wide] at h, callsIn_wide.2 ?_⟩; go_at_call 31; refine (hal.out _ hp.out.2.2).mono ?_; rintro e w3 ⟨u, rfl, hown, hb3⟩; obtain ⟨ua, uc, rfl⟩ := own_slice hown; have HO := Lib.hid hown; have HB3 := Lib.hid hb3; clear hown hb3)
  have hk3 : KpC Fr W w3 := KpC.of_below HB3.out
  have hp3 := HN.out _ _ hk3 hp.out
  have hJ3 := Lib.hid (HAb.out [] W w3 HJ0.out (Nat.le_refl _) HB3.out)
  have hs3 := HB3.out.size
  obtain ⟨row, hrow⟩ : ∃ row : World → Prop, row = fun W' => L.length = 0 ∨ ∃ g cur, ua = some ⟨g, 0, none⟩ ∧ W.heap.size ≤ g ∧ W'.heap[g]? = some (.cells cur 3 (0, 0)) ∧ ∀ (j n : Nat), L[j]? = some n → cur[j]? = some (Value.int .i64 (n : Nat)) := ⟨_, rfl⟩
  have hr3 : row w3 := by
    rw [hrow]
    rcases Nat.eq_zero_or_pos L.length with h | h
    · exact .inl h
    · rcases HO.out.2 with ⟨_, h1⟩ | ⟨g, cap, cur, hu, hb, hh, _, _, _, ht⟩
      · omega
      · injection hu with e1 e2 e3
        refine .inr ⟨g, cur, e1, hb, hh, fun j n hj => ?_⟩
        have hjl := (List.getElem?_eq_some_iff.1 hj).1
        have h2 : (nats L)[j]? = some (.int .i64 (n : Nat)) := by simp [nats, hj]
        rw [← ht, List.getElem?_take, if_pos (by simpa using hjl)] at h2
        simpa using h2
  have hrk : ∀ W1 W2, KpC Fr W1 W2 → row W1 → row W2 := by
    rw [hrow]
    rintro W1 W2 hk (h | ⟨g, cur, e, hb, hh, hc⟩)
    · exact .inl h
    · exact .inr ⟨g, cur, e, hb, hk _ _ _ _ hh (fun hf => by have := HFr.out _ hf; omega), hc⟩
  have hrs : ∀ W1, row W1 → 0 < L.length → W.heap.size ≤ W1.heap.size ∧ ∀ (k n : Nat), L[k]? = some n → ∃ g, ua = some ⟨g, 0, none⟩ ∧ W1.cell? ⟨g, k, none⟩ = some (.int .i64 (n : Nat)) := by
    rw [hrow]
    rintro W1 (h | ⟨g, cur, e, hb, hh, hc⟩) h0
    · omega
    · have hlt := blk_lt hh
      exact ⟨by omega, fun k n hk => ⟨g, e, by rw [cell_at hh]; exact hc k n hk⟩⟩
  have R3 := Lib.hid hr3
  have RK := Lib.hid hrk
  have RS' := Lib.hid hrs
  clear hrow hr3 hrk hrs HO HB3 hs3 hp
  gi_wp2
  gi_loopw [11] (fun i wr => ∃ k : Nat, k ≤ L.length ∧ i = .int .i64 k ∧ Hid (J ((L.take k).filter fun n => (((inoV v n).owner : Nat) : Int) == o) wr) ∧ Hid (wr.heap[Bv]? = some (.cells #[.slice A v.length c] 22 (0, 0)) ∧ wr.heap[Bo]? = some (.cells #[.int .i64 o] 3 (0, 0)) ∧ RS wr A v) ∧ Hid (row wr)) (fun i _ => L.length - (intOf i).toNat)
  case atStart => exact ⟨0, by omega, rfl, hJ3, hp3, R3⟩
  case round =>
    obtain ⟨k, hk, rfl, hJk, hq, hrw⟩ := hrel
    by_cases hlt : k < L.length
    · have hki : (k : Int) < (L.length : Nat) := by omega
      obtain ⟨n, hn⟩ : ∃ n, L[k]? = some n := ⟨_, List.getElem?_eq_getElem hlt⟩
      obtain ⟨hsz, hcells⟩ := RS'.out wr hrw.out (by omega)
      obtain ⟨g, rfl, hcg⟩ := hcells k n hn
      have hm := List.mem_of_getElem? hn
      obtain ⟨hv, hn1, hn2⟩ := hmem.out n hm
      have hget := Lib.hid (iget_ok A c v n wr hq.out.2.2 hv hn1 hn2)
      have hts := take_filter_succ (fun n => (((inoV v n).owner : Nat) : Int) == o) L k n hn
      have hcv : wr.cell? ⟨Bv, 0, none⟩ = some (.slice A v.length c) := by rw [cell_at hq.out.1]; rfl
      have hlen : (((inoV v n).owner : Nat) : Int) = o → ((L.take k).filter fun n => (((inoV v n).owner : Nat) : Int) == o).length < (L.filter fun n => (((inoV v n).owner : Nat) : Int) == o).length := by
        intro he
        have e : L.filter (fun n => (((inoV v n).owner : Nat) : Int) == o) = (L.take (k + 1)).filter (fun n => (((inoV v n).owner : Nat) : Int) == o) ++ (L.drop (k + 1)).filter (fun n => (((inoV v n).owner : Nat) : Int) == o) := by rw [← List.filter_append, List.take_append_drop]
        rw [e, hts, if_pos (by simpa using he)]
        simp <;> omega
      have HTS := Lib.hid hts
      have HLEN := Lib.hid hlen
      have hmf : (((inoV v n).owner : Nat) : Int) = o → n ∈ L.filter fun n => (((inoV v n).owner : Nat) : Int) == o := fun he => List.mem_filter.2 ⟨hm, by simpa using he⟩
      have HMF := Lib.hid hmf
      clear hts hlen hmf hm hv hcells hn
      obtain ⟨P, hP⟩ : ∃ P, (L.take k).filter (fun n => (((inoV v n).owner : Nat) : Int) == o) = P := ⟨_, rfl⟩
      rw [hP] at hJk HTS HLEN
      obtain ⟨x, hx⟩ : ∃ x, inoV v n = x := ⟨_, rfl⟩
      rw [hx] at hget
      rw [hx] at HTS HLEN HMF
      have HPx := Lib.hid hP
      have HXX := Lib.hid hx
      clear hP hx
      have hstep : ∀ w4, Below wr.heap.size wr w4 → Hid (J P (w4.alloc (.cells #[.int .i64 ((x.kind : Nat) : Int), .int .i64 ((x.links : Nat) : Int), .int .i64 ((x.owner : Nat) : Int), .int .i64 ((x.size : Nat) : Int), .int .i64 ((x.d0 : Nat) : Int), .int .i64 ((x.d1 : Nat) : Int), .int .i64 ((x.d2 : Nat) : Int), .int .i64 ((x.d3 : Nat) : Int), .int .i64 ((x.d4 : Nat) : Int), .int .i64 ((x.d5 : Nat) : Int), .int .i64 ((x.ind : Nat) : Int), .int .i64 ((x.ext : Nat) : Int)] 45))) ∧ Hid ((w4.alloc (.cells #[.int .i64 ((x.kind : Nat) : Int), .int .i64 ((x.links : Nat) : Int), .int .i64 ((x.owner : Nat) : Int), .int .i64 ((x.size : Nat) : Int), .int .i64 ((x.d0 : Nat) : Int), .int .i64 ((x.d1 : Nat) : Int), .int .i64 ((x.d2 : Nat) : Int), .int .i64 ((x.d3 : Nat) : Int), .int .i64 ((x.d4 : Nat) : Int), .int .i64 ((x.d5 : Nat) : Int), .int .i64 ((x.ind : Nat) : Int), .int .i64 ((x.ext : Nat) : Int)] 45)).heap[Bv]? = some (.cells #[.slice A v.length c] 22 (0, 0)) ∧ (w4.alloc (.cells #[.int .i64 ((x.kind : Nat) : Int), .int .i64 ((x.links : Nat) : Int), .int .i64 ((x.owner : Nat) : Int), .int .i64 ((x.size : Nat) : Int), .int .i64 ((x.d0 : Nat) : Int), .int .i64 ((x.d1 : Nat) : Int), .int .i64 ((x.d2 : Nat) : Int), .int .i64 ((x.d3 : Nat) : Int), .int .i64 ((x.d4 : Nat) : Int), .int .i64 ((x.d5 : Nat) : Int), .int .i64 ((x.ind : Nat) : Int), .int .i64 ((x.ext : Nat) : Int)] 45)).heap[Bo]? = some (.cells #[.int .i64 o] 3 (0, 0)) ∧ RS (w4.alloc (.cells #[.int .i64 ((x.kind : Nat) : Int), .int .i64 ((x.links : Nat) : Int), .int .i64 ((x.owner : Nat) : Int), .int .i64 ((x.size : Nat) : Int), .int .i64 ((x.d0 : Nat) : Int), .int .i64 ((x.d1 : Nat) : Int), .int .i64 ((x.d2 : Nat) : Int), .int .i64 ((x.d3 : Nat) : Int), .int .i64 ((x.d4 : Nat) : Int), .int .i64 ((x.d5 : Nat) : Int), .int .i64 ((x.ind : Nat) : Int), .int .i64 ((x.ext : Nat) : Int)] 45)) A v) ∧ Hid (row (w4.alloc (.cells #[.int .i64 ((x.kind : Nat) : Int), .int .i64 ((x.links : Nat) : Int), .int .i64 ((x.owner : Nat) : Int), .int .i64 ((x.size : Nat) : Int), .int .i64 ((x.d0 : Nat) : Int), .int .i64 ((x.d1 : Nat) : Int), .int .i64 ((x.d2 : Nat) : Int), .int .i64 ((x.d3 : Nat) : Int), .int .i64 ((x.d4 : Nat) : Int), .int .i64 ((x.d5 : Nat) : Int), .int .i64 ((x.ind : Nat) : Int), .int .i64 ((x.ext : Nat) : Int)] 45))) := by
        intro w4 hb4
        have hb5 := hb4.alloc hb4.size (.cells #[.int .i64 ((x.kind : Nat) : Int), .int .i64 ((x.links : Nat) : Int), .int .i64 ((x.owner : Nat) : Int), .int .i64 ((x.size : Nat) : Int), .int .i64 ((x.d0 : Nat) : Int), .int .i64 ((x.d1 : Nat) : Int), .int .i64 ((x.d2 : Nat) : Int), .int .i64 ((x.d3 : Nat) : Int), .int .i64 ((x.d4 : Nat) : Int), .int .i64 ((x.d5 : Nat) : Int), .int .i64 ((x.ind : Nat) : Int), .int .i64 ((x.ext : Nat) : Int)] 45)
        have hk5 : KpC Fr wr (w4.alloc (.cells #[.int .i64 ((x.kind : Nat) : Int), .int .i64 ((x.links : Nat) : Int), .int .i64 ((x.owner : Nat) : Int), .int .i64 ((x.size : Nat) : Int), .int .i64 ((x.d0 : Nat) : Int), .int .i64 ((x.d1 : Nat) : Int), .int .i64 ((x.d2 : Nat) : Int), .int .i64 ((x.d3 : Nat) : Int), .int .i64 ((x.d4 : Nat) : Int), .int .i64 ((x.d5 : Nat) : Int), .int .i64 ((x.ind : Nat) : Int), .int .i64 ((x.ext : Nat) : Int)] 45)) := KpC.of_below hb5
        exact ⟨HAb.out P wr _ hJk.out hsz hb5, HN.out _ _ hk5 hq.out, RK.out _ _ hk5 hrw.out⟩
      have HST := Lib.hid hstep
      clear hstep
      by_cases hown : ((x.owner : Nat) : Int) = o
      · have hbo : (((x.owner : Nat) : Int) == o) = true := by simpa using hown
        rw [if_pos hbo] at HTS
        have HOWN := Lib.hid hown
        clear hown
        gi_wp2_with (refine ⟨trivial, fun h => by simp [Fence.wide] at h, callsIn_wide.2 ?_⟩; go_at_call 32; refine hget.out.mono ?_; rintro e w4 ⟨rfl, hb4⟩; obtain ⟨s1, s2, s3⟩ := HST.out w4 hb4; obtain ⟨x0, x1, x2, x3, x4, x5, x6, x7, x8, x9, x10, x11⟩ := cells12 (blk_new w4 (.cells #[.int .i64 ((x.kind : Nat) : Int), .int .i64 ((x.links : Nat) : Int), .int .i64 ((x.owner : Nat) : Int), .int .i64 ((x.size : Nat) : Int), .int .i64 ((x.d0 : Nat) : Int), .int .i64 ((x.d1 : Nat) : Int), .int .i64 ((x.d2 : Nat) : Int), .int .i64 ((x.d3 : Nat) : Int), .int .i64 ((x.d4 : Nat) : Int), .int .i64 ((x.d5 : Nat) : Int), .int .i64 ((x.ind : Nat) : Int), .int .i64 ((x.ext : Nat) : Int)] 45)); have hco : (w4.alloc (.cells #[.int .i64 ((x.kind : Nat) : Int), .int .i64 ((x.links : Nat) : Int), .int .i64 ((x.owner : Nat) : Int), .int .i64 ((x.size : Nat) : Int), .int .i64 ((x.d0 : Nat) : Int), .int .i64 ((x.d1 : Nat) : Int), .int .i64 ((x.d2 : Nat) : Int), .int .i64 ((x.d3 : Nat) : Int), .int .i64 ((x.d4 : Nat) : Int), .int .i64 ((x.d5 : Nat) : Int), .int .i64 ((x.ind : Nat) : Int), .int .i64 ((x.ext : Nat) : Int)] 45)).cell? ⟨Bo, 0, none⟩ = some (.int .i64 o) := (by rw [cell_at s2.out.2.1]; rfl); clear hb4; obtain ⟨fn, tmps, assign, body, hy, hR⟩ := HY.out P n _ s1.out (HLEN.out HOWN.out) (HMF.out HOWN.out))
        refine ⟨fun h => by simp [Fence.wide] at h, hR.mono ?_⟩
        rintro e W6 (⟨rfl, hJ6, hk6⟩ | ⟨rfl, hJx6⟩)
        · have hq6 := HN.out _ _ hk6 s2.out
          have hr6 := Lib.hid (RK.out _ _ hk6 s3.out)
          have HJ6 := Lib.hid hJ6
          clear hk6 hJ6
          gi_wp2
          refine ⟨⟨k + 1, by omega, by go_num, ?_, hq6, hr6⟩, by simp only [intOf]; omega⟩
          rw [HTS.out]
          exact HJ6
        · gi_wp2
          refine bodyPost_ret (results_none rfl _ _ _) rfl ?_
          exact ⟨⟨_, rfl⟩, .inr ⟨_, trivial, hJx6⟩⟩
      · have hbo : (((x.owner : Nat) : Int) == o) = false := by simpa using hown
        rw [if_neg (by rw [hbo]; simp), List.append_nil] at HTS
        clear hown
        gi_wp2_with (refine ⟨trivial, fun h => by simp [Fence.wide] at h, callsIn_wide.2 ?_⟩; go_at_call 32; refine hget.out.mono ?_; rintro e w4 ⟨rfl, hb4⟩; obtain ⟨s1, s2, s3⟩ := HST.out w4 hb4; obtain ⟨x0, x1, x2, x3, x4, x5, x6, x7, x8, x9, x10, x11⟩ := cells12 (blk_new w4 (.cells #[.int .i64 ((x.kind : Nat) : Int), .int .i64 ((x.links : Nat) : Int), .int .i64 ((x.owner : Nat) : Int), .int .i64 ((x.size : Nat) : Int), .int .i64 ((x.d0 : Nat) : Int), .int .i64 ((x.d1 : Nat) : Int), .int .i64 ((x.d2 : Nat) : Int), .int .i64 ((x.d3 : Nat) : Int), .int .i64 ((x.d4 : Nat) : Int), .int .i64 ((x.d5 : Nat) : Int), .int .i64 ((x.ind : Nat) : Int), .int .i64 ((x.ext : Nat) : Int)] 45)); have hco : (w4.alloc (.cells #[.int .i64 ((x.kind : Nat) : Int), .int .i64 ((x.links : Nat) : Int), .int .i64 ((x.owner : Nat) : Int), .int .i64 ((x.size : Nat) : Int), .int .i64 ((x.d0 : Nat) : Int), .int .i64 ((x.d1 : Nat) : Int), .int .i64 ((x.d2 : Nat) : Int), .int .i64 ((x.d3 : Nat) : Int), .int .i64 ((x.d4 : Nat) : Int), .int .i64 ((x.d5 : Nat) : Int), .int .i64 ((x.ind : Nat) : Int), .int .i64 ((x.ext : Nat) : Int)] 45)).cell? ⟨Bo, 0, none⟩ = some (.int .i64 o) := (by rw [cell_at s2.out.2.1]; rfl); clear hb4)
        refine ⟨fun f h => (nomatch h), ?_⟩
        gi_wp2
        exact ⟨⟨k + 1, by omega, by go_num, by rw [HTS.out]; exact s1, s2, s3⟩, by simp only [intOf]; omega⟩
    · obtain rfl : k = L.length := by omega
      have hki : ¬ (L.length : Int) < (L.length : Nat) := by omega
      have hJe := hJk.out
      rw [List.take_length, ← HOL.out] at hJe
      have HJe := Lib.hid hJe
      clear hJe
      gi_wp2
      go_end0
      first | exact ⟨⟨_, rfl⟩, .inl ⟨_, rfl, HJe.out⟩⟩ | exact ⟨⟨_, rfl⟩, .inl HJe.out⟩ | exact .inl HJe.out | exact ⟨_, rfl, HJe.out⟩
end Go.Proofs.Ytacdohlhalnioaa
end

/- Contracts: how many blocks an owner has (the program's and the document's). -/
section
set_option linter.unusedVariables false
set_option linter.unusedSimpArgs false
set_option maxRecDepth 20000
namespace Go.Proofs.Ytacdohlhalnioaa
open Go.RowKit
attribute [local go_sem] Oper.semAt_some

theorem qof_stops (N Bv Bo c : Nat) (A : Option Addr) (v : Vol) (o : Int) (Fr : Nat → Prop) (w : World) (hv : w.heap[Bv]? = some (.cells #[.slice A v.length c] 22 (0, 0))) (ho : w.heap[Bo]? = some (.cells #[.int .i64 o] 3 (0, 0))) (hr : RS w A v)
    (hF1 : ¬ Fr Bv) (hF2 : ¬ Fr Bo) (hF3 : 0 < v.length → ∀ b o s, A = some ⟨b, o, s⟩ → ¬ Fr b) (hF : ∀ k, Fr k → k < w.heap.size) :
    SeqStopsK Fence.wide N Try.prog 105 #[.pointer (some ⟨Bv, 0, none⟩), .pointer (some ⟨Bo, 0, none⟩)] (fun n : { n : Nat // n ∈ ownL v o } => #[.int .i64 (n.val : Nat)]) (KpC Fr) (fun xs => xs.map Subtype.val = ownL v o) (fun _ => True) (ownL v o).length w := by
  intro l J Jx W hW hJ hJx hY h0
  refine (qof1_in N l Bv Bo c A v o Fr W (blk_keep hv hW) (blk_keep ho hW) (hr.below hW) hF1 hF2 hF3 (fun k hk => Nat.lt_of_lt_of_le (hF k hk) hW.size) (fun xs W => ∃ ys : List { n : Nat // n ∈ ownL v o }, ys.map Subtype.val = xs ∧ J ys W) (fun xs W => ∃ ys : List { n : Nat // n ∈ ownL v o }, ys.map Subtype.val = xs ∧ Jx ys W)
    (fun s A B row hs hg hr => by
      obtain ⟨ys, e, hj⟩ := hs
      exact ⟨ys, e, hJ ys A B row hj hg hr⟩) ?_ ⟨[], rfl, h0⟩).mono ?_
  · rintro pre n W1 ⟨ys, rfl, hj⟩ hlen hx
    obtain ⟨fn, tmps, assign, body, hy, hR⟩ := hY ys ⟨n, hx⟩ W1 hj (by simpa using hlen)
    refine ⟨fn, tmps, assign, body, hy, hR.mono ?_⟩
    rintro e W' (⟨he, h1, h2⟩ | ⟨he, h1⟩)
    · exact .inl ⟨he, ⟨ys ++ [⟨n, hx⟩], by simp, h1⟩, h2⟩
    · exact .inr ⟨he, ys ++ [⟨n, hx⟩], by simp, h1⟩
  · rintro e W' ⟨he, ⟨ys, rfl, zs, hz, hj⟩ | ⟨pre, _, zs, hz, hj⟩⟩
    · exact ⟨he, .inl ⟨zs, hz, hj⟩⟩
    · exact ⟨he, .inr ⟨zs, trivial, hj⟩⟩
/-- How many blocks an owner has. -/
def sumV (v : Vol) (l : List Nat) : Nat := (l.map (countV v)).sum
def usedV (v : Vol) (o : Int) : Nat := sumV v (ownL v o)
theorem sumV_snoc (v : Vol) (l : List Nat) (n : Nat) : sumV v (l ++ [n]) = sumV v l + countV v n := by simp [sumV]
theorem countV_le (v : Vol) (n : Nat) : countV v n ≤ 72 := by
  have h1 := cntTo_le (dataV v) v.length v (inoV v n) (List.range 70)
  rw [List.length_range] at h1
  have h2 : ∀ b, one b ≤ 1 := fun b => by cases b <;> simp [one]
  have := h2 (goodN (dataV v) v.length (inoV v n).ind)
  have := h2 (goodN (dataV v) v.length (inoV v n).ext)
  rw [countV]
  omega
theorem sumV_le (v : Vol) (l : List Nat) : sumV v l ≤ 72 * l.length := by
  induction l with
  | nil => simp [sumV]
  | cons n l ih =>
    have := countV_le v n
    simp only [sumV, List.map_cons, List.sum_cons, List.length_cons] at ih ⊢
    omega
theorem ownL_len (v : Vol) (o : Int) : (ownL v o).length ≤ 65536 := by
  refine Nat.le_trans (List.length_filter_le _ _) ?_
  unfold allL
  split
  · exact Nat.le_trans (inAll_le _ _) (by rw [inosV]; have := w2_lt (bk v 0) 6; omega)
  · simp
set_option maxHeartbeats 8000000 in
theorem used_ok (A : Option Addr) (c : Nat) (v : Vol) (o : Int) (w : World) (hr : RS w A v) :
    Calls Try.prog 30 #[.slice A v.length c, .int .i64 o] w fun e w' => e = .returned (.int .i64 ((usedV v o : Nat) : Int)) ∧ Below w.heap.size w w' := by
  have HR := Lib.hid hr
  clear hr
  refine callsIn_wide.1 (callsIn_of_wp_marks (n := 3) Try.func30 rfl trivial (wpIn_wide.2 ?_) rfl)
  simp only [Try.ntmps30, List.size_toArray, List.length_cons, List.length_nil, Nat.reduceAdd, Nat.reduceSub, Array.replicate_succ, Array.replicate_zero, List.push_toArray, List.append_toArray, List.nil_append, List.cons_append]
  go_wp2_with (go_at_call 70; refine (qof_ok _ _ _ _ _).mono ?_; rintro e w2 ⟨rfl, rfl⟩)
  obtain ⟨W0, hW0⟩ : ∃ W0, (((w.alloc (.cells #[.slice A v.length c] 22)).alloc (.cells #[.int .i64 0] 3)).alloc (.cells #[.slice A v.length c] 22)).alloc (.cells #[.int .i64 o] 3) = W0 := ⟨_, rfl⟩
  obtain ⟨k0, k1, k2, k3, hsz, hB0⟩ := alloc4 _ _ _ _ _ _ hW0
  rw [hW0]
  have hR0 := HR.out.below hB0
  have hAlt : ∀ b o' s, A = some ⟨b, o', s⟩ → 0 < v.length → b < w.heap.size := fun b o' s e h0 => by
    obtain ⟨b', o2, e2, hb, _⟩ := HR.out.open_ h0
    rw [e2] at e
    injection e with e
    injection e with e
    omega
  obtain ⟨q, hq⟩ : ∃ q, w.heap.size = q := ⟨_, rfl⟩
  rw [hq] at k0 k1 k2 k3 hsz hB0
  have hAlt : ∀ b o' s, A = some ⟨b, o', s⟩ → 0 < v.length → b < q := by rw [← hq]; exact hAlt
  rw [hq]
  have HQW := Lib.hid hq
  clear hW0 hq
  have hul := sumV_le v (ownL v o)
  have hol := ownL_len v o
  have H64 := Lib.hid hul
  refine wp_rangeFunc (α := { n : Nat // n ∈ ownL v o }) (gf := 105) (lb := #[.pointer (some ⟨q + 1 + 1, 0, none⟩), .pointer (some ⟨q + 1 + 1 + 1, 0, none⟩)]) rfl (enters_of Try.func105 (by kernel_rfl) rfl)
    (qof_stops 2 (q + 2) (q + 3) c A v o (fun k => k = q + 1) W0 k2 k3 hR0 (by omega) (by omega) (fun h0 b o' s e he => by have := hAlt b o' s e h0; omega) (fun k hk => by omega)) (fun _ => rfl)
    (fun pre W => Hid (W.heap[q + 1]? = some (.cells #[.int .i64 ((sumV v (pre.map Subtype.val) : Nat) : Int)] 3 (0, 0)) ∧ W.heap[q]? = some (.cells #[.slice A v.length c] 22 (0, 0)) ∧ Below q w W ∧ q + 4 ≤ W.heap.size))
    (fun _ _ _ => False)
    ?own (fun _ _ _ _ _ hs _ _ => hs) ⟨k1, k0, hB0, by omega⟩
    (fun n => { tmps := #[Value.slice A (List.length v) c, Value.int IntKind.i64 o, Value.pointer (some ⟨q, 0, none⟩), undef, Value.int IntKind.i64 0, Value.pointer (some ⟨q + 1, 0, none⟩), .int .i64 ((n.val : Nat) : Int), Value.slice A (List.length v) c, Value.int IntKind.i64 o, Value.func (Fn.func 105) #[] #[Value.pointer (some ⟨q + 1 + 1, 0, none⟩), Value.pointer (some ⟨q + 1 + 1 + 1, 0, none⟩)], .int .i64 ((n.val : Nat) : Int), undef, undef, undef, undef, undef, undef], defers := [] })
    ?assign ?body ?done ?stop
  case own =>
    rintro pre A' B' row ⟨e1, e2, e3, e4⟩ hg hr
    have hr' : ∀ r, row = some r → ∃ o : Obj, A'.heap[r]? = some o ∧ o.isCells = false := fun r e => (hr r e).2
    exact ⟨cells_grown e1 hg hr', cells_grown e2 hg hr', e3.grown hg (by omega) (fun r e => by have := (hr r e).1; omega), Nat.le_trans e4 hg.size⟩
  case assign =>
    intro l k W K hK
    gi_wp2
    exact hK
  case body =>
    rintro l pre n W ⟨e1, e2, e3, e4⟩ hlen
    have hle := sumV_le v (pre.map Subtype.val)
    rw [List.length_map] at hle
    have hsn := sumV_snoc v (pre.map Subtype.val) n.val
    have hmp : ((pre ++ [n]).map Subtype.val) = pre.map Subtype.val ++ [n.val] := by simp
    obtain ⟨hv, hn1, hn2⟩ := allL_mem (List.mem_filter.1 n.property).1
    have hcl := countV_le v n.val
    obtain ⟨m, hm⟩ : ∃ m : Nat, n.val = m := ⟨_, rfl⟩
    rw [hm] at hsn hmp hn1 hn2 hcl ⊢
    obtain ⟨z, hz⟩ : ∃ z, sumV v (pre.map Subtype.val) = z := ⟨_, rfl⟩
    rw [hz] at e1 hle hsn
    obtain ⟨cc, hcc⟩ : ∃ cc, countV v m = cc := ⟨_, rfl⟩
    rw [hcc] at hcl hsn
    have hcu : W.cell? ⟨q + 1, 0, none⟩ = some (.int .i64 z) := by rw [cell_at e1]; rfl
    have hcv : W.cell? ⟨q, 0, none⟩ = some (.slice A v.length c) := by rw [cell_at e2]; rfl
    have hfq := free_of e1 0
    have hwz : IntKind.i64.wrap ((z : Int) + (cc : Int)) = (z : Int) + (cc : Int) := by simp [IntKind.wrap, IntKind.bits, IntKind.signed]; omega
    have hct := Lib.hid (fun w hr => count_ok A c v m w hr hv hn1 hn2 (inoV_size _ _))
    rw [hcc] at hct
    have hrW := Lib.hid (show RS W A v from ⟨HR.out.1, fun h0 => by
      obtain ⟨b, o', e, hb, hc⟩ := HR.out.open_ h0
      exact ⟨b, o', e, fun j hj => (e3.cell (hAlt b o' none e h0)).trans (hc j hj)⟩⟩)
    have E1 := Lib.hid e1
    have E2 := Lib.hid e2
    have E3 := Lib.hid e3
    have HMP := Lib.hid hmp
    have HSN := Lib.hid hsn
    clear e1 e2 e3 hmp hsn hz hcc k0 k1 k2 k3 hm hv hn1 hn2
    gi_wp2
    refine region_P_in_round (fun w' => w'.cell? ⟨q + 1, 0, none⟩ = some (.int .i64 z) ∧ w'.cell? ⟨q, 0, none⟩ = some (.slice A v.length c)) [5] (by kernel_rfl) (by kernel_rfl) (fun _ _ h => h) ?_ (fun hHeld => ?_)
    · exact ⟨by simp [hcu], by simp [hcv]⟩
    refine wpP_take (i := 0) (oi := ?oi328001) (v := ?v328001) ?hi328001 (by kernel_rfl) (by kernel_rfl) (by kernel_rfl) (by kernel_rfl) ?hQ328001 ?hy328001 (by assumption) ?rest328001
    case hi328001 => (simp only [List.getElem?_toArray, List.getElem?_cons_succ, List.getElem?_cons_zero]; exact rfl)
    case hQ328001 => exact fun _ _ _ h => h
    case hy328001 => (refine Or.inl ⟨by kernel_rfl, ?_⟩; intro w hSw; (try dsimp only at hSw); go_simp; try (with_reducible rfl))
    try simp only [Act.put, List.setIfInBounds_toArray, List.set_cons_zero, List.set_cons_succ]
    refine wpP_take (i := 1) (oi := ?oi328002) (v := ?v328002) ?hi328002 (by kernel_rfl) (by kernel_rfl) (by kernel_rfl) (by kernel_rfl) ?hQ328002 ?hy328002 (by assumption) ?rest328002
    case hi328002 => (simp only [List.getElem?_toArray, List.getElem?_cons_succ, List.getElem?_cons_zero]; exact rfl)
    case hQ328002 => exact fun _ _ _ h => h
    case hy328002 => (refine Or.inl ⟨by kernel_rfl, ?_⟩; intro w hSw; (try dsimp only at hSw); go_simp; try (with_reducible rfl))
    try simp only [Act.put, List.setIfInBounds_toArray, List.set_cons_zero, List.set_cons_succ]
    refine wpP_take (i := 2) (oi := ?oi328003) (v := ?v328003) ?hi328003 (by kernel_rfl) (by kernel_rfl) (by kernel_rfl) (by kernel_rfl) ?hQ328003 ?hy328003 (by assumption) ?rest328003
    case hi328003 => (simp only [List.getElem?_toArray, List.getElem?_cons_succ, List.getElem?_cons_zero]; exact rfl)
    case hQ328003 => exact fun _ _ _ h => h
    case hy328003 => (refine Or.inl ⟨by kernel_rfl, ?_⟩; intro w hSw; (try dsimp only at hSw); go_simp; try (with_reducible rfl))
    try simp only [Act.put, List.setIfInBounds_toArray, List.set_cons_zero, List.set_cons_succ]
    refine wpP_ready (rs := [3]) (by kernel_rfl) (by simp) ?_
    refine AllP.cons (o := ?o328004) ?ho328004 (fun K hK => ?_) AllP.nil
    case ho328004 => (simp only [List.getElem?_toArray, List.getElem?_cons_succ, List.getElem?_cons_zero]; exact rfl)
    go_simp
    go_at_call 22
    refine (hct.out _ (hrW.out.below ((Below.refl _ _).drew))).mono ?_
    rintro e w4 ⟨rfl, hb4⟩
    have hz4 := below_undrew hb4
    have hx1 := blk_keep E1.out hz4
    have hfx := free_of hx1 0
    have d1 := cell_keep hcu hz4
    refine hK.out _ _ ?_ (fun hHeld => ?_)
    · exact ⟨cell_keep hcu hz4, cell_keep hcv hz4⟩
    clear hK K
    try simp only [Act.put, List.setIfInBounds_toArray, List.set_cons_zero, List.set_cons_succ]
    refine wpP_take (i := 4) (oi := ?oi328005) (v := ?v328005) ?hi328005 (by kernel_rfl) (by kernel_rfl) (by kernel_rfl) (by kernel_rfl) ?hQ328005 ?hy328005 (by assumption) ?rest328005
    case hi328005 => (simp only [List.getElem?_toArray, List.getElem?_cons_succ, List.getElem?_cons_zero]; exact rfl)
    case hQ328005 => exact fun _ _ _ h => h
    case hy328005 => (refine Or.inl ⟨by kernel_rfl, ?_⟩; intro w hSw; (try dsimp only at hSw); go_simp; try (with_reducible rfl))
    try simp only [Act.put, List.setIfInBounds_toArray, List.set_cons_zero, List.set_cons_succ]
    refine wpP_ready (rs := [5]) (by kernel_rfl) (by simp) ?_
    refine AllP.last (o := ?o328006) ?ho328006 (by kernel_rfl) (fun K hK => ?_) AllP.nil
    case ho328006 => (simp only [List.getElem?_toArray, List.getElem?_cons_succ, List.getElem?_cons_zero]; exact rfl)
    go_simp
    refine hK.out _ _ ?_
    clear hK K
    try simp only [Act.put, List.setIfInBounds_toArray, List.set_cons_zero, List.set_cons_succ]
    refine wpP_done (by kernel_rfl) ?_ _
    gi_wp2
    have hgA : W.grownBy w4 none := ⟨hz4.os, hz4.tape, hz4.output, hz4.size, fun q hq _ => hz4.block q hq⟩
    have s4 := hz4.size
    refine ⟨(KeepsOthers.of_grownBy hgA (fun j o e ho => by cases e)).trans (KeepsOthers.setCell _ _ _), KpC.setCell (F := fun k => k = q + 1) (KpC.of_below hz4) rfl _, ?_, ?_, below_set (below_keep' E3.out (by omega) hz4) (by omega), ?_⟩
    · rw [HMP.out, HSN.out]
      exact blk_set hx1 0 _
    · exact blk_set_other (blk_keep E2.out hz4) (by omega) _ _
    · simp; omega
  case done =>
    rintro D xs W hD hS ⟨e1, e2, e3, e4⟩ hK
    rw [hS] at e1
    have hcu : W.cell? ⟨q + 1, 0, none⟩ = some (.int .i64 ((usedV v o : Nat) : Int)) := by rw [cell_at e1]; rfl
    have E3 := Lib.hid e3
    have HK := Lib.hid hK
    clear e1 e2 e3 hK k0 k1 k2 k3
    go_wp2
    refine ⟨by simp, .inl ⟨_, _, rfl, run_takeDeferred HK.out, ?_⟩⟩
    refine ⟨_, results_tmp rfl _ _ _, rfl, ?_⟩
    rw [HQW.out]
    exact below_putD E3.out (by omega) HK.out
  case stop =>
    rintro D c pre W _ _ h _
    exact h.elim
set_option maxHeartbeats 8000000 in
theorem rused_ok (A : Option Addr) (c : Nat) (v : Vol) (o : Int) (w : World) (hr : RS w A v) :
    Calls Try.prog 43 #[.slice A v.length c, .int .i64 o] w fun e w' => e = .returned (.int .i64 ((usedV v o : Nat) : Int)) ∧ Below w.heap.size w w' := by
  have HR := Lib.hid hr
  clear hr
  obtain ⟨L, hL⟩ : ∃ L, allL v = L := ⟨_, rfl⟩
  have hmem := Lib.hid (fun n (h : n ∈ L) => allL_mem (v := v) (n := n) (by rw [hL]; exact h))
  have hoL : ownL v o = L.filter fun n => (((inoV v n).owner : Nat) : Int) == o := by rw [ownL, hL]
  have hL64 : L.length ≤ 65536 := by
    rw [← hL, allL]
    split
    · exact Nat.le_trans (inAll_le _ _) (by rw [inosV]; have := w2_lt (bk v 0) 6; omega)
    · simp
  have hal := Lib.hid (fun w hr => rall_ok A c v w hr)
  rw [hL] at hal
  rw [usedV, hoL]
  clear hL hoL
  go_enter Try.func43, Try.ntmps43
  go_wp2_with (go_at_call 74; refine (hal.out _ HR.out).mono ?_; rintro e w1 ⟨u, rfl, hown, hb1⟩; obtain ⟨ua, uc, rfl⟩ := own_slice hown; have HO := Lib.hid hown; have HB := Lib.hid hb1; clear hown hb1)
  go_loopw [5, 7] (fun sv iv wr => ∃ k : Nat, k ≤ L.length ∧ iv = .int .i64 k ∧ sv = .int .i64 ((sumV v ((L.take k).filter fun n => (((inoV v n).owner : Nat) : Int) == o) : Nat) : Int) ∧ Hid (wr.ownsRow w.heap.size 3 1 (.slice ua L.length uc) L.length (nats L)) ∧ Hid (Below w.heap.size w wr)) (fun _ iv _ => L.length - (intOf iv).toNat)
  case atStart => exact ⟨0, by omega, rfl, rfl, HO, HB⟩
  case round =>
    obtain ⟨k, hk, rfl, rfl, ho, hB⟩ := hrel
    by_cases hlt : k < L.length
    · have hki : (k : Int) < (L.length : Nat) := by omega
      obtain ⟨n, hn⟩ : ∃ n, L[k]? = some n := ⟨_, List.getElem?_eq_getElem hlt⟩
      obtain ⟨g, cq, e1, _, hcell⟩ := own_open ho.out (by omega)
      have hcg := hcell k (.int .i64 (n : Nat)) (by simp [nats, hn])
      injection e1 with e1a e1b e1c
      subst e1a e1c
      obtain ⟨hv, hn1, hn2⟩ := hmem.out n (List.mem_of_getElem? hn)
      have hget := Lib.hid (fun w hr => rget18_ok A c v n w hr hv hn1 hn2)
      have hct := Lib.hid (fun w hr => rcount_ok A c v n w hr hv hn1 hn2)
      have hts := take_filter_succ (fun n => (((inoV v n).owner : Nat) : Int) == o) L k n hn
      have hle := sumV_le v ((L.take k).filter fun n => (((inoV v n).owner : Nat) : Int) == o)
      have hle2 : ((L.take k).filter fun n => (((inoV v n).owner : Nat) : Int) == o).length ≤ k := Nat.le_trans (List.length_filter_le _ _) (by rw [List.length_take]; omega)
      have hsn := sumV_snoc v ((L.take k).filter fun n => (((inoV v n).owner : Nat) : Int) == o) n
      obtain ⟨z, hz⟩ : ∃ z, sumV v ((L.take k).filter fun n => (((inoV v n).owner : Nat) : Int) == o) = z := ⟨_, rfl⟩
      rw [hz] at hle hsn ⊢
      have hcl := countV_le v n
      obtain ⟨cc, hcc⟩ : ∃ cc, countV v n = cc := ⟨_, rfl⟩
      rw [hcc] at hct hcl hsn
      obtain ⟨x, hx⟩ : ∃ x, inoV v n = x := ⟨_, rfl⟩
      rw [hx] at hget hts
      have HTS := Lib.hid hts
      have HZ := Lib.hid hz
      have HSN := Lib.hid hsn
      have hwz : IntKind.i64.wrap ((z : Int) + (cc : Int)) = (z : Int) + (cc : Int) := by simp [IntKind.wrap, IntKind.bits, IntKind.signed]; omega
      have hBs := hB.out.size
      clear hcell hn hv hn1 hn2 hts hz hsn hcc hx
      by_cases hown : ((x.owner : Nat) : Int) = o
      · have hbo : (((x.owner : Nat) : Int) == o) = true := by simpa using hown
        rw [if_pos hbo] at HTS
        clear hown
        go_wp2_with (first
          | (go_at_call 55; refine (hget.out _ (HR.out.below hB.out)).mono ?_; rintro e w3 ⟨rfl, hb3⟩; obtain ⟨x0, x1, x2, x3, x4, x5, x6, x7, x8, x9, x10, x11⟩ := cells12 (blk_new w3 (.cells #[.int .i64 ((x.kind : Nat) : Int), .int .i64 ((x.links : Nat) : Int), .int .i64 ((x.owner : Nat) : Int), .int .i64 ((x.size : Nat) : Int), .int .i64 ((x.d0 : Nat) : Int), .int .i64 ((x.d1 : Nat) : Int), .int .i64 ((x.d2 : Nat) : Int), .int .i64 ((x.d3 : Nat) : Int), .int .i64 ((x.d4 : Nat) : Int), .int .i64 ((x.d5 : Nat) : Int), .int .i64 ((x.ind : Nat) : Int), .int .i64 ((x.ext : Nat) : Int)] 45)); have B3 := Lib.hid (hb3.alloc hb3.size (.cells #[.int .i64 ((x.kind : Nat) : Int), .int .i64 ((x.links : Nat) : Int), .int .i64 ((x.owner : Nat) : Int), .int .i64 ((x.size : Nat) : Int), .int .i64 ((x.d0 : Nat) : Int), .int .i64 ((x.d1 : Nat) : Int), .int .i64 ((x.d2 : Nat) : Int), .int .i64 ((x.d3 : Nat) : Int), .int .i64 ((x.d4 : Nat) : Int), .int .i64 ((x.d5 : Nat) : Int), .int .i64 ((x.ind : Nat) : Int), .int .i64 ((x.ext : Nat) : Int)] 45)); have hcg := cell_keep hcg B3.out; clear hb3)
          | (go_at_call 23; refine (hct.out _ (HR.out.below (below_keep' hB.out hBs B3.out))).mono ?_; rintro e w4 ⟨rfl, hb4⟩; have B4 := Lib.hid (below_keep B3.out (Nat.le_refl _) hb4); clear hb4))
        refine ⟨⟨k + 1, by omega, by go_num, ?_, own_below ho.out B4.out, below_keep' hB.out hBs B4.out⟩, by simp only [intOf]; omega⟩
        rw [HTS.out, HSN.out]
        rfl
      · have hbo : (((x.owner : Nat) : Int) == o) = false := by simpa using hown
        rw [if_neg (by rw [hbo]; simp), List.append_nil] at HTS
        clear hown
        go_wp2_with (go_at_call 55; refine (hget.out _ (HR.out.below hB.out)).mono ?_; rintro e w3 ⟨rfl, hb3⟩; obtain ⟨x0, x1, x2, x3, x4, x5, x6, x7, x8, x9, x10, x11⟩ := cells12 (blk_new w3 (.cells #[.int .i64 ((x.kind : Nat) : Int), .int .i64 ((x.links : Nat) : Int), .int .i64 ((x.owner : Nat) : Int), .int .i64 ((x.size : Nat) : Int), .int .i64 ((x.d0 : Nat) : Int), .int .i64 ((x.d1 : Nat) : Int), .int .i64 ((x.d2 : Nat) : Int), .int .i64 ((x.d3 : Nat) : Int), .int .i64 ((x.d4 : Nat) : Int), .int .i64 ((x.d5 : Nat) : Int), .int .i64 ((x.ind : Nat) : Int), .int .i64 ((x.ext : Nat) : Int)] 45)); have B3 := Lib.hid (hb3.alloc hb3.size (.cells #[.int .i64 ((x.kind : Nat) : Int), .int .i64 ((x.links : Nat) : Int), .int .i64 ((x.owner : Nat) : Int), .int .i64 ((x.size : Nat) : Int), .int .i64 ((x.d0 : Nat) : Int), .int .i64 ((x.d1 : Nat) : Int), .int .i64 ((x.d2 : Nat) : Int), .int .i64 ((x.d3 : Nat) : Int), .int .i64 ((x.d4 : Nat) : Int), .int .i64 ((x.d5 : Nat) : Int), .int .i64 ((x.ind : Nat) : Int), .int .i64 ((x.ext : Nat) : Int)] 45)); clear hb3)
        refine ⟨⟨k + 1, by omega, by go_num, ?_, own_below ho.out B3.out, below_keep' hB.out hBs B3.out⟩, by simp only [intOf]; omega⟩
        rw [HTS.out, HZ.out]
    · obtain rfl : k = L.length := by omega
      have hki : ¬ (L.length : Int) < (L.length : Nat) := by omega
      rw [List.take_length]
      go_wp2
      go_ret
      exact ⟨rfl, hB.out⟩
end Go.Proofs.Ytacdohlhalnioaa
end

/- Contracts: a limit is set (the program's); over (the document's). -/
section
set_option linter.unusedVariables false
set_option linter.unusedSimpArgs false
set_option maxRecDepth 20000
namespace Go.Proofs.Ytacdohlhalnioaa
open Go.RowKit
attribute [local go_sem] Oper.semAt_some

def setB (s : Blk) (p m : Nat) : Blk := s.take p ++ ple m 2 ++ s.drop (p + 2)
/-- A volume with another limit. -/
def setV (v : Vol) (o m : Nat) : Vol := v.set 1 (setB (bk v 1) (2 * o) m)
def setE (v : Vol) (o m : Int) : Int := if limE v o = 0 then (if 0 ≤ m ∧ m ≤ 65535 then (if 0 < m ∧ m < ((usedV v o : Nat) : Int) then 13 else 0) else 2) else limE v o
theorem setE_ok {v : Vol} {o m : Int} (h : setE v o m = 0) : okV v = true ∧ 0 ≤ o ∧ o < 16 ∧ 0 ≤ m ∧ m ≤ 65535 ∧ ¬ (0 < m ∧ m < ((usedV v o : Nat) : Int)) := by
  unfold setE at h
  split at h
  · rename_i h1
    obtain ⟨a, b, c⟩ := limE_ok h1
    split at h
    · rename_i h2
      split at h
      · cases h
      · rename_i h3
        exact ⟨a, b, c, h2.1, h2.2, h3⟩
    · cases h
  · rename_i h1
    exact absurd h h1
set_option maxHeartbeats 1000000 in
theorem qset_no (A : Option Addr) (c : Nat) (v : Vol) (o m : Int) (w : World) (hr : RS w A v) (h : setE v o m ≠ 0) :
    Calls Try.prog 26 #[.slice A v.length c, .int .i64 o, .int .i64 m] w fun e w' => e = .returned (.tuple #[.slice none 0 0, .int .i64 (setE v o m)]) ∧ Below w.heap.size w w' := by
  have HR := Lib.hid hr
  clear hr
  by_cases hl : limE v o = 0
  · obtain ⟨hv, h1, h2⟩ := limE_ok hl
    have hpl := Lib.hid (fun w hr => qplace_ok A c v o.toNat w hr hv (by omega))
    rw [show ((o.toNat : Nat) : Int) = o from by omega] at hpl
    by_cases hm : 0 ≤ m ∧ m ≤ 65535
    · have hu : 0 < m ∧ m < ((usedV v o : Nat) : Int) := by
        rcases Classical.em (0 < m ∧ m < ((usedV v o : Nat) : Int)) with h' | h'
        · exact h'
        · exact absurd (by rw [setE, if_pos hl, if_pos hm, if_neg h']) h
      rw [show setE v o m = 13 from by rw [setE, if_pos hl, if_pos hm, if_pos hu]]
      obtain ⟨hu1, hu2⟩ := hu
      obtain ⟨hm1, hm2⟩ := hm
      have hus := Lib.hid (fun w hr => used_ok A c v o w hr)
      generalize usedV v o = us at *
      clear h hl hv
      go_enter Try.func26, Try.ntmps26
      go_wp2_with (first
        | (go_at_call 65; refine (hpl.out _ HR.out).mono ?_; rintro e w1 ⟨rfl, hb1⟩; have HB := Lib.hid (hb1.alloc hb1.size (.cells #[.int .i64 v.length, .int .i64 (inosV v), .int .i64 1, .int .i64 2, .int .i64 3, .int .i64 (3 + ((inosV v : Nat) + 1 : Int) / 2)] 66)); clear hb1)
        | (go_at_call 30; refine (hus.out _ (HR.out.below HB.out)).mono ?_; rintro e w2 ⟨rfl, hb2⟩; have HB2 := Lib.hid (below_keep HB.out (Nat.le_refl _) hb2); clear hb2))
      go_ret2
      exact ⟨rfl, HB2.out⟩
    · rw [show setE v o m = 2 from by rw [setE, if_pos hl, if_neg hm]]
      have hm' : m < 0 ∨ (0 ≤ m ∧ 65535 < m) := by omega
      clear h hl hv hm
      rcases hm' with hm1 | ⟨hm1, hm2⟩
      all_goals
        go_enter Try.func26, Try.ntmps26
        go_wp2_with (go_at_call 65; refine (hpl.out _ HR.out).mono ?_; rintro e w1 ⟨rfl, hb1⟩; have HB := Lib.hid (hb1.alloc hb1.size (.cells #[.int .i64 v.length, .int .i64 (inosV v), .int .i64 1, .int .i64 2, .int .i64 3, .int .i64 (3 + ((inosV v : Nat) + 1 : Int) / 2)] 66)); clear hb1)
        go_ret2
        exact ⟨rfl, HB.out⟩
  · rw [show setE v o m = limE v o from by rw [setE, if_neg hl]]
    have hpl := Lib.hid (fun w hr => qplace_no A c v o w hr hl)
    generalize limE v o = er at *
    have hb : (er == 0) = false := by simpa using hl
    have hbn : (er != 0) = true := by simpa using hl
    clear h
    go_enter Try.func26, Try.ntmps26
    go_wp2_with (go_at_call 65; refine (hpl.out _ HR.out).mono ?_; rintro e w1 ⟨rfl, hb1⟩; have HB := Lib.hid (hb1.alloc hb1.size (.cells #[.int .i64 0, .int .i64 0, .int .i64 0, .int .i64 0, .int .i64 0, .int .i64 0] 66)); clear hb1)
    go_ret2
    exact ⟨rfl, HB.out⟩
set_option maxHeartbeats 400000 in
theorem over_ok (A : Option Addr) (c : Nat) (v : Vol) (o m : Int) (w : World) (hr : RS w A v) (hm : 0 ≤ m) :
    Calls Try.prog 68 #[.slice A v.length c, .int .i64 o, .int .i64 m] w fun e w' => e = .returned (.bool (decide (0 < m ∧ m < ((usedV v o : Nat) : Int)))) ∧ Below w.heap.size w w' := by
  have HR := Lib.hid hr
  clear hr
  have hus := Lib.hid (fun w hr => rused_ok A c v o w hr)
  generalize usedV v o = us at *
  by_cases h0 : m = 0
  · subst h0
    go_enter Try.func68, Try.ntmps68
    go_wp2
    go_ret
    exact ⟨rfl, Below.refl _ _⟩
  · have hmn : (m != 0) = true := by simpa using h0
    have hmp : 0 < m := by omega
    have HU := Lib.hid hmp
    by_cases hu : m < (us : Int)
    · rw [show decide (0 < m ∧ m < (us : Int)) = true from decide_eq_true ⟨hmp, hu⟩]
      clear hmp hm h0
      go_enter Try.func68, Try.ntmps68
      go_wp2_with (go_at_call 43; refine (hus.out _ HR.out).mono ?_; rintro e w2 ⟨rfl, hb2⟩)
      go_ret
      exact ⟨rfl, hb2⟩
    · rw [show decide (0 < m ∧ m < (us : Int)) = false from decide_eq_false (fun e => hu e.2)]
      clear hmp hm h0
      go_enter Try.func68, Try.ntmps68
      go_wp2_with (go_at_call 43; refine (hus.out _ HR.out).mono ?_; rintro e w2 ⟨rfl, hb2⟩)
      go_ret
      exact ⟨ret_bool (by simp; omega), hb2⟩
set_option maxHeartbeats 1000000 in
theorem same18_ok (A B : Option Addr) (c c' : Nat) (v v' : Vol) (w : World) (hr : RS w A v) (hr' : RS w B v') :
    Calls Try.prog 28 #[.slice A v.length c, .slice B v'.length c'] w fun e w' => e = .returned (.bool (decide (v = v'))) ∧ Below w.heap.size w w' := by
  have hl := hr.1
  by_cases hne : v.length = v'.length
  · by_cases h0 : v.length = 0
    · have hz : v = [] := List.length_eq_zero_iff.1 h0
      have hz' : v' = [] := List.length_eq_zero_iff.1 (by omega)
      subst hz hz'
      clear hr hr' hne h0
      go_enter Try.func28, Try.ntmps28
      go_wp2
      go_loop [5] (fun iv => iv = .int .i64 0) (fun iv => 0)
      case atStart => rfl
      case round =>
        subst hrel
        go_wp2
        go_ret
        exact ⟨rfl, Below.refl _ _⟩
    · obtain ⟨bA, oA, rfl, hbA, hc⟩ := hr.open_ (by omega)
      obtain ⟨bB, oB, rfl, hbB, hc'⟩ := hr'.open_ (by omega)
      have HC := Lib.hid hc
      have HC' := Lib.hid hc'
      have hv : v = v' ↔ ∀ j, j < v.length → bk v j = bk v' j := by
        constructor
        · rintro rfl j _; rfl
        · intro h
          refine List.ext_getElem hne (fun j h1 h2 => ?_)
          rw [bk_get, bk_get]
          exact h j h1
      have HV := Lib.hid hv
      have HN := Lib.hid hne
      rw [← hne]
      clear hr hr' hc hc' hv hne
      go_enter Try.func28, Try.ntmps28
      go_wp2
      go_loopw [5] (fun iv wr => ∃ k : Nat, k ≤ v.length ∧ iv = .int .i64 k ∧ (∀ j, j < k → bk v j = bk v' j) ∧ Hid (Below w.heap.size w wr)) (fun iv _ => v.length - (intOf iv).toNat)
      case atStart => exact ⟨0, by omega, rfl, fun j hj => by omega, Below.refl _ _⟩
      case round =>
        obtain ⟨k, hk, rfl, hall, hB⟩ := hrel
        have HA := Lib.hid hall
        clear hall
        by_cases hlt : k < v.length
        · have hki : (k : Int) < (v.length : Nat) := by omega
          have ca := cell_keep (HC.out k hlt) hB.out
          have cb := cell_keep (HC'.out k (by rw [← HN.out]; exact hlt)) hB.out
          by_cases he : bk v k = bk v' k
          · have hall : ∀ j, j < k + 1 → bk v j = bk v' j := fun j hj => by
              rcases Nat.lt_or_ge j k with h | h
              · exact HA.out j h
              · have : j = k := by omega
                rw [this]; exact he
            have HA2 := Lib.hid hall
            rw [← he] at cb
            clear hall he
            generalize bk v k = s at *
            go_wp2
            go_quiet (fail)
            rename_i nq
            go_wp2
            exact ⟨⟨k + 1, by omega, by go_num, HA2.out, below_keep hB.out (Nat.le_refl _) (below_drewN' _ _)⟩, by simp only [intOf]; omega⟩
          · have hd : decide (v = v') = false := decide_eq_false (fun e => he (HV.out.1 e k hlt))
            have HD := Lib.hid hd
            clear hd
            generalize bk v k = s at *
            generalize bk v' k = s' at *
            have he1 : (s == s') = false := by simpa using he
            have he2 : (s != s') = true := by simp [bne, he1]
            have he3 : ¬ mk s = mk s' := fun e => he (mk_inj e)
            go_wp2
            go_quiet (fail)
            rename_i nq
            go_wp2
            go_ret
            exact ⟨ret_bool HD.out.symm, below_keep hB.out (Nat.le_refl _) (below_drewN' _ _)⟩
        · have hd : decide (v = v') = true := decide_eq_true (HV.out.2 (fun j hj => HA.out j (by omega)))
          have HD := Lib.hid hd
          have hki : ¬ (k : Int) < (v.length : Nat) := by omega
          clear hd
          go_wp2
          go_ret
          exact ⟨ret_bool HD.out.symm, hB.out⟩
  · have hd : decide (v = v') = false := decide_eq_false (fun e => hne (by rw [e]))
    rw [hd]
    have hbn : ((v.length : Int) != (v'.length : Int)) = true := by simp; omega
    clear hr hr' hd
    go_enter Try.func28, Try.ntmps28
    go_wp2
    go_ret
    exact ⟨rfl, Below.refl _ _⟩
end Go.Proofs.Ytacdohlhalnioaa
end

/- Contracts: a limit is set with OK (the program's and the document's). -/
section
set_option linter.unusedVariables false
set_option linter.unusedSimpArgs false
set_option maxRecDepth 20000
namespace Go.Proofs.Ytacdohlhalnioaa
open Go.RowKit
attribute [local go_sem] Oper.semAt_some

set_option maxHeartbeats 4000000 in
theorem qset_ok (A : Option Addr) (c : Nat) (v : Vol) (o m : Nat) (w : World) (hr : RS w A v) (h : setE v o m = 0) :
    Calls Try.prog 26 #[.slice A v.length c, .int .i64 o, .int .i64 m] w fun e w' => ∃ g c', e = .returned (.tuple #[.slice (some ⟨g, 0, none⟩) v.length c', .int .i64 0]) ∧ VS w' g (setV v o m) ∧ w.heap.size ≤ g ∧ Below w.heap.size w w' := by
  obtain ⟨hv, _, ho, _, hm, hu⟩ := setE_ok h
  have H := okV_iff.1 hv
  have hlo := H.lo
  have hhi := H.hi
  have s1 := H.size 1 (by omega)
  have hpl := Lib.hid (fun w hr => qplace_ok A c v o w hr hv (by omega))
  have hus := Lib.hid (fun w hr => used_ok A c v o w hr)
  have hclo := Lib.hid (fun w hr => clone_ok A c v.length v w hr rfl (by omega))
  have HR := Lib.hid hr
  obtain ⟨bA, oA, rfl, hbA, hc⟩ := hr.open_ (by omega)
  have hc1 := hc 1 (by omega)
  rw [setV, setB]
  have hpm := ple_length m 2
  obtain ⟨pm, hp2⟩ : ∃ pm, ple m 2 = pm := ⟨_, rfl⟩
  rw [hp2] at hpm ⊢
  obtain ⟨s, hs⟩ : ∃ s, bk v 1 = s := ⟨_, rfl⟩
  rw [hs] at s1 hc1 ⊢
  obtain ⟨p, hp⟩ : ∃ p, 2 * o = p := ⟨_, rfl⟩
  rw [hp] at hpl ⊢
  have HSB := Lib.hid hs
  have HPM := Lib.hid hp2
  have hp30 : p ≤ 30 := by omega
  have hl1 : (1 : Int) < (v.length : Nat) := by omega
  generalize usedV v o = us at *
  have hu' : m = 0 ∨ (0 < m ∧ us ≤ m) := by omega
  have hmi : ¬ ((65535 : Int) < (m : Int)) := by omega
  have hm0 : (0 : Int) ≤ (m : Int) := by omega
  have hwu : IntKind.u64.wrap (m : Int) = (m : Int) := wrap_u64 m (by omega)
  have hio : (p : Int) ≤ 128 := by omega
  have hmo : min p 128 = p := by omega
  have hc1' : ¬ (9223372036854775807 < p + 2) := by omega
  have hc2 : ¬ (9223372036854775807 < p + 2 + (126 - p)) := by omega
  have hc4 : ¬ ((128 : Int) < (p : Int) + 2) := by omega
  have hc5 : (p : Int) + 2 ≤ 128 := by omega
  have hw1 : IntKind.i64.wrap ((p : Int) + 2) = (p : Int) + 2 := by simp [IntKind.wrap, IntKind.bits, IntKind.signed]; omega
  have hw2 : ((p : Int) + 2).toNat = p + 2 := by omega
  have hp1 : (0 : Int) ≤ (p : Int) + 2 := by omega
  have htk : List.take (126 - p) (List.drop (p + 2) s) = List.drop (p + 2) s := List.take_of_length_le (by simp [s1])
  clear hr hc hv H h hu hs hp hp2
  have hput := Lib.hid (fun w => put_ok m 2 w (by omega) (by omega))
  rw [HPM.out] at hput
  have hfin : ∀ (w3 w4 : World) (g : Nat), VS w3 g v → w.heap.size ≤ g → Below w.heap.size w w3 → Below w3.heap.size w3 w4 → VS (w4.setCell ⟨g, 1, none⟩ (.string (mk (s.take p ++ (pm ++ s.drop (p + 2)))))) g (v.set 1 (s.take p ++ pm ++ s.drop (p + 2))) ∧ Below w.heap.size w (w4.setCell ⟨g, 1, none⟩ (.string (mk (s.take p ++ (pm ++ s.drop (p + 2)))))) := by
    intro w3 w4 g hg hgs h3 h4
    refine ⟨?_, below_set (below_keep h3 (Nat.le_refl _) h4) hgs⟩
    rw [List.append_assoc]
    exact (hg.keep h4).set 1 _ (by omega)
  have HFin := Lib.hid hfin
  clear hfin
  rcases hu' with rfl | ⟨hu1, hu2⟩
  · go_enter Try.func26, Try.ntmps26
    go_wp2_with (first
      | (go_at_call 65; refine (hpl.out _ HR.out).mono ?_; rintro e w1 ⟨rfl, hb1⟩; have HB := Lib.hid (hb1.alloc hb1.size (.cells #[.int .i64 v.length, .int .i64 (inosV v), .int .i64 1, .int .i64 2, .int .i64 3, .int .i64 (3 + ((inosV v : Nat) + 1 : Int) / 2)] 66)); have HQ := Lib.hid (blk_new w1 (.cells #[.int .i64 v.length, .int .i64 (inosV v), .int .i64 1, .int .i64 2, .int .i64 3, .int .i64 (3 + ((inosV v : Nat) + 1 : Int) / 2)] 66)); clear hb1)
      | (go_at_call 66; refine (hclo.out _ (HR.out.below HB.out)).mono ?_; rintro e w3 ⟨g, cg, rfl, hg, hgs, hb3⟩; have HB3 := Lib.hid (below_keep HB.out (Nat.le_refl _) hb3); have hq3 := blk_keep HQ.out hb3; obtain ⟨g0, g1, g2, g3, g4, g5⟩ := cells6 hq3; have hcs := cell_keep hc1 HB3.out; have HG := Lib.hid hg; clear hb3 hq3 hg))
    have sB := HB.out.size
    have sg : w.heap.size ≤ g := by omega
    refine region_P (fun w' => w'.cell? ⟨w1.heap.size, 2, none⟩ = some (.int .i64 1)) [16] (by kernel_rfl) ?_ (fun hHeld => ?_)
    · exact g2
    refine wpP_take (i := 0) (oi := ?oi660001) (v := ?v660001) ?hi660001 (by kernel_rfl) (by kernel_rfl) (by kernel_rfl) (by kernel_rfl) ?hQ660001 ?hy660001 (by assumption) ?rest660001
    case hi660001 => (simp only [List.getElem?_toArray, List.getElem?_cons_succ, List.getElem?_cons_zero]; exact rfl)
    case hQ660001 => exact fun _ _ _ h => h
    case hy660001 => (refine Or.inl ⟨by kernel_rfl, ?_⟩; intro w hSw; (try dsimp only at hSw); go_simp; try (with_reducible rfl))
    try simp only [Act.put, List.setIfInBounds_toArray, List.set_cons_zero, List.set_cons_succ]
    refine wpP_take (i := 1) (oi := ?oi660002) (v := ?v660002) ?hi660002 (by kernel_rfl) (by kernel_rfl) (by kernel_rfl) (by kernel_rfl) ?hQ660002 ?hy660002 (by assumption) ?rest660002
    case hi660002 => (simp only [List.getElem?_toArray, List.getElem?_cons_succ, List.getElem?_cons_zero]; exact rfl)
    case hQ660002 => exact fun _ _ _ h => h
    case hy660002 => (refine Or.inl ⟨by kernel_rfl, ?_⟩; intro w hSw; (try dsimp only at hSw); go_simp; try (with_reducible rfl))
    try simp only [Act.put, List.setIfInBounds_toArray, List.set_cons_zero, List.set_cons_succ]
    refine wpP_take (i := 2) (oi := ?oi660003) (v := ?v660003) ?hi660003 (by kernel_rfl) (by kernel_rfl) (by kernel_rfl) (by kernel_rfl) ?hQ660003 ?hy660003 (by assumption) ?rest660003
    case hi660003 => (simp only [List.getElem?_toArray, List.getElem?_cons_succ, List.getElem?_cons_zero]; exact rfl)
    case hQ660003 => exact fun _ _ _ h => h
    case hy660003 => (refine Or.inl ⟨by kernel_rfl, ?_⟩; intro w hSw; (try dsimp only at hSw); go_simp; try (with_reducible rfl))
    try simp only [Act.put, List.setIfInBounds_toArray, List.set_cons_zero, List.set_cons_succ]
    refine wpP_take (i := 3) (oi := ?oi660004) (v := ?v660004) ?hi660004 (by kernel_rfl) (by kernel_rfl) (by kernel_rfl) (by kernel_rfl) ?hQ660004 ?hy660004 (by assumption) ?rest660004
    case hi660004 => (simp only [List.getElem?_toArray, List.getElem?_cons_succ, List.getElem?_cons_zero]; exact rfl)
    case hQ660004 => exact fun _ _ _ h => h
    case hy660004 => (refine Or.inl ⟨by kernel_rfl, ?_⟩; intro w hSw; (try dsimp only at hSw); go_simp; try (with_reducible rfl))
    try simp only [Act.put, List.setIfInBounds_toArray, List.set_cons_zero, List.set_cons_succ]
    refine wpP_take (i := 4) (oi := ?oi660005) (v := ?v660005) ?hi660005 (by kernel_rfl) (by kernel_rfl) (by kernel_rfl) (by kernel_rfl) ?hQ660005 ?hy660005 (by assumption) ?rest660005
    case hi660005 => (simp only [List.getElem?_toArray, List.getElem?_cons_succ, List.getElem?_cons_zero]; exact rfl)
    case hQ660005 => exact fun _ _ _ h => h
    case hy660005 => (refine Or.inl ⟨by kernel_rfl, ?_⟩; intro w hSw; (try dsimp only at hSw); go_simp; try (with_reducible rfl))
    try simp only [Act.put, List.setIfInBounds_toArray, List.set_cons_zero, List.set_cons_succ]
    refine wpP_take (i := 5) (oi := ?oi660006) (v := ?v660006) ?hi660006 (by kernel_rfl) (by kernel_rfl) (by kernel_rfl) (by kernel_rfl) ?hQ660006 ?hy660006 (by assumption) ?rest660006
    case hi660006 => (simp only [List.getElem?_toArray, List.getElem?_cons_succ, List.getElem?_cons_zero]; exact rfl)
    case hQ660006 => exact fun _ _ _ h => h
    case hy660006 => (refine Or.inl ⟨by kernel_rfl, ?_⟩; intro w hSw; (try dsimp only at hSw); go_simp; try (with_reducible rfl))
    try simp only [Act.put, List.setIfInBounds_toArray, List.set_cons_zero, List.set_cons_succ]
    refine wpP_take (i := 6) (oi := ?oi660007) (v := ?v660007) ?hi660007 (by kernel_rfl) (by kernel_rfl) (by kernel_rfl) (by kernel_rfl) ?hQ660007 ?hy660007 (by assumption) ?rest660007
    case hi660007 => (simp only [List.getElem?_toArray, List.getElem?_cons_succ, List.getElem?_cons_zero]; exact rfl)
    case hQ660007 => exact fun _ _ _ h => h
    case hy660007 => (refine Or.inl ⟨by kernel_rfl, ?_⟩; intro w hSw; (try dsimp only at hSw); go_simp; try (with_reducible rfl))
    try simp only [Act.put, List.setIfInBounds_toArray, List.set_cons_zero, List.set_cons_succ]
    refine wpP_take (i := 7) (oi := ?oi660008) (v := ?v660008) ?hi660008 (by kernel_rfl) (by kernel_rfl) (by kernel_rfl) (by kernel_rfl) ?hQ660008 ?hy660008 (by assumption) ?rest660008
    case hi660008 => (simp only [List.getElem?_toArray, List.getElem?_cons_succ, List.getElem?_cons_zero]; exact rfl)
    case hQ660008 => exact fun _ _ _ h => h
    case hy660008 => (refine Or.inl ⟨by kernel_rfl, ?_⟩; intro w hSw; (try dsimp only at hSw); go_simp; try (with_reducible rfl))
    try simp only [Act.put, List.setIfInBounds_toArray, List.set_cons_zero, List.set_cons_succ]
    refine wpP_take (i := 10) (oi := ?oi660009) (v := ?v660009) ?hi660009 (by kernel_rfl) (by kernel_rfl) (by kernel_rfl) (by kernel_rfl) ?hQ660009 ?hy660009 (by assumption) ?rest660009
    case hi660009 => (simp only [List.getElem?_toArray, List.getElem?_cons_succ, List.getElem?_cons_zero]; exact rfl)
    case hQ660009 => exact fun _ _ _ h => h
    case hy660009 => (refine Or.inl ⟨by kernel_rfl, ?_⟩; intro w hSw; (try dsimp only at hSw); go_simp; try (with_reducible rfl))
    try simp only [Act.put, List.setIfInBounds_toArray, List.set_cons_zero, List.set_cons_succ]
    refine wpP_take (i := 11) (oi := ?oi660010) (v := ?v660010) ?hi660010 (by kernel_rfl) (by kernel_rfl) (by kernel_rfl) (by kernel_rfl) ?hQ660010 ?hy660010 (by assumption) ?rest660010
    case hi660010 => (simp only [List.getElem?_toArray, List.getElem?_cons_succ, List.getElem?_cons_zero]; exact rfl)
    case hQ660010 => exact fun _ _ _ h => h
    case hy660010 => (refine Or.inl ⟨by kernel_rfl, ?_⟩; intro w hSw; (try dsimp only at hSw); go_simp; try (with_reducible rfl))
    try simp only [Act.put, List.setIfInBounds_toArray, List.set_cons_zero, List.set_cons_succ]
    refine wpP_take (i := 12) (oi := ?oi660011) (v := ?v660011) ?hi660011 (by kernel_rfl) (by kernel_rfl) (by kernel_rfl) (by kernel_rfl) ?hQ660011 ?hy660011 (by assumption) ?rest660011
    case hi660011 => (simp only [List.getElem?_toArray, List.getElem?_cons_succ, List.getElem?_cons_zero]; exact rfl)
    case hQ660011 => exact fun _ _ _ h => h
    case hy660011 => (refine Or.inl ⟨by kernel_rfl, ?_⟩; intro w hSw; (try dsimp only at hSw); go_simp; try (with_reducible rfl))
    try simp only [Act.put, List.setIfInBounds_toArray, List.set_cons_zero, List.set_cons_succ]
    refine wpP_take (i := 13) (oi := ?oi660012) (v := ?v660012) ?hi660012 (by kernel_rfl) (by kernel_rfl) (by kernel_rfl) (by kernel_rfl) ?hQ660012 ?hy660012 (by assumption) ?rest660012
    case hi660012 => (simp only [List.getElem?_toArray, List.getElem?_cons_succ, List.getElem?_cons_zero]; exact rfl)
    case hQ660012 => exact fun _ _ _ h => h
    case hy660012 => (refine Or.inl ⟨by kernel_rfl, ?_⟩; intro w hSw; (try dsimp only at hSw); go_simp; try (with_reducible rfl))
    try simp only [Act.put, List.setIfInBounds_toArray, List.set_cons_zero, List.set_cons_succ]
    refine wpP_ready (rs := [8]) (by kernel_rfl) (by simp) ?_
    refine AllP.cons (o := ?o660013) ?ho660013 (fun K hK => ?_) AllP.nil
    case ho660013 => (simp only [List.getElem?_toArray, List.getElem?_cons_succ, List.getElem?_cons_zero]; exact rfl)
    go_simp
    go_at_call 67
    refine (hput.out _).mono ?_
    rintro e w4 ⟨rfl, hb4⟩
    have k4 := below_und hb4
    have d1 := (HG.out.keep k4).cell 1 (by omega)
    have d2 := (HG.out.keep k4).free 1
    refine hK.out _ _ ?_ (fun hHeld => ?_)
    · exact (cell_keep hHeld hb4)
    clear hK K
    try simp only [Act.put, List.setIfInBounds_toArray, List.set_cons_zero, List.set_cons_succ]
    refine wpP_take (i := 9) (oi := ?oi660014) (v := ?v660014) ?hi660014 (by kernel_rfl) (by kernel_rfl) (by kernel_rfl) (by kernel_rfl) ?hQ660014 ?hy660014 (by assumption) ?rest660014
    case hi660014 => (simp only [List.getElem?_toArray, List.getElem?_cons_succ, List.getElem?_cons_zero]; exact rfl)
    case hQ660014 => exact fun _ _ _ h => h
    case hy660014 => (refine Or.inl ⟨by kernel_rfl, ?_⟩; intro w hSw; (try dsimp only at hSw); go_simp; try (with_reducible rfl))
    try simp only [Act.put, List.setIfInBounds_toArray, List.set_cons_zero, List.set_cons_succ]
    refine wpP_take (i := 14) (oi := ?oi660015) (v := ?v660015) ?hi660015 (by kernel_rfl) (by kernel_rfl) (by kernel_rfl) (by kernel_rfl) ?hQ660015 ?hy660015 (by assumption) ?rest660015
    case hi660015 => (simp only [List.getElem?_toArray, List.getElem?_cons_succ, List.getElem?_cons_zero]; exact rfl)
    case hQ660015 => exact fun _ _ _ h => h
    case hy660015 => (refine Or.inl ⟨by kernel_rfl, ?_⟩; intro w hSw; (try dsimp only at hSw); go_simp; try (with_reducible rfl))
    try simp only [Act.put, List.setIfInBounds_toArray, List.set_cons_zero, List.set_cons_succ]
    refine wpP_take (i := 15) (oi := ?oi660016) (v := ?v660016) ?hi660016 (by kernel_rfl) (by kernel_rfl) (by kernel_rfl) (by kernel_rfl) ?hQ660016 ?hy660016 (by assumption) ?rest660016
    case hi660016 => (simp only [List.getElem?_toArray, List.getElem?_cons_succ, List.getElem?_cons_zero]; exact rfl)
    case hQ660016 => exact fun _ _ _ h => h
    case hy660016 => (refine Or.inl ⟨by kernel_rfl, ?_⟩; intro w hSw; (try dsimp only at hSw); go_simp; try (with_reducible rfl))
    try simp only [Act.put, List.setIfInBounds_toArray, List.set_cons_zero, List.set_cons_succ]
    refine wpP_ready (rs := [16]) (by kernel_rfl) (by simp) ?_
    refine AllP.last (o := ?o660017) ?ho660017 (by kernel_rfl) (fun K hK => ?_) AllP.nil
    case ho660017 => (simp only [List.getElem?_toArray, List.getElem?_cons_succ, List.getElem?_cons_zero]; exact rfl)
    go_simp
    refine hK.out _ _ ?_
    clear hK K
    try simp only [Act.put, List.setIfInBounds_toArray, List.set_cons_zero, List.set_cons_succ]
    refine wpP_done (by kernel_rfl) ?_ _
    go_wp2
    go_ret2
    obtain ⟨z1, z2⟩ := HFin.out w3 w4 g HG.out sg HB3.out k4
    exact ⟨g, cg, rfl, z1, sg, z2⟩
  · have hui : ¬ ((m : Int) < (us : Int)) := by omega
    have hmp : (0 : Int) < (m : Int) := by omega
    go_enter Try.func26, Try.ntmps26
    go_wp2_with (first
      | (go_at_call 65; refine (hpl.out _ HR.out).mono ?_; rintro e w1 ⟨rfl, hb1⟩; have HB := Lib.hid (hb1.alloc hb1.size (.cells #[.int .i64 v.length, .int .i64 (inosV v), .int .i64 1, .int .i64 2, .int .i64 3, .int .i64 (3 + ((inosV v : Nat) + 1 : Int) / 2)] 66)); have HQ := Lib.hid (blk_new w1 (.cells #[.int .i64 v.length, .int .i64 (inosV v), .int .i64 1, .int .i64 2, .int .i64 3, .int .i64 (3 + ((inosV v : Nat) + 1 : Int) / 2)] 66)); clear hb1)
      | (go_at_call 30; refine (hus.out _ (HR.out.below HB.out)).mono ?_; rintro e w2 ⟨rfl, hb2⟩; have HB2 := Lib.hid (below_keep HB.out (Nat.le_refl _) hb2); have HQ2 := Lib.hid (blk_keep HQ.out hb2); clear hb2)
      | (go_at_call 66; refine (hclo.out _ (HR.out.below HB2.out)).mono ?_; rintro e w3 ⟨g, cg, rfl, hg, hgs, hb3⟩; have HB3 := Lib.hid (below_keep HB2.out (Nat.le_refl _) hb3); have hq3 := blk_keep HQ2.out hb3; obtain ⟨g0, g1, g2, g3, g4, g5⟩ := cells6 hq3; have hcs := cell_keep hc1 HB3.out; have HG := Lib.hid hg; clear hb3 hq3 hg))
    have sB := HB2.out.size
    have sg : w.heap.size ≤ g := by omega
    refine region_P (fun w' => w'.cell? ⟨w1.heap.size, 2, none⟩ = some (.int .i64 1)) [16] (by kernel_rfl) ?_ (fun hHeld => ?_)
    · exact g2
    refine wpP_take (i := 0) (oi := ?oi660018) (v := ?v660018) ?hi660018 (by kernel_rfl) (by kernel_rfl) (by kernel_rfl) (by kernel_rfl) ?hQ660018 ?hy660018 (by assumption) ?rest660018
    case hi660018 => (simp only [List.getElem?_toArray, List.getElem?_cons_succ, List.getElem?_cons_zero]; exact rfl)
    case hQ660018 => exact fun _ _ _ h => h
    case hy660018 => (refine Or.inl ⟨by kernel_rfl, ?_⟩; intro w hSw; (try dsimp only at hSw); go_simp; try (with_reducible rfl))
    try simp only [Act.put, List.setIfInBounds_toArray, List.set_cons_zero, List.set_cons_succ]
    refine wpP_take (i := 1) (oi := ?oi660019) (v := ?v660019) ?hi660019 (by kernel_rfl) (by kernel_rfl) (by kernel_rfl) (by kernel_rfl) ?hQ660019 ?hy660019 (by assumption) ?rest660019
    case hi660019 => (simp only [List.getElem?_toArray, List.getElem?_cons_succ, List.getElem?_cons_zero]; exact rfl)
    case hQ660019 => exact fun _ _ _ h => h
    case hy660019 => (refine Or.inl ⟨by kernel_rfl, ?_⟩; intro w hSw; (try dsimp only at hSw); go_simp; try (with_reducible rfl))
    try simp only [Act.put, List.setIfInBounds_toArray, List.set_cons_zero, List.set_cons_succ]
    refine wpP_take (i := 2) (oi := ?oi660020) (v := ?v660020) ?hi660020 (by kernel_rfl) (by kernel_rfl) (by kernel_rfl) (by kernel_rfl) ?hQ660020 ?hy660020 (by assumption) ?rest660020
    case hi660020 => (simp only [List.getElem?_toArray, List.getElem?_cons_succ, List.getElem?_cons_zero]; exact rfl)
    case hQ660020 => exact fun _ _ _ h => h
    case hy660020 => (refine Or.inl ⟨by kernel_rfl, ?_⟩; intro w hSw; (try dsimp only at hSw); go_simp; try (with_reducible rfl))
    try simp only [Act.put, List.setIfInBounds_toArray, List.set_cons_zero, List.set_cons_succ]
    refine wpP_take (i := 3) (oi := ?oi660021) (v := ?v660021) ?hi660021 (by kernel_rfl) (by kernel_rfl) (by kernel_rfl) (by kernel_rfl) ?hQ660021 ?hy660021 (by assumption) ?rest660021
    case hi660021 => (simp only [List.getElem?_toArray, List.getElem?_cons_succ, List.getElem?_cons_zero]; exact rfl)
    case hQ660021 => exact fun _ _ _ h => h
    case hy660021 => (refine Or.inl ⟨by kernel_rfl, ?_⟩; intro w hSw; (try dsimp only at hSw); go_simp; try (with_reducible rfl))
    try simp only [Act.put, List.setIfInBounds_toArray, List.set_cons_zero, List.set_cons_succ]
    refine wpP_take (i := 4) (oi := ?oi660022) (v := ?v660022) ?hi660022 (by kernel_rfl) (by kernel_rfl) (by kernel_rfl) (by kernel_rfl) ?hQ660022 ?hy660022 (by assumption) ?rest660022
    case hi660022 => (simp only [List.getElem?_toArray, List.getElem?_cons_succ, List.getElem?_cons_zero]; exact rfl)
    case hQ660022 => exact fun _ _ _ h => h
    case hy660022 => (refine Or.inl ⟨by kernel_rfl, ?_⟩; intro w hSw; (try dsimp only at hSw); go_simp; try (with_reducible rfl))
    try simp only [Act.put, List.setIfInBounds_toArray, List.set_cons_zero, List.set_cons_succ]
    refine wpP_take (i := 5) (oi := ?oi660023) (v := ?v660023) ?hi660023 (by kernel_rfl) (by kernel_rfl) (by kernel_rfl) (by kernel_rfl) ?hQ660023 ?hy660023 (by assumption) ?rest660023
    case hi660023 => (simp only [List.getElem?_toArray, List.getElem?_cons_succ, List.getElem?_cons_zero]; exact rfl)
    case hQ660023 => exact fun _ _ _ h => h
    case hy660023 => (refine Or.inl ⟨by kernel_rfl, ?_⟩; intro w hSw; (try dsimp only at hSw); go_simp; try (with_reducible rfl))
    try simp only [Act.put, List.setIfInBounds_toArray, List.set_cons_zero, List.set_cons_succ]
    refine wpP_take (i := 6) (oi := ?oi660024) (v := ?v660024) ?hi660024 (by kernel_rfl) (by kernel_rfl) (by kernel_rfl) (by kernel_rfl) ?hQ660024 ?hy660024 (by assumption) ?rest660024
    case hi660024 => (simp only [List.getElem?_toArray, List.getElem?_cons_succ, List.getElem?_cons_zero]; exact rfl)
    case hQ660024 => exact fun _ _ _ h => h
    case hy660024 => (refine Or.inl ⟨by kernel_rfl, ?_⟩; intro w hSw; (try dsimp only at hSw); go_simp; try (with_reducible rfl))
    try simp only [Act.put, List.setIfInBounds_toArray, List.set_cons_zero, List.set_cons_succ]
    refine wpP_take (i := 7) (oi := ?oi660025) (v := ?v660025) ?hi660025 (by kernel_rfl) (by kernel_rfl) (by kernel_rfl) (by kernel_rfl) ?hQ660025 ?hy660025 (by assumption) ?rest660025
    case hi660025 => (simp only [List.getElem?_toArray, List.getElem?_cons_succ, List.getElem?_cons_zero]; exact rfl)
    case hQ660025 => exact fun _ _ _ h => h
    case hy660025 => (refine Or.inl ⟨by kernel_rfl, ?_⟩; intro w hSw; (try dsimp only at hSw); go_simp; try (with_reducible rfl))
    try simp only [Act.put, List.setIfInBounds_toArray, List.set_cons_zero, List.set_cons_succ]
    refine wpP_take (i := 10) (oi := ?oi660026) (v := ?v660026) ?hi660026 (by kernel_rfl) (by kernel_rfl) (by kernel_rfl) (by kernel_rfl) ?hQ660026 ?hy660026 (by assumption) ?rest660026
    case hi660026 => (simp only [List.getElem?_toArray, List.getElem?_cons_succ, List.getElem?_cons_zero]; exact rfl)
    case hQ660026 => exact fun _ _ _ h => h
    case hy660026 => (refine Or.inl ⟨by kernel_rfl, ?_⟩; intro w hSw; (try dsimp only at hSw); go_simp; try (with_reducible rfl))
    try simp only [Act.put, List.setIfInBounds_toArray, List.set_cons_zero, List.set_cons_succ]
    refine wpP_take (i := 11) (oi := ?oi660027) (v := ?v660027) ?hi660027 (by kernel_rfl) (by kernel_rfl) (by kernel_rfl) (by kernel_rfl) ?hQ660027 ?hy660027 (by assumption) ?rest660027
    case hi660027 => (simp only [List.getElem?_toArray, List.getElem?_cons_succ, List.getElem?_cons_zero]; exact rfl)
    case hQ660027 => exact fun _ _ _ h => h
    case hy660027 => (refine Or.inl ⟨by kernel_rfl, ?_⟩; intro w hSw; (try dsimp only at hSw); go_simp; try (with_reducible rfl))
    try simp only [Act.put, List.setIfInBounds_toArray, List.set_cons_zero, List.set_cons_succ]
    refine wpP_take (i := 12) (oi := ?oi660028) (v := ?v660028) ?hi660028 (by kernel_rfl) (by kernel_rfl) (by kernel_rfl) (by kernel_rfl) ?hQ660028 ?hy660028 (by assumption) ?rest660028
    case hi660028 => (simp only [List.getElem?_toArray, List.getElem?_cons_succ, List.getElem?_cons_zero]; exact rfl)
    case hQ660028 => exact fun _ _ _ h => h
    case hy660028 => (refine Or.inl ⟨by kernel_rfl, ?_⟩; intro w hSw; (try dsimp only at hSw); go_simp; try (with_reducible rfl))
    try simp only [Act.put, List.setIfInBounds_toArray, List.set_cons_zero, List.set_cons_succ]
    refine wpP_take (i := 13) (oi := ?oi660029) (v := ?v660029) ?hi660029 (by kernel_rfl) (by kernel_rfl) (by kernel_rfl) (by kernel_rfl) ?hQ660029 ?hy660029 (by assumption) ?rest660029
    case hi660029 => (simp only [List.getElem?_toArray, List.getElem?_cons_succ, List.getElem?_cons_zero]; exact rfl)
    case hQ660029 => exact fun _ _ _ h => h
    case hy660029 => (refine Or.inl ⟨by kernel_rfl, ?_⟩; intro w hSw; (try dsimp only at hSw); go_simp; try (with_reducible rfl))
    try simp only [Act.put, List.setIfInBounds_toArray, List.set_cons_zero, List.set_cons_succ]
    refine wpP_ready (rs := [8]) (by kernel_rfl) (by simp) ?_
    refine AllP.cons (o := ?o660030) ?ho660030 (fun K hK => ?_) AllP.nil
    case ho660030 => (simp only [List.getElem?_toArray, List.getElem?_cons_succ, List.getElem?_cons_zero]; exact rfl)
    go_simp
    go_at_call 67
    refine (hput.out _).mono ?_
    rintro e w4 ⟨rfl, hb4⟩
    have k4 := below_und hb4
    have d1 := (HG.out.keep k4).cell 1 (by omega)
    have d2 := (HG.out.keep k4).free 1
    refine hK.out _ _ ?_ (fun hHeld => ?_)
    · exact (cell_keep hHeld hb4)
    clear hK K
    try simp only [Act.put, List.setIfInBounds_toArray, List.set_cons_zero, List.set_cons_succ]
    refine wpP_take (i := 9) (oi := ?oi660031) (v := ?v660031) ?hi660031 (by kernel_rfl) (by kernel_rfl) (by kernel_rfl) (by kernel_rfl) ?hQ660031 ?hy660031 (by assumption) ?rest660031
    case hi660031 => (simp only [List.getElem?_toArray, List.getElem?_cons_succ, List.getElem?_cons_zero]; exact rfl)
    case hQ660031 => exact fun _ _ _ h => h
    case hy660031 => (refine Or.inl ⟨by kernel_rfl, ?_⟩; intro w hSw; (try dsimp only at hSw); go_simp; try (with_reducible rfl))
    try simp only [Act.put, List.setIfInBounds_toArray, List.set_cons_zero, List.set_cons_succ]
    refine wpP_take (i := 14) (oi := ?oi660032) (v := ?v660032) ?hi660032 (by kernel_rfl) (by kernel_rfl) (by kernel_rfl) (by kernel_rfl) ?hQ660032 ?hy660032 (by assumption) ?rest660032
    case hi660032 => (simp only [List.getElem?_toArray, List.getElem?_cons_succ, List.getElem?_cons_zero]; exact rfl)
    case hQ660032 => exact fun _ _ _ h => h
    case hy660032 => (refine Or.inl ⟨by kernel_rfl, ?_⟩; intro w hSw; (try dsimp only at hSw); go_simp; try (with_reducible rfl))
    try simp only [Act.put, List.setIfInBounds_toArray, List.set_cons_zero, List.set_cons_succ]
    refine wpP_take (i := 15) (oi := ?oi660033) (v := ?v660033) ?hi660033 (by kernel_rfl) (by kernel_rfl) (by kernel_rfl) (by kernel_rfl) ?hQ660033 ?hy660033 (by assumption) ?rest660033
    case hi660033 => (simp only [List.getElem?_toArray, List.getElem?_cons_succ, List.getElem?_cons_zero]; exact rfl)
    case hQ660033 => exact fun _ _ _ h => h
    case hy660033 => (refine Or.inl ⟨by kernel_rfl, ?_⟩; intro w hSw; (try dsimp only at hSw); go_simp; try (with_reducible rfl))
    try simp only [Act.put, List.setIfInBounds_toArray, List.set_cons_zero, List.set_cons_succ]
    refine wpP_ready (rs := [16]) (by kernel_rfl) (by simp) ?_
    refine AllP.last (o := ?o660034) ?ho660034 (by kernel_rfl) (fun K hK => ?_) AllP.nil
    case ho660034 => (simp only [List.getElem?_toArray, List.getElem?_cons_succ, List.getElem?_cons_zero]; exact rfl)
    go_simp
    refine hK.out _ _ ?_
    clear hK K
    try simp only [Act.put, List.setIfInBounds_toArray, List.set_cons_zero, List.set_cons_succ]
    refine wpP_done (by kernel_rfl) ?_ _
    go_wp2
    go_ret2
    obtain ⟨z1, z2⟩ := HFin.out w3 w4 g HG.out sg HB3.out k4
    exact ⟨g, cg, rfl, z1, sg, z2⟩
end Go.Proofs.Ytacdohlhalnioaa
end

/- Contracts: has somebody more than may be (the program's and the document's)? -/
section
set_option linter.unusedVariables false
set_option linter.unusedSimpArgs false
set_option maxRecDepth 20000
namespace Go.Proofs.Ytacdohlhalnioaa
open Go.RowKit
attribute [local go_sem] Oper.semAt_some

def overO (v : Vol) (o : Nat) : Bool := decide (0 < limitV v o ∧ limitV v o < usedV v o)
/-- Has somebody more than may be? The error. -/
def checkE (v : Vol) : Int := if okV v = true then (if (List.range 16).any (overO v) = true then 13 else 0) else 3
theorem checkE_one {v : Vol} {k : Nat} (hv : okV v = true) (hk : k < 16) (h : overO v k = true) : checkE v = 13 := by
  rw [checkE, if_pos hv, if_pos (List.any_eq_true.2 ⟨k, List.mem_range.2 hk, h⟩)]
theorem checkE_none {v : Vol} (hv : okV v = true) (h : ∀ j, j < 16 → overO v j = false) : checkE v = 0 := by
  rw [checkE, if_pos hv, if_neg]
  intro e
  obtain ⟨k, hk, he⟩ := List.any_eq_true.1 e
  rw [h k (List.mem_range.1 hk)] at he
  cases he
set_option maxHeartbeats 4000000 in
theorem check_ok (A : Option Addr) (c : Nat) (v : Vol) (w : World) (hr : RS w A v) :
    Calls Try.prog 44 #[.slice A v.length c] w fun e w' => e = .returned (.int .i64 (checkE v)) ∧ Below w.heap.size w w' := by
  have HR := Lib.hid hr
  clear hr
  by_cases hv : okV v = true
  · have hlm := Lib.hid (fun (k : Nat) w hr hk => limit_ok A c v k w hr hv hk)
    have hus := Lib.hid (fun (k : Nat) w hr => used_ok A c v (k : Int) w hr)
    have hone := Lib.hid (fun k (hk : k < 16) h => checkE_one (v := v) hv hk h)
    have hnone := Lib.hid (fun h => checkE_none (v := v) hv h)
    obtain ⟨ce, hce⟩ : ∃ ce, checkE v = ce := ⟨_, rfl⟩
    rw [hce] at hone hnone ⊢
    clear hv hce
    go_enter Try.func44, Try.ntmps44
    go_wp2
    go_loopw [6] (fun iv wr => ∃ k : Nat, k ≤ 16 ∧ iv = .int .i64 k ∧ Hid (∀ j, j < k → overO v j = false) ∧ Hid (Below w.heap.size w wr)) (fun iv _ => 16 - (intOf iv).toNat)
    case atStart => exact ⟨0, by omega, rfl, fun j hj => by omega, Below.refl _ _⟩
    case round =>
      obtain ⟨k, hk, rfl, hall, hB⟩ := hrel
      have hBs := hB.out.size
      by_cases hlt : k < 16
      · have hki : (k : Int) < 16 := by omega
        obtain ⟨lm, hlm'⟩ : ∃ lm, limitV v k = lm := ⟨_, rfl⟩
        obtain ⟨us, hus'⟩ : ∃ us, usedV v (k : Int) = us := ⟨_, rfl⟩
        have h1 := Lib.hid (fun w hr => hlm.out k w hr hlt)
        have h2 := Lib.hid (fun w hr => hus.out k w hr)
        have hov : overO v k = decide (0 < lm ∧ lm < us) := by rw [overO, hlm', hus']
        have hlb : lm < 65536 := by rw [← hlm', limitV]; exact w2_lt _ _
        rw [hlm'] at h1
        simp only [hus'] at h2
        have HOV := Lib.hid hov
        clear hlm' hus' hov
        by_cases hl0 : lm = 0
        · have hf : overO v k = false := by rw [HOV.out]; exact decide_eq_false (by omega)
          have HF := Lib.hid hf
          have hli : ¬ ((0 : Int) < (lm : Int)) := by omega
          clear hf
          go_wp2_with (go_at_call 29; refine (h1.out _ (HR.out.below hB.out)).mono ?_; rintro e w2 ⟨rfl, hb2⟩; have B2 := Lib.hid hb2; clear hb2)
          refine ⟨⟨k + 1, by omega, by go_num, fun j hj => ?_, below_keep' hB.out hBs B2.out⟩, by simp only [intOf]; omega⟩
          rcases Nat.lt_or_ge j k with h | h
          · exact hall.out j h
          · rw [show j = k from by omega]; exact HF.out
        · have hli : (0 : Int) < (lm : Int) := by omega
          by_cases hu : lm < us
          · have hui : (lm : Int) < (us : Int) := by omega
            have hz := hone.out k hlt (by rw [HOV.out]; exact decide_eq_true ⟨by omega, hu⟩)
            have HZ := Lib.hid hz
            clear hz
            go_wp2_with (first
              | (go_at_call 29; refine (h1.out _ (HR.out.below hB.out)).mono ?_; rintro e w2 ⟨rfl, hb2⟩; have B2 := Lib.hid hb2; clear hb2)
              | (go_at_call 30; refine (h2.out _ ((HR.out.below hB.out).below B2.out)).mono ?_; rintro e w3 ⟨rfl, hb3⟩; have B3 := Lib.hid (below_keep B2.out (Nat.le_refl _) hb3); clear hb3))
            go_ret
            exact ⟨ret_int HZ.out.symm, below_keep' hB.out hBs B3.out⟩
          · have hui : ¬ (lm : Int) < (us : Int) := by omega
            have hf : overO v k = false := by rw [HOV.out]; exact decide_eq_false (by omega)
            have HF := Lib.hid hf
            clear hf
            go_wp2_with (first
              | (go_at_call 29; refine (h1.out _ (HR.out.below hB.out)).mono ?_; rintro e w2 ⟨rfl, hb2⟩; have B2 := Lib.hid hb2; clear hb2)
              | (go_at_call 30; refine (h2.out _ ((HR.out.below hB.out).below B2.out)).mono ?_; rintro e w3 ⟨rfl, hb3⟩; have B3 := Lib.hid (below_keep B2.out (Nat.le_refl _) hb3); clear hb3))
            refine ⟨⟨k + 1, by omega, by go_num, fun j hj => ?_, below_keep' hB.out hBs B3.out⟩, by simp only [intOf]; omega⟩
            rcases Nat.lt_or_ge j k with h | h
            · exact hall.out j h
            · rw [show j = k from by omega]; exact HF.out
      · have hki : ¬ (k : Int) < 16 := by omega
        have hz := hnone.out (fun j hj => hall.out j (by omega))
        have HZ := Lib.hid hz
        clear hz
        go_wp2
        go_ret
        exact ⟨ret_int HZ.out.symm, hB.out⟩
  · have hl : limE v ((0 : Nat) : Int) = 3 := by rw [limE, if_neg hv]
    have hlm := Lib.hid (fun w hr => limit_no A c v ((0 : Nat) : Int) w hr (by rw [hl]; decide))
    rw [hl] at hlm
    rw [show checkE v = 3 from if_neg hv]
    clear hv hl
    go_enter Try.func44, Try.ntmps44
    go_wp2
    go_loopw [6] (fun iv wr => iv = .int .i64 ((0 : Nat) : Int) ∧ Hid (Below w.heap.size w wr)) (fun _ _ => 0)
    case atStart => exact ⟨rfl, Below.refl _ _⟩
    case round =>
      obtain ⟨rfl, hB⟩ := hrel
      go_wp2_with (go_at_call 29; refine (hlm.out _ (HR.out.below hB.out)).mono ?_; rintro e w2 ⟨rfl, hb2⟩)
      go_ret
      exact ⟨rfl, below_keep' hB.out hB.out.size hb2⟩
set_option maxHeartbeats 4000000 in
theorem rcheck_ok (A : Option Addr) (c : Nat) (v : Vol) (w : World) (hr : RS w A v) :
    Calls Try.prog 45 #[.slice A v.length c] w fun e w' => e = .returned (.int .i64 (checkE v)) ∧ Below w.heap.size w w' := by
  have HR := Lib.hid hr
  clear hr
  by_cases hv : okV v = true
  · have hlm := Lib.hid (fun (k : Nat) w hr hk => rlimit_ok A c v k w hr hv hk)
    have hus := Lib.hid (fun (k : Nat) w hr => used_ok A c v (k : Int) w hr)
    have hone := Lib.hid (fun k (hk : k < 16) h => checkE_one (v := v) hv hk h)
    have hnone := Lib.hid (fun h => checkE_none (v := v) hv h)
    obtain ⟨ce, hce⟩ : ∃ ce, checkE v = ce := ⟨_, rfl⟩
    rw [hce] at hone hnone ⊢
    clear hv hce
    go_enter Try.func45, Try.ntmps45
    go_wp2
    go_loopw [3] (fun iv wr => ∃ k : Nat, k ≤ 16 ∧ iv = .int .i64 k ∧ Hid (∀ j, j < k → overO v j = false) ∧ Hid (Below w.heap.size w wr)) (fun iv _ => 16 - (intOf iv).toNat)
    case atStart => exact ⟨0, by omega, rfl, fun j hj => by omega, Below.refl _ _⟩
    case round =>
      obtain ⟨k, hk, rfl, hall, hB⟩ := hrel
      have hBs := hB.out.size
      by_cases hlt : k < 16
      · have hki : (k : Int) < 16 := by omega
        obtain ⟨lm, hlm'⟩ : ∃ lm, limitV v k = lm := ⟨_, rfl⟩
        obtain ⟨us, hus'⟩ : ∃ us, usedV v (k : Int) = us := ⟨_, rfl⟩
        have h1 := Lib.hid (fun w hr => hlm.out k w hr hlt)
        have h2 := Lib.hid (fun w hr => hus.out k w hr)
        have hov : overO v k = decide (0 < lm ∧ lm < us) := by rw [overO, hlm', hus']
        have hlb : lm < 65536 := by rw [← hlm', limitV]; exact w2_lt _ _
        rw [hlm'] at h1
        clear h2
        have h2 : Hid (((0 : Int) < (lm : Int) ∧ (lm : Int) < ((usedV v (k : Int) : Nat) : Int)) = (0 < limitV v k ∧ limitV v k < usedV v (k : Int))) := Lib.hid (by apply propext; rw [hlm']; omega)
        have HOV := Lib.hid hov
        clear hlm' hus' hov
        have h3 := Lib.hid (fun w hr => over_ok A c v (k : Int) (lm : Int) w hr (by omega))
        rw [show decide ((0 : Int) < (lm : Int) ∧ (lm : Int) < ((usedV v (k : Int) : Nat) : Int)) = overO v k from by rw [overO]; exact decide_eq_decide.2 (Iff.of_eq h2.out)] at h3
        clear h2 hlb
        by_cases hu : overO v k = true
        · have hz := hone.out k hlt hu
          have HZ := Lib.hid hz
          rw [hu] at h3
          clear hz hu HOV
          go_wp2_with (first
            | (go_at_call 42; refine (h1.out _ (HR.out.below hB.out)).mono ?_; rintro e w2 ⟨rfl, hb2⟩; have B2 := Lib.hid hb2; clear hb2)
            | (go_at_call 68; refine (h3.out _ ((HR.out.below hB.out).below B2.out)).mono ?_; rintro e w3 ⟨rfl, hb3⟩; have B3 := Lib.hid (below_keep B2.out (Nat.le_refl _) hb3); clear hb3))
          go_ret
          exact ⟨ret_int HZ.out.symm, below_keep' hB.out hBs B3.out⟩
        · have hf : overO v k = false := by simpa using hu
          have HF := Lib.hid hf
          rw [hf] at h3
          clear hf hu HOV
          go_wp2_with (first
            | (go_at_call 42; refine (h1.out _ (HR.out.below hB.out)).mono ?_; rintro e w2 ⟨rfl, hb2⟩; have B2 := Lib.hid hb2; clear hb2)
            | (go_at_call 68; refine (h3.out _ ((HR.out.below hB.out).below B2.out)).mono ?_; rintro e w3 ⟨rfl, hb3⟩; have B3 := Lib.hid (below_keep B2.out (Nat.le_refl _) hb3); clear hb3))
          refine ⟨⟨k + 1, by omega, by go_num, fun j hj => ?_, below_keep' hB.out hBs B3.out⟩, by simp only [intOf]; omega⟩
          rcases Nat.lt_or_ge j k with h | h
          · exact hall.out j h
          · rw [show j = k from by omega]; exact HF.out
      · have hki : ¬ (k : Int) < 16 := by omega
        have hz := hnone.out (fun j hj => hall.out j (by omega))
        have HZ := Lib.hid hz
        clear hz
        go_wp2
        go_ret
        exact ⟨ret_int HZ.out.symm, hB.out⟩
  · have hl : limE v ((0 : Nat) : Int) = 3 := by rw [limE, if_neg hv]
    have hlm := Lib.hid (fun w hr => rlimit_no A c v ((0 : Nat) : Int) w hr (by rw [hl]; decide))
    rw [hl] at hlm
    rw [show checkE v = 3 from if_neg hv]
    clear hv hl
    go_enter Try.func45, Try.ntmps45
    go_wp2
    go_loopw [3] (fun iv wr => iv = .int .i64 ((0 : Nat) : Int) ∧ Hid (Below w.heap.size w wr)) (fun _ _ => 0)
    case atStart => exact ⟨rfl, Below.refl _ _⟩
    case round =>
      obtain ⟨rfl, hB⟩ := hrel
      go_wp2_with (go_at_call 42; refine (hlm.out _ (HR.out.below hB.out)).mono ?_; rintro e w2 ⟨rfl, hb2⟩)
      go_ret
      exact ⟨rfl, below_keep' hB.out hB.out.size hb2⟩
end Go.Proofs.Ytacdohlhalnioaa
end

/- The document's example of layer 22, and the law QuotaTells, walked. -/
section
set_option linter.unusedVariables false
set_option linter.unusedSimpArgs false
set_option maxRecDepth 200000
namespace Go.Proofs.Ytacdohlhalnioaa
open Go.RowKit
attribute [local go_sem] Oper.semAt_some

def axT : Blk := [48, 49, 50, 51, 52, 53, 54, 55, 56, 57, 48, 49, 50, 51, 52, 53, 54, 55, 56, 57, 48, 49, 50, 51, 52, 53, 54, 55, 56, 57, 48, 49, 50, 51, 52, 53, 54, 55, 56, 57]
def ax1 : Vol := fmtV 24 8
def ax2 : Vol := putV ax1 1 (freshI 3)
def axR : Option (Vol × Ino) := wrV 40 ax2 (inoV ax2 1) 100 axT
def ax3 : Vol := match axR with
  | none => []
  | some (v', x') => putV v' 1 (if min x'.size 8960 < 140 then x'.setS 140 else x')
def ax4 : Vol := setV ax3 3 2
theorem ax_facts : okV ax1 = true ∧ (inoV ax1 1).kind = 0 ∧ inosV ax1 = 8 ∧ ax1.length = 24 ∧ okV ax2 = true ∧ inosV ax2 = 8 ∧ ax2.length = 24 ∧ axR.isSome = true ∧ okV ax3 = true ∧ ax3.length = 24 ∧ setE ax3 3 1 = 13 ∧ setE ax3 3 2 = 0 ∧ usedV ax3 3 = 2 ∧ okV ax4 = true ∧ ax4.length = 24 ∧ limitV ax4 3 = 2 := by
  decide +kernel
set_option maxHeartbeats 4000000 in
theorem alive_ok (w : World) :
    Calls Try.prog 24 #[] w fun e w' => e = .returned (.bool true) ∧ Below w.heap.size w w' := by
  obtain ⟨f1, f2, f3, f4, f5, f6, f7, f8, f9, f10, f11, f12, f13, f14, f15, f16⟩ := ax_facts
  have hfmt := Lib.hid (fun w => format_ok 24 8 w (by decide))
  have hnew := Lib.hid (fun w A c hr => inew_ok A c ax1 1 3 w hr f1 (Nat.le_refl _) (by omega) (by omega) f2 (fun j h1 h2 => by omega))
  have hwr := Lib.hid (fun w A c hr => write_ok A c ax2 1 100 axT w hr f5 (Nat.le_refl _) (by omega) (by decide) (by decide))
  have hst1 := Lib.hid (fun w A c hr => qset_no A c ax3 3 1 w hr (by rw [f11]; decide))
  have hst2 := Lib.hid (fun w A c hr => qset_ok A c ax3 3 2 w hr f12)
  have hlm := Lib.hid (fun w A c hr => limit_ok A c ax4 3 w hr f14 (by omega))
  have hus := Lib.hid (fun w A c hr => used_ok A c ax3 3 w hr)
  rw [f4, show putV ax1 1 (freshI 3) = ax2 from rfl] at hnew
  rw [f7] at hwr
  rw [f10, f11] at hst1
  rw [f10, show setV ax3 3 2 = ax4 from rfl] at hst2
  rw [f15, f16] at hlm
  rw [f10, f13] at hus
  rw [show fmtV 24 8 = ax1 from rfl] at hfmt
  obtain ⟨⟨v', x'⟩, hR⟩ := Option.isSome_iff_exists.1 f8
  have hx3 : ax3 = putV v' 1 (if min x'.size 8960 < 140 then x'.setS 140 else x') := by rw [ax3, hR]
  have hwr2 : Hid (∀ w A c, RS w A ax2 → Calls Try.prog 35 #[.slice A 24 c, .int .i64 1, .int .i64 100, .string (mk axT)] w fun e w' => ∃ g c', e = .returned (.tuple #[.slice (some ⟨g, 0, none⟩) 24 c', .int .i64 0]) ∧ VS w' g ax3 ∧ w.heap.size ≤ g ∧ Below w.heap.size w w') := by
    refine Lib.hid fun w A c hr => (hwr.out w A c hr).mono ?_
    intro e w' h
    rw [show wrV axT.length ax2 (inoV ax2 1) 100 axT = some (v', x') from hR] at h
    simp only [WAns] at h
    rw [show (100 + axT.length) = 140 from rfl, ← hx3, f7] at h
    exact h
  clear hwr hx3 hR f1 f2 f3 f5 f6 f8 f9 f11 f12 f13 f14 f16
  have L1 := Lib.hid f4
  have L2 := Lib.hid f7
  have L3 := Lib.hid f10
  have L4 := Lib.hid f15
  clear f4 f7 f10 f15
  rw [axT] at hwr2
  generalize ax1 = a1 at *
  generalize ax2 = a2 at *
  generalize ax4 = a4 at *
  generalize ax3 = a3 at *
  go_enter Try.func24, Try.ntmps24
  go_wp2_with (first
    | (go_at_call 48; refine (hfmt.out _).mono ?_; rintro e w1 ⟨g1, rfl, hg1, hs1, hb1⟩)
    | (go_at_call 34; refine (hnew.out _ _ _ (hg1.rs (by rw [L1.out]; omega))).mono ?_; rintro e w2 ⟨g2, c2, rfl, hg2, hs2, hb2⟩)
    | (go_at_call 35; refine (hwr2.out _ _ _ (hg2.rs (by rw [L2.out]; omega))).mono ?_; rintro e w3 ⟨g3, c3, rfl, hg3, hs3, hb3⟩; have HB3 := Lib.hid (below_keep' (below_keep' hb1 hb1.size hb2) (by have := hb1.size; have := hb2.size; omega) hb3); have R3 := Lib.hid (hg3.rs (by rw [L3.out]; omega)))
    | (go_at_call 26; have := HB4; refine (hst2.out _ _ _ R4.out).mono ?_; rintro e w5 ⟨g5, c5, rfl, hg5, hs5, hb5⟩; have HB5 := Lib.hid (below_keep' HB4.out HB4.out.size hb5); have R5 := Lib.hid (R4.out.below hb5); have H5 := Lib.hid (hg5.rs (by rw [L4.out]; omega)); clear hb5 hg5)
    | (go_at_call 26; refine (hst1.out _ _ _ R3.out).mono ?_; rintro e w4 ⟨rfl, hb4⟩; have HB4 := Lib.hid (below_keep' HB3.out HB3.out.size hb4); have R4 := Lib.hid (R3.out.below hb4); clear hb4)
    | (go_at_call 29; refine (hlm.out _ _ _ H5.out).mono ?_; rintro e w6 ⟨rfl, hb6⟩; have HB6 := Lib.hid (below_keep' HB5.out HB5.out.size hb6); have R6 := Lib.hid (R5.out.below hb6); clear hb6)
    | (go_at_call 30; refine (hus.out _ _ _ R6.out).mono ?_; rintro e w7 ⟨rfl, hb7⟩; have HB7 := Lib.hid (below_keep' HB6.out HB6.out.size hb7); clear hb7))
  go_ret
  exact ⟨rfl, HB7.out⟩
set_option maxHeartbeats 4000000 in
theorem qtells_ok (A : Option Addr) (c : Nat) (v : Vol) (o : Int) (w : World) (hr : RS w A v) :
    Calls Try.prog 10 #[.slice A v.length c, .int .i64 o] w fun e w' => e = .returned (.bool true) ∧ Below w.heap.size w w' := by
  have HR := Lib.hid hr
  have hgr := Lib.hid (fun w hr => great18_ok A c v w hr)
  have hl1 := Lib.hid (fun w hr => limit_all A c v o w hr)
  have hl2 := Lib.hid (fun w hr => rlimit_all A c v o w hr)
  have hu1 := Lib.hid (fun w hr => used_ok A c v o w hr)
  have hu2 := Lib.hid (fun w hr => rused_ok A c v o w hr)
  have hc1 := Lib.hid (fun w hr => check_ok A c v w hr)
  have hc2 := Lib.hid (fun w hr => rcheck_ok A c v w hr)
  clear hr
  generalize limI v o = li at *
  generalize limE v o = le at *
  generalize usedV v o = us at *
  generalize checkE v = ce at *
  by_cases hsm : smallQ v = true
  · rw [show greatQ v = 0 from if_pos hsm] at hgr
    go_enter Try.func10, Try.ntmps10
    go_wp2_with (first
      | (go_at_call 24; refine (alive_ok _).mono ?_; rintro e w0 ⟨rfl, hb0⟩; have B0 := Lib.hid hb0; clear hb0)
      | (go_at_call 25; refine (hgr.out _ (HR.out.below B0.out)).mono ?_; rintro e w1 ⟨rfl, rfl⟩)
      | (go_at_call 29; refine (hl1.out _ (HR.out.below B0.out)).mono ?_; rintro e w2 ⟨rfl, hb2⟩; have B2 := Lib.hid (below_keep' B0.out B0.out.size hb2); clear hb2)
      | (go_at_call 42; refine (hl2.out _ (HR.out.below B2.out)).mono ?_; rintro e w3 ⟨rfl, hb3⟩; have B3 := Lib.hid (below_keep' B2.out B2.out.size hb3); clear hb3)
      | (go_at_call 30; refine (hu1.out _ (HR.out.below B3.out)).mono ?_; rintro e w4 ⟨rfl, hb4⟩; have B4 := Lib.hid (below_keep' B3.out B3.out.size hb4); clear hb4)
      | (go_at_call 43; refine (hu2.out _ (HR.out.below B4.out)).mono ?_; rintro e w5 ⟨rfl, hb5⟩; have B5 := Lib.hid (below_keep' B4.out B4.out.size hb5); clear hb5)
      | (go_at_call 44; refine (hc1.out _ (HR.out.below B5.out)).mono ?_; rintro e w6 ⟨rfl, hb6⟩; have B6 := Lib.hid (below_keep' B5.out B5.out.size hb6); clear hb6)
      | (go_at_call 45; refine (hc2.out _ (HR.out.below B6.out)).mono ?_; rintro e w7 ⟨rfl, hb7⟩; have B7 := Lib.hid (below_keep' B6.out B6.out.size hb7); clear hb7))
    go_ret
    exact ⟨rfl, B7.out⟩
  · rw [show greatQ v = 1 from if_neg hsm] at hgr
    go_enter Try.func10, Try.ntmps10
    go_wp2_with (first
      | (go_at_call 24; refine (alive_ok _).mono ?_; rintro e w0 ⟨rfl, hb0⟩; have B0 := Lib.hid hb0; clear hb0)
      | (go_at_call 25; refine (hgr.out _ (HR.out.below B0.out)).mono ?_; rintro e w1 ⟨rfl, rfl⟩))
    go_ret
    exact ⟨rfl, B0.out⟩
end Go.Proofs.Ytacdohlhalnioaa
end

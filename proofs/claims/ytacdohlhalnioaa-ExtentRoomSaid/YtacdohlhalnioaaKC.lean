/- Joined: XNA XL1 XHJ XHK XHL XY8 XY9. -/
import Derived.Test.YtacdohlhalnioaaJ5
import Derived.Test.YtacdohlhalnioaaJ7
import Derived.Test.YtacdohlhalnioaaT9
import Derived.Test.YtacdohlhalnioaaJ2
import Derived.Deep.Slices
import Derived.Lib.SmallJoins
import Derived.Test.YtacdohlhalnioaaKB
/- Rows of numbers that are appended to. -/
section
set_option linter.unusedSimpArgs false
set_option linter.unusedVariables false
set_option maxRecDepth 20000
namespace Go.Proofs.Ytacdohlhalnioaa
open Go.RowKit

def nats (l : List Nat) : List Value := l.map fun n => .int .i64 (n : Nat)
@[simp] theorem nats_length (l : List Nat) : (nats l).length = l.length := by simp [nats]
theorem nats_snoc (l : List Nat) (n : Nat) : nats (l ++ [n]) = nats l ++ [.int .i64 (n : Nat)] := by simp [nats]
theorem below_keep' {B : Nat} {w W w1 : World} (h : Below B w W) (hB : B ≤ W.heap.size) (hb : Below W.heap.size W w1) : Below B w w1 := h.trans (hb.mono hB)
theorem cell_one_at (w : World) (v : Value) (t : TypeId) {m : Nat} (h : w.heap.size = m) : ∀ (j : Nat) (u : Value), [v][j]? = some u → (w.alloc (.cells #[v] t)).cell? ((⟨m, 0, none⟩ : Addr).add j) = some u := by
  subst h
  exact cell_one_new w v t
theorem grow_box {W W1 W2 : World} {e : TypeId} {q base m : Nat} {o : Obj} {u u' y : Value} {xs : List Value} (hq : W.heap[q]? = some o) (ho : W.ownsRow base e 1 u m xs) (hne : ∀ g, u.ownBlock = some g → g ≠ q) (hb : Below W.heap.size W W1) (hg : (W1.alloc (.cells #[y] e)).grownBy W2 u.ownBlock)
    (how : u'.ownBlock = u.ownBlock ∨ u'.ownBlock = some (W1.alloc (.cells #[y] e)).heap.size) :
    W2.heap[q]? = some o ∧ (∀ g, u'.ownBlock = some g → g ≠ q) ∧ ∀ (w : World) (B : Nat), Below B w W → B ≤ W.heap.size → B ≤ base → Below B w W2 := by
  have hl := blk_lt hq
  have hs := hb.size
  refine ⟨(hg.block q (by simp; omega) (fun e => hne q e.symm rfl)).trans (blk_keep hq (hb.alloc hb.size _)), fun r e => ?_, fun w B h1 h2 h3 => (below_keep' h1 h2 (hb.alloc hb.size _)).grown hg (by simp; omega) (fun r e => Nat.le_trans h3 (ho.lt r e).1)⟩
  rcases how with h | h
  · rw [h] at e
    exact hne r e
  · rw [h] at e
    have := Option.some.inj e
    simp at this
    omega
end Go.Proofs.Ytacdohlhalnioaa
end

/- Contracts of the law's helpers: is a volume great; the chapter's example. -/
section
set_option linter.unusedSimpArgs false
set_option linter.unusedVariables false
set_option maxRecDepth 20000
namespace Go.Proofs.Ytacdohlhalnioaa
open Go.RowKit
attribute [local go_sem] Oper.semAt_some

/-- A volume that is gone through. -/
def smallV (v : Vol) : Bool := decide (v.length ≤ 64) && v.all fun s => decide (s.length ≤ 300)
theorem smallV_iff {v : Vol} : smallV v = true ↔ v.length ≤ 64 ∧ ∀ j, j < v.length → (bk v j).length ≤ 300 := by
  simp only [smallV, Bool.and_eq_true, decide_eq_true_eq, List.all_eq_true]
  constructor
  · rintro ⟨h1, h2⟩
    exact ⟨h1, fun j hj => by rw [← bk_get v j hj]; exact h2 _ (List.getElem_mem hj)⟩
  · rintro ⟨h1, h2⟩
    refine ⟨h1, fun s hs => ?_⟩
    obtain ⟨j, hj, rfl⟩ := List.getElem_of_mem hs
    rw [bk_get v j hj]
    exact h2 j hj
def greatI (v : Vol) : Int := if smallV v = true then 0 else 1
theorem greatI_small {v : Vol} (h : v.length ≤ 64) (h2 : ∀ j, j < v.length → (bk v j).length ≤ 300) : greatI v = 0 := if_pos (smallV_iff.2 ⟨h, h2⟩)
theorem greatI_long {v : Vol} (h : 64 < v.length) : greatI v = 1 := if_neg fun e => by have := (smallV_iff.1 e).1; omega
theorem greatI_one {v : Vol} {j : Nat} (hj : j < v.length) (h : 300 < (bk v j).length) : greatI v = 1 := if_neg fun e => by have := (smallV_iff.1 e).2 j hj; omega
set_option maxHeartbeats 1000000 in
theorem great_ok (A : Option Addr) (c : Nat) (v : Vol) (w : World) (hr : RS w A v) :
    Calls Try.prog 16 #[.slice A v.length c] w fun e w' => e = .returned (.int .i64 (greatI v)) ∧ w = w' := by
  have hl := hr.1
  by_cases h64 : 64 < v.length
  · rw [greatI_long h64]
    have hi : (64 : Int) < (v.length : Nat) := by omega
    clear hr
    go_enter Try.func16, Try.ntmps16
    go_wp2
    go_ret
    exact ⟨rfl, rfl⟩
  · have hi : ¬ (64 : Int) < (v.length : Nat) := by omega
    by_cases h0 : v.length = 0
    · rw [greatI_small (by omega) (fun j hj => by omega)]
      clear hr hi h64
      have hz : v = [] := List.length_eq_zero_iff.1 h0
      subst hz
      go_enter Try.func16, Try.ntmps16
      go_wp2
      go_loop [10] (fun iv => iv = .int .i64 0) (fun iv => 0)
      case atStart => rfl
      case round =>
        subst hrel
        go_wp2
        go_ret
        exact ⟨rfl, rfl⟩
    · obtain ⟨bA, oA, rfl, hbA, hc⟩ := hr.open_ (by omega)
      have HC := Lib.hid hc
      clear hr hc
      go_enter Try.func16, Try.ntmps16
      go_wp2
      go_loop [10] (fun iv => ∃ k : Nat, k ≤ v.length ∧ iv = .int .i64 k ∧ ∀ j, j < k → (bk v j).length ≤ 300) (fun iv => v.length - (intOf iv).toNat)
      case atStart => exact ⟨0, by omega, rfl, fun j hj => by omega⟩
      case round =>
        obtain ⟨k, hk, rfl, hall⟩ := hrel
        have HA := Lib.hid hall
        clear hall
        by_cases hlt : k < v.length
        · have hci := HC.out k hlt
          have hki : (k : Int) < (v.length : Nat) := by omega
          by_cases h3 : 300 < (bk v k).length
          · have h3i : (300 : Int) < ((bk v k).length : Nat) := by omega
            have hg := greatI_one hlt h3
            have HG := Lib.hid hg
            clear hg h3
            generalize bk v k = s at *
            go_wp2
            go_ret
            exact ⟨ret_int HG.out.symm, rfl⟩
          · have h3i : ¬ (300 : Int) < ((bk v k).length : Nat) := by omega
            have hall : ∀ j, j < k + 1 → (bk v j).length ≤ 300 := fun j hj => by
              rcases Nat.lt_or_ge j k with h | h
              · exact HA.out j h
              · have : j = k := by omega
                rw [this]; omega
            have HA2 := Lib.hid hall
            clear hall
            generalize bk v k = s at *
            go_wp2
            exact ⟨⟨k + 1, by omega, by go_num, HA2.out⟩, by simp only [intOf]; omega⟩
        · have hg : greatI v = 0 := greatI_small (by omega) (fun j hj => HA.out j (by omega))
          have HG := Lib.hid hg
          clear hg
          have hki : ¬ (k : Int) < (v.length : Nat) := by omega
          go_wp2
          go_ret
          exact ⟨ret_int HG.out.symm, rfl⟩
theorem own_open {w : World} {base e n : Nat} {u : Value} {xs : List Value} (h : w.ownsRow base e 1 u n xs) (h0 : 0 < n) : ∃ g cap, u = .slice (some ⟨g, 0, none⟩) n cap ∧ base ≤ g ∧ ∀ j y, xs[j]? = some y → w.cell? ⟨g, j, none⟩ = some y := by
  rcases h.2 with ⟨rfl, h1⟩ | ⟨g, cap, cur, rfl, h1, _⟩
  · omega
  · refine ⟨g, cap, rfl, h1, fun j y hy => ?_⟩
    have := h.cells (g := g) rfl j y hy
    by_cases hj : j = 0
    · subst hj; simpa [Addr.add] using this
    · simpa [Addr.add, hj] using this
set_option maxHeartbeats 4000000 in
theorem fixed_ok (w : World) :
    Calls Try.prog 17 #[] w fun e w' => e = .returned (.bool true) ∧ Below w.heap.size w w' := by
  obtain ⟨f1, f2, f3, f4, f5, f6, f7, f8, f9, f10, f11, f12, f13⟩ := fx_facts
  have hfmt := Lib.hid (fun w => format_ok 24 4 w (by decide))
  have hnew := Lib.hid (fun w A c hr => inew_ok A c fx1 1 0 w hr f1 (Nat.le_refl _) (by omega) (by omega) f2 (fun j h1 h2 => by omega))
  have hwr := Lib.hid (fun w A c hr => write_ok A c fx2 1 300 [120] w hr f5 (Nat.le_refl _) (by omega) (by simp) (by simp))
  have hbl := Lib.hid (fun w A c hr => blocks_ok A c fx3 1 w hr f9 (Nat.le_refl _) (by omega) (inoV_size _ _))
  have hct := Lib.hid (fun w A c hr => count_ok A c fx3 1 w hr f9 (Nat.le_refl _) (by omega) (inoV_size _ _))
  rw [f4, show putV fx1 1 (freshI 0) = fx2 from rfl] at hnew
  rw [f7] at hwr
  rw [f11, f12] at hbl
  rw [f11, f13] at hct
  rw [show fmtV 24 4 = fx1 from rfl] at hfmt
  obtain ⟨⟨v', x'⟩, hR⟩ := Option.isSome_iff_exists.1 f8
  have hx3 : fx3 = putV v' 1 (if min x'.size 8960 < 301 then x'.setS 301 else x') := by rw [fx3, hR]
  have hwr2 : Hid (∀ w A c, RS w A fx2 → Calls Try.prog 35 #[.slice A 24 c, .int .i64 1, .int .i64 300, .string (mk [120])] w fun e w' => ∃ g c', e = .returned (.tuple #[.slice (some ⟨g, 0, none⟩) 24 c', .int .i64 0]) ∧ VS w' g fx3 ∧ w.heap.size ≤ g ∧ Below w.heap.size w w') := by
    refine Lib.hid fun w A c hr => (hwr.out w A c hr).mono ?_
    intro e w' h
    rw [show wrV [(120 : UInt8)].length fx2 (inoV fx2 1) 300 [120] = some (v', x') from hR] at h
    simp only [WAns] at h
    rw [show (300 + [(120 : UInt8)].length) = 301 from rfl, ← hx3, f7] at h
    exact h
  clear hwr hx3 hR f1 f2 f3 f5 f6 f8 f9 f10 f12 f13
  have L1 := Lib.hid f4
  have L2 := Lib.hid f7
  have L3 := Lib.hid f11
  clear f4 f7 f11
  generalize fx1 = a1 at *
  generalize fx2 = a2 at *
  generalize fx3 = a3 at *
  go_enter Try.func17, Try.ntmps17
  go_wp2_with (first
    | (go_at_call 48; refine (hfmt.out _).mono ?_; rintro e w1 ⟨g1, rfl, hg1, hs1, hb1⟩)
    | (go_at_call 34; refine (hnew.out _ _ _ (hg1.rs (by rw [L1.out]; omega))).mono ?_; rintro e w2 ⟨g2, c2, rfl, hg2, hs2, hb2⟩)
    | (go_at_call 35; refine (hwr2.out _ _ _ (hg2.rs (by rw [L2.out]; omega))).mono ?_; rintro e w3 ⟨g3, c3, rfl, hg3, hs3, hb3⟩)
    | (go_at_call 18; refine (hbl.out _ _ _ (hg3.rs (by rw [L3.out]; omega))).mono ?_; rintro e w4 ⟨u, rfl, ho4, hb4⟩; obtain ⟨g4, cap4, rfl, hs4, hc4⟩ := own_open ho4 (by simp); have k0 := hc4 0 _ rfl; have k1 := hc4 1 _ rfl; have k2 := hc4 2 _ rfl; clear hc4 ho4)
    | (go_at_call 22; refine (hct.out _ _ _ ((hg3.rs (by rw [L3.out]; omega)).below hb4)).mono ?_; rintro e w5 ⟨rfl, hb5⟩))
  go_ret
  refine ⟨rfl, ?_⟩
  have s1 := hb1.size
  have s2 := hb2.size
  have s3 := hb3.size
  have s4 := hb4.size
  exact below_keep (below_keep (below_keep (below_keep hb1 (Nat.le_refl _) hb2) (by omega) hb3) (by omega) hb4) (by omega) hb5
end Go.Proofs.Ytacdohlhalnioaa
end

/- A row of acts that came in: what it reads as. -/
section
set_option linter.unusedVariables false
set_option linter.unusedSimpArgs false
set_option maxRecDepth 20000
namespace Go.Proofs.Ytacdohlhalnioaa
open Go.ChangeShapes Go.WideShapes Go.ChangeAt Go.RowKit

/-- What is done with a file. -/
structure Deed where
  kind : Int
  n : Int
  off : Int
  data : Blk
instance : Inhabited Deed := ⟨⟨0, 0, 0, []⟩⟩
/-- A slice reads as a row of deeds. -/
def RA (w : World) (A : Option Addr) (l : List Deed) : Prop := l.length ≤ 9223372036854775807 ∧ (l ≠ [] → ∃ b o, A = some ⟨b, o, none⟩ ∧ b < w.heap.size ∧ ∀ i a, l[i]? = some a →
  w.cell? ⟨b, o + i * 4, none⟩ = some (.int .i64 a.kind) ∧ w.cell? ⟨b, o + i * 4 + 1, none⟩ = some (.int .i64 a.n) ∧ w.cell? ⟨b, o + i * 4 + 2, none⟩ = some (.int .i64 a.off) ∧ w.cell? ⟨b, o + i * 4 + 3, none⟩ = some (.string (mk a.data)))
/-- A deed's numbers are those of the machine, its text of a length that may be. -/
def okD (a : Deed) : Prop := (-9223372036854775808 ≤ a.kind ∧ a.kind ≤ 9223372036854775807) ∧ (-9223372036854775808 ≤ a.n ∧ a.n ≤ 9223372036854775807) ∧ (-9223372036854775808 ≤ a.off ∧ a.off ≤ 9223372036854775807) ∧ (a.data.length : Int) ≤ 140737488351232
theorem add_at (b o j : Nat) : (⟨b, o, none⟩ : Addr).add j = ⟨b, o + j, none⟩ := by
  by_cases h0 : j = 0
  · subst h0; simp [Addr.add]
  · simp [Addr.add, h0]
theorem cell_lt {w : World} {b o : Nat} {v : Value} (h : w.cell? ⟨b, o, none⟩ = some v) : b < w.heap.size := by
  rcases Nat.lt_or_ge b w.heap.size with h1 | h1
  · exact h1
  · simp only [World.cell?, Array.getElem?_eq_none h1] at h
    cases h
theorem weightsAll_mem {H : Type} {P : Program} {e : TypeId} {d : DataW H} {n : Nat} : ∀ {l : List (DataW H)}, d ∈ l → n ∈ d.weights P e → n ∈ DataW.weightsAll P e l
  | x :: l, hd, hn => by
    rw [DataW.weightsAll, List.mem_append]
    rcases List.mem_cons.1 hd with rfl | hd
    · exact .inl hn
    · exact .inr (weightsAll_mem hd hn)
theorem Try.cellsAct : Try.prog.cellsOf 55 = 4 := by kernel_rfl
theorem Try.cellsInt : Try.prog.cellsOf 3 = 1 := by kernel_rfl
theorem open_deeds {H : Type} {enc : TypeId × Value → H} {W : World} {v : Value} {d : DataW H} {p : List MemPlace} {ts : List TypeId} {ds : List (DataW H)} {j : Nat}
    (hok : ∃ a len cap, v = .slice a len cap) (h : DataW.Trod enc Try.prog W 0 (fun _ => true) true 52 v d p) (hp : ∀ x ∈ p, x.block < W.heap.size)
    (hsz : (DataW.weightsEach Try.prog ts ds).all (· ≤ reachBytes) = true) (ht : ts[j]? = some 52) (hd : ds[j]? = some d) :
    ∃ (A : Option Addr) (l : List Deed) (c : Nat), v = .slice A l.length c ∧ RA W A l ∧ ∀ a ∈ l, okD a := by
  obtain ⟨a, len, cap, rfl⟩ := hok
  obtain ⟨fuel, hf⟩ := h
  rcases Deep.open_slice Try.underlying52 hf with ⟨hcs, hx⟩ | ⟨a', len', cap', m, n, D, Pl, hcs, _, hl, hm, hmm, hx, hi⟩
  · simp [Value.cells] at hcs
    obtain ⟨rfl, rfl, rfl⟩ := hcs
    exact ⟨none, [], 0, rfl, ⟨by simp, fun h => absurd rfl h⟩, fun a h => by cases h⟩
  · simp [Value.cells] at hcs
    obtain ⟨rfl, rfl, rfl⟩ := hcs
    simp only [if_true] at hmm
    subst hmm
    simp only [Prod.mk.injEq] at hx
    obtain ⟨hdd, hpp⟩ := hx
    have each : ∀ i, i < len → ∃ q : Deed, (W.cell? (a'.add (i * 4)) = some (.int .i64 q.kind) ∧ W.cell? (a'.add (i * 4 + 1)) = some (.int .i64 q.n) ∧ W.cell? (a'.add (i * 4 + 2)) = some (.int .i64 q.off) ∧ W.cell? (a'.add (i * 4 + 3)) = some (.string (mk q.data))) ∧ okD q := by
      intro i hil
      obtain ⟨cs', h1, h2⟩ := hi i (by omega)
      rw [Try.cellsAct] at h1
      obtain ⟨_, hlen, hcell⟩ := World.cells?_some h1
      obtain ⟨y0, y1, y2, y3, k, hxy, _, g0, g1, g2, g3⟩ := Joins.trod_struct4 Try.underlying55 h2
      match cs', hlen with
      | [v0, v1, v2, v3], _ =>
        have e0 := hcell 0 (by omega)
        have e1 := hcell 1 (by omega)
        have e2 := hcell 2 (by omega)
        have e3 := hcell 3 (by omega)
        rw [Deep.add_add] at e0 e1 e2 e3
        simp only [List.drop_zero, List.drop_succ_cons, Try.cellsInt, Try.cellsStr, List.take_succ_cons, List.take_zero] at g0 g1 g2 g3
        obtain ⟨z0, r0, _, w0⟩ := DataW.trod_int Try.underlying3 g0
        obtain ⟨z1, r1, _, w1⟩ := DataW.trod_int Try.underlying3 g1
        obtain ⟨z2, r2, _, w2⟩ := DataW.trod_int Try.underlying3 g2
        obtain ⟨s, r3, q3, _⟩ := DataW.trod_string Try.underlying9 g3
        simp only [List.cons.injEq, and_true] at r0 r1 r2 r3
        subst r0 r1 r2 r3
        simp only [List.getElem?_cons_zero, List.getElem?_cons_succ, Nat.add_zero] at e0 e1 e2 e3
        refine ⟨⟨z0, z1, z2, s.data.toList⟩, ⟨e0, e1, e2, by rw [e3, mk_of]⟩, ?_⟩
        have b0 := bounds_i64 w0
        have b1 := bounds_i64 w1
        have b2 := bounds_i64 w2
        refine ⟨by omega, by omega, by omega, ?_⟩
        simp only [Prod.mk.injEq] at hxy
        have hmem : s.data.toList.length ∈ DataW.weightsEach Try.prog ts ds := by
          refine DataW.weights_mem_each ht hd _ ?_
          rw [hdd, DataW.weights, Try.underlying52]
          refine List.mem_cons_of_mem _ (List.mem_append_left _ (weightsAll_mem (List.mem_map.2 ⟨i, List.mem_range.2 hil, rfl⟩) ?_))
          rw [hxy.1, DataW.weights, Try.underlying55]
          refine DataW.weights_mem_each (j := 3) (t := 9) (d := y3.1) rfl rfl _ ?_
          rw [q3]
          exact List.mem_singleton.2 rfl
        have := of_decide_eq_true (List.all_eq_true.1 hsz _ hmem)
        simp only [reachBytes] at this
        show ((s.data.toList.length : Nat) : Int) ≤ 140737488351232
        omega
    obtain ⟨q, hq⟩ := Deep.choose_lt each
    have hlen : ((List.range len).map q).length = len := by simp
    refine ⟨some a', (List.range len).map q, m, by rw [hlen], ⟨by rw [hlen]; simp only [maxLen] at hm; omega, fun h0 => ?_⟩, fun y hy => ?_⟩
    · have hl0 : 0 < len := by
        rcases Nat.eq_zero_or_pos len with h | h
        · subst h; exact absurd rfl h0
        · exact h
      obtain ⟨b, off, spot⟩ := a'
      have hc0 := (hq 0 hl0).1.1
      have hspot : spot = none := by simpa [Addr.add] using World.cell?_spot hc0
      subst hspot
      rw [add_at] at hc0
      refine ⟨b, off, rfl, cell_lt hc0, fun i y hy => ?_⟩
      rw [List.getElem?_map] at hy
      obtain ⟨k, hk, rfl⟩ := Option.map_eq_some_iff.1 hy
      obtain ⟨hil, hk2⟩ := List.getElem?_eq_some_iff.1 hk
      rw [List.getElem_range] at hk2
      subst hk2
      have hil' : i < len := by simpa using hil
      have := (hq i hil').1
      simp only [add_at] at this
      obtain ⟨c0, c1, c2, c3⟩ := this
      exact ⟨c0, by rw [Nat.add_assoc]; exact c1, by rw [Nat.add_assoc]; exact c2, by rw [Nat.add_assoc]; exact c3⟩
    · obtain ⟨i, hi2, rfl⟩ := List.mem_map.1 hy
      exact (hq i (List.mem_range.1 hi2)).2
theorem RA.keep {w w' : World} {A : Option Addr} {l : List Deed} (h : RA w A l) (hb : Below w.heap.size w w') : RA w' A l := by
  refine ⟨h.1, fun h0 => ?_⟩
  obtain ⟨b, o, e, hlt, hc⟩ := h.2 h0
  refine ⟨b, o, e, Nat.lt_of_lt_of_le hlt hb.size, fun i a ha => ?_⟩
  obtain ⟨c0, c1, c2, c3⟩ := hc i a ha
  exact ⟨cell_keep c0 hb, cell_keep c1 hb, cell_keep c2 hb, cell_keep c3 hb⟩
end Go.Proofs.Ytacdohlhalnioaa
end

/- Contract: whether acts are more than is gone through. -/
section
set_option linter.unusedVariables false
set_option linter.unusedSimpArgs false
set_option maxRecDepth 20000
namespace Go.Proofs.Ytacdohlhalnioaa
open Go.RowKit
attribute [local go_sem] Oper.semAt_some

set_option maxHeartbeats 1000000 in
theorem dgreat_ok (A : Option Addr) (c : Nat) (l : List Deed) (w : World) (hr : RA w A l) :
    Calls Try.prog 36 #[.slice A l.length c] w fun e w' => (∃ b, e = .returned (.bool b)) ∧ Below w.heap.size w w' := by
  have HR := Lib.hid hr
  have hL := hr.1
  clear hr
  go_enter Try.func36, Try.ntmps36
  go_wp2
  go_loopw [3, 8] (fun sv kv wr => ∃ (k : Nat) (z : Int), k ≤ l.length ∧ sv = .int .i64 z ∧ kv = .int .i64 k ∧ Hid (Below w.heap.size w wr)) (fun _ kv _ => l.length - (intOf kv).toNat)
  case atStart => exact ⟨0, 0, by omega, rfl, rfl, Below.refl _ _⟩
  case round =>
    obtain ⟨k, z, hk, rfl, rfl, hB⟩ := hrel
    by_cases hlt : k < l.length
    · have hki : (k : Int) < (l.length : Nat) := by omega
      obtain ⟨b, o, hAe, hbl, hc⟩ := HR.out.2 (by intro e; rw [e] at hlt; exact absurd hlt (by simp))
      obtain ⟨d, hd⟩ : ∃ d, l[k]? = some d := ⟨_, List.getElem?_eq_getElem hlt⟩
      obtain ⟨c0, c1, c2, c3⟩ := hc k d hd
      have c0 := cell_keep c0 hB.out
      have c1 := cell_keep c1 hB.out
      have c2 := cell_keep c2 hB.out
      have c3 := cell_keep c3 hB.out
      subst hAe
      clear hc hd
      go_wp2
      refine ⟨⟨k + 1, _, by omega, rfl, by go_num, hB.out.alloc hB.out.size _⟩, by simp only [intOf]; go_num⟩
    · obtain rfl : k = l.length := by omega
      go_wp2
      go_ret
      exact ⟨⟨_, rfl⟩, hB.out⟩
end Go.Proofs.Ytacdohlhalnioaa
end

/- Contract: whether two volumes are the same (the document's, of the extents' layer). -/
section
set_option linter.unusedVariables false
set_option linter.unusedSimpArgs false
set_option maxRecDepth 20000
namespace Go.Proofs.Ytacdohlhalnioaa
open Go.RowKit
attribute [local go_sem] Oper.semAt_some

set_option maxHeartbeats 1000000 in
theorem same19_ok (A B : Option Addr) (c c' : Nat) (v v' : Vol) (w : World) (hr : RS w A v) (hr' : RS w B v') :
    Calls Try.prog 40 #[.slice A v.length c, .slice B v'.length c'] w fun e w' => e = .returned (.bool (decide (v = v'))) ∧ Below w.heap.size w w' := by
  have hl := hr.1
  by_cases hne : v.length = v'.length
  · by_cases h0 : v.length = 0
    · have hz : v = [] := List.length_eq_zero_iff.1 h0
      have hz' : v' = [] := List.length_eq_zero_iff.1 (by omega)
      subst hz hz'
      clear hr hr' hne h0
      go_enter Try.func40, Try.ntmps40
      go_wp2
      go_loop [5] (fun iv => iv = .int .i64 0) (fun iv => 0)
      case atStart => rfl
      case round =>
        subst hrel
        go_wp2
        go_ret
        exact ⟨rfl, Below.refl _ _⟩
    · obtain ⟨bA, oA, rfl, hbA, hc⟩ := hr.open_ (by omega)
      obtain ⟨bB, oB, rfl, hbB, hc'⟩ := hr'.open_ (by omega)
      have HC := Lib.hid hc
      have HC' := Lib.hid hc'
      have hv : v = v' ↔ ∀ j, j < v.length → bk v j = bk v' j := by
        constructor
        · rintro rfl j _; rfl
        · intro h
          refine List.ext_getElem hne (fun j h1 h2 => ?_)
          rw [bk_get, bk_get]
          exact h j h1
      have HV := Lib.hid hv
      have HN := Lib.hid hne
      rw [← hne]
      clear hr hr' hc hc' hv hne
      go_enter Try.func40, Try.ntmps40
      go_wp2
      go_loopw [5] (fun iv wr => ∃ k : Nat, k ≤ v.length ∧ iv = .int .i64 k ∧ (∀ j, j < k → bk v j = bk v' j) ∧ Hid (Below w.heap.size w wr)) (fun iv _ => v.length - (intOf iv).toNat)
      case atStart => exact ⟨0, by omega, rfl, fun j hj => by omega, Below.refl _ _⟩
      case round =>
        obtain ⟨k, hk, rfl, hall, hB⟩ := hrel
        have HA := Lib.hid hall
        clear hall
        by_cases hlt : k < v.length
        · have hki : (k : Int) < (v.length : Nat) := by omega
          have ca := cell_keep (HC.out k hlt) hB.out
          have cb := cell_keep (HC'.out k (by rw [← HN.out]; exact hlt)) hB.out
          by_cases he : bk v k = bk v' k
          · have hall : ∀ j, j < k + 1 → bk v j = bk v' j := fun j hj => by
              rcases Nat.lt_or_ge j k with h | h
              · exact HA.out j h
              · have : j = k := by omega
                rw [this]; exact he
            have HA2 := Lib.hid hall
            rw [← he] at cb
            clear hall he
            generalize bk v k = s at *
            go_wp2
            go_quiet (fail)
            rename_i nq
            go_wp2
            exact ⟨⟨k + 1, by omega, by go_num, HA2.out, below_keep hB.out (Nat.le_refl _) (below_drewN' _ _)⟩, by simp only [intOf]; omega⟩
          · have hd : decide (v = v') = false := decide_eq_false (fun e => he (HV.out.1 e k hlt))
            have HD := Lib.hid hd
            clear hd
            generalize bk v k = s at *
            generalize bk v' k = s' at *
            have he1 : (s == s') = false := by simpa using he
            have he2 : (s != s') = true := by simp [bne, he1]
            have he3 : ¬ mk s = mk s' := fun e => he (mk_inj e)
            go_wp2
            go_quiet (fail)
            rename_i nq
            go_wp2
            go_ret
            exact ⟨ret_bool HD.out.symm, below_keep hB.out (Nat.le_refl _) (below_drewN' _ _)⟩
        · have hd : decide (v = v') = true := decide_eq_true (HV.out.2 (fun j hj => HA.out j (by omega)))
          have HD := Lib.hid hd
          have hki : ¬ (k : Int) < (v.length : Nat) := by omega
          clear hd
          go_wp2
          go_ret
          exact ⟨ret_bool HD.out.symm, hB.out⟩
  · have hd : decide (v = v') = false := decide_eq_false (fun e => hne (by rw [e]))
    rw [hd]
    have hbn : ((v.length : Int) != (v'.length : Int)) = true := by simp; omega
    clear hr hr' hd
    go_enter Try.func40, Try.ntmps40
    go_wp2
    go_ret
    exact ⟨rfl, Below.refl _ _⟩
end Go.Proofs.Ytacdohlhalnioaa
end

/- The pure law of files: the volumes that acts lead to. -/
section
set_option linter.unusedVariables false
set_option linter.unusedSimpArgs false
set_option maxRecDepth 200000
namespace Go.Proofs.Ytacdohlhalnioaa
open Go.RowKit

/-- What holds of a file that was made by writes and cuts. -/
structure Fl (v : Vol) (x : Ino) : Prop where
  size : x.size ≤ 8960
  tail : ∀ k, k < 70 → refV v x k ≠ 0 → 128 * k < x.size
  zero : ∀ i, i < 8960 → x.size ≤ i → gb (blkV v x (i / 128)) (i % 128) = 0
  ext : x.ext = 0
/-- The three files. -/
def S3 (n : Nat) : Prop := 1 ≤ n ∧ n ≤ 3
def lv0 : Vol := fmtV 40 4
def lv1 : Vol := putV lv0 1 (freshI 0)
def lv2 : Vol := putV lv1 2 (freshI 0)
def lv3 : Vol := putV lv2 3 (freshI 0)
theorem lv_facts : (okV lv0 = true ∧ okV lv1 = true ∧ okV lv2 = true ∧ okV lv3 = true) ∧ (inosV lv0 = 4 ∧ inosV lv1 = 4 ∧ inosV lv2 = 4 ∧ inosV lv3 = 4) ∧ (lv0.length = 40 ∧ lv1.length = 40 ∧ lv2.length = 40 ∧ lv3.length = 40) ∧
    ((inoV lv0 1).kind = 0 ∧ (inoV lv1 1).kind ≠ 0 ∧ (inoV lv1 2).kind = 0 ∧ (inoV lv2 1).kind ≠ 0 ∧ (inoV lv2 2).kind ≠ 0 ∧ (inoV lv2 3).kind = 0) ∧ (inoV lv3 1 = freshI 0 ∧ inoV lv3 2 = freshI 0 ∧ inoV lv3 3 = freshI 0) ∧ freeN lv3 = freeN lv0 := by
  decide +kernel
theorem ref_fresh (v : Vol) (o κ : Nat) : refV v (freshI o) κ = 0 := by
  have hd := dataV_pos v
  by_cases h : κ < 70
  · by_cases h6 : κ < 6
    · rw [refV_at _ _ h, atN, numV_near h6]
      have e : (freshI o).list.getD (4 + κ) 0 = 0 := by
        rcases (by omega : κ = 0 ∨ κ = 1 ∨ κ = 2 ∨ κ = 3 ∨ κ = 4 ∨ κ = 5) with rfl | rfl | rfl | rfl | rfl | rfl <;> rfl
      rw [e, ite_self]
    · exact refV_far0 _ _ (by omega) h (goodN_zero _ _)
  · rw [refV, if_neg h]
    have e : gz (dataV v) v.length 0 = 0 := by rw [gz, ite_self]
    split
    · exact e
    · exact e
theorem fl_fresh (v : Vol) (o : Nat) : Fl v (freshI o) :=
  ⟨by show 0 ≤ 8960; omega, fun k _ h => absurd (ref_fresh v o k) h, fun i _ _ => by rw [blkV, ref_fresh, if_pos rfl, gb_zeros], rfl⟩
theorem cnt_fresh (v : Vol) (o : Nat) : cntR v (freshI o) = 0 := by
  rw [cntR, List.countP_eq_zero]
  intro κ _
  rw [ref_fresh]
  simp
/-- A volume that acts lead to. -/
structure LV (v : Vol) : Prop where
  sv : SV S3 v
  len : v.length = 40
  ino : inosV v = 4
  fl : ∀ n, S3 n → Fl v (inoV v n)
  room : freeN v + (cntR v (inoV v 1) + cntR v (inoV v 2) + cntR v (inoV v 3)) = freeN lv0
theorem lv_start : LV lv3 := by
  obtain ⟨⟨_, _, _, h3⟩, ⟨_, _, _, i3⟩, ⟨_, _, _, l3⟩, _, ⟨f1, f2, f3⟩, hf⟩ := lv_facts
  have hi : ∀ n, S3 n → inoV lv3 n = freshI 0 := fun n hn => by
    obtain ⟨a, b⟩ := hn
    rcases (by omega : n = 1 ∨ n = 2 ∨ n = 3) with rfl | rfl | rfl
    · exact f1
    · exact f2
    · exact f3
  refine ⟨⟨h3, fun n hn => ⟨hn.1, by have := hn.2; omega⟩, ⟨fun n κ hn _ h0 => ?_, fun n κ m l hn _ _ _ h0 => ?_⟩⟩, l3, i3, fun n hn => by rw [hi n hn]; exact fl_fresh _ _, ?_⟩
  · rw [hi n hn, ref_fresh] at h0
    exact absurd rfl h0
  · rw [hi n hn, ref_fresh] at h0
    exact absurd rfl h0
  · rw [f1, f2, f3, cnt_fresh, hf]
    rfl
theorem Fl.congr {v w : Vol} {x : Ino} (h : Fl v x) (hr : ∀ κ, refV w x κ = refV v x κ) (hb : ∀ j, j < 70 → blkV w x j = blkV v x j) : Fl w x :=
  ⟨h.size, fun k hk h0 => h.tail k hk (by rw [← hr]; exact h0), fun i hi hs => by rw [hb _ (by omega)]; exact h.zero i hi hs, h.ext⟩
/-- What a turn of one file asks of it. -/
theorem LV.chg {v w : Vol} {n : Nat} {y : Ino} (h : LV v) (hn : S3 n) (hc : Chg S3 v n w y) (hf : Fl w (inoV w n)) : LV w := by
  refine ⟨hc.sv, by rw [hc.kept.len, h.len], by rw [hc.kept.ino, h.ino], fun m hm => ?_, ?_⟩
  · by_cases e : m = n
    · rw [e]; exact hf
    · have h1 := hc.ino m (h.sv.rng m hm).1 (h.sv.rng m hm).2 e
      have h2 := hc.ref m hm e
      have h3 := hc.blk m hm e
      rw [h1] at h2 h3 ⊢
      exact (h.fl m hm).congr h2 h3
  · have hr := h.room
    have hm := hc.map
    rw [← hc.here] at hm
    have e : ∀ m, S3 m → m ≠ n → cntR w (inoV w m) = cntR v (inoV v m) := fun m hm hmn => cntR_congr (hc.ref m hm hmn)
    have a1 := e 1 ⟨by omega, by omega⟩
    have a2 := e 2 ⟨by omega, by omega⟩
    have a3 := e 3 ⟨by omega, by omega⟩
    obtain ⟨n1, n2⟩ := hn
    rcases (by omega : n = 1 ∨ n = 2 ∨ n = 3) with rfl | rfl | rfl
    · rw [a2 (by omega), a3 (by omega)]; omega
    · rw [a1 (by omega), a3 (by omega)]; omega
    · rw [a1 (by omega), a2 (by omega)]; omega
theorem LV.write {v w : Vol} {n a : Nat} {t : Blk} (h : LV v) (hn : S3 n) (ht : t ≠ []) (hw : WrV S3 v n a t w) (ha : a + t.length ≤ 8960) : LV w := by
  obtain ⟨y, hc⟩ := hw.chg
  have hf := h.fl n hn
  have hs := hf.size
  have htl := List.length_pos_iff.2 ht
  have hsz : (inoV w n).size = if (inoV v n).size < a + t.length then a + t.length else (inoV v n).size := by
    rw [hw.size, Nat.min_eq_left hs]
  refine h.chg hn hc ⟨?_, fun k hk h0 => ?_, fun i hi hsi => ?_, by rw [hw.ext]; exact hf.ext⟩
  · rw [hsz]; split <;> omega
  · have h1 : 128 * k < (inoV v n).size ∨ 128 * k < a + t.length := by
      rcases (hw.refs k hk).1 h0 with h1 | ⟨_, _, h1⟩
      · exact .inl (hf.tail k hk h1)
      · exact .inr (by omega)
    rw [hsz]; split <;> omega
  · rw [hsz] at hsi
    rw [hw.byte i hi, if_neg (by split at hsi <;> omega)]
    exact hf.zero i hi (by split at hsi <;> omega)
theorem LV.cut {v : Vol} {n s : Nat} (h : LV v) (hn : S3 n) (hs9 : s ≤ 8960) : LV (cutV v n s) := by
  have hw := cut_vol h.sv hn hs9
  obtain ⟨y, hc⟩ := hw.chg
  have hf := h.fl n hn
  have hs := hf.size
  have hsx : sizeX (inoV v n) = (inoV v n).size := by rw [sizeX, Nat.min_eq_left hs]
  refine h.chg hn hc ⟨by rw [hw.size]; exact hs9, fun k hk h0 => ?_, fun i hi hsi => ?_, by rw [hw.ext]; exact hf.ext⟩
  · rw [hw.size]
    rw [hw.refs k hk, hsx] at h0
    split at h0
    · exact absurd rfl h0
    · rename_i hc2
      have := hf.tail k hk h0
      have e : needS s = (s + 127) / 128 := rfl
      omega
  · rw [hw.size] at hsi
    rw [hw.byte i hi, hsx]
    split
    · rfl
    · exact hf.zero i hi (by omega)
/-- A write that is done: what it did. -/
theorem writeR_ok {v : Vol} {n : Nat} {off : Int} {t : Blk} {w : Vol} (h : writeR v n off t = (0, w)) : ∃ a : Nat, off = (a : Int) ∧ a + t.length ≤ 8960 ∧ ((t = [] ∧ w = v) ∨ (t ≠ [] ∧ ∃ v' x', wrV t.length v (inoV v n) a t = some (v', x') ∧ w = putV v' n (if min x'.size 8960 < a + t.length then x'.setS (a + t.length) else x'))) := by
  unfold writeR at h
  split at h
  · rename_i hg
    exact absurd (congrArg Prod.fst h) hg
  · split at h
    · cases h
    · split at h
      · cases h
      · rename_i h1 h2
        rw [not_or] at h2
        obtain ⟨a, rfl⟩ : ∃ a : Nat, off = (a : Int) := ⟨off.toNat, by omega⟩
        refine ⟨a, rfl, by omega, ?_⟩
        split at h
        · rename_i ht
          cases h
          exact .inl ⟨ht, rfl⟩
        · rename_i ht
          rw [show ((n : Int)).toNat = n from rfl, show ((a : Int)).toNat = a from rfl] at h
          generalize wrV t.length v (inoV v n) a t = R at *
          rcases R with _ | ⟨v', x'⟩
          · cases h
          · refine .inr ⟨ht, v', x', rfl, ?_⟩
            exact (congrArg Prod.snd h).symm
theorem LV.writeR {v : Vol} {n : Nat} {off : Int} {t : Blk} {w : Vol} (h : LV v) (hn : S3 n) (hw : writeR v n off t = (0, w)) : LV w := by
  obtain ⟨a, _, ha, (⟨_, rfl⟩ | ⟨ht, v', x', h1, rfl⟩)⟩ := writeR_ok hw
  · exact h
  · exact h.write hn ht (write_vol h.sv hn ha h1) ha
theorem cutR_ok {v : Vol} {n : Nat} {s : Int} {w : Vol} (h : cutR v n s = (0, w)) : ∃ a : Nat, s = (a : Int) ∧ a ≤ 8960 ∧ w = cutV v n a := by
  unfold cutR at h
  split at h
  · rename_i hg
    exact absurd (congrArg Prod.fst h) hg
  · split at h
    · have := congrArg Prod.fst h
      split at this <;> cases this
    · rename_i h1
      rw [not_or] at h1
      obtain ⟨a, rfl⟩ : ∃ a : Nat, s = (a : Int) := ⟨s.toNat, by omega⟩
      exact ⟨a, rfl, by omega, (congrArg Prod.snd h).symm⟩
theorem LV.cutR {v : Vol} {n : Nat} {s : Int} {w : Vol} (h : LV v) (hn : S3 n) (hw : cutR v n s = (0, w)) : LV w := by
  obtain ⟨a, _, ha, rfl⟩ := cutR_ok hw
  exact h.cut hn ha
/-- Which of the three files an act is done with. -/
def pickN (i : Int) : Nat := 1 + (i % 3).toNat
theorem pickN_s (i : Int) : S3 (pickN i) := by
  have := Int.emod_lt_of_pos i (show (0 : Int) < 3 by omega)
  have := Int.emod_nonneg i (show (3 : Int) ≠ 0 by omega)
  unfold S3 pickN
  omega
/-- What an act answers. -/
def actR (v : Vol) (d : Deed) : Int × Vol := if d.kind = 1 then cutR v (pickN d.n) d.off else writeR v (pickN d.n) d.off d.data
def stepV (v : Vol) (d : Deed) : Vol := if (actR v d).1 = 0 then (actR v d).2 else v
theorem LV.step {v : Vol} (h : LV v) (d : Deed) : LV (stepV v d) := by
  unfold stepV
  split
  · rename_i h0
    obtain ⟨⟨e, w⟩, hR⟩ : ∃ R, actR v d = R := ⟨_, rfl⟩
    rw [hR] at h0 ⊢
    obtain rfl : e = 0 := h0
    unfold actR at hR
    split at hR
    · exact h.cutR (pickN_s _) hR
    · exact h.writeR (pickN_s _) hR
  · exact h
def stepsV (v : Vol) (l : List Deed) : Vol := l.foldl stepV v
theorem LV.steps {v : Vol} (h : LV v) (l : List Deed) : LV (stepsV v l) := by
  induction l generalizing v with
  | nil => exact h
  | cons d l ih => exact ih (h.step d)
/-- The volume that acts lead to. -/
def laidV (l : List Deed) : Vol := stepsV lv3 l
theorem lv_laid (l : List Deed) : LV (laidV l) := lv_start.steps l
end Go.Proofs.Ytacdohlhalnioaa
end

/- Contract: a new volume with three files, by acts. -/
section
set_option linter.unusedVariables false
set_option linter.unusedSimpArgs false
set_option maxRecDepth 20000
namespace Go.Proofs.Ytacdohlhalnioaa
open Go.RowKit
attribute [local go_sem] Oper.semAt_some

theorem cells4 {w : World} {b t : Nat} {a0 a1 a2 a3 : Value} {fz : Nat × Nat} (h : w.heap[b]? = some (.cells #[a0, a1, a2, a3] t fz)) :
    w.cell? ⟨b, 0, none⟩ = some a0 ∧ w.cell? ⟨b, 1, none⟩ = some a1 ∧ w.cell? ⟨b, 2, none⟩ = some a2 ∧ w.cell? ⟨b, 3, none⟩ = some a3 := by
  refine ⟨?_, ?_, ?_, ?_⟩ <;> rw [cell_at h] <;> rfl
/-- The volumes on the way to three files. -/
def lvs (k : Nat) : Vol := if k = 0 then lv0 else if k = 1 then lv1 else if k = 2 then lv2 else lv3
theorem lvs_facts (k : Nat) (hk : k < 3) : okV (lvs k) = true ∧ inosV (lvs k) = 4 ∧ (lvs k).length = 40 ∧ (inoV (lvs k) (k + 1)).kind = 0 ∧ (∀ j, 1 ≤ j → j < k + 1 → (inoV (lvs k) j).kind ≠ 0) ∧ putV (lvs k) (k + 1) (freshI 0) = lvs (k + 1) := by
  obtain ⟨⟨h0, h1, h2, h3⟩, ⟨i0, i1, i2, i3⟩, ⟨l0, l1, l2, l3⟩, ⟨k0, k1, k2, k3, k4, k5⟩, _, _⟩ := lv_facts
  rcases (by omega : k = 0 ∨ k = 1 ∨ k = 2) with rfl | rfl | rfl
  · exact ⟨h0, i0, l0, k0, fun j a b => by omega, rfl⟩
  · refine ⟨h1, i1, l1, k2, fun j a b => ?_, rfl⟩
    obtain rfl : j = 1 := by omega
    exact k1
  · refine ⟨h2, i2, l2, k5, fun j a b => ?_, rfl⟩
    rcases (by omega : j = 1 ∨ j = 2) with rfl | rfl
    · exact k3
    · exact k4
def ns3 (k : Nat) : List Nat := (List.range k).map (· + 1)
theorem ns3_succ (k : Nat) : ns3 (k + 1) = ns3 k ++ [k + 1] := by simp [ns3, List.range_succ]
theorem ns3_len (k : Nat) : (ns3 k).length = k := by simp [ns3]
theorem ns3_get (m : Nat) (h : m < 3) : (nats (ns3 3))[m]? = some (.int .i64 ((m + 1 : Nat) : Int)) := by
  rcases (by omega : m = 0 ∨ m = 1 ∨ m = 2) with rfl | rfl | rfl <;> rfl
theorem vs_grow {W W1 W2 : World} {e : TypeId} {g base m : Nat} {v : Vol} {u u' y : Value} {xs : List Value} (hq : VS W g v) (ho : W.ownsRow base e 1 u m xs) (hne : ∀ r, u.ownBlock = some r → r ≠ g) (hb : Below W.heap.size W W1) (hg : (W1.alloc (.cells #[y] e)).grownBy W2 u.ownBlock)
    (how : u'.ownBlock = u.ownBlock ∨ u'.ownBlock = some (W1.alloc (.cells #[y] e)).heap.size) : VS W2 g v ∧ (∀ r, u'.ownBlock = some r → r ≠ g) ∧ ∀ (w : World) (B : Nat), Below B w W → B ≤ W.heap.size → B ≤ base → Below B w W2 := by
  obtain ⟨cur, h1, h2⟩ := hq
  obtain ⟨a, b, c⟩ := grow_box h1 ho hne hb hg how
  exact ⟨⟨cur, a, h2⟩, b, c⟩
theorem pick_facts (i : Int) : IntKind.i64.wrap (i.tmod 3) = i.tmod 3 ∧ IntKind.i64.wrap (i.tmod 3 + 3) = i.tmod 3 + 3 ∧ (i.tmod 3 + 3).tmod 3 = (((i % 3).toNat : Nat) : Int) := by
  have hb : -3 < i.tmod 3 ∧ i.tmod 3 < 3 ∧ (i.tmod 3 = i % 3 ∨ i.tmod 3 = i % 3 - 3) := by
    rcases Int.lt_or_le i 0 with h | h
    · obtain ⟨j, rfl⟩ : ∃ j, i = -j := ⟨-i, by omega⟩
      rw [Int.neg_tmod, Int.tmod_eq_emod_of_nonneg (by omega)]
      omega
    · rw [Int.tmod_eq_emod_of_nonneg h]
      omega
  obtain ⟨h1, h2, h3⟩ := hb
  generalize i.tmod 3 = r at *
  refine ⟨?_, ?_, ?_⟩
  · simp [IntKind.wrap, IntKind.bits, IntKind.signed]; omega
  · simp [IntKind.wrap, IntKind.bits, IntKind.signed]; omega
  · rw [Int.tmod_eq_emod_of_nonneg (by omega)]; omega
set_option maxHeartbeats 8000000 in
theorem laid_ok (Al : Option Addr) (cl : Nat) (l : List Deed) (w : World) (hl : RA w Al l) (hd : ∀ a ∈ l, okD a) :
    Calls Try.prog 41 #[.int .i64 40, .int .i64 4, .int .i64 3, .slice Al l.length cl] w fun e w' => ∃ A c u, e = .returned (.tuple #[.slice A (laidV l).length c, u]) ∧ RS w' A (laidV l) ∧ w'.ownsRow w.heap.size 3 1 u 3 (nats (ns3 3)) ∧ Below w.heap.size w w' := by
  obtain ⟨i0, hi0, hz0, hz1, hz2⟩ := info_parts (show (Try.prog.info? 3).map (fun i => (i.zero, i.size, i.bytes)) = some (some (.int .i64 0), 1, 8) by kernel_rfl)
  have HL := Lib.hid hl
  have HD := Lib.hid hd
  have hll := hl.1
  clear hl hd
  have hfmt := Lib.hid (fun w => format_ok 40 4 w (by decide))
  rw [show fmtV 40 4 = lvs 0 from rfl] at hfmt
  have hnew := Lib.hid (fun (k : Nat) (hk : k < 3) w A c hr => inew_ok A c (lvs k) (k + 1) 0 w hr (lvs_facts k hk).1 (by omega) (by have := (lvs_facts k hk).2.1; omega) (by omega) (lvs_facts k hk).2.2.2.1 (lvs_facts k hk).2.2.2.2.1)
  go_enter Try.func41, Try.ntmps41
  go_wp2_with (go_at_call 48; refine (hfmt.out _).mono ?_; rintro e w1 ⟨g1, rfl, hg1, hs1, hb1⟩; have HG1 := Lib.hid hg1; have HB1 := Lib.hid hb1; clear hg1 hb1)
  go_loopw [10, 12, 30] (fun sv uv kv wr => ∃ (k g c' : Nat), k ≤ 3 ∧ sv = .slice (some ⟨g, 0, none⟩) 40 c' ∧ kv = .int .i64 k ∧ Hid (VS wr g (lvs k)) ∧ Hid (wr.ownsRow w.heap.size 3 1 uv (ns3 k).length (nats (ns3 k)) ∧ (∀ r, uv.ownBlock = some r → r ≠ g)) ∧ Hid (Below w.heap.size w wr)) (fun _ _ kv _ => 3 - (intOf kv).toNat)
  case atStart => exact ⟨0, g1, 40, by omega, rfl, rfl, HG1, ⟨World.ownsRow_nil _ _ _ _, fun g e => by cases e⟩, HB1⟩
  case round =>
    obtain ⟨k, g, c', hk, rfl, rfl, hv, ho, hB⟩ := hrel
    obtain ⟨ua, uc, rfl⟩ := own_slice ho.out.1
    have hBs := hB.out.size
    have hsn := Lib.hid (ns3_succ k)
    by_cases hlt : k < 3
    · have hki : (k : Int) < 3 := by omega
      obtain ⟨fv, fi, flen, _, _, fp⟩ := lvs_facts k hlt
      have hn1 := Lib.hid (fun w A c hr => hnew.out k hlt w A c hr)
      rw [flen, fp] at hn1
      have HFL := Lib.hid flen
      clear fv fi flen fp
      have hrs := Lib.hid (hv.out.rs (by rw [HFL.out]; omega))
      obtain ⟨L, hLL⟩ : ∃ L, ns3 k = L := ⟨_, rfl⟩
      have HLN := Lib.hid (show L.length = k by rw [← hLL]; exact ns3_len k)
      rw [hLL] at ho hsn ⊢
      clear hLL
      go_wp2_with (first
        | (go_at_call 34; refine (hn1.out _ _ _ hrs.out).mono ?_; rintro e w3 ⟨g3, c3, rfl, hg3, hgs3, hb3⟩; have HG3 := Lib.hid hg3; have B3 := Lib.hid hb3; clear hg3 hb3)
        | (at_builtin; refine wpList_append_own_at _ rfl _ _ 26 rfl w.heap.size 3 i0 (.int .i64 0) 1 8 Try.underlying26 hi0 hz0 hz1 hz2 rfl (by decide) _ L.length _ rfl (own_below ho.out.1 (B3.out.alloc B3.out.size _)) ⟨w3.heap.size, 0, none⟩ 1 1 [.int .i64 ((k : Int) + 1)] rfl rfl (cell_one_at _ _ _ (by simp)) (by simp [Value.oneCell']) (by have := HLN.out; simp only [maxLen]; omega) (by have := HLN.out; omega) (by have := B3.out.size; simp; omega) ?_; intro u' w5 hown' hgrow _ howb; have EG := Lib.hid hgrow; have EO := Lib.hid hown'; have EB := Lib.hid howb; clear hgrow hown' howb))
      obtain ⟨z1, z2, z3⟩ := vs_grow (HG3.out) (own_below ho.out.1 B3.out) (fun r e => by have := ho.out.1.lt r e; omega) (Below.refl _ _) EG.out EB.out
      refine ⟨⟨k + 1, g3, c3, by omega, rfl, by go_num, z1, ⟨?_, z2⟩, z3 _ _ (below_keep hB.out (Nat.le_refl _) B3.out) (by have := B3.out.size; omega) (Nat.le_refl _)⟩, by simp only [intOf]; omega⟩
      rw [hsn.out, nats_snoc, List.length_append]
      exact EO.out
    · obtain rfl : k = 3 := by omega
      rw [ns3_len] at ho ⊢
      obtain ⟨gn, cn, hue, hgn, hcn⟩ := own_open ho.out.1 (by omega)
      injection hue with e1 e2 e3
      subst e1 e3
      have HCN := Lib.hid hcn
      have HON := Lib.hid ho.out.1
      have hrs0 : RS wr (some ⟨g, 0, none⟩) (lvs 3) := hv.out.rs (by rw [show (lvs 3).length = 40 from lv_facts.2.2.1.2.2.2]; omega)
      have HRS0 := Lib.hid hrs0
      have hl3 : (40 : Nat) = (lv3).length := lv_facts.2.2.1.2.2.2.symm
      have HL3 := Lib.hid hl3
      clear hsn hcn hgn ho hrs0 hl3 hv
      obtain ⟨W0, hW0⟩ : ∃ W0, W0 = wr := ⟨_, rfl⟩
      subst hW0
      go_wp2
      go_loopw [10, 48] (fun sv kv wr => ∃ (k : Nat) (v' : Vol) (A' : Option Addr) (c' : Nat), k ≤ l.length ∧ sv = .slice A' v'.length c' ∧ kv = .int .i64 k ∧ Hid (RS wr A' v') ∧ Hid (LV v' ∧ stepsV v' (l.drop k) = laidV l) ∧ Hid (Below W0.heap.size W0 wr)) (fun _ kv _ => l.length - (intOf kv).toNat)
      case atStart => exact ⟨0, lv3, some ⟨g, 0, none⟩, c', by omega, by rw [← HL3.out], rfl, HRS0, ⟨lv_start, rfl⟩, Below.refl _ _⟩
      case round =>
        obtain ⟨k, v', A', c', hk, rfl, rfl, hrv, hS, hB2⟩ := hrel
        by_cases hlt : k < l.length
        · have hki : (k : Int) < (l.length : Nat) := by omega
          have HL0 := HL.out.keep (hB.out.trans (hB2.out.mono hBs))
          obtain ⟨b, o, hAe, hbl, hc⟩ := HL0.2 (by intro e; rw [e] at hlt; exact absurd hlt (by simp))
          obtain ⟨d, hdk⟩ : ∃ d, l[k]? = some d := ⟨_, List.getElem?_eq_getElem hlt⟩
          obtain ⟨c0, c1, c2, c3⟩ := hc k d hdk
          have hok := HD.out d (List.mem_of_getElem? hdk)
          obtain ⟨_, _, ho, hdl⟩ := hok
          subst hAe
          have hstep : stepsV (stepV v' d) (l.drop (k + 1)) = laidV l := by
            rw [← hS.out.2, List.drop_eq_getElem_cons hlt]
            rw [List.getElem?_eq_getElem hlt] at hdk
            rw [Option.some.inj hdk]
            rfl
          have hlvs := hS.out.1.step d
          obtain ⟨p1, p2, p3⟩ := pick_facts d.n
          obtain ⟨m, hm⟩ : ∃ m, (d.n % 3).toNat = m := ⟨_, rfl⟩
          obtain ⟨n, hn⟩ : ∃ n, pickN d.n = n := ⟨_, rfl⟩
          have hmn : n = m + 1 := by rw [← hn, ← hm, pickN]; omega
          have hm3 : m < 3 := by have := pickN_s d.n; rw [hn] at this; have := this.2; omega
          have hmi : (m : Int) < 3 := by omega
          rw [hm] at p3
          have hw1 := Lib.hid (fun w hr => write_is A' c' v' (n : Nat) d.off d.data w hr ho.2 hdl)
          have hc1 := Lib.hid (fun w hr => cut_is A' c' v' (n : Nat) d.off w hr)
          have hsv : stepV v' d = if (if d.kind = 1 then cutR v' n d.off else writeR v' n d.off d.data).1 = 0 then (if d.kind = 1 then cutR v' n d.off else writeR v' n d.off d.data).2 else v' := by rw [stepV, actR, hn]
          obtain ⟨⟨er, V⟩, hRw⟩ : ∃ R, writeR v' n d.off d.data = R := ⟨_, rfl⟩
          obtain ⟨⟨er2, V2⟩, hRc⟩ : ∃ R, cutR v' n d.off = R := ⟨_, rfl⟩
          rw [hRw] at hw1 hsv
          rw [hRc] at hc1 hsv
          have hcm := cell_keep (HCN.out m (.int .i64 n) (by rw [hmn]; exact ns3_get m hm3)) hB2.out
          have hba := (Below.refl wr.heap.size wr).alloc (Nat.le_refl _) (.cells #[.int .i64 d.kind, .int .i64 d.n, .int .i64 d.off, .string (mk d.data)] 55)
          have hx0 := blk_new wr (.cells #[.int .i64 d.kind, .int .i64 d.n, .int .i64 d.off, .string (mk d.data)] 55)
          have hcm2 := cell_keep hcm hba
          have HBA := Lib.hid hba
          have HX0 := Lib.hid hx0
          have HST := Lib.hid hstep
          have HLS := Lib.hid hlvs
          have HSV := Lib.hid hsv
          clear hRw hRc hc hdk ho hdl hba hx0 hstep hlvs hsv hm hn hmn HL0 hcm
          generalize stepV v' d = v2 at *
          generalize d.n = dn at *
          generalize d.off = dof at *
          generalize d.data = dd at *
          generalize d.kind = dk at *
          by_cases hk1 : dk = 1
          · have hkb : (dk == 1) = true := by simpa using hk1
            have HSV2 : Hid (v2 = if er2 = 0 then V2 else v') := Lib.hid (by have := HSV.out; rw [if_pos hk1] at this; exact this)
            clear hk1 HSV
            by_cases h0 : er2 = 0
            · have h0b : (er2 == 0) = true := by simpa using h0
              have HV2 : Hid (v2 = V2) := Lib.hid (by rw [HSV2.out, if_pos h0])
              clear h0 HSV2
              go_wp2_with (first
                | (go_at_call 35; refine (hw1.out _ (hrv.out.below HBA.out)).mono ?_; rintro e w3 ⟨A3, c3, rfl, hr3, hb3⟩; have HR3 := Lib.hid hr3; have HB3 := Lib.hid (below_keep HBA.out (Nat.le_refl _) hb3); have HX3 := Lib.hid (blk_keep HX0.out hb3); obtain ⟨x0, x1, x2, x3⟩ := cells4 HX3.out; clear hr3 hb3)
                | (go_at_call 38; refine (hc1.out _ (hrv.out.below HB3.out)).mono ?_; rintro e w5 ⟨A5, c5, rfl, hr5, hb5⟩; have HR5 := Lib.hid hr5; have HB5 := Lib.hid (below_keep HB3.out (Nat.le_refl _) hb5); have HX5 := Lib.hid (blk_keep HX3.out hb5); clear x0 x1 x2 x3 hr5 hb5))
              exact ⟨⟨k + 1, V2, A5, c5, by omega, rfl, by go_num, HR5, ⟨by rw [← HV2.out]; exact HLS.out, by rw [← HV2.out]; exact HST.out⟩, below_keep hB2.out (Nat.le_refl _) HB5.out⟩, by simp only [intOf]; go_num⟩
            · have h0b : (er2 == 0) = false := by simpa using h0
              have HV2 : Hid (v2 = v') := Lib.hid (by rw [HSV2.out, if_neg h0])
              clear h0 HSV2
              go_wp2_with (first
                | (go_at_call 35; refine (hw1.out _ (hrv.out.below HBA.out)).mono ?_; rintro e w3 ⟨A3, c3, rfl, hr3, hb3⟩; have HR3 := Lib.hid hr3; have HB3 := Lib.hid (below_keep HBA.out (Nat.le_refl _) hb3); have HX3 := Lib.hid (blk_keep HX0.out hb3); obtain ⟨x0, x1, x2, x3⟩ := cells4 HX3.out; clear hr3 hb3)
                | (go_at_call 38; refine (hc1.out _ (hrv.out.below HB3.out)).mono ?_; rintro e w5 ⟨A5, c5, rfl, hr5, hb5⟩; have HR5 := Lib.hid hr5; have HB5 := Lib.hid (below_keep HB3.out (Nat.le_refl _) hb5); have HX5 := Lib.hid (blk_keep HX3.out hb5); clear x0 x1 x2 x3 hr5 hb5))
              exact ⟨⟨k + 1, v', A', c', by omega, rfl, by go_num, hrv.out.below HB5.out, ⟨by rw [← HV2.out]; exact HLS.out, by rw [← HV2.out]; exact HST.out⟩, below_keep hB2.out (Nat.le_refl _) HB5.out⟩, by simp only [intOf]; go_num⟩
          · have hkb : (dk == 1) = false := by simpa using hk1
            have HSV2 : Hid (v2 = if er = 0 then V else v') := Lib.hid (by have := HSV.out; rw [if_neg hk1] at this; exact this)
            clear hk1 HSV
            by_cases h0 : er = 0
            · have h0b : (er == 0) = true := by simpa using h0
              have HV2 : Hid (v2 = V) := Lib.hid (by rw [HSV2.out, if_pos h0])
              clear h0 HSV2
              go_wp2_with ((go_at_call 35; refine (hw1.out _ (hrv.out.below HBA.out)).mono ?_; rintro e w3 ⟨A3, c3, rfl, hr3, hb3⟩; have HR3 := Lib.hid hr3; have HB3 := Lib.hid (below_keep HBA.out (Nat.le_refl _) hb3); have HX3 := Lib.hid (blk_keep HX0.out hb3); obtain ⟨x0, x1, x2, x3⟩ := cells4 HX3.out; clear hr3 hb3))
              exact ⟨⟨k + 1, V, A3, c3, by omega, rfl, by go_num, HR3, ⟨by rw [← HV2.out]; exact HLS.out, by rw [← HV2.out]; exact HST.out⟩, below_keep hB2.out (Nat.le_refl _) HB3.out⟩, by simp only [intOf]; go_num⟩
            · have h0b : (er == 0) = false := by simpa using h0
              have HV2 : Hid (v2 = v') := Lib.hid (by rw [HSV2.out, if_neg h0])
              clear h0 HSV2
              go_wp2_with ((go_at_call 35; refine (hw1.out _ (hrv.out.below HBA.out)).mono ?_; rintro e w3 ⟨A3, c3, rfl, hr3, hb3⟩; have HR3 := Lib.hid hr3; have HB3 := Lib.hid (below_keep HBA.out (Nat.le_refl _) hb3); have HX3 := Lib.hid (blk_keep HX0.out hb3); obtain ⟨x0, x1, x2, x3⟩ := cells4 HX3.out; clear hr3 hb3))
              exact ⟨⟨k + 1, v', A', c', by omega, rfl, by go_num, hrv.out.below HB3.out, ⟨by rw [← HV2.out]; exact HLS.out, by rw [← HV2.out]; exact HST.out⟩, below_keep hB2.out (Nat.le_refl _) HB3.out⟩, by simp only [intOf]; go_num⟩
        · obtain rfl : k = l.length := by omega
          have HE : Hid (v' = laidV l) := Lib.hid (by have := hS.out.2; rw [List.drop_length] at this; exact this)
          go_wp2
          go_ret2
          rw [← HE.out]
          exact ⟨A', c', _, rfl, hrv.out, own_below HON.out hB2.out, hB.out.trans (hB2.out.mono hBs)⟩
end Go.Proofs.Ytacdohlhalnioaa
end

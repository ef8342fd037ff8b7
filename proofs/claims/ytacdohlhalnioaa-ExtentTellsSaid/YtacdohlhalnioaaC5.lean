/- Contracts: where things are on a volume (the program's). -/
import Derived.Test.YtacdohlhalnioaaC4
set_option linter.unusedVariables false
set_option maxRecDepth 20000
namespace Go.Proofs.Ytacdohlhalnioaa
open Go.RowKit

def inosV (v : Vol) : Nat := w2 (bk v 0) 6
def dataV (v : Vol) : Nat := 3 + (inosV v + 1) / 2
def sized (v : Vol) : Bool := v.all fun s => s.length == 128
/-- A volume of the document's form. -/
def okV (v : Vol) : Bool := sized v && decide (planE v.length (inosV v) = 0) && decide (bk v 0 = firstB v.length (inosV v)) && okmap (bk v 2) (dataV v) v.length
theorem sized_iff {v : Vol} : sized v = true ↔ ∀ j, j < v.length → (bk v j).length = 128 := by
  simp only [sized, List.all_eq_true, beq_iff_eq]
  constructor
  · intro h j hj
    rw [← bk_get v j hj]
    exact h _ (List.getElem_mem hj)
  · intro h s hs
    obtain ⟨j, hj, rfl⟩ := List.getElem_of_mem hs
    rw [bk_get v j hj]
    exact h j hj
theorem sized_no {v : Vol} {j : Nat} (hj : j < v.length) (h : (bk v j).length ≠ 128) : sized v = false := by
  rw [← Bool.not_eq_true, sized_iff]
  exact fun hall => h (hall j hj)
structure OkV (v : Vol) : Prop where
  size : ∀ j, j < v.length → (bk v j).length = 128
  lo : 16 ≤ v.length
  hi : v.length ≤ 223
  ilo : 4 ≤ inosV v
  ihi : inosV v ≤ 64
  data : 3 + (inosV v + 1) / 2 < v.length
  head : bk v 0 = firstB v.length (inosV v)
  map : okmap (bk v 2) (dataV v) v.length = true
theorem okV_iff {v : Vol} : okV v = true ↔ OkV v := by
  simp only [okV, Bool.and_eq_true, decide_eq_true_eq]
  constructor
  · rintro ⟨⟨⟨h1, h2⟩, h3⟩, h4⟩
    obtain ⟨a, b, c, d, e⟩ := planE_ok h2
    exact ⟨sized_iff.1 h1, a, b, c, d, e, h3, h4⟩
  · intro h
    refine ⟨⟨⟨sized_iff.2 h.size, ?_⟩, h.head⟩, h.map⟩
    have := h.lo; have := h.hi; have := h.ilo; have := h.ihi; have := h.data
    rw [planE, if_neg (by omega), if_neg (by omega)]
theorem get_two (b : Blk) (h : b.length = 128) : le ((b.drop 6).take 2) = w2 b 6 := by
  rw [le_two _ (by simp; omega), w2_take _ _ _ (by omega), w2_drop]

theorem right_ok' (m : Blk) (b : Nat) (d b1 b2 b3 b4 : Int) (q : Nat) (w : World) (hm : m.length = 128) (hd : d = (q : Int)) (hq : q ≤ 1024) (hb : b ≤ 1024) :
    Calls Try.prog 106 #[.string (mk m), .agg #[.int .i64 b, .int .i64 b1, .int .i64 b2, .int .i64 b3, .int .i64 b4, .int .i64 d]] w fun e w' => e = .returned (.bool (okmap m q b)) ∧ Below w.heap.size w w' := by
  subst hd
  exact right_ok m b q b1 b2 b3 b4 w hm hq hb
set_option maxHeartbeats 1000000 in
theorem of_ok (A : Option Addr) (c : Nat) (v : Vol) (w : World) (hr : RS w A v) (hv : okV v = true) :
    Calls Try.prog 71 #[.slice A v.length c] w fun e w' => e = .returned (.tuple #[.agg #[.int .i64 v.length, .int .i64 (inosV v), .int .i64 1, .int .i64 2, .int .i64 3, .int .i64 (3 + ((inosV v : Nat) + 1 : Int) / 2)], .int .i64 0]) ∧ Below w.heap.size w w' := by
  have H := okV_iff.1 hv
  obtain ⟨h1, h2, h3, h4, h5, h6, h7, h8⟩ := H
  have hl := hr.1
  obtain ⟨bA, oA, rfl, hbA, hc⟩ := hr.open_ (by omega)
  clear hr
  have K1 := Lib.hid h1
  have K7 := Lib.hid h7
  have K8 := Lib.hid h8
  have hc0 : w.cell? ⟨bA, oA, none⟩ = some (.string (mk (bk v 0))) := by simpa using hc 0 (by omega)
  have hc2 := hc 2 (by omega)
  have HC := Lib.hid hc
  have s0 := h1 0 (by omega)
  have s2 := h1 2 (by omega)
  have S0 := Lib.hid s0
  have S2 := Lib.hid s2
  have b0 : 8 ≤ (bk v 0).length := by omega
  clear hc h1 h7 h8 s0 s2 hv
  go_enter Try.func71, Try.ntmps71
  go_wp2
  go_loop [11] (fun i => ∃ k : Nat, k ≤ v.length ∧ i = .int .i64 k) (fun i => v.length - (intOf i).toNat)
  case atStart => exact ⟨0, Nat.zero_le _, rfl⟩
  case round =>
    obtain ⟨k, hk, rfl⟩ := hrel
    by_cases hlt : k < v.length
    · have hck := HC.out k hlt
      have hsk := K1.out k hlt
      go_wp2
      refine ⟨⟨k + 1, by omega, by go_num⟩, by simp only [intOf]; omega⟩
    · have hpl : planE v.length (inosV v) = 0 := by rw [planE, if_neg (by omega), if_neg (by omega)]
      have HP := Lib.hid hpl
      clear hpl
      go_wp2_with (go_at_call 69; refine (get_ok _ _ (by simp; omega)).mono ?_; rw [get_two (bk v 0) S0.out, show w2 (bk v 0) 6 = inosV v from rfl]; rintro e w' ⟨rfl, rfl⟩)
      refine (plan_ok v.length (inosV v) _ (by omega) (by omega) HP.out).mono ?_
      rintro e w1 ⟨rfl, hb1⟩
      have hB1 : Below w.heap.size w w1 := below_keep ((Below.refl _ _).alloc (Nat.le_refl _) _) (Nat.le_refl _) hb1
      have hk1 := blk_keep (blk_new w _) hb1
      have hw1 := blk_lt hk1
      go_wp2_with fail
      have hB2 : Below w.heap.size w (w1.alloc (.cells #[.int .i64 v.length, .int .i64 (inosV v), .int .i64 1, .int .i64 2, .int .i64 3, .int .i64 (3 + ((inosV v : Nat) + 1 : Int) / 2)] 66)) := hB1.alloc hB1.size _
      have hk2 := blk_new w1 (.cells #[.int .i64 v.length, .int .i64 (inosV v), .int .i64 1, .int .i64 2, .int .i64 3, .int .i64 (3 + ((inosV v : Nat) + 1 : Int) / 2)] 66)
      have hk3 := blk_keep hk1 ((Below.refl _ _).alloc (Nat.le_refl _) (.cells #[.int .i64 v.length, .int .i64 (inosV v), .int .i64 1, .int .i64 2, .int .i64 3, .int .i64 (3 + ((inosV v : Nat) + 1 : Int) / 2)] 66))
      generalize w1.alloc (.cells #[.int .i64 v.length, .int .i64 (inosV v), .int .i64 1, .int .i64 2, .int .i64 3, .int .i64 (3 + ((inosV v : Nat) + 1 : Int) / 2)] 66) = W0 at hB2 hk2 hk3 ⊢
      have d0 : W0.cell? ⟨bA, oA, none⟩ = some (.string (mk (firstB v.length (inosV v)))) := by rw [← K7.out]; exact cell_keep hc0 hB2
      have i0 : (0 : Int) < (v.length : Nat) := by omega
      have i2 : (2 : Int) < (v.length : Nat) := by omega
      have i0' : 0 < v.length := by omega
      have d2 := cell_keep hc2 hB2
      obtain ⟨g0, g1, g2, g3, g4, g5⟩ := cells6 hk2
      have HK2 := Lib.hid hk2
      have HK3 := Lib.hid hk3
      clear hk1 hk2 hk3 hc0 hc2
      go_region_held3 (fun w' => w'.cell? ⟨bA, oA, none⟩ = some (.string (mk (firstB v.length (inosV v)))) ∧ w'.cell? ⟨bA, oA + 2, none⟩ = some (.string (mk (bk v 2))) ∧ w'.cell? ⟨w1.heap.size, 0, none⟩ = some (.int .i64 v.length) ∧ w'.cell? ⟨w1.heap.size, 1, none⟩ = some (.int .i64 (inosV v)) ∧ w'.cell? ⟨w1.heap.size, 2, none⟩ = some (.int .i64 1) ∧ w'.cell? ⟨w1.heap.size, 3, none⟩ = some (.int .i64 2) ∧ w'.cell? ⟨w1.heap.size, 4, none⟩ = some (.int .i64 3) ∧ w'.cell? ⟨w1.heap.size, 5, none⟩ = some (.int .i64 (3 + ((inosV v : Nat) + 1 : Int) / 2)) ∧ Below W0.heap.size W0 w')
        (first | exact ⟨d0, d2, g0, g1, g2, g3, g4, g5, (Below.refl _ _).drew⟩ | assumption | (have hz := below_keep (B := W0.heap.size) (w := W0) (by first | (go_split_ands; assumption) | exact (Below.refl _ _).drew) (Nat.le_refl _) hb3; exact ⟨cell_keep d0 hz, cell_keep d2 hz, cell_keep g0 hz, cell_keep g1 hz, cell_keep g2 hz, cell_keep g3 hz, cell_keep g4 hz, cell_keep g5 hz, hz⟩))
        (first | (go_at_call 92; refine (first_ok _ _ _ _ _ _ _ (by omega) (by omega)).mono ?_; rintro e w3 ⟨rfl, hb3⟩) | (go_at_call 106; refine (right_ok' _ _ _ _ _ _ _ (dataV v) _ S2.out (by simp only [dataV]; omega) (by simp only [dataV]; omega) (by omega)).mono ?_; rw [K8.out]; rintro e w3 ⟨rfl, hb3⟩))
      all_goals
        rename_i hh
        obtain ⟨e0, _, e2, e3, e4, e5, e6, e7, hz⟩ := hh
        have r3 := blk_keep HK3.out hz
        obtain ⟨r0, r1, r2, r3', r4, r5⟩ := cells6 r3
        have f0 := free_of r3 0
        have f1 := free_of r3 1
        have f2 := free_of r3 2
        have f3 := free_of r3 3
        have f4 := free_of r3 4
        have f5 := free_of r3 5
        clear r3
        go_wp2
        refine bodyPost_ret (v := .tuple #[.agg #[.int .i64 v.length, .int .i64 (inosV v), .int .i64 1, .int .i64 2, .int .i64 3, .int .i64 (3 + ((inosV v : Nat) + 1 : Int) / 2)], .int .i64 0]) (by simp [results, Try.results71, go_sem, r0, r1, r2, r3', r4, r5]) rfl ⟨rfl, ?_⟩
        exact below_set6 (hB2.trans (hz.mono hB2.size)) (Nat.le_refl _)
end Go.Proofs.Ytacdohlhalnioaa

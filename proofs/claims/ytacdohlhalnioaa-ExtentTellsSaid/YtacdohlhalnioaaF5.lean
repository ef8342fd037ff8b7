/- Contract: the block of a place in a file (the document's). -/
import Derived.Test.YtacdohlhalnioaaF4
import Derived.Test.YtacdohlhalnioaaE2
set_option linter.unusedVariables false
set_option maxRecDepth 20000
namespace Go.Proofs.Ytacdohlhalnioaa
open Go.RowKit
attribute [local go_sem] Oper.semAt_some

theorem atN_goodZ (d L : Nat) (v : Vol) (x : Ino) (k : Nat) : atN d L v x k = goodZ d L (numV d L v x k) := rfl
theorem two_at (s : Blk) (i : Nat) (j : Int) (w : World) (hj : j = (i : Int)) (h : i + 1 < s.length) (hl : s.length ≤ 128) :
    Calls Try.prog 98 #[.string (mk s), .int .i64 j] w fun e w' => e = .returned (.int .i64 ((w2 s i : Nat) : Int)) ∧ w.drew = w' := by
  subst hj
  exact two_ok s i w h hl
set_option maxHeartbeats 2000000 in
theorem rat_ok (A : Option Addr) (c d L : Nat) (v : Vol) (x : Ino) (k : Nat) (w : World) (hr : RS w A v) (hL : v.length = L) (hk : k < 70) (hd : 0 < d) (hs : ∀ j, j < L → (bk v j).length = 128) :
    Calls Try.prog 59 #[.slice A L c, .int .i64 d, .agg #[.int .i64 ((x.kind : Nat) : Int), .int .i64 ((x.links : Nat) : Int), .int .i64 ((x.owner : Nat) : Int), .int .i64 ((x.size : Nat) : Int), .int .i64 ((x.d0 : Nat) : Int), .int .i64 ((x.d1 : Nat) : Int), .int .i64 ((x.d2 : Nat) : Int), .int .i64 ((x.d3 : Nat) : Int), .int .i64 ((x.d4 : Nat) : Int), .int .i64 ((x.d5 : Nat) : Int), .int .i64 ((x.ind : Nat) : Int), .int .i64 ((x.ext : Nat) : Int)], .int .i64 k] w fun e w' => e = .returned (.int .i64 ((atN d L v x k : Nat) : Int)) ∧ Below w.heap.size w w' := by
  have hl := hr.1
  have hL8 : L ≤ 8796093022208 := by omega
  rw [atN_goodZ]
  have k0 := blk_new w (.cells #[.int .i64 ((x.kind : Nat) : Int), .int .i64 ((x.links : Nat) : Int), .int .i64 ((x.owner : Nat) : Int), .int .i64 ((x.size : Nat) : Int), .int .i64 ((x.d0 : Nat) : Int), .int .i64 ((x.d1 : Nat) : Int), .int .i64 ((x.d2 : Nat) : Int), .int .i64 ((x.d3 : Nat) : Int), .int .i64 ((x.d4 : Nat) : Int), .int .i64 ((x.d5 : Nat) : Int), .int .i64 ((x.ind : Nat) : Int), .int .i64 ((x.ext : Nat) : Int)] 45)
  have hB1 : Below w.heap.size w (w.alloc (.cells #[.int .i64 ((x.kind : Nat) : Int), .int .i64 ((x.links : Nat) : Int), .int .i64 ((x.owner : Nat) : Int), .int .i64 ((x.size : Nat) : Int), .int .i64 ((x.d0 : Nat) : Int), .int .i64 ((x.d1 : Nat) : Int), .int .i64 ((x.d2 : Nat) : Int), .int .i64 ((x.d3 : Nat) : Int), .int .i64 ((x.d4 : Nat) : Int), .int .i64 ((x.d5 : Nat) : Int), .int .i64 ((x.ind : Nat) : Int), .int .i64 ((x.ext : Nat) : Int)] 45)) := (Below.refl _ _).alloc (Nat.le_refl _) _
  by_cases hk6 : k < 6
  · rw [atN_near hk6]
    have hcd : (w.alloc (.cells #[.int .i64 ((x.kind : Nat) : Int), .int .i64 ((x.links : Nat) : Int), .int .i64 ((x.owner : Nat) : Int), .int .i64 ((x.size : Nat) : Int), .int .i64 ((x.d0 : Nat) : Int), .int .i64 ((x.d1 : Nat) : Int), .int .i64 ((x.d2 : Nat) : Int), .int .i64 ((x.d3 : Nat) : Int), .int .i64 ((x.d4 : Nat) : Int), .int .i64 ((x.d5 : Nat) : Int), .int .i64 ((x.ind : Nat) : Int), .int .i64 ((x.ext : Nat) : Int)] 45)).cell? ⟨w.heap.size, 4 + k, none⟩ = some (.int .i64 ((x.list.getD (4 + k) 0 : Nat) : Int)) := by
      rw [cell_at k0]
      rcases (by omega : k = 0 ∨ k = 1 ∨ k = 2 ∨ k = 3 ∨ k = 4 ∨ k = 5) with rfl | rfl | rfl | rfl | rfl | rfl <;> rfl
    have hki : (k : Int) < 6 := by omega
    generalize x.list.getD (4 + k) 0 = b at *
    have HR := Lib.hid hr
    clear hr hs k0
    go_enter Try.func59, Try.ntmps59
    go_wp2_with (go_at_call 64; refine (rgood_ok A c L d b _ hL8).mono ?_; rintro e w3 ⟨rfl, rfl⟩)
    go_ret
    exact ⟨rfl, hB1⟩
  · have c10 : (w.alloc (.cells #[.int .i64 ((x.kind : Nat) : Int), .int .i64 ((x.links : Nat) : Int), .int .i64 ((x.owner : Nat) : Int), .int .i64 ((x.size : Nat) : Int), .int .i64 ((x.d0 : Nat) : Int), .int .i64 ((x.d1 : Nat) : Int), .int .i64 ((x.d2 : Nat) : Int), .int .i64 ((x.d3 : Nat) : Int), .int .i64 ((x.d4 : Nat) : Int), .int .i64 ((x.d5 : Nat) : Int), .int .i64 ((x.ind : Nat) : Int), .int .i64 ((x.ext : Nat) : Int)] 45)).cell? ⟨w.heap.size, 10, none⟩ = some (.int .i64 x.ind) := by rw [cell_at k0]; rfl
    have hki : (6 : Int) ≤ (k : Int) := by omega
    by_cases hgi : goodN d L x.ind = true
    · have hgi2 : d ≤ x.ind ∧ x.ind < L := by simpa [goodN] using hgi
      have hgz : goodZ d L x.ind = x.ind := by rw [goodZ, if_pos hgi]
      rw [show numV d L v x k = w2 (bk v x.ind) (2 * (k - 6)) from by rw [numV, if_neg hk6, if_pos hgi]]
      obtain ⟨bA, oA, rfl, hbA, hc⟩ := hr.open_ (by omega)
      have hcB := cell_keep (hc x.ind (by omega)) hB1
      have hsi := hs x.ind (by omega)
      have hne : ((x.ind : Int) == 0) = false := by rw [beq_eq_false_iff_ne]; omega
      have hi1 : (x.ind : Int) < (L : Int) := by omega
      have hm : (2 : Int) * ((k : Int) - 6) = ((2 * (k - 6) : Nat) : Int) := by omega
      have hml : 2 * (k - 6) + 1 < 128 := by omega
      generalize 2 * (k - 6) = m at *
      have HW := Lib.hid (w2_lt (bk v x.ind) m)
      clear hr hs hc k0
      generalize bk v x.ind = b at *
      obtain ⟨z, hz⟩ : ∃ z, w2 b m = z := ⟨_, rfl⟩
      rw [hz]
      have HZ := Lib.hid hz
      clear hz
      go_enter Try.func59, Try.ntmps59
      go_wp2_with (first | (go_at_call 98; refine (two_ok b m _ (by omega) (by omega)).mono ?_; rw [HZ.out]; rintro e w3 ⟨rfl, rfl⟩; clear hgi hne) | (go_at_call 64; have := hne; refine (rgood_ok _ c L d x.ind _ hL8).mono ?_; rw [hgz]; rintro e w3 ⟨rfl, rfl⟩) | (go_at_call 64; refine (rgood_ok _ c L d z _ hL8).mono ?_; rintro e w3 ⟨rfl, rfl⟩))
      go_ret
      exact ⟨rfl, hB1.drew⟩
    · have hgz : goodZ d L x.ind = 0 := by rw [goodZ, if_neg hgi]
      have hz : goodZ d L (numV d L v x k) = 0 := by
        have : numV d L v x k = 0 := by rw [numV, if_neg hk6, if_neg hgi]
        rw [this, goodZ]
        split <;> rfl
      rw [hz]
      clear hr hs k0 hz
      go_enter Try.func59, Try.ntmps59
      go_wp2_with (go_at_call 64; refine (rgood_ok _ c L d x.ind _ hL8).mono ?_; rw [hgz]; rintro e w3 ⟨rfl, rfl⟩)
      go_ret
      exact ⟨rfl, hB1⟩
end Go.Proofs.Ytacdohlhalnioaa

/- Contract: an inode is taken (the program's). -/
import Derived.Test.YtacdohlhalnioaaI6
set_option linter.unusedVariables false
set_option maxRecDepth 20000
namespace Go.Proofs.Ytacdohlhalnioaa
open Go.RowKit
attribute [local go_sem] Oper.semAt_some

def freshI (o : Nat) : Ino := ⟨1, 1, o, 0, 0, 0, 0, 0, 0, 0, 0, 0⟩
theorem freshI_fit (o : Nat) (h : o < 16) : fitI (freshI o) := by
  intro k
  rcases k with ⟨k, hk⟩
  rcases (by omega : k = 0 ∨ k = 1 ∨ k = 2 ∨ k = 3 ∨ k = 4 ∨ k = 5 ∨ k = 6 ∨ k = 7 ∨ k = 8 ∨ k = 9 ∨ k = 10 ∨ k = 11) with rfl | rfl | rfl | rfl | rfl | rfl | rfl | rfl | rfl | rfl | rfl | rfl <;> simp [foff, fsz, Ino.list, freshI] <;> omega

theorem iput_fresh (A : Option Addr) (c : Nat) (v : Vol) (n o : Nat) (w : World) (hr : RS w A v) (hv : okV v = true) (h1 : 1 ≤ n) (h2 : n ≤ inosV v) (ho : o < 16) :
    Calls Try.prog 77 #[.slice A v.length c, .int .i64 n, .agg #[.int .i64 1, .int .i64 1, .int .i64 o, .int .i64 0, .int .i64 0, .int .i64 0, .int .i64 0, .int .i64 0, .int .i64 0, .int .i64 0, .int .i64 0, .int .i64 0]] w fun e w' => ∃ g c', e = .returned (.tuple #[.slice (some ⟨g, 0, none⟩) v.length c', .int .i64 0]) ∧ VS w' g (putV v n (freshI o)) ∧ w.heap.size ≤ g ∧ Below w.heap.size w w' :=
  iput_ok A c v n (freshI o) w hr hv h1 h2 (freshI_fit o ho)

set_option maxHeartbeats 4000000 in
theorem inew_ok (A : Option Addr) (c : Nat) (v : Vol) (n o : Nat) (w : World) (hr : RS w A v) (hv : okV v = true) (h1 : 1 ≤ n) (h2 : n ≤ inosV v) (ho : o < 16) (hn : (inoV v n).kind = 0) (hp : ∀ j, 1 ≤ j → j < n → (inoV v j).kind ≠ 0) :
    Calls Try.prog 34 #[.slice A v.length c, .int .i64 1, .int .i64 o] w fun e w' => ∃ g c', e = .returned (.tuple #[.slice (some ⟨g, 0, none⟩) v.length c', .int .i64 n, .int .i64 0]) ∧ VS w' g (putV v n (freshI o)) ∧ w.heap.size ≤ g ∧ Below w.heap.size w w' := by
  have HV := Lib.hid hv
  have HR := Lib.hid hr
  have HN := Lib.hid hn
  have HP := Lib.hid hp
  have hi := (okV_iff.1 hv).ihi
  clear hv hr hn hp
  go_enter Try.func34, Try.ntmps34
  go_wp2_with (go_at_call 71; refine (of_ok _ _ _ _ HR.out HV.out).mono ?_; rintro e w1 ⟨rfl, hb1⟩)
  obtain ⟨G, hG⟩ : ∃ G, Obj.cells #[.int .i64 v.length, .int .i64 (inosV v), .int .i64 1, .int .i64 2, .int .i64 3, .int .i64 (3 + ((inosV v : Nat) + 1 : Int) / 2)] 66 = G := ⟨_, rfl⟩
  rw [hG]
  have hg0 := blk_new w1 G
  have hB0 : Below w.heap.size w (w1.alloc G) := hb1.alloc hb1.size _
  have hsz := hb1.size
  have hlt0 : w1.heap.size < (w1.alloc G).heap.size := by simp
  generalize w1.alloc G = W0 at *
  generalize w1.heap.size = gg at *
  have HG0 := Lib.hid hg0
  have HB0 := Lib.hid hB0
  clear hg0 hB0 hb1
  go_loopw [11] (fun nv wr => ∃ k : Nat, 1 ≤ k ∧ k ≤ n ∧ nv = .int .i64 k ∧ Hid (wr.heap[gg]? = some G) ∧ Hid (Below w.heap.size w wr)) (fun nv _ => inosV v + 1 - (intOf nv).toNat)
  case atStart => exact ⟨1, Nat.le_refl _, h1, rfl, HG0, HB0⟩
  case round =>
    obtain ⟨k, hk1, hk, rfl, hg, hB⟩ := hrel
    have hgc := hg.out
    rw [← hG] at hgc
    obtain ⟨g0, g1, g2, g3, g4, g5⟩ := cells6 hgc
    clear hgc
    have hki : k ≤ inosV v := by omega
    by_cases hkn : k < n
    · have hne := HP.out k hk1 hkn
      have hne' : (((inoV v k).kind : Int) == 0) = false := by simpa using hne
      go_wp2_with (go_at_call 32; refine (iget_ok _ _ _ k _ (HR.out.below hB.out) HV.out (by omega) (by omega)).mono ?_; rintro e w3 ⟨rfl, hb3⟩)
      refine ⟨⟨k + 1, by omega, by omega, by go_num, ?_, ?_⟩, by simp only [intOf]; omega⟩
      · exact blk_keep (blk_keep hg.out hb3) ((Below.refl _ _).alloc (Nat.le_refl _) _)
      · exact (below_keep hB.out (Nat.le_refl _) hb3).alloc (by have := hB.out.size; have := hb3.size; omega) _
    · obtain rfl : k = n := by omega
      have hz := HN.out
      go_wp2_with (first
        | (go_at_call 32; refine (iget_ok _ _ _ k _ (HR.out.below hB.out) HV.out (by omega) (by omega)).mono ?_; rintro e w3 ⟨rfl, hb3⟩; have HB3 := Lib.hid (below_keep hB.out (Nat.le_refl _) hb3))
        | (go_at_call 77; refine (iput_fresh _ _ v k o _ (HR.out.below (HB3.out.alloc HB3.out.size _)) HV.out (by omega) (by omega) (by omega)).mono ?_; rintro e w4 ⟨g, cg, rfl, hv4, hg4, hb4⟩))
      go_ret3
      have hs3 := HB3.out.size
      have hs4 : w3.heap.size ≤ g := Nat.le_trans (by simp) hg4
      exact ⟨g, cg, rfl, hv4, by omega, below_keep (HB3.out.alloc HB3.out.size _) (Nat.le_refl _) hb4⟩
set_option maxHeartbeats 4000000 in
theorem inew_full (A : Option Addr) (c : Nat) (v : Vol) (o : Nat) (w : World) (hr : RS w A v) (hv : okV v = true) (ho : o < 16) (hp : ∀ j, 1 ≤ j → j ≤ inosV v → (inoV v j).kind ≠ 0) :
    Calls Try.prog 34 #[.slice A v.length c, .int .i64 1, .int .i64 o] w fun e w' => e = .returned (.tuple #[.slice none 0 0, .int .i64 0, .int .i64 10]) ∧ Below w.heap.size w w' := by
  have HV := Lib.hid hv
  have HR := Lib.hid hr
  have HP := Lib.hid hp
  have hi := (okV_iff.1 hv).ihi
  clear hv hr hp
  go_enter Try.func34, Try.ntmps34
  go_wp2_with (go_at_call 71; refine (of_ok _ _ _ _ HR.out HV.out).mono ?_; rintro e w1 ⟨rfl, hb1⟩)
  obtain ⟨G, hG⟩ : ∃ G, Obj.cells #[.int .i64 v.length, .int .i64 (inosV v), .int .i64 1, .int .i64 2, .int .i64 3, .int .i64 (3 + ((inosV v : Nat) + 1 : Int) / 2)] 66 = G := ⟨_, rfl⟩
  rw [hG]
  have hg0 := blk_new w1 G
  have hB0 : Below w.heap.size w (w1.alloc G) := hb1.alloc hb1.size _
  generalize w1.alloc G = W0 at *
  generalize w1.heap.size = gg at *
  have HG0 := Lib.hid hg0
  have HB0 := Lib.hid hB0
  clear hg0 hB0 hb1
  go_loopw [11] (fun nv wr => ∃ k : Nat, 1 ≤ k ∧ k ≤ inosV v + 1 ∧ nv = .int .i64 k ∧ Hid (wr.heap[gg]? = some G) ∧ Hid (Below w.heap.size w wr)) (fun nv _ => inosV v + 1 - (intOf nv).toNat)
  case atStart => exact ⟨1, Nat.le_refl _, by omega, rfl, HG0, HB0⟩
  case round =>
    obtain ⟨k, hk1, hk, rfl, hg, hB⟩ := hrel
    have hgc := hg.out
    rw [← hG] at hgc
    obtain ⟨g0, g1, g2, g3, g4, g5⟩ := cells6 hgc
    clear hgc
    by_cases hki : k ≤ inosV v
    · have hne := HP.out k hk1 hki
      have hne' : (((inoV v k).kind : Int) == 0) = false := by simpa using hne
      go_wp2_with (go_at_call 32; refine (iget_ok _ _ _ k _ (HR.out.below hB.out) HV.out (by omega) (by omega)).mono ?_; rintro e w3 ⟨rfl, hb3⟩)
      refine ⟨⟨k + 1, by omega, by omega, by go_num, ?_, ?_⟩, by simp only [intOf]; omega⟩
      · exact blk_keep (blk_keep hg.out hb3) ((Below.refl _ _).alloc (Nat.le_refl _) _)
      · exact (below_keep hB.out (Nat.le_refl _) hb3).alloc (by have := hB.out.size; have := hb3.size; omega) _
    · go_wp2
      go_ret3
      exact ⟨rfl, hB.out⟩
end Go.Proofs.Ytacdohlhalnioaa

/- Contract: an open file places a block. -/
import Derived.Test.YtacdohlhalnioaaW1
import Derived.Test.YtacdohlhalnioaaW2
set_option linter.unusedVariables false
set_option maxRecDepth 20000
namespace Go.Proofs.Ytacdohlhalnioaa
open Go.RowKit
attribute [local go_sem] Oper.semAt_some

set_option maxHeartbeats 1000000 in
theorem xplace_is (F g c L I d n : Nat) (v : Vol) (x : Ino) (k b : Nat) (w : World) (hf : FileAt w F g c L I d n v x) (hv : okV v = true) (hd : dataV v = d) (hk : k < 70) (h : atN d L v x k = b) (h0 : b ≠ 0) :
    Calls Try.prog 78 #[.pointer (some ⟨F, 0, none⟩), .int .i64 k] w fun e w' => e = .returned (.tuple #[.int .i64 b, .int .i64 0]) ∧ FileAt w' F g c L I d n v x ∧ Below w.heap.size w w' := by
  have H := okV_iff.1 hv
  have hd0 : 0 < d := by have := dataV_pos v; omega
  obtain rfl := hf.len
  have hat := Lib.hid (at_ok F g c v.length I d n v x k w hf hk hd0 H.size H.hi)
  rw [h, holeI, if_neg h0] at hat
  have hbn : ((b : Int) != -1) = true := by simp
  have HF := Lib.hid hf
  clear hf hv H h
  go_enter Try.func78, Try.ntmps78
  go_wp2_with (go_at_call 96; refine hat.out.mono ?_; rintro e w1 ⟨rfl, hb1⟩)
  go_ret2
  exact ⟨rfl, HF.out.keep hb1, hb1⟩
set_option maxHeartbeats 4000000 in
theorem xplace_one (F g c L I d n : Nat) (v : Vol) (x : Ino) (k b : Nat) (w : World) (hf : FileAt w F g c L I d n v x) (hv : okV v = true) (hd : dataV v = d) (hk : k < 70) (h : atN d L v x k = 0) (hg : k < 6 ∨ goodN d L x.ind = true) (hb : freeB v = some b) :
    Calls Try.prog 78 #[.pointer (some ⟨F, 0, none⟩), .int .i64 k] w fun e w' => e = .returned (.tuple #[.int .i64 b, .int .i64 0]) ∧ ∃ g' c', FileAt w' F g' c' L I d n (nameV d (tookV v b) x k b) (nameX x k b) ∧ ∀ B, B ≤ F → B ≤ g → B ≤ g' ∧ Below B w w' := by
  have H := okV_iff.1 hv
  have hd0 : 0 < d := by have := dataV_pos v; omega
  obtain rfl := hf.len
  obtain ⟨f1, f2, _⟩ := freeB_some hb
  have hkt := kept_tookV hv f1 f2
  have H2 := okV_iff.1 hkt.ok
  have hb256 : b < 256 := by have := H.hi; omega
  have hat := Lib.hid (at_ok F g c v.length I d n v x k w hf hk hd0 H.size H.hi)
  rw [h, holeI, if_pos rfl] at hat
  have htk := Lib.hid (fun w hf => xtake_ok F g c v.length I d n v x b w hf hv hb)
  have hnm := Lib.hid (fun g c w hf => xname_ok F g c v.length I d n (tookV v b) x k b w hf hk hb256 hg (fun j hj => H2.size j (by rw [hkt.len]; exact hj)) H.hi)
  have hgood := Lib.hid (fun w' (hf' : FileAt w' F g c v.length I d n v x) => good_ok F g c v.length I d n v x x.ind w' hf')
  have HF := Lib.hid hf
  have HL := Lib.hid hf.lt
  have HK := Lib.hid hkt
  have c18 : w.cell? ⟨F, 18, none⟩ = some (.int .i64 x.ind) := by rw [cell_at hf.blk]; rfl
  clear hf hv H H2 h hb hkt
  by_cases h6 : k < 6
  all_goals
    first | (have hki : ¬ (6 : Int) ≤ (k : Int) := by omega) | (have hki : (6 : Int) ≤ (k : Int) := by omega)
    try rw [hg.resolve_left h6] at hgood
    go_enter Try.func78, Try.ntmps78
    go_wp2_with (first
      | (go_at_call 96; refine hat.out.mono ?_; rintro e w1 ⟨rfl, hb1⟩; have c18 := cell_keep c18 hb1; have HB1 := Lib.hid hb1; clear hb1)
      | (go_at_call 63; refine (hgood.out _ (HF.out.keep HB1.out)).mono ?_; rintro e w2 ⟨rfl, rfl⟩)
      | (go_at_call 110; refine (htk.out _ (HF.out.keep HB1.out)).mono ?_; rintro e w2 ⟨rfl, g2, c2, hf2, hgs2, hb2⟩; have HF2 := Lib.hid hf2; have HB2 := Lib.hid hb2; clear hf2 hb2)
      | (go_at_call 111; refine (hnm.out _ _ _ HF2.out).mono ?_; rintro e w3 ⟨rfl, hf3, hb3⟩; have HF3 := Lib.hid hf3; have HB3 := Lib.hid hb3; clear hf3 hb3))
    go_ret2
    refine ⟨rfl, g2, c2, HF3.out, fun B h1 h2 => ?_⟩
    have s1 := HB1.out.size
    have s2 := HF.out.lt
    have s3 := HF.out.vol.lt
    exact ⟨by omega, ((HB1.out.mono (by omega)).trans (HB2.out B h1)).trans (HB3.out B h1 (by omega))⟩
theorem fcells_ind (F g c L I d n i : Nat) (x : Ino) :
    (#[.slice (some ⟨g, 0, none⟩) L c, .int .i64 L, .int .i64 I, .int .i64 1, .int .i64 2, .int .i64 3, .int .i64 d, .int .i64 n, .int .i64 ((x.kind : Nat) : Int), .int .i64 ((x.links : Nat) : Int), .int .i64 ((x.owner : Nat) : Int), .int .i64 ((x.size : Nat) : Int), .int .i64 ((x.d0 : Nat) : Int), .int .i64 ((x.d1 : Nat) : Int), .int .i64 ((x.d2 : Nat) : Int), .int .i64 ((x.d3 : Nat) : Int), .int .i64 ((x.d4 : Nat) : Int), .int .i64 ((x.d5 : Nat) : Int), .int .i64 ((x.ind : Nat) : Int), .int .i64 ((x.ext : Nat) : Int)] : Array Value).setIfInBounds 18 (.int .i64 i) = #[.slice (some ⟨g, 0, none⟩) L c, .int .i64 L, .int .i64 I, .int .i64 1, .int .i64 2, .int .i64 3, .int .i64 d, .int .i64 n, .int .i64 (((x.setI i).kind : Nat) : Int), .int .i64 (((x.setI i).links : Nat) : Int), .int .i64 (((x.setI i).owner : Nat) : Int), .int .i64 (((x.setI i).size : Nat) : Int), .int .i64 (((x.setI i).d0 : Nat) : Int), .int .i64 (((x.setI i).d1 : Nat) : Int), .int .i64 (((x.setI i).d2 : Nat) : Int), .int .i64 (((x.setI i).d3 : Nat) : Int), .int .i64 (((x.setI i).d4 : Nat) : Int), .int .i64 (((x.setI i).d5 : Nat) : Int), .int .i64 (((x.setI i).ind : Nat) : Int), .int .i64 (((x.setI i).ext : Nat) : Int)] := rfl
theorem FileAt.setI {w : World} {F g c L I d n : Nat} {v : Vol} {x : Ino} (h : FileAt w F g c L I d n v x) (i : Nat) : FileAt (w.setCell ⟨F, 18, none⟩ (.int .i64 i)) F g c L I d n v (x.setI i) := by
  have hb := blk_set h.blk 18 (.int .i64 i)
  rw [fcells_ind F] at hb
  exact ⟨hb, h.vol.other (Ne.symm h.ne), h.len, h.ne⟩
set_option maxHeartbeats 4000000 in
theorem xplace_two (F g c L I d n : Nat) (v : Vol) (x : Ino) (k i b : Nat) (w : World) (hf : FileAt w F g c L I d n v x) (hv : okV v = true) (hd : dataV v = d) (hk : k < 70) (h : atN d L v x k = 0) (h6 : 6 ≤ k) (hg : goodN d L x.ind = false) (hi : freeB v = some i) (hb : freeB (tookV v i) = some b) :
    Calls Try.prog 78 #[.pointer (some ⟨F, 0, none⟩), .int .i64 k] w fun e w' => e = .returned (.tuple #[.int .i64 b, .int .i64 0]) ∧ ∃ g' c', FileAt w' F g' c' L I d n (nameV d (tookV (tookV v i) b) (x.setI i) k b) (nameX (x.setI i) k b) ∧ ∀ B, B ≤ F → B ≤ g → B ≤ g' ∧ Below B w w' := by
  have H := okV_iff.1 hv
  have hd0 : 0 < d := by have := dataV_pos v; omega
  obtain rfl := hf.len
  obtain ⟨f1, f2, _⟩ := freeB_some hi
  have hk1 := kept_tookV hv f1 f2
  obtain ⟨f3, f4, _⟩ := freeB_some hb
  have hk2 := kept_tookV hk1.ok f3 f4
  have H2 := okV_iff.1 hk2.ok
  rw [hk1.len] at f4
  have hb256 : b < 256 := by have := H.hi; omega
  have hgi : goodN d v.length (x.setI i).ind = true := goodN_iff.2 ⟨by rw [← hd]; exact f1, f2⟩
  have hat := Lib.hid (at_ok F g c v.length I d n v x k w hf hk hd0 H.size H.hi)
  rw [h, holeI, if_pos rfl] at hat
  have htk := Lib.hid (fun w hf => xtake_ok F g c v.length I d n v x i w hf hv hi)
  have htk2 := Lib.hid (fun g c w hf => xtake_ok F g c v.length I d n (tookV v i) (x.setI i) b w hf hk1.ok hb)
  have hnm := Lib.hid (fun g c w hf => xname_ok F g c v.length I d n (tookV (tookV v i) b) (x.setI i) k b w hf hk hb256 (.inr hgi) (fun j hj => H2.size j (by rw [hk2.len, hk1.len]; exact hj)) H.hi)
  have hgood := Lib.hid (fun w' (hf' : FileAt w' F g c v.length I d n v x) => good_ok F g c v.length I d n v x x.ind w' hf')
  rw [hg] at hgood
  have HF := Lib.hid hf
  have c18 : w.cell? ⟨F, 18, none⟩ = some (.int .i64 x.ind) := by rw [cell_at hf.blk]; rfl
  have hki : (6 : Int) ≤ (k : Int) := by omega
  clear hf hv H H2 h hb hk1 hk2
  go_enter Try.func78, Try.ntmps78
  go_wp2_with (first
    | (go_at_call 96; refine hat.out.mono ?_; rintro e w1 ⟨rfl, hb1⟩; have c18 := cell_keep c18 hb1; have HB1 := Lib.hid hb1; clear hb1)
    | (go_at_call 63; refine (hgood.out _ (HF.out.keep HB1.out)).mono ?_; rintro e w2 ⟨rfl, rfl⟩)
    | (go_at_call 111; have := HF3; refine (hnm.out _ _ _ HF4.out).mono ?_; rintro e w3 ⟨rfl, hf3, hb3⟩; have HF5 := Lib.hid hf3; have HB5 := Lib.hid hb3; clear hf3 hb3)
    | (go_at_call 110; have := HF3; refine (htk2.out _ _ _ HF3.out).mono ?_; rintro e w4 ⟨rfl, g4, c4, hf4, hgs4, hb4⟩; have HF4 := Lib.hid hf4; have HB4 := Lib.hid hb4; clear hf4 hb4)
    | (go_at_call 110; refine (htk.out _ (HF.out.keep HB1.out)).mono ?_; rintro e w2 ⟨rfl, g2, c2, hf2, hgs2, hb2⟩; have HF2 := Lib.hid hf2; have HB2 := Lib.hid hb2; have c18 : w2.cell? ⟨F, 18, none⟩ = some (.int .i64 x.ind) := (by rw [cell_at hf2.blk]; rfl); have hfr := free_of hf2.blk 18; have hf3 := hf2.setI i; have HF3 := Lib.hid hf3; clear hf2 hb2 hf3))
  go_ret2
  refine ⟨rfl, g4, c4, HF5.out, fun B h1 h2 => ?_⟩
  have s1 := HB1.out.size
  have s2 := HF.out.lt
  have s3 := HF.out.vol.lt
  have s5 := (HB2.out 0 (Nat.zero_le _)).size
  have s6 : (w2.setCell ⟨F, 18, none⟩ (.int .i64 i)).heap.size = w2.heap.size := by simp
  exact ⟨by omega, (((HB1.out.mono (by omega)).trans (below_set (HB2.out B h1) h1)).trans (HB4.out B h1)).trans (HB5.out B h1 (by omega))⟩
set_option maxHeartbeats 4000000 in
theorem xplace_full1 (F g c L I d n : Nat) (v : Vol) (x : Ino) (k : Nat) (w : World) (hf : FileAt w F g c L I d n v x) (hv : okV v = true) (hd : dataV v = d) (hk : k < 70) (h : atN d L v x k = 0) (hb : freeB v = none) :
    Calls Try.prog 78 #[.pointer (some ⟨F, 0, none⟩), .int .i64 k] w fun e w' => e = .returned (.tuple #[.int .i64 0, .int .i64 10]) ∧ ∀ B, B ≤ F → Below B w w' := by
  have H := okV_iff.1 hv
  have hd0 : 0 < d := by have := dataV_pos v; omega
  obtain rfl := hf.len
  have hat := Lib.hid (at_ok F g c v.length I d n v x k w hf hk hd0 H.size H.hi)
  rw [h, holeI, if_pos rfl] at hat
  have htk := Lib.hid (fun w hf => xtake_full F g c v.length I d n v x w hf hv hb)
  have hgood := Lib.hid (fun w' (hf' : FileAt w' F g c v.length I d n v x) => good_ok F g c v.length I d n v x x.ind w' hf')
  have HF := Lib.hid hf
  have c18 : w.cell? ⟨F, 18, none⟩ = some (.int .i64 x.ind) := by rw [cell_at hf.blk]; rfl
  clear hf hv H h hb
  have hfin : ∀ w1 w2, Below w.heap.size w w1 → Below w1.heap.size w1 w2 → ∀ B, B ≤ F → Below B w w2 := fun w1 w2 h1 h2 B hB => (below_keep h1 (Nat.le_refl _) h2).mono (by have := HF.out.lt; omega)
  have HFIN := Lib.hid hfin
  clear hfin
  by_cases h6 : k < 6
  · have hki : ¬ (6 : Int) ≤ (k : Int) := by omega
    go_enter Try.func78, Try.ntmps78
    go_wp2_with (first
      | (go_at_call 96; refine hat.out.mono ?_; rintro e w1 ⟨rfl, hb1⟩; have c18 := cell_keep c18 hb1; have HB1 := Lib.hid hb1; clear hb1)
      | (go_at_call 110; refine (htk.out _ (HF.out.keep HB1.out)).mono ?_; rintro e w2 ⟨rfl, hb2⟩; have HB2 := Lib.hid hb2; clear hb2))
    go_ret2
    exact ⟨rfl, HFIN.out _ _ HB1.out HB2.out⟩
  · have hki : (6 : Int) ≤ (k : Int) := by omega
    by_cases hg : goodN d v.length x.ind = true
    · rw [hg] at hgood
      go_enter Try.func78, Try.ntmps78
      go_wp2_with (first
        | (go_at_call 96; refine hat.out.mono ?_; rintro e w1 ⟨rfl, hb1⟩; have c18 := cell_keep c18 hb1; have HB1 := Lib.hid hb1; clear hb1)
        | (go_at_call 63; refine (hgood.out _ (HF.out.keep HB1.out)).mono ?_; rintro e w2 ⟨rfl, rfl⟩)
        | (go_at_call 110; refine (htk.out _ (HF.out.keep HB1.out)).mono ?_; rintro e w2 ⟨rfl, hb2⟩; have HB2 := Lib.hid hb2; clear hb2))
      go_ret2
      exact ⟨rfl, HFIN.out _ _ HB1.out HB2.out⟩
    · rw [Bool.not_eq_true] at hg
      rw [hg] at hgood
      go_enter Try.func78, Try.ntmps78
      go_wp2_with (first
        | (go_at_call 96; refine hat.out.mono ?_; rintro e w1 ⟨rfl, hb1⟩; have c18 := cell_keep c18 hb1; have HB1 := Lib.hid hb1; clear hb1)
        | (go_at_call 63; refine (hgood.out _ (HF.out.keep HB1.out)).mono ?_; rintro e w2 ⟨rfl, rfl⟩)
        | (go_at_call 110; refine (htk.out _ (HF.out.keep HB1.out)).mono ?_; rintro e w2 ⟨rfl, hb2⟩; have HB2 := Lib.hid hb2; clear hb2))
      go_ret2
      exact ⟨rfl, HFIN.out _ _ HB1.out HB2.out⟩
set_option maxHeartbeats 4000000 in
theorem xplace_full2 (F g c L I d n : Nat) (v : Vol) (x : Ino) (k i : Nat) (w : World) (hf : FileAt w F g c L I d n v x) (hv : okV v = true) (hd : dataV v = d) (hk : k < 70) (h : atN d L v x k = 0) (h6 : 6 ≤ k) (hg : goodN d L x.ind = false) (hi : freeB v = some i) (hb : freeB (tookV v i) = none) :
    Calls Try.prog 78 #[.pointer (some ⟨F, 0, none⟩), .int .i64 k] w fun e w' => e = .returned (.tuple #[.int .i64 0, .int .i64 10]) ∧ ∀ B, B ≤ F → Below B w w' := by
  have H := okV_iff.1 hv
  have hd0 : 0 < d := by have := dataV_pos v; omega
  obtain rfl := hf.len
  obtain ⟨f1, f2, _⟩ := freeB_some hi
  have hk1 := kept_tookV hv f1 f2
  have hat := Lib.hid (at_ok F g c v.length I d n v x k w hf hk hd0 H.size H.hi)
  rw [h, holeI, if_pos rfl] at hat
  have htk := Lib.hid (fun w hf => xtake_ok F g c v.length I d n v x i w hf hv hi)
  have htk2 := Lib.hid (fun g c w hf => xtake_full F g c v.length I d n (tookV v i) (x.setI i) w hf hk1.ok hb)
  have hgood := Lib.hid (fun w' (hf' : FileAt w' F g c v.length I d n v x) => good_ok F g c v.length I d n v x x.ind w' hf')
  rw [hg] at hgood
  have HF := Lib.hid hf
  have c18 : w.cell? ⟨F, 18, none⟩ = some (.int .i64 x.ind) := by rw [cell_at hf.blk]; rfl
  have hki : (6 : Int) ≤ (k : Int) := by omega
  clear hf hv H h hb hk1
  go_enter Try.func78, Try.ntmps78
  go_wp2_with (first
    | (go_at_call 96; refine hat.out.mono ?_; rintro e w1 ⟨rfl, hb1⟩; have c18 := cell_keep c18 hb1; have HB1 := Lib.hid hb1; clear hb1)
    | (go_at_call 63; refine (hgood.out _ (HF.out.keep HB1.out)).mono ?_; rintro e w2 ⟨rfl, rfl⟩)
    | (go_at_call 110; have := HF3; refine (htk2.out _ _ _ HF3.out).mono ?_; rintro e w4 ⟨rfl, hb4⟩; have HB4 := Lib.hid hb4; clear hb4)
    | (go_at_call 110; refine (htk.out _ (HF.out.keep HB1.out)).mono ?_; rintro e w2 ⟨rfl, g2, c2, hf2, hgs2, hb2⟩; have HF2 := Lib.hid hf2; have HB2 := Lib.hid hb2; have c18 : w2.cell? ⟨F, 18, none⟩ = some (.int .i64 x.ind) := (by rw [cell_at hf2.blk]; rfl); have hfr := free_of hf2.blk 18; have hf3 := hf2.setI i; have HF3 := Lib.hid hf3; clear hf2 hb2 hf3))
  go_ret2
  refine ⟨rfl, fun B h1 => ?_⟩
  have s1 := HB1.out.size
  have s2 := HF.out.lt
  have s5 := (HB2.out 0 (Nat.zero_le _)).size
  have s6 : (w2.setCell ⟨F, 18, none⟩ (.int .i64 i)).heap.size = w2.heap.size := by simp
  exact ((HB1.out.mono (by omega)).trans (below_set (HB2.out B h1) h1)).trans (HB4.out.mono (by omega))
theorem xplace_ok (F g c L I d n : Nat) (v : Vol) (x : Ino) (k b : Nat) (v' : Vol) (x' : Ino) (w : World) (hf : FileAt w F g c L I d n v x) (hv : okV v = true) (hd : dataV v = d) (hk : k < 70) (h : placeV v x k = some (b, v', x')) :
    Calls Try.prog 78 #[.pointer (some ⟨F, 0, none⟩), .int .i64 k] w fun e w' => e = .returned (.tuple #[.int .i64 b, .int .i64 0]) ∧ ∃ g' c', FileAt w' F g' c' L I d n v' x' ∧ ∀ B, B ≤ F → B ≤ g → B ≤ g' ∧ Below B w w' := by
  have hlen := hf.len
  unfold placeV at h
  rw [hlen, hd] at h
  split at h
  · rename_i h0
    split at h
    · rename_i hg
      split at h
      · cases h
      · rename_i i hi
        cases h
        exact xplace_one F g c L I d n v x k b w hf hv hd hk h0 hg hi
    · rename_i hg
      rw [not_or, Bool.not_eq_true] at hg
      split at h
      · cases h
      · rename_i i hi
        split at h
        · cases h
        · rename_i j hj
          cases h
          exact xplace_two F g c L I d n v x k i b w hf hv hd hk h0 (by omega) hg.2 hi hj
  · rename_i hne
    cases h
    refine (xplace_is F g c L I d n v x k _ w hf hv hd hk rfl hne).mono ?_
    rintro e w' ⟨rfl, h1, h2⟩
    have s2 := hf.lt
    exact ⟨rfl, g, c, h1, fun B hF hg => ⟨hg, h2.mono (by omega)⟩⟩
theorem xplace_full (F g c L I d n : Nat) (v : Vol) (x : Ino) (k : Nat) (w : World) (hf : FileAt w F g c L I d n v x) (hv : okV v = true) (hd : dataV v = d) (hk : k < 70) (h : placeV v x k = none) :
    Calls Try.prog 78 #[.pointer (some ⟨F, 0, none⟩), .int .i64 k] w fun e w' => e = .returned (.tuple #[.int .i64 0, .int .i64 10]) ∧ ∀ B, B ≤ F → Below B w w' := by
  have hlen := hf.len
  unfold placeV at h
  rw [hlen, hd] at h
  split at h
  · rename_i h0
    split at h
    · rename_i hg
      split at h
      · rename_i hi
        exact xplace_full1 F g c L I d n v x k w hf hv hd hk h0 hi
      · cases h
    · rename_i hg
      rw [not_or, Bool.not_eq_true] at hg
      split at h
      · rename_i hi
        exact xplace_full1 F g c L I d n v x k w hf hv hd hk h0 hi
      · rename_i i hi
        split at h
        · rename_i hj
          exact xplace_full2 F g c L I d n v x k i w hf hv hd hk h0 (by omega) hg.2 hi hj
        · cases h
  · cases h
end Go.Proofs.Ytacdohlhalnioaa

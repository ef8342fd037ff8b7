/- Contracts: a block is taken (the program's and the document's). -/
import Derived.Test.YtacdohlhalnioaaG2
import Derived.Test.YtacdohlhalnioaaC7
import Derived.OwnWalk
set_option linter.unusedVariables false
set_option maxRecDepth 20000
namespace Go.Proofs.Ytacdohlhalnioaa
open Go.RowKit
attribute [local go_sem] Oper.semAt_some

theorem with_as (A : Option Addr) (c : Nat) (v : Vol) (i : Nat) (s : Blk) (w : World) (n : Nat) (hn : v.length = n) (hr : RS w A v) (hi : i < v.length) :
    Calls Try.prog 135 #[.slice A n c, .int .i64 i, .string (mk s)] w fun e w' => ∃ g, e = .returned (.slice (some ⟨g, 0, none⟩) n n) ∧ VS w' g (v.set i s) ∧ w.heap.size ≤ g ∧ Below w.heap.size w w' := by
  subst hn
  exact with_ok A c v i s w hr hi
theorem rwith_as (A : Option Addr) (c : Nat) (v : Vol) (i : Nat) (s : Blk) (w : World) (n : Nat) (hn : v.length = n) (hr : RS w A v) (hi : i < v.length) :
    Calls Try.prog 117 #[.slice A n c, .int .i64 i, .string (mk s)] w fun e w' => ∃ g c', e = .returned (.slice (some ⟨g, 0, none⟩) n c') ∧ VS w' g (v.set i s) ∧ w.heap.size ≤ g ∧ Below w.heap.size w w' := by
  subst hn
  exact rwith_ok A c v i s w hr hi

set_option maxHeartbeats 2000000 in
theorem take_ok (A : Option Addr) (c : Nat) (v : Vol) (i : Nat) (w : World) (hr : RS w A v) (hv : okV v = true) (hi1 : dataV v ≤ i) (hi2 : i < v.length) (hi3 : bit (bk v 2) i = false) (hi4 : ∀ j, dataV v ≤ j → j < i → bit (bk v 2) j = true) :
    Calls Try.prog 129 #[.slice A v.length c] w fun e w' => ∃ g c', e = .returned (.tuple #[.slice (some ⟨g, 0, none⟩) v.length c', .int .i64 i, .int .i64 0]) ∧ VS w' g ((v.set 2 (turn (bk v 2) i)).set i (zs 128)) ∧ w.heap.size ≤ g ∧ Below w.heap.size w w' := by
  have H := okV_iff.1 hv
  obtain ⟨h1, h2, h3, h4, h5, h6, h7, h8⟩ := H
  have hl := hr.1
  have HRR := Lib.hid hr
  obtain ⟨bA, oA, rfl, hbA, hc⟩ := hr.open_ (by omega)
  have hc2 := hc 2 (by omega)
  have S2 := Lib.hid (h1 2 (by omega))
  have HV := Lib.hid hv
  have i2 : (2 : Int) < (v.length : Nat) := by omega
  clear hr hc hv h1 h7 h8
  obtain ⟨d, hd⟩ : ∃ d, dataV v = d := ⟨_, rfl⟩
  have hdd : (3 + ((inosV v : Nat) + 1 : Int) / 2) = (d : Int) := by rw [← hd, dataV]; omega
  have hd' : d < v.length := by rw [← hd, dataV]; exact h6
  rw [hd] at hi1 hi4
  go_enter Try.func129, Try.ntmps129
  go_wp2_with (go_at_call 71; refine (of_ok _ _ _ _ HRR.out HV.out).mono ?_; rw [hdd]; rintro e w1 ⟨rfl, hb1⟩)
  have hb2 : Below w.heap.size w (w1.alloc (.cells #[.int .i64 v.length, .int .i64 (inosV v), .int .i64 1, .int .i64 2, .int .i64 3, .int .i64 d] 66)) := hb1.alloc hb1.size _
  obtain ⟨g0, g1, g2, g3, g4, g5⟩ := cells6 (blk_new w1 (.cells #[.int .i64 v.length, .int .i64 (inosV v), .int .i64 1, .int .i64 2, .int .i64 3, .int .i64 d] 66))
  generalize hW0 : w1.alloc (.cells #[.int .i64 v.length, .int .i64 (inosV v), .int .i64 1, .int .i64 2, .int .i64 3, .int .i64 d] 66) = W0 at *
  have d2 := cell_keep hc2 hb2
  have HR0 := HRR.out.below hb2
  have HB2 := Lib.hid hb2
  have HRW := Lib.hid HR0
  clear hW0 hb2 HR0
  go_wp2
  go_loop [7] (fun iv => ∃ k : Nat, d ≤ k ∧ k ≤ v.length ∧ iv = .int .i64 k ∧ k ≤ i) (fun iv => v.length - (intOf iv).toNat)
  case atStart => exact ⟨d, Nat.le_refl _, by omega, rfl, hi1⟩
  case round =>
    obtain ⟨k, hdk, hk, rfl, hki⟩ := hrel
    have hlt : k < v.length := by omega
    by_cases hb : bit (bk v 2) k = true
    · have hki' : k < i := by
        rcases Nat.lt_or_ge k i with h | h
        · exact h
        · have : k = i := by omega
          rw [this, hi3] at hb
          cases hb
      go_wp2_with (go_at_call 94; refine (has_ok _ _ _ S2.out (by omega)).mono ?_; rintro e w3 ⟨rfl, rfl⟩)
      refine ⟨⟨k + 1, by omega, by omega, by go_num, hki'⟩, by simp only [intOf]; omega⟩
    · have hb' : bit (bk v 2) k = false := by simpa using hb
      have hke : k = i := by
        rcases Nat.lt_or_ge k i with h | h
        · exact absurd (hi4 k hdk h) hb
        · omega
      subst hke
      clear hi4 hb hi3
      go_wp2_with (go_at_call 94; refine (has_ok _ _ _ S2.out (by omega)).mono ?_; rintro e w3 ⟨rfl, rfl⟩)
      refine region_P (fun w' => w'.cell? ⟨bA, oA + 2, none⟩ = some (.string (mk (bk v 2))) ∧ w'.cell? ⟨w1.heap.size, 3, none⟩ = some (.int .i64 2)) [] (by kernel_rfl) ?_ (fun hHeld => ?_)
      · exact ⟨d2, g3⟩
      refine wpP_take (i := 0) (oi := ?oi192001) (v := ?v192001) ?hi192001 (by kernel_rfl) (by kernel_rfl) (by kernel_rfl) (by kernel_rfl) ?hQ192001 ?hy192001 (by assumption) ?rest192001
      case hi192001 => (simp only [List.getElem?_toArray, List.getElem?_cons_succ, List.getElem?_cons_zero]; exact rfl)
      case hQ192001 => exact fun _ _ _ h => h
      case hy192001 => (refine Or.inl ⟨by kernel_rfl, ?_⟩; intro w hSw; (try dsimp only at hSw); go_simp; try (with_reducible rfl))
      try simp only [Act.put, List.setIfInBounds_toArray, List.set_cons_zero, List.set_cons_succ]
      refine wpP_take (i := 1) (oi := ?oi192002) (v := ?v192002) ?hi192002 (by kernel_rfl) (by kernel_rfl) (by kernel_rfl) (by kernel_rfl) ?hQ192002 ?hy192002 (by assumption) ?rest192002
      case hi192002 => (simp only [List.getElem?_toArray, List.getElem?_cons_succ, List.getElem?_cons_zero]; exact rfl)
      case hQ192002 => exact fun _ _ _ h => h
      case hy192002 => (refine Or.inl ⟨by kernel_rfl, ?_⟩; intro w hSw; (try dsimp only at hSw); go_simp; try (with_reducible rfl))
      try simp only [Act.put, List.setIfInBounds_toArray, List.set_cons_zero, List.set_cons_succ]
      refine wpP_take (i := 2) (oi := ?oi192003) (v := ?v192003) ?hi192003 (by kernel_rfl) (by kernel_rfl) (by kernel_rfl) (by kernel_rfl) ?hQ192003 ?hy192003 (by assumption) ?rest192003
      case hi192003 => (simp only [List.getElem?_toArray, List.getElem?_cons_succ, List.getElem?_cons_zero]; exact rfl)
      case hQ192003 => exact fun _ _ _ h => h
      case hy192003 => (refine Or.inl ⟨by kernel_rfl, ?_⟩; intro w hSw; (try dsimp only at hSw); go_simp; try (with_reducible rfl))
      try simp only [Act.put, List.setIfInBounds_toArray, List.set_cons_zero, List.set_cons_succ]
      refine wpP_take (i := 3) (oi := ?oi192004) (v := ?v192004) ?hi192004 (by kernel_rfl) (by kernel_rfl) (by kernel_rfl) (by kernel_rfl) ?hQ192004 ?hy192004 (by assumption) ?rest192004
      case hi192004 => (simp only [List.getElem?_toArray, List.getElem?_cons_succ, List.getElem?_cons_zero]; exact rfl)
      case hQ192004 => exact fun _ _ _ h => h
      case hy192004 => (refine Or.inl ⟨by kernel_rfl, ?_⟩; intro w hSw; (try dsimp only at hSw); go_simp; try (with_reducible rfl))
      try simp only [Act.put, List.setIfInBounds_toArray, List.set_cons_zero, List.set_cons_succ]
      refine wpP_take (i := 4) (oi := ?oi192005) (v := ?v192005) ?hi192005 (by kernel_rfl) (by kernel_rfl) (by kernel_rfl) (by kernel_rfl) ?hQ192005 ?hy192005 (by assumption) ?rest192005
      case hi192005 => (simp only [List.getElem?_toArray, List.getElem?_cons_succ, List.getElem?_cons_zero]; exact rfl)
      case hQ192005 => exact fun _ _ _ h => h
      case hy192005 => (refine Or.inl ⟨by kernel_rfl, ?_⟩; intro w hSw; (try dsimp only at hSw); go_simp; try (with_reducible rfl))
      try simp only [Act.put, List.setIfInBounds_toArray, List.set_cons_zero, List.set_cons_succ]
      refine wpP_take (i := 5) (oi := ?oi192006) (v := ?v192006) ?hi192006 (by kernel_rfl) (by kernel_rfl) (by kernel_rfl) (by kernel_rfl) ?hQ192006 ?hy192006 (by assumption) ?rest192006
      case hi192006 => (simp only [List.getElem?_toArray, List.getElem?_cons_succ, List.getElem?_cons_zero]; exact rfl)
      case hQ192006 => exact fun _ _ _ h => h
      case hy192006 => (refine Or.inl ⟨by kernel_rfl, ?_⟩; intro w hSw; (try dsimp only at hSw); go_simp; try (with_reducible rfl))
      try simp only [Act.put, List.setIfInBounds_toArray, List.set_cons_zero, List.set_cons_succ]
      refine wpP_take (i := 6) (oi := ?oi192007) (v := ?v192007) ?hi192007 (by kernel_rfl) (by kernel_rfl) (by kernel_rfl) (by kernel_rfl) ?hQ192007 ?hy192007 (by assumption) ?rest192007
      case hi192007 => (simp only [List.getElem?_toArray, List.getElem?_cons_succ, List.getElem?_cons_zero]; exact rfl)
      case hQ192007 => exact fun _ _ _ h => h
      case hy192007 => (refine Or.inl ⟨by kernel_rfl, ?_⟩; intro w hSw; (try dsimp only at hSw); go_simp; try (with_reducible rfl))
      try simp only [Act.put, List.setIfInBounds_toArray, List.set_cons_zero, List.set_cons_succ]
      refine wpP_take (i := 7) (oi := ?oi192008) (v := ?v192008) ?hi192008 (by kernel_rfl) (by kernel_rfl) (by kernel_rfl) (by kernel_rfl) ?hQ192008 ?hy192008 (by assumption) ?rest192008
      case hi192008 => (simp only [List.getElem?_toArray, List.getElem?_cons_succ, List.getElem?_cons_zero]; exact rfl)
      case hQ192008 => exact fun _ _ _ h => h
      case hy192008 => (refine Or.inl ⟨by kernel_rfl, ?_⟩; intro w hSw; (try dsimp only at hSw); go_simp; try (with_reducible rfl))
      try simp only [Act.put, List.setIfInBounds_toArray, List.set_cons_zero, List.set_cons_succ]
      refine wpP_take (i := 8) (oi := ?oi192009) (v := ?v192009) ?hi192009 (by kernel_rfl) (by kernel_rfl) (by kernel_rfl) (by kernel_rfl) ?hQ192009 ?hy192009 (by assumption) ?rest192009
      case hi192009 => (simp only [List.getElem?_toArray, List.getElem?_cons_succ, List.getElem?_cons_zero]; exact rfl)
      case hQ192009 => exact fun _ _ _ h => h
      case hy192009 => (refine Or.inl ⟨by kernel_rfl, ?_⟩; intro w hSw; (try dsimp only at hSw); go_simp; try (with_reducible rfl))
      try simp only [Act.put, List.setIfInBounds_toArray, List.set_cons_zero, List.set_cons_succ]
      refine wpP_take (i := 11) (oi := ?oi192010) (v := ?v192010) ?hi192010 (by kernel_rfl) (by kernel_rfl) (by kernel_rfl) (by kernel_rfl) ?hQ192010 ?hy192010 (by assumption) ?rest192010
      case hi192010 => (simp only [List.getElem?_toArray, List.getElem?_cons_succ, List.getElem?_cons_zero]; exact rfl)
      case hQ192010 => exact fun _ _ _ h => h
      case hy192010 => (refine Or.inl ⟨by kernel_rfl, ?_⟩; intro w hSw; (try dsimp only at hSw); go_simp; try (with_reducible rfl))
      try simp only [Act.put, List.setIfInBounds_toArray, List.set_cons_zero, List.set_cons_succ]
      refine wpP_take (i := 14) (oi := ?oi192011) (v := ?v192011) ?hi192011 (by kernel_rfl) (by kernel_rfl) (by kernel_rfl) (by kernel_rfl) ?hQ192011 ?hy192011 (by assumption) ?rest192011
      case hi192011 => (simp only [List.getElem?_toArray, List.getElem?_cons_succ, List.getElem?_cons_zero]; exact rfl)
      case hQ192011 => exact fun _ _ _ h => h
      case hy192011 => (refine Or.inl ⟨by kernel_rfl, ?_⟩; intro w hSw; (try dsimp only at hSw); go_simp; try (with_reducible rfl))
      try simp only [Act.put, List.setIfInBounds_toArray, List.set_cons_zero, List.set_cons_succ]
      refine wpP_ready (rs := [9]) (by kernel_rfl) (by simp) ?_
      refine AllP.cons (o := ?o192012) ?ho192012 (fun K hK => ?_) AllP.nil
      case ho192012 => (simp only [List.getElem?_toArray, List.getElem?_cons_succ, List.getElem?_cons_zero]; exact rfl)
      go_simp
      go_at_call 93
      refine (turn_ok _ _ _ S2.out (by omega)).mono ?_
      rintro e w3 ⟨rfl, k1⟩
      refine hK.out _ _ ?_ (fun hHeld => ?_)
      · exact ⟨cell_keep hHeld.1 k1, cell_keep hHeld.2 k1⟩
      clear hK K
      try simp only [Act.put, List.setIfInBounds_toArray, List.set_cons_zero, List.set_cons_succ]
      refine wpP_ready (rs := [10]) (by kernel_rfl) (by simp) ?_
      refine AllP.cons (o := ?o192013) ?ho192013 (fun K hK => ?_) AllP.nil
      case ho192013 => (simp only [List.getElem?_toArray, List.getElem?_cons_succ, List.getElem?_cons_zero]; exact rfl)
      go_simp
      go_at_call 135
      refine (with_ok _ _ v 2 _ _ ((HRW.out.below (Below.refl _ _).drew).below k1) (by omega)).mono ?_
      rintro e w4 ⟨g, rfl, hg1, hg, k2⟩
      refine hK.out _ _ ?_ (fun hHeld => ?_)
      · exact ⟨cell_keep hHeld.1 k2, cell_keep hHeld.2 k2⟩
      clear hK K
      try simp only [Act.put, List.setIfInBounds_toArray, List.set_cons_zero, List.set_cons_succ]
      refine wpP_ready (rs := [12]) (by kernel_rfl) (by simp) ?_
      refine AllP.cons (o := ?o192014) ?ho192014 (fun K hK => ?_) AllP.nil
      case ho192014 => (simp only [List.getElem?_toArray, List.getElem?_cons_succ, List.getElem?_cons_zero]; exact rfl)
      go_simp
      go_at_call 91
      refine (zeros_ok _).mono ?_
      rintro e w5 ⟨rfl, k3⟩
      refine hK.out _ _ ?_ (fun hHeld => ?_)
      · exact ⟨cell_keep hHeld.1 k3, cell_keep hHeld.2 k3⟩
      clear hK K
      try simp only [Act.put, List.setIfInBounds_toArray, List.set_cons_zero, List.set_cons_succ]
      refine wpP_ready (rs := [13]) (by kernel_rfl) (by simp) ?_
      refine AllP.cons (o := ?o192015) ?ho192015 (fun K hK => ?_) AllP.nil
      case ho192015 => (simp only [List.getElem?_toArray, List.getElem?_cons_succ, List.getElem?_cons_zero]; exact rfl)
      go_simp
      have hln : (v.set 2 (turn (bk v 2) k)).length = v.length := by simp
      go_at_call 135
      refine (with_as _ _ _ k _ _ v.length hln ((hg1.rs (by rw [hln]; exact hl)).below k3) (by rw [hln]; exact hlt)).mono ?_
      rintro e w6 ⟨g', rfl, hg2, hg', k4⟩
      refine hK.out _ _ ?_ (fun hHeld => ?_)
      · exact ⟨cell_keep hHeld.1 k4, cell_keep hHeld.2 k4⟩
      clear hK K
      try simp only [Act.put, List.setIfInBounds_toArray, List.set_cons_zero, List.set_cons_succ]
      refine wpP_take (i := 15) (oi := ?oi192016) (v := ?v192016) ?hi192016 (by kernel_rfl) (by kernel_rfl) (by kernel_rfl) (by kernel_rfl) ?hQ192016 ?hy192016 (by assumption) ?rest192016
      case hi192016 => (simp only [List.getElem?_toArray, List.getElem?_cons_succ, List.getElem?_cons_zero]; exact rfl)
      case hQ192016 => exact fun _ _ _ h => h
      case hy192016 => (refine Or.inl ⟨by kernel_rfl, ?_⟩; intro w hSw; (try dsimp only at hSw); go_simp; try (with_reducible rfl))
      try simp only [Act.put, List.setIfInBounds_toArray, List.set_cons_zero, List.set_cons_succ]
      refine wpP_take (i := 16) (oi := ?oi192017) (v := ?v192017) ?hi192017 (by kernel_rfl) (by kernel_rfl) (by kernel_rfl) (by kernel_rfl) ?hQ192017 ?hy192017 (by assumption) ?rest192017
      case hi192017 => (simp only [List.getElem?_toArray, List.getElem?_cons_succ, List.getElem?_cons_zero]; exact rfl)
      case hQ192017 => exact fun _ _ _ h => h
      case hy192017 => (refine Or.inl ⟨by kernel_rfl, ?_⟩; intro w hSw; (try dsimp only at hSw); go_simp; try (with_reducible rfl))
      try simp only [Act.put, List.setIfInBounds_toArray, List.set_cons_zero, List.set_cons_succ]
      refine wpP_take (i := 17) (oi := ?oi192018) (v := ?v192018) ?hi192018 (by kernel_rfl) (by kernel_rfl) (by kernel_rfl) (by kernel_rfl) ?hQ192018 ?hy192018 (by assumption) ?rest192018
      case hi192018 => (simp only [List.getElem?_toArray, List.getElem?_cons_succ, List.getElem?_cons_zero]; exact rfl)
      case hQ192018 => exact fun _ _ _ h => h
      case hy192018 => (refine Or.inl ⟨by kernel_rfl, ?_⟩; intro w hSw; (try dsimp only at hSw); go_simp; try (with_reducible rfl))
      try simp only [Act.put, List.setIfInBounds_toArray, List.set_cons_zero, List.set_cons_succ]
      refine wpP_done (by kernel_rfl) ?_ _
      go_wp2
      go_ret3
      refine ⟨_, _, rfl, hg2, ?_, ?_⟩
      · have := HB2.out.size; have := k1.size; have := k2.size; have := k3.size; have e0 : W0.drew.heap.size = W0.heap.size := rfl; omega
      · exact below_keep (below_keep (below_keep (below_keep HB2.out.drew (Nat.le_refl _) k1) (by omega) k2) (by omega) k3) (by omega) k4

set_option maxHeartbeats 2000000 in
theorem take_full (A : Option Addr) (c : Nat) (v : Vol) (w : World) (hr : RS w A v) (hv : okV v = true) (hi4 : ∀ j, dataV v ≤ j → j < v.length → bit (bk v 2) j = true) :
    Calls Try.prog 129 #[.slice A v.length c] w fun e w' => e = .returned (.tuple #[.slice none 0 0, .int .i64 0, .int .i64 10]) ∧ Below w.heap.size w w' := by
  have H := okV_iff.1 hv
  obtain ⟨h1, h2, h3, h4, h5, h6, h7, h8⟩ := H
  have hl := hr.1
  have HRR := Lib.hid hr
  obtain ⟨bA, oA, rfl, hbA, hc⟩ := hr.open_ (by omega)
  have hc2 := hc 2 (by omega)
  have S2 := Lib.hid (h1 2 (by omega))
  have HV := Lib.hid hv
  have i2 : (2 : Int) < (v.length : Nat) := by omega
  clear hr hc hv h1 h7 h8
  obtain ⟨d, hd⟩ : ∃ d, dataV v = d := ⟨_, rfl⟩
  have hdd : (3 + ((inosV v : Nat) + 1 : Int) / 2) = (d : Int) := by rw [← hd, dataV]; omega
  have hd' : d < v.length := by rw [← hd, dataV]; exact h6
  rw [hd] at hi4
  go_enter Try.func129, Try.ntmps129
  go_wp2_with (go_at_call 71; refine (of_ok _ _ _ _ HRR.out HV.out).mono ?_; rw [hdd]; rintro e w1 ⟨rfl, hb1⟩)
  have hb2 : Below w.heap.size w (w1.alloc (.cells #[.int .i64 v.length, .int .i64 (inosV v), .int .i64 1, .int .i64 2, .int .i64 3, .int .i64 d] 66)) := hb1.alloc hb1.size _
  obtain ⟨g0, g1, g2, g3, g4, g5⟩ := cells6 (blk_new w1 (.cells #[.int .i64 v.length, .int .i64 (inosV v), .int .i64 1, .int .i64 2, .int .i64 3, .int .i64 d] 66))
  generalize hW0 : w1.alloc (.cells #[.int .i64 v.length, .int .i64 (inosV v), .int .i64 1, .int .i64 2, .int .i64 3, .int .i64 d] 66) = W0 at *
  have d2 := cell_keep hc2 hb2
  have HR0 := HRR.out.below hb2
  have HB2 := Lib.hid hb2
  have HRW := Lib.hid HR0
  clear hW0 hb2 HR0
  go_wp2
  go_loop [7] (fun iv => ∃ k : Nat, d ≤ k ∧ k ≤ v.length ∧ iv = .int .i64 k) (fun iv => v.length - (intOf iv).toNat)
  case atStart => exact ⟨d, Nat.le_refl _, by omega, rfl⟩
  case round =>
    obtain ⟨k, hdk, hk, rfl⟩ := hrel
    by_cases hlt : k < v.length
    · have hb := hi4 k hdk hlt
      go_wp2_with (go_at_call 94; refine (has_ok _ _ _ S2.out (by omega)).mono ?_; rintro e w3 ⟨rfl, rfl⟩)
      refine ⟨⟨k + 1, by omega, by omega, by go_num⟩, by simp only [intOf]; omega⟩
    · clear hi4
      go_wp2
      go_ret3
      exact ⟨rfl, HB2.out⟩

set_option maxHeartbeats 1000000 in
theorem take_no (A : Option Addr) (c : Nat) (v : Vol) (w : World) (hr : RS w A v) (hv : okV v = false) :
    Calls Try.prog 129 #[.slice A v.length c] w fun e w' => e = .returned (.tuple #[.slice none 0 0, .int .i64 0, .int .i64 3]) ∧ Below w.heap.size w w' := by
  have HV := Lib.hid hv
  have HRR := Lib.hid hr
  clear hv hr
  go_enter Try.func129, Try.ntmps129
  go_wp2_with (go_at_call 71; refine (of_no _ _ _ _ HRR.out HV.out).mono ?_; rintro e w1 ⟨rfl, hb1⟩)
  go_ret3
  exact ⟨rfl, hb1.alloc hb1.size _⟩

set_option maxHeartbeats 2000000 in
theorem rtake_ok (A : Option Addr) (c : Nat) (v : Vol) (i : Nat) (w : World) (hr : RS w A v) (hv : okV v = true) (hi1 : dataV v ≤ i) (hi2 : i < v.length) (hi3 : bit (bk v 2) i = false) (hi4 : ∀ j, dataV v ≤ j → j < i → bit (bk v 2) j = true) :
    Calls Try.prog 130 #[.slice A v.length c] w fun e w' => ∃ g c', e = .returned (.tuple #[.slice (some ⟨g, 0, none⟩) v.length c', .int .i64 i, .int .i64 0]) ∧ VS w' g ((v.set 2 (turn (bk v 2) i)).set i (zs 128)) ∧ w.heap.size ≤ g ∧ Below w.heap.size w w' := by
  have H := okV_iff.1 hv
  obtain ⟨h1, h2, h3, h4, h5, h6, h7, h8⟩ := H
  have hl := hr.1
  have HRR := Lib.hid hr
  obtain ⟨bA, oA, rfl, hbA, hc⟩ := hr.open_ (by omega)
  have hc2 := hc 2 (by omega)
  have S2 := Lib.hid (h1 2 (by omega))
  have HV := Lib.hid hv
  have i2 : (2 : Int) < (v.length : Nat) := by omega
  clear hr hc hv h1 h7 h8
  obtain ⟨d, hd⟩ : ∃ d, dataV v = d := ⟨_, rfl⟩
  have hdd : (3 + ((inosV v : Nat) + 1 : Int) / 2) = (d : Int) := by rw [← hd, dataV]; omega
  have hd' : d < v.length := by rw [← hd, dataV]; exact h6
  rw [hd] at hi1 hi4
  go_enter Try.func130, Try.ntmps130
  go_wp2_with (go_at_call 46; refine (rof_ok _ _ _ _ HRR.out HV.out).mono ?_; rw [hdd]; rintro e w1 ⟨rfl, hb1⟩)
  have hb2 : Below w.heap.size w (w1.alloc (.cells #[.int .i64 v.length, .int .i64 (inosV v), .int .i64 1, .int .i64 2, .int .i64 3, .int .i64 d] 66)) := hb1.alloc hb1.size _
  obtain ⟨g0, g1, g2, g3, g4, g5⟩ := cells6 (blk_new w1 (.cells #[.int .i64 v.length, .int .i64 (inosV v), .int .i64 1, .int .i64 2, .int .i64 3, .int .i64 d] 66))
  generalize hW0 : w1.alloc (.cells #[.int .i64 v.length, .int .i64 (inosV v), .int .i64 1, .int .i64 2, .int .i64 3, .int .i64 d] 66) = W0 at *
  have d2 := cell_keep hc2 hb2
  have HR0 := HRR.out.below hb2
  have HB2 := Lib.hid hb2
  have HRW := Lib.hid HR0
  clear hW0 hb2 HR0
  go_wp2
  go_loop [7] (fun iv => ∃ k : Nat, d ≤ k ∧ k ≤ v.length ∧ iv = .int .i64 k ∧ k ≤ i) (fun iv => v.length - (intOf iv).toNat)
  case atStart => exact ⟨d, Nat.le_refl _, by omega, rfl, hi1⟩
  case round =>
    obtain ⟨k, hdk, hk, rfl, hki⟩ := hrel
    have hlt : k < v.length := by omega
    by_cases hb : bit (bk v 2) k = true
    · have hki' : k < i := by
        rcases Nat.lt_or_ge k i with h | h
        · exact h
        · have : k = i := by omega
          rw [this, hi3] at hb
          cases hb
      go_wp2_with (go_at_call 88; refine (rbit_ok _ _ _ S2.out (by omega)).mono ?_; rintro e w3 ⟨rfl, rfl⟩)
      refine ⟨⟨k + 1, by omega, by omega, by go_num, hki'⟩, by simp only [intOf]; omega⟩
    · have hb' : bit (bk v 2) k = false := by simpa using hb
      have hke : k = i := by
        rcases Nat.lt_or_ge k i with h | h
        · exact absurd (hi4 k hdk h) hb
        · omega
      subst hke
      clear hi4 hb hi3
      have hln : (v.set 2 (turn (bk v 2) k)).length = v.length := by simp
      go_wp2_with (first
        | (go_at_call 88; refine (rbit_ok _ _ _ S2.out (by omega)).mono ?_; rintro e w3 ⟨rfl, rfl⟩)
        | (go_at_call 118; refine (rturn_ok _ _ _ S2.out (by omega)).mono ?_; rintro e w3 ⟨rfl, k1⟩)
        | (go_at_call 117; refine (rwith_as _ _ _ k _ _ v.length hln (hg1.rs (by rw [hln]; exact hl)) (by rw [hln]; exact hlt)).mono ?_; rintro e w6 ⟨g', c2, rfl, hg2, hg', k4⟩)
        | (go_at_call 117; refine (rwith_ok _ _ v 2 _ _ (HRW.out.below k1) (by omega)).mono ?_; rintro e w4 ⟨g, c1, rfl, hg1, hg, k2⟩)
        | (go_at_call 120; refine (rzeros_ok 128 _ (by omega)).mono ?_; rintro e w5 ⟨rfl, rfl⟩))
      go_ret3
      refine ⟨_, _, rfl, hg2, ?_, ?_⟩
      · have := HB2.out.size; have := k1.size; have := k2.size; have e0 : W0.drew.heap.size = W0.heap.size := rfl; omega
      · exact below_keep (below_keep (below_keep HB2.out (by omega) k1) (by omega) k2) (by omega) k4

set_option maxHeartbeats 2000000 in
theorem rtake_full (A : Option Addr) (c : Nat) (v : Vol) (w : World) (hr : RS w A v) (hv : okV v = true) (hi4 : ∀ j, dataV v ≤ j → j < v.length → bit (bk v 2) j = true) :
    Calls Try.prog 130 #[.slice A v.length c] w fun e w' => e = .returned (.tuple #[.slice none 0 0, .int .i64 0, .int .i64 10]) ∧ Below w.heap.size w w' := by
  have H := okV_iff.1 hv
  obtain ⟨h1, h2, h3, h4, h5, h6, h7, h8⟩ := H
  have hl := hr.1
  have HRR := Lib.hid hr
  obtain ⟨bA, oA, rfl, hbA, hc⟩ := hr.open_ (by omega)
  have hc2 := hc 2 (by omega)
  have S2 := Lib.hid (h1 2 (by omega))
  have HV := Lib.hid hv
  have i2 : (2 : Int) < (v.length : Nat) := by omega
  clear hr hc hv h1 h7 h8
  obtain ⟨d, hd⟩ : ∃ d, dataV v = d := ⟨_, rfl⟩
  have hdd : (3 + ((inosV v : Nat) + 1 : Int) / 2) = (d : Int) := by rw [← hd, dataV]; omega
  have hd' : d < v.length := by rw [← hd, dataV]; exact h6
  rw [hd] at hi4
  go_enter Try.func130, Try.ntmps130
  go_wp2_with (go_at_call 46; refine (rof_ok _ _ _ _ HRR.out HV.out).mono ?_; rw [hdd]; rintro e w1 ⟨rfl, hb1⟩)
  have hb2 : Below w.heap.size w (w1.alloc (.cells #[.int .i64 v.length, .int .i64 (inosV v), .int .i64 1, .int .i64 2, .int .i64 3, .int .i64 d] 66)) := hb1.alloc hb1.size _
  obtain ⟨g0, g1, g2, g3, g4, g5⟩ := cells6 (blk_new w1 (.cells #[.int .i64 v.length, .int .i64 (inosV v), .int .i64 1, .int .i64 2, .int .i64 3, .int .i64 d] 66))
  generalize hW0 : w1.alloc (.cells #[.int .i64 v.length, .int .i64 (inosV v), .int .i64 1, .int .i64 2, .int .i64 3, .int .i64 d] 66) = W0 at *
  have d2 := cell_keep hc2 hb2
  have HR0 := HRR.out.below hb2
  have HB2 := Lib.hid hb2
  have HRW := Lib.hid HR0
  clear hW0 hb2 HR0
  go_wp2
  go_loop [7] (fun iv => ∃ k : Nat, d ≤ k ∧ k ≤ v.length ∧ iv = .int .i64 k) (fun iv => v.length - (intOf iv).toNat)
  case atStart => exact ⟨d, Nat.le_refl _, by omega, rfl⟩
  case round =>
    obtain ⟨k, hdk, hk, rfl⟩ := hrel
    by_cases hlt : k < v.length
    · have hb := hi4 k hdk hlt
      go_wp2_with (go_at_call 88; refine (rbit_ok _ _ _ S2.out (by omega)).mono ?_; rintro e w3 ⟨rfl, rfl⟩)
      refine ⟨⟨k + 1, by omega, by omega, by go_num⟩, by simp only [intOf]; omega⟩
    · clear hi4
      go_wp2
      go_ret3
      exact ⟨rfl, HB2.out⟩

set_option maxHeartbeats 1000000 in
theorem rtake_no (A : Option Addr) (c : Nat) (v : Vol) (w : World) (hr : RS w A v) (hv : okV v = false) :
    Calls Try.prog 130 #[.slice A v.length c] w fun e w' => e = .returned (.tuple #[.slice none 0 0, .int .i64 0, .int .i64 3]) ∧ Below w.heap.size w w' := by
  have HV := Lib.hid hv
  have HRR := Lib.hid hr
  clear hv hr
  go_enter Try.func130, Try.ntmps130
  go_wp2_with (go_at_call 46; refine (rof_no _ _ _ _ HRR.out HV.out).mono ?_; rintro e w1 ⟨rfl, hb1⟩)
  go_ret3
  exact ⟨rfl, hb1.alloc hb1.size _⟩
end Go.Proofs.Ytacdohlhalnioaa

/- Contracts: where things are on a volume (the reference's). -/
import Derived.Test.YtacdohlhalnioaaC6
set_option linter.unusedVariables false
set_option maxRecDepth 20000
namespace Go.Proofs.Ytacdohlhalnioaa
open Go.RowKit

set_option maxHeartbeats 2000000 in
theorem rof_ok (A : Option Addr) (c : Nat) (v : Vol) (w : World) (hr : RS w A v) (hv : okV v = true) :
    Calls Try.prog 46 #[.slice A v.length c] w fun e w' => e = .returned (.tuple #[.agg #[.int .i64 v.length, .int .i64 (inosV v), .int .i64 1, .int .i64 2, .int .i64 3, .int .i64 (3 + ((inosV v : Nat) + 1 : Int) / 2)], .int .i64 0]) ∧ Below w.heap.size w w' := by
  have HV := Lib.hid hv
  clear hv
  have hl := hr.1
  have H := okV_iff.1 HV.out
  obtain ⟨h1, a1, a2, a3, a4, a5, h7, h8⟩ := H
  have KS := Lib.hid h1
  have K7 := Lib.hid h7
  have K8 := Lib.hid h8
  clear h1 h7 h8
  have h3 : ¬ v.length < 3 := by omega
  go_enter Try.func46, Try.ntmps46
  go_wp2
  go_loop [15] (fun i => ∃ k : Nat, k ≤ v.length ∧ i = .int .i64 k ∧ Hid (∀ j, j < k → (bk v j).length = 128)) (fun i => v.length - (intOf i).toNat)
  case atStart => exact ⟨0, Nat.zero_le _, rfl, fun j hj => by omega⟩
  case round =>
    obtain ⟨k, hk, rfl, K1⟩ := hrel
    by_cases hlt : k < v.length
    · obtain ⟨bA, oA, rfl, hbA, hc⟩ := hr.open_ (by omega)
      have hck := hc k hlt
      clear hc hr
      by_cases hsk : (bk v k).length = 128
      · go_wp2
        refine ⟨⟨k + 1, by omega, by go_num, ?_⟩, by simp only [intOf]; omega⟩
        intro j hj
        by_cases e : j = k
        · rw [e]; exact hsk
        · exact K1.out j (by omega)
      · exact absurd (KS.out k hlt) hsk
    · obtain rfl : k = v.length := by omega
      obtain ⟨bA, oA, rfl, hbA, hc⟩ := hr.open_ (by omega)
      have hc0 : w.cell? ⟨bA, oA, none⟩ = some (.string (mk (bk v 0))) := by simpa using hc 0 (by omega)
      have hc2 := hc 2 (by omega)
      have s0 := K1.out 0 (by omega)
      have s2 := K1.out 2 (by omega)
      have S0 := Lib.hid s0
      have S2 := Lib.hid s2
      have b0 : 8 ≤ (bk v 0).length := by omega
      have hp : planE v.length (inosV v) = 0 := by rw [planE, if_neg (by omega), if_neg (by omega)]
      have HP := Lib.hid hp
      clear hc hr hp s0 s2
      go_wp2_with (go_at_call 75; refine (rget_ok _ _ (by simp; omega)).mono ?_; rw [get_two (bk v 0) S0.out, show w2 (bk v 0) 6 = inosV v from rfl]; rintro e w' ⟨rfl, rfl⟩)
      refine (rplan_ok v.length (inosV v) _ (by omega) (by omega) HP.out).mono ?_
      rintro e w1 ⟨rfl, hb1⟩
      have hB1 : Below w.heap.size w w1 := below_keep ((Below.refl _ _).alloc (Nat.le_refl _) _) (Nat.le_refl _) hb1
      have hk1 := blk_keep (blk_new w _) hb1
      have hw1 := blk_lt hk1
      go_wp2_with fail
      have hB2 : Below w.heap.size w (w1.alloc (.cells #[.int .i64 v.length, .int .i64 (inosV v), .int .i64 1, .int .i64 2, .int .i64 3, .int .i64 (3 + ((inosV v : Nat) + 1 : Int) / 2)] 66)) := hB1.alloc hB1.size _
      have hk2 := blk_new w1 (.cells #[.int .i64 v.length, .int .i64 (inosV v), .int .i64 1, .int .i64 2, .int .i64 3, .int .i64 (3 + ((inosV v : Nat) + 1 : Int) / 2)] 66)
      have hk3 := blk_keep hk1 ((Below.refl _ _).alloc (Nat.le_refl _) (.cells #[.int .i64 v.length, .int .i64 (inosV v), .int .i64 1, .int .i64 2, .int .i64 3, .int .i64 (3 + ((inosV v : Nat) + 1 : Int) / 2)] 66))
      generalize w1.alloc (.cells #[.int .i64 v.length, .int .i64 (inosV v), .int .i64 1, .int .i64 2, .int .i64 3, .int .i64 (3 + ((inosV v : Nat) + 1 : Int) / 2)] 66) = W0 at hB2 hk2 hk3 ⊢
      have i0 : (0 : Int) < (v.length : Nat) := by omega
      have i2 : (2 : Int) < (v.length : Nat) := by omega
      have i0' : 0 < v.length := by omega
      obtain ⟨g0, g1, g2, g3, g4, g5⟩ := cells6 hk2
      have HK2 := Lib.hid hk2
      have HK3 := Lib.hid hk3
      have HC0 := Lib.hid hc0
      have HC2 := Lib.hid hc2
      clear hk1 hk2 hk3 hc0 hc2
      have d0 : W0.cell? ⟨bA, oA, none⟩ = some (.string (mk (firstB v.length (inosV v)))) := by rw [← K7.out]; exact cell_keep HC0.out hB2
      refine region_P (fun w' => w'.cell? ⟨bA, oA, none⟩ = some (.string (mk (firstB v.length (inosV v)))) ∧ w'.cell? ⟨w1.heap.size, 0, none⟩ = some (.int .i64 v.length) ∧ w'.cell? ⟨w1.heap.size, 1, none⟩ = some (.int .i64 (inosV v)) ∧ w'.cell? ⟨w1.heap.size, 2, none⟩ = some (.int .i64 1) ∧ w'.cell? ⟨w1.heap.size, 3, none⟩ = some (.int .i64 2) ∧ w'.cell? ⟨w1.heap.size, 4, none⟩ = some (.int .i64 3) ∧ w'.cell? ⟨w1.heap.size, 5, none⟩ = some (.int .i64 (3 + ((inosV v : Nat) + 1 : Int) / 2)) ∧ Below W0.heap.size W0 w') [] (by kernel_rfl) ?_ (fun hHeld => ?_)
      · exact ⟨d0, g0, g1, g2, g3, g4, g5, (Below.refl _ _).drew⟩
      refine wpP_take (i := 0) (oi := ?oi1) (v := ?v1) ?hi1 (by kernel_rfl) (by kernel_rfl) (by kernel_rfl) (by kernel_rfl) ?hQ1 ?hy1 (by assumption) ?rest1
      case hi1 => (simp only [List.getElem?_toArray, List.getElem?_cons_succ, List.getElem?_cons_zero]; exact rfl)
      case hQ1 => exact fun _ _ _ h => h
      case hy1 => (refine Or.inl ⟨by kernel_rfl, ?_⟩; intro w hSw; (try dsimp only at hSw); go_simp; try (with_reducible rfl))
      try simp only [Act.put, List.setIfInBounds_toArray, List.set_cons_zero, List.set_cons_succ]
      refine wpP_take (i := 1) (oi := ?oi2) (v := ?v2) ?hi2 (by kernel_rfl) (by kernel_rfl) (by kernel_rfl) (by kernel_rfl) ?hQ2 ?hy2 (by assumption) ?rest2
      case hi2 => (simp only [List.getElem?_toArray, List.getElem?_cons_succ, List.getElem?_cons_zero]; exact rfl)
      case hQ2 => exact fun _ _ _ h => h
      case hy2 => (refine Or.inl ⟨by kernel_rfl, ?_⟩; intro w hSw; (try dsimp only at hSw); go_simp; try (with_reducible rfl))
      try simp only [Act.put, List.setIfInBounds_toArray, List.set_cons_zero, List.set_cons_succ]
      refine wpP_take (i := 2) (oi := ?oi3) (v := ?v3) ?hi3 (by kernel_rfl) (by kernel_rfl) (by kernel_rfl) (by kernel_rfl) ?hQ3 ?hy3 (by assumption) ?rest3
      case hi3 => (simp only [List.getElem?_toArray, List.getElem?_cons_succ, List.getElem?_cons_zero]; exact rfl)
      case hQ3 => exact fun _ _ _ h => h
      case hy3 => (refine Or.inl ⟨by kernel_rfl, ?_⟩; intro w hSw; (try dsimp only at hSw); go_simp; try (with_reducible rfl))
      try simp only [Act.put, List.setIfInBounds_toArray, List.set_cons_zero, List.set_cons_succ]
      refine wpP_take (i := 3) (oi := ?oi4) (v := ?v4) ?hi4 (by kernel_rfl) (by kernel_rfl) (by kernel_rfl) (by kernel_rfl) ?hQ4 ?hy4 (by assumption) ?rest4
      case hi4 => (simp only [List.getElem?_toArray, List.getElem?_cons_succ, List.getElem?_cons_zero]; exact rfl)
      case hQ4 => exact fun _ _ _ h => h
      case hy4 => (refine Or.inl ⟨by kernel_rfl, ?_⟩; intro w hSw; (try dsimp only at hSw); go_simp; try (with_reducible rfl))
      try simp only [Act.put, List.setIfInBounds_toArray, List.set_cons_zero, List.set_cons_succ]
      refine wpP_take (i := 4) (oi := ?oi5) (v := ?v5) ?hi5 (by kernel_rfl) (by kernel_rfl) (by kernel_rfl) (by kernel_rfl) ?hQ5 ?hy5 (by assumption) ?rest5
      case hi5 => (simp only [List.getElem?_toArray, List.getElem?_cons_succ, List.getElem?_cons_zero]; exact rfl)
      case hQ5 => exact fun _ _ _ h => h
      case hy5 => (refine Or.inl ⟨by kernel_rfl, ?_⟩; intro w hSw; (try dsimp only at hSw); go_simp; try (with_reducible rfl))
      try simp only [Act.put, List.setIfInBounds_toArray, List.set_cons_zero, List.set_cons_succ]
      refine wpP_take (i := 5) (oi := ?oi6) (v := ?v6) ?hi6 (by kernel_rfl) (by kernel_rfl) (by kernel_rfl) (by kernel_rfl) ?hQ6 ?hy6 (by assumption) ?rest6
      case hi6 => (simp only [List.getElem?_toArray, List.getElem?_cons_succ, List.getElem?_cons_zero]; exact rfl)
      case hQ6 => exact fun _ _ _ h => h
      case hy6 => (refine Or.inl ⟨by kernel_rfl, ?_⟩; intro w hSw; (try dsimp only at hSw); go_simp; try (with_reducible rfl))
      try simp only [Act.put, List.setIfInBounds_toArray, List.set_cons_zero, List.set_cons_succ]
      refine wpP_take (i := 6) (oi := ?oi7) (v := ?v7) ?hi7 (by kernel_rfl) (by kernel_rfl) (by kernel_rfl) (by kernel_rfl) ?hQ7 ?hy7 (by assumption) ?rest7
      case hi7 => (simp only [List.getElem?_toArray, List.getElem?_cons_succ, List.getElem?_cons_zero]; exact rfl)
      case hQ7 => exact fun _ _ _ h => h
      case hy7 => (refine Or.inl ⟨by kernel_rfl, ?_⟩; intro w hSw; (try dsimp only at hSw); go_simp; try (with_reducible rfl))
      try simp only [Act.put, List.setIfInBounds_toArray, List.set_cons_zero, List.set_cons_succ]
      refine wpP_ready (rs := [7]) (by kernel_rfl) (by simp) ?_
      refine AllP.cons (o := ?o8) ?ho8 (fun K hK => ?_) AllP.nil
      case ho8 => (simp only [List.getElem?_toArray, List.getElem?_cons_succ, List.getElem?_cons_zero]; exact rfl)
      go_simp
      go_at_call 87
      refine (rhead_ok _ _ _ _ _ _ _ (by omega) (by omega)).mono ?_
      rintro e w3 ⟨rfl, hb3⟩
      have hz : Below W0.heap.size W0 w3 := below_keep (Below.refl _ _).drew (Nat.le_refl _) hb3
      refine hK.out _ _ ?_ (fun hHeld => ?_)
      · exact ⟨cell_keep d0 hz, cell_keep g0 hz, cell_keep g1 hz, cell_keep g2 hz, cell_keep g3 hz, cell_keep g4 hz, cell_keep g5 hz, hz⟩
      clear hK K
      try simp only [Act.put, List.setIfInBounds_toArray, List.set_cons_zero, List.set_cons_succ]
      refine wpP_take (i := 8) (oi := ?oi9) (v := ?v9) ?hi9 (by kernel_rfl) (by kernel_rfl) (by kernel_rfl) (by kernel_rfl) ?hQ9 ?hy9 (by assumption) ?rest9
      case hi9 => (simp only [List.getElem?_toArray, List.getElem?_cons_succ, List.getElem?_cons_zero]; exact rfl)
      case hQ9 => exact fun _ _ _ h => h
      case hy9 => (refine Or.inl ⟨by kernel_rfl, ?_⟩; intro w hSw; (try dsimp only at hSw); go_simp; try (with_reducible rfl))
      try simp only [Act.put, List.setIfInBounds_toArray, List.set_cons_zero, List.set_cons_succ]
      refine wpP_take (i := 9) (oi := ?oi10) (v := ?v10) ?hi10 (by kernel_rfl) (by kernel_rfl) (by kernel_rfl) (by kernel_rfl) ?hQ10 ?hy10 (by assumption) ?rest10
      case hi10 => (simp only [List.getElem?_toArray, List.getElem?_cons_succ, List.getElem?_cons_zero]; exact rfl)
      case hQ10 => exact fun _ _ _ h => h
      case hy10 => (refine Or.inl ⟨by kernel_rfl, ?_⟩; intro w hSw; (try dsimp only at hSw); go_simp; try (with_reducible rfl))
      try simp only [Act.put, List.setIfInBounds_toArray, List.set_cons_zero, List.set_cons_succ]
      refine wpP_done (by kernel_rfl) ?_ _
      have hB3 : Below w.heap.size w w3 := hB2.trans (hz.mono hB2.size)
      have HKR := Lib.hid (blk_keep HK3.out hz)
      obtain ⟨q0, q1, q2, q3, q4, q5⟩ := cells6 (blk_keep HK2.out hz)
      have d2 := cell_keep HC2.out hB3
      clear g0 g1 g2 g3 g4 g5 d0 hb3 hB2 hB1 hb1
      rename_i hheld
      clear hheld
      go_wp2
      go_loop [8] (fun i => ∃ k : Nat, k ≤ 1024 ∧ i = .int .i64 k) (fun i => 1024 - (intOf i).toNat)
      case atStart => exact ⟨0, Nat.zero_le _, rfl⟩
      case round =>
        obtain ⟨q, hq, rfl⟩ := hrel
        by_cases hlt2 : q < 1024
        · have hbit := (okmap_iff.1 K8.out) q hlt2
          by_cases c1 : q < dataV v
          · have e1 := hbit.1 c1
            have c1' : (q : Int) < 3 + ((inosV v : Nat) + 1 : Int) / 2 := by simp only [dataV] at c1; omega
            have c2' : (q : Int) < (v.length : Nat) := by simp only [dataV] at c1; omega
            clear hbit
            go_wp2_with (go_at_call 88; refine (rbit_ok _ q _ S2.out hlt2).mono ?_; rintro e w' ⟨rfl, rfl⟩)
            refine ⟨⟨q + 1, by omega, by go_num⟩, by simp only [intOf]; omega⟩
          · have c1' : 3 + ((inosV v : Nat) + 1 : Int) / 2 ≤ (q : Int) := by simp only [dataV] at c1; omega
            by_cases c2 : v.length ≤ q
            · have e1 := hbit.2 c2
              clear hbit
              go_wp2_with (go_at_call 88; refine (rbit_ok _ q _ S2.out hlt2).mono ?_; rintro e w' ⟨rfl, rfl⟩)
              refine ⟨⟨q + 1, by omega, by go_num⟩, by simp only [intOf]; omega⟩
            · clear hbit
              go_wp2
              refine ⟨⟨q + 1, by omega, by go_num⟩, by simp only [intOf]; omega⟩
        · obtain rfl : q = 1024 := by omega
          obtain ⟨r0, r1, r2, r3', r4, r5⟩ := cells6 HKR.out
          have f0 := free_of HKR.out 0
          have f1 := free_of HKR.out 1
          have f2 := free_of HKR.out 2
          have f3 := free_of HKR.out 3
          have f4 := free_of HKR.out 4
          have f5 := free_of HKR.out 5
          go_wp2
          refine bodyPost_ret (v := .tuple #[.agg #[.int .i64 v.length, .int .i64 (inosV v), .int .i64 1, .int .i64 2, .int .i64 3, .int .i64 (3 + ((inosV v : Nat) + 1 : Int) / 2)], .int .i64 0]) (by simp [results, Try.results46, go_sem, r0, r1, r2, r3', r4, r5]) rfl ⟨rfl, ?_⟩
          exact below_set6 hB3 (Nat.le_refl _)
set_option maxHeartbeats 2000000 in
theorem rof_no (A : Option Addr) (c : Nat) (v : Vol) (w : World) (hr : RS w A v) (hv : okV v = false) :
    Calls Try.prog 46 #[.slice A v.length c] w fun e w' => e = .returned (.tuple #[.agg #[.int .i64 0, .int .i64 0, .int .i64 0, .int .i64 0, .int .i64 0, .int .i64 0], .int .i64 3]) ∧ Below w.heap.size w w' := by
  have HV := Lib.hid hv
  clear hv
  have hl := hr.1
  by_cases h3 : v.length < 3
  · go_enter Try.func46, Try.ntmps46
    go_wp2
    refine bodyPost_ret (v := .tuple #[.agg #[.int .i64 0, .int .i64 0, .int .i64 0, .int .i64 0, .int .i64 0, .int .i64 0], .int .i64 3]) (by simp [results, Try.results46, go_sem]) rfl ⟨rfl, (Below.refl _ _).alloc (Nat.le_refl _) _⟩
  · go_enter Try.func46, Try.ntmps46
    go_wp2
    go_loop [15] (fun i => ∃ k : Nat, k ≤ v.length ∧ i = .int .i64 k ∧ Hid (∀ j, j < k → (bk v j).length = 128)) (fun i => v.length - (intOf i).toNat)
    case atStart => exact ⟨0, Nat.zero_le _, rfl, fun j hj => by omega⟩
    case round =>
      obtain ⟨k, hk, rfl, K1⟩ := hrel
      by_cases hlt : k < v.length
      · obtain ⟨bA, oA, rfl, hbA, hc⟩ := hr.open_ (by omega)
        have hck := hc k hlt
        clear hc hr
        by_cases hsk : (bk v k).length = 128
        · go_wp2
          refine ⟨⟨k + 1, by omega, by go_num, ?_⟩, by simp only [intOf]; omega⟩
          intro j hj
          by_cases e : j = k
          · rw [e]; exact hsk
          · exact K1.out j (by omega)
        · have hs1 : ((((bk v k).length : Nat) : Int) == 128) = false := by rw [beq_eq_false_iff_ne]; omega
          have hs2 : ((((bk v k).length : Nat) : Int) != 128) = true := by rw [bne_iff_ne]; omega
          go_wp2
          refine bodyPost_ret (v := .tuple #[.agg #[.int .i64 0, .int .i64 0, .int .i64 0, .int .i64 0, .int .i64 0, .int .i64 0], .int .i64 3]) (by simp [results, Try.results46, go_sem]) rfl ⟨rfl, (Below.refl _ _).alloc (Nat.le_refl _) _⟩
      · obtain rfl : k = v.length := by omega
        obtain ⟨bA, oA, rfl, hbA, hc⟩ := hr.open_ (by omega)
        have h1 := sized_iff.2 K1.out
        have H1 := Lib.hid h1
        have hc0 : w.cell? ⟨bA, oA, none⟩ = some (.string (mk (bk v 0))) := by simpa using hc 0 (by omega)
        have hc2 := hc 2 (by omega)
        have s0 := K1.out 0 (by omega)
        have s2 := K1.out 2 (by omega)
        have S0 := Lib.hid s0
        have S2 := Lib.hid s2
        have b0 : 8 ≤ (bk v 0).length := by omega
        have hi := w2_lt (bk v 0) 6
        rw [show w2 (bk v 0) 6 = inosV v from rfl] at hi
        have hpos : 0 < v.length := by omega
        clear hc hr h1 s0 s2
        by_cases hp : planE v.length (inosV v) = 0
        · have HP := Lib.hid hp
          obtain ⟨a1, a2, a3, a4, a5⟩ := planE_ok hp
          clear hp
          go_wp2_with (go_at_call 75; refine (rget_ok _ _ (by simp; omega)).mono ?_; rw [get_two (bk v 0) S0.out, show w2 (bk v 0) 6 = inosV v from rfl]; rintro e w' ⟨rfl, rfl⟩)
          refine (rplan_ok v.length (inosV v) _ (by omega) (by omega) HP.out).mono ?_
          rintro e w1 ⟨rfl, hb1⟩
          have hB1 : Below w.heap.size w w1 := below_keep ((Below.refl _ _).alloc (Nat.le_refl _) _) (Nat.le_refl _) hb1
          have hk1 := blk_keep (blk_new w _) hb1
          have hw1 := blk_lt hk1
          go_wp2_with fail
          have hB2 : Below w.heap.size w (w1.alloc (.cells #[.int .i64 v.length, .int .i64 (inosV v), .int .i64 1, .int .i64 2, .int .i64 3, .int .i64 (3 + ((inosV v : Nat) + 1 : Int) / 2)] 66)) := hB1.alloc hB1.size _
          have hk2 := blk_new w1 (.cells #[.int .i64 v.length, .int .i64 (inosV v), .int .i64 1, .int .i64 2, .int .i64 3, .int .i64 (3 + ((inosV v : Nat) + 1 : Int) / 2)] 66)
          have hk3 := blk_keep hk1 ((Below.refl _ _).alloc (Nat.le_refl _) (.cells #[.int .i64 v.length, .int .i64 (inosV v), .int .i64 1, .int .i64 2, .int .i64 3, .int .i64 (3 + ((inosV v : Nat) + 1 : Int) / 2)] 66))
          generalize w1.alloc (.cells #[.int .i64 v.length, .int .i64 (inosV v), .int .i64 1, .int .i64 2, .int .i64 3, .int .i64 (3 + ((inosV v : Nat) + 1 : Int) / 2)] 66) = W0 at hB2 hk2 hk3 ⊢
          have i0 : (0 : Int) < (v.length : Nat) := by omega
          have i2 : (2 : Int) < (v.length : Nat) := by omega
          have i0' : 0 < v.length := by omega
          obtain ⟨g0, g1, g2, g3, g4, g5⟩ := cells6 hk2
          have HK2 := Lib.hid hk2
          have HK3 := Lib.hid hk3
          have HC0 := Lib.hid hc0
          have HC2 := Lib.hid hc2
          clear hk1 hk2 hk3 hc0 hc2
          rcases no_head HV.out H1.out HP.out with hne | ⟨heq, hmap⟩
          · have hne1 : (bk v 0 == firstB v.length (inosV v)) = false := by rw [beq_eq_false_iff_ne]; exact hne
            have hne2 : (bk v 0 != firstB v.length (inosV v)) = true := by rw [bne_iff_ne]; exact hne
            have d0 := cell_keep HC0.out hB2
            clear hne
            refine region_P (fun w' => w'.cell? ⟨bA, oA, none⟩ = some (.string (mk (bk v 0))) ∧ w'.cell? ⟨w1.heap.size, 0, none⟩ = some (.int .i64 v.length) ∧ w'.cell? ⟨w1.heap.size, 1, none⟩ = some (.int .i64 (inosV v)) ∧ w'.cell? ⟨w1.heap.size, 2, none⟩ = some (.int .i64 1) ∧ w'.cell? ⟨w1.heap.size, 3, none⟩ = some (.int .i64 2) ∧ w'.cell? ⟨w1.heap.size, 4, none⟩ = some (.int .i64 3) ∧ w'.cell? ⟨w1.heap.size, 5, none⟩ = some (.int .i64 (3 + ((inosV v : Nat) + 1 : Int) / 2)) ∧ Below W0.heap.size W0 w') [] (by kernel_rfl) ?_ (fun hHeld => ?_)
            · exact ⟨d0, g0, g1, g2, g3, g4, g5, (Below.refl _ _).drew⟩
            refine wpP_take (i := 0) (oi := ?oi11) (v := ?v11) ?hi11 (by kernel_rfl) (by kernel_rfl) (by kernel_rfl) (by kernel_rfl) ?hQ11 ?hy11 (by assumption) ?rest11
            case hi11 => (simp only [List.getElem?_toArray, List.getElem?_cons_succ, List.getElem?_cons_zero]; exact rfl)
            case hQ11 => exact fun _ _ _ h => h
            case hy11 => (refine Or.inl ⟨by kernel_rfl, ?_⟩; intro w hSw; (try dsimp only at hSw); go_simp; try (with_reducible rfl))
            try simp only [Act.put, List.setIfInBounds_toArray, List.set_cons_zero, List.set_cons_succ]
            refine wpP_take (i := 1) (oi := ?oi12) (v := ?v12) ?hi12 (by kernel_rfl) (by kernel_rfl) (by kernel_rfl) (by kernel_rfl) ?hQ12 ?hy12 (by assumption) ?rest12
            case hi12 => (simp only [List.getElem?_toArray, List.getElem?_cons_succ, List.getElem?_cons_zero]; exact rfl)
            case hQ12 => exact fun _ _ _ h => h
            case hy12 => (refine Or.inl ⟨by kernel_rfl, ?_⟩; intro w hSw; (try dsimp only at hSw); go_simp; try (with_reducible rfl))
            try simp only [Act.put, List.setIfInBounds_toArray, List.set_cons_zero, List.set_cons_succ]
            refine wpP_take (i := 2) (oi := ?oi13) (v := ?v13) ?hi13 (by kernel_rfl) (by kernel_rfl) (by kernel_rfl) (by kernel_rfl) ?hQ13 ?hy13 (by assumption) ?rest13
            case hi13 => (simp only [List.getElem?_toArray, List.getElem?_cons_succ, List.getElem?_cons_zero]; exact rfl)
            case hQ13 => exact fun _ _ _ h => h
            case hy13 => (refine Or.inl ⟨by kernel_rfl, ?_⟩; intro w hSw; (try dsimp only at hSw); go_simp; try (with_reducible rfl))
            try simp only [Act.put, List.setIfInBounds_toArray, List.set_cons_zero, List.set_cons_succ]
            refine wpP_take (i := 3) (oi := ?oi14) (v := ?v14) ?hi14 (by kernel_rfl) (by kernel_rfl) (by kernel_rfl) (by kernel_rfl) ?hQ14 ?hy14 (by assumption) ?rest14
            case hi14 => (simp only [List.getElem?_toArray, List.getElem?_cons_succ, List.getElem?_cons_zero]; exact rfl)
            case hQ14 => exact fun _ _ _ h => h
            case hy14 => (refine Or.inl ⟨by kernel_rfl, ?_⟩; intro w hSw; (try dsimp only at hSw); go_simp; try (with_reducible rfl))
            try simp only [Act.put, List.setIfInBounds_toArray, List.set_cons_zero, List.set_cons_succ]
            refine wpP_take (i := 4) (oi := ?oi15) (v := ?v15) ?hi15 (by kernel_rfl) (by kernel_rfl) (by kernel_rfl) (by kernel_rfl) ?hQ15 ?hy15 (by assumption) ?rest15
            case hi15 => (simp only [List.getElem?_toArray, List.getElem?_cons_succ, List.getElem?_cons_zero]; exact rfl)
            case hQ15 => exact fun _ _ _ h => h
            case hy15 => (refine Or.inl ⟨by kernel_rfl, ?_⟩; intro w hSw; (try dsimp only at hSw); go_simp; try (with_reducible rfl))
            try simp only [Act.put, List.setIfInBounds_toArray, List.set_cons_zero, List.set_cons_succ]
            refine wpP_take (i := 5) (oi := ?oi16) (v := ?v16) ?hi16 (by kernel_rfl) (by kernel_rfl) (by kernel_rfl) (by kernel_rfl) ?hQ16 ?hy16 (by assumption) ?rest16
            case hi16 => (simp only [List.getElem?_toArray, List.getElem?_cons_succ, List.getElem?_cons_zero]; exact rfl)
            case hQ16 => exact fun _ _ _ h => h
            case hy16 => (refine Or.inl ⟨by kernel_rfl, ?_⟩; intro w hSw; (try dsimp only at hSw); go_simp; try (with_reducible rfl))
            try simp only [Act.put, List.setIfInBounds_toArray, List.set_cons_zero, List.set_cons_succ]
            refine wpP_take (i := 6) (oi := ?oi17) (v := ?v17) ?hi17 (by kernel_rfl) (by kernel_rfl) (by kernel_rfl) (by kernel_rfl) ?hQ17 ?hy17 (by assumption) ?rest17
            case hi17 => (simp only [List.getElem?_toArray, List.getElem?_cons_succ, List.getElem?_cons_zero]; exact rfl)
            case hQ17 => exact fun _ _ _ h => h
            case hy17 => (refine Or.inl ⟨by kernel_rfl, ?_⟩; intro w hSw; (try dsimp only at hSw); go_simp; try (with_reducible rfl))
            try simp only [Act.put, List.setIfInBounds_toArray, List.set_cons_zero, List.set_cons_succ]
            refine wpP_ready (rs := [7]) (by kernel_rfl) (by simp) ?_
            refine AllP.cons (o := ?o18) ?ho18 (fun K hK => ?_) AllP.nil
            case ho18 => (simp only [List.getElem?_toArray, List.getElem?_cons_succ, List.getElem?_cons_zero]; exact rfl)
            go_simp
            go_at_call 87
            refine (rhead_ok _ _ _ _ _ _ _ (by omega) (by omega)).mono ?_
            rintro e w3 ⟨rfl, hb3⟩
            have hz : Below W0.heap.size W0 w3 := below_keep (Below.refl _ _).drew (Nat.le_refl _) hb3
            refine hK.out _ _ ?_ (fun hHeld => ?_)
            · exact ⟨cell_keep d0 hz, cell_keep g0 hz, cell_keep g1 hz, cell_keep g2 hz, cell_keep g3 hz, cell_keep g4 hz, cell_keep g5 hz, hz⟩
            clear hK K
            try simp only [Act.put, List.setIfInBounds_toArray, List.set_cons_zero, List.set_cons_succ]
            refine wpP_take (i := 8) (oi := ?oi19) (v := ?v19) ?hi19 (by kernel_rfl) (by kernel_rfl) (by kernel_rfl) (by kernel_rfl) ?hQ19 ?hy19 (by assumption) ?rest19
            case hi19 => (simp only [List.getElem?_toArray, List.getElem?_cons_succ, List.getElem?_cons_zero]; exact rfl)
            case hQ19 => exact fun _ _ _ h => h
            case hy19 => (refine Or.inl ⟨by kernel_rfl, ?_⟩; intro w hSw; (try dsimp only at hSw); go_simp; try (with_reducible rfl))
            try simp only [Act.put, List.setIfInBounds_toArray, List.set_cons_zero, List.set_cons_succ]
            refine wpP_take (i := 9) (oi := ?oi20) (v := ?v20) ?hi20 (by kernel_rfl) (by kernel_rfl) (by kernel_rfl) (by kernel_rfl) ?hQ20 ?hy20 (by assumption) ?rest20
            case hi20 => (simp only [List.getElem?_toArray, List.getElem?_cons_succ, List.getElem?_cons_zero]; exact rfl)
            case hQ20 => exact fun _ _ _ h => h
            case hy20 => (refine Or.inl ⟨by kernel_rfl, ?_⟩; intro w hSw; (try dsimp only at hSw); go_simp; try (with_reducible rfl))
            try simp only [Act.put, List.setIfInBounds_toArray, List.set_cons_zero, List.set_cons_succ]
            refine wpP_done (by kernel_rfl) ?_ _
            have hB3 : Below w.heap.size w w3 := hB2.trans (hz.mono hB2.size)
            have HKR := Lib.hid (blk_keep HK3.out hz)
            clear g0 g1 g2 g3 g4 g5 d0 hb3 hB2 hB1 hb1
            rename_i hheld
            clear hheld
            obtain ⟨r0, r1, r2, r3', r4, r5⟩ := cells6 HKR.out
            have f0 := free_of HKR.out 0
            have f1 := free_of HKR.out 1
            have f2 := free_of HKR.out 2
            have f3 := free_of HKR.out 3
            have f4 := free_of HKR.out 4
            have f5 := free_of HKR.out 5
            go_wp2
            refine bodyPost_ret (v := .tuple #[.agg #[.int .i64 0, .int .i64 0, .int .i64 0, .int .i64 0, .int .i64 0, .int .i64 0], .int .i64 3]) (by simp [results, Try.results46, go_sem, r0, r1, r2, r3', r4, r5]) rfl ⟨rfl, ?_⟩
            exact below_set6 hB3 (Nat.le_refl _)
          · have d0 : W0.cell? ⟨bA, oA, none⟩ = some (.string (mk (firstB v.length (inosV v)))) := by rw [← heq]; exact cell_keep HC0.out hB2
            have K8 := Lib.hid hmap
            clear heq hmap
            refine region_P (fun w' => w'.cell? ⟨bA, oA, none⟩ = some (.string (mk (firstB v.length (inosV v)))) ∧ w'.cell? ⟨w1.heap.size, 0, none⟩ = some (.int .i64 v.length) ∧ w'.cell? ⟨w1.heap.size, 1, none⟩ = some (.int .i64 (inosV v)) ∧ w'.cell? ⟨w1.heap.size, 2, none⟩ = some (.int .i64 1) ∧ w'.cell? ⟨w1.heap.size, 3, none⟩ = some (.int .i64 2) ∧ w'.cell? ⟨w1.heap.size, 4, none⟩ = some (.int .i64 3) ∧ w'.cell? ⟨w1.heap.size, 5, none⟩ = some (.int .i64 (3 + ((inosV v : Nat) + 1 : Int) / 2)) ∧ Below W0.heap.size W0 w') [] (by kernel_rfl) ?_ (fun hHeld => ?_)
            · exact ⟨d0, g0, g1, g2, g3, g4, g5, (Below.refl _ _).drew⟩
            refine wpP_take (i := 0) (oi := ?oi21) (v := ?v21) ?hi21 (by kernel_rfl) (by kernel_rfl) (by kernel_rfl) (by kernel_rfl) ?hQ21 ?hy21 (by assumption) ?rest21
            case hi21 => (simp only [List.getElem?_toArray, List.getElem?_cons_succ, List.getElem?_cons_zero]; exact rfl)
            case hQ21 => exact fun _ _ _ h => h
            case hy21 => (refine Or.inl ⟨by kernel_rfl, ?_⟩; intro w hSw; (try dsimp only at hSw); go_simp; try (with_reducible rfl))
            try simp only [Act.put, List.setIfInBounds_toArray, List.set_cons_zero, List.set_cons_succ]
            refine wpP_take (i := 1) (oi := ?oi22) (v := ?v22) ?hi22 (by kernel_rfl) (by kernel_rfl) (by kernel_rfl) (by kernel_rfl) ?hQ22 ?hy22 (by assumption) ?rest22
            case hi22 => (simp only [List.getElem?_toArray, List.getElem?_cons_succ, List.getElem?_cons_zero]; exact rfl)
            case hQ22 => exact fun _ _ _ h => h
            case hy22 => (refine Or.inl ⟨by kernel_rfl, ?_⟩; intro w hSw; (try dsimp only at hSw); go_simp; try (with_reducible rfl))
            try simp only [Act.put, List.setIfInBounds_toArray, List.set_cons_zero, List.set_cons_succ]
            refine wpP_take (i := 2) (oi := ?oi23) (v := ?v23) ?hi23 (by kernel_rfl) (by kernel_rfl) (by kernel_rfl) (by kernel_rfl) ?hQ23 ?hy23 (by assumption) ?rest23
            case hi23 => (simp only [List.getElem?_toArray, List.getElem?_cons_succ, List.getElem?_cons_zero]; exact rfl)
            case hQ23 => exact fun _ _ _ h => h
            case hy23 => (refine Or.inl ⟨by kernel_rfl, ?_⟩; intro w hSw; (try dsimp only at hSw); go_simp; try (with_reducible rfl))
            try simp only [Act.put, List.setIfInBounds_toArray, List.set_cons_zero, List.set_cons_succ]
            refine wpP_take (i := 3) (oi := ?oi24) (v := ?v24) ?hi24 (by kernel_rfl) (by kernel_rfl) (by kernel_rfl) (by kernel_rfl) ?hQ24 ?hy24 (by assumption) ?rest24
            case hi24 => (simp only [List.getElem?_toArray, List.getElem?_cons_succ, List.getElem?_cons_zero]; exact rfl)
            case hQ24 => exact fun _ _ _ h => h
            case hy24 => (refine Or.inl ⟨by kernel_rfl, ?_⟩; intro w hSw; (try dsimp only at hSw); go_simp; try (with_reducible rfl))
            try simp only [Act.put, List.setIfInBounds_toArray, List.set_cons_zero, List.set_cons_succ]
            refine wpP_take (i := 4) (oi := ?oi25) (v := ?v25) ?hi25 (by kernel_rfl) (by kernel_rfl) (by kernel_rfl) (by kernel_rfl) ?hQ25 ?hy25 (by assumption) ?rest25
            case hi25 => (simp only [List.getElem?_toArray, List.getElem?_cons_succ, List.getElem?_cons_zero]; exact rfl)
            case hQ25 => exact fun _ _ _ h => h
            case hy25 => (refine Or.inl ⟨by kernel_rfl, ?_⟩; intro w hSw; (try dsimp only at hSw); go_simp; try (with_reducible rfl))
            try simp only [Act.put, List.setIfInBounds_toArray, List.set_cons_zero, List.set_cons_succ]
            refine wpP_take (i := 5) (oi := ?oi26) (v := ?v26) ?hi26 (by kernel_rfl) (by kernel_rfl) (by kernel_rfl) (by kernel_rfl) ?hQ26 ?hy26 (by assumption) ?rest26
            case hi26 => (simp only [List.getElem?_toArray, List.getElem?_cons_succ, List.getElem?_cons_zero]; exact rfl)
            case hQ26 => exact fun _ _ _ h => h
            case hy26 => (refine Or.inl ⟨by kernel_rfl, ?_⟩; intro w hSw; (try dsimp only at hSw); go_simp; try (with_reducible rfl))
            try simp only [Act.put, List.setIfInBounds_toArray, List.set_cons_zero, List.set_cons_succ]
            refine wpP_take (i := 6) (oi := ?oi27) (v := ?v27) ?hi27 (by kernel_rfl) (by kernel_rfl) (by kernel_rfl) (by kernel_rfl) ?hQ27 ?hy27 (by assumption) ?rest27
            case hi27 => (simp only [List.getElem?_toArray, List.getElem?_cons_succ, List.getElem?_cons_zero]; exact rfl)
            case hQ27 => exact fun _ _ _ h => h
            case hy27 => (refine Or.inl ⟨by kernel_rfl, ?_⟩; intro w hSw; (try dsimp only at hSw); go_simp; try (with_reducible rfl))
            try simp only [Act.put, List.setIfInBounds_toArray, List.set_cons_zero, List.set_cons_succ]
            refine wpP_ready (rs := [7]) (by kernel_rfl) (by simp) ?_
            refine AllP.cons (o := ?o28) ?ho28 (fun K hK => ?_) AllP.nil
            case ho28 => (simp only [List.getElem?_toArray, List.getElem?_cons_succ, List.getElem?_cons_zero]; exact rfl)
            go_simp
            go_at_call 87
            refine (rhead_ok _ _ _ _ _ _ _ (by omega) (by omega)).mono ?_
            rintro e w3 ⟨rfl, hb3⟩
            have hz : Below W0.heap.size W0 w3 := below_keep (Below.refl _ _).drew (Nat.le_refl _) hb3
            refine hK.out _ _ ?_ (fun hHeld => ?_)
            · exact ⟨cell_keep d0 hz, cell_keep g0 hz, cell_keep g1 hz, cell_keep g2 hz, cell_keep g3 hz, cell_keep g4 hz, cell_keep g5 hz, hz⟩
            clear hK K
            try simp only [Act.put, List.setIfInBounds_toArray, List.set_cons_zero, List.set_cons_succ]
            refine wpP_take (i := 8) (oi := ?oi29) (v := ?v29) ?hi29 (by kernel_rfl) (by kernel_rfl) (by kernel_rfl) (by kernel_rfl) ?hQ29 ?hy29 (by assumption) ?rest29
            case hi29 => (simp only [List.getElem?_toArray, List.getElem?_cons_succ, List.getElem?_cons_zero]; exact rfl)
            case hQ29 => exact fun _ _ _ h => h
            case hy29 => (refine Or.inl ⟨by kernel_rfl, ?_⟩; intro w hSw; (try dsimp only at hSw); go_simp; try (with_reducible rfl))
            try simp only [Act.put, List.setIfInBounds_toArray, List.set_cons_zero, List.set_cons_succ]
            refine wpP_take (i := 9) (oi := ?oi30) (v := ?v30) ?hi30 (by kernel_rfl) (by kernel_rfl) (by kernel_rfl) (by kernel_rfl) ?hQ30 ?hy30 (by assumption) ?rest30
            case hi30 => (simp only [List.getElem?_toArray, List.getElem?_cons_succ, List.getElem?_cons_zero]; exact rfl)
            case hQ30 => exact fun _ _ _ h => h
            case hy30 => (refine Or.inl ⟨by kernel_rfl, ?_⟩; intro w hSw; (try dsimp only at hSw); go_simp; try (with_reducible rfl))
            try simp only [Act.put, List.setIfInBounds_toArray, List.set_cons_zero, List.set_cons_succ]
            refine wpP_done (by kernel_rfl) ?_ _
            have hB3 : Below w.heap.size w w3 := hB2.trans (hz.mono hB2.size)
            have HKR := Lib.hid (blk_keep HK3.out hz)
            obtain ⟨q0, q1, q2, q3, q4, q5⟩ := cells6 (blk_keep HK2.out hz)
            have d2 := cell_keep HC2.out hB3
            clear g0 g1 g2 g3 g4 g5 d0 hb3 hB2 hB1 hb1
            rename_i hheld
            clear hheld
            go_wp2
            go_loop [8] (fun i => ∃ k : Nat, k ≤ 1024 ∧ i = .int .i64 k ∧ Hid (∀ i, i < k → (i < dataV v → bit (bk v 2) i = true) ∧ (v.length ≤ i → bit (bk v 2) i = false))) (fun i => 1024 - (intOf i).toNat)
            case atStart => exact ⟨0, Nat.zero_le _, rfl, fun i hi => by omega⟩
            case round =>
              obtain ⟨q, hq, rfl, hall⟩ := hrel
              by_cases hlt2 : q < 1024
              · by_cases c1 : q < dataV v
                · have c1' : (q : Int) < 3 + ((inosV v : Nat) + 1 : Int) / 2 := by simp only [dataV] at c1; omega
                  have c2' : (q : Int) < (v.length : Nat) := by simp only [dataV] at c1; omega
                  have C1 := Lib.hid c1
                  have c3 : q < v.length := by omega
                  clear c1
                  cases e1 : bit (bk v 2) q with
                  | true =>
                    go_wp2_with (go_at_call 88; refine (rbit_ok _ q _ S2.out hlt2).mono ?_; rintro e w' ⟨rfl, rfl⟩)
                    refine ⟨⟨q + 1, by omega, by go_num, ?_⟩, by simp only [intOf]; omega⟩
                    intro i hi
                    by_cases e : i = q
                    · rw [e]; exact ⟨fun _ => e1, fun h => absurd h (by omega)⟩
                    · exact hall.out i (by omega)
                  | false =>
                    obtain ⟨r0, r1, r2, r3', r4, r5⟩ := cells6 HKR.out
                    have f0 := free_of HKR.out 0
                    have f1 := free_of HKR.out 1
                    have f2 := free_of HKR.out 2
                    have f3 := free_of HKR.out 3
                    have f4 := free_of HKR.out 4
                    have f5 := free_of HKR.out 5
                    go_wp2_with (go_at_call 88; refine (rbit_ok _ q _ S2.out hlt2).mono ?_; rintro e w' ⟨rfl, rfl⟩)
                    refine bodyPost_ret (v := .tuple #[.agg #[.int .i64 0, .int .i64 0, .int .i64 0, .int .i64 0, .int .i64 0, .int .i64 0], .int .i64 3]) (by simp [results, Try.results46, go_sem, r0, r1, r2, r3', r4, r5]) rfl ⟨rfl, ?_⟩
                    exact below_set6 hB3 (Nat.le_refl _)
                · have c1' : 3 + ((inosV v : Nat) + 1 : Int) / 2 ≤ (q : Int) := by simp only [dataV] at c1; omega
                  have C1 := Lib.hid c1
                  clear c1
                  by_cases c2 : v.length ≤ q
                  · cases e1 : bit (bk v 2) q with
                    | false =>
                      go_wp2_with (go_at_call 88; refine (rbit_ok _ q _ S2.out hlt2).mono ?_; rintro e w' ⟨rfl, rfl⟩)
                      refine ⟨⟨q + 1, by omega, by go_num, ?_⟩, by simp only [intOf]; omega⟩
                      intro i hi
                      by_cases e : i = q
                      · rw [e]; exact ⟨fun h => absurd h C1.out, fun _ => e1⟩
                      · exact hall.out i (by omega)
                    | true =>
                      obtain ⟨r0, r1, r2, r3', r4, r5⟩ := cells6 HKR.out
                      have f0 := free_of HKR.out 0
                      have f1 := free_of HKR.out 1
                      have f2 := free_of HKR.out 2
                      have f3 := free_of HKR.out 3
                      have f4 := free_of HKR.out 4
                      have f5 := free_of HKR.out 5
                      go_wp2_with (go_at_call 88; refine (rbit_ok _ q _ S2.out hlt2).mono ?_; rintro e w' ⟨rfl, rfl⟩)
                      refine bodyPost_ret (v := .tuple #[.agg #[.int .i64 0, .int .i64 0, .int .i64 0, .int .i64 0, .int .i64 0, .int .i64 0], .int .i64 3]) (by simp [results, Try.results46, go_sem, r0, r1, r2, r3', r4, r5]) rfl ⟨rfl, ?_⟩
                      exact below_set6 hB3 (Nat.le_refl _)
                  · go_wp2
                    refine ⟨⟨q + 1, by omega, by go_num, ?_⟩, by simp only [intOf]; omega⟩
                    intro i hi
                    by_cases e : i = q
                    · rw [e]; exact ⟨fun h => absurd h C1.out, fun h => absurd h c2⟩
                    · exact hall.out i (by omega)
              · obtain rfl : q = 1024 := by omega
                have h1 := K8.out
                rw [okmap_iff.2 hall.out] at h1
                cases h1
        · have hbig : v.length ≤ 8796093022208 := hl
          have HP := Lib.hid hp
          go_wp2_with (go_at_call 75; refine (rget_ok _ _ (by simp; omega)).mono ?_; rw [get_two (bk v 0) S0.out, show w2 (bk v 0) 6 = inosV v from rfl]; rintro e w' ⟨rfl, rfl⟩)
          refine (rplan_no v.length (inosV v) _ (by omega) (by omega) HP.out).mono ?_
          have he : planE v.length (inosV v) = 2 ∨ planE v.length (inosV v) = 10 := by
            rcases planE_no hp with h | h
            · exact .inl h.2
            · exact .inr h.2.2.2.2.2
          clear hp
          have HE := Lib.hid he
          clear he
          rcases HE.out with he | he
          all_goals
            rw [he]
            clear he
            rintro e w1 ⟨rfl, hb1⟩
            have hB1 : Below w.heap.size w w1 := below_keep ((Below.refl _ _).alloc (Nat.le_refl _) _) (Nat.le_refl _) hb1
            have hk1 := blk_keep (blk_new w _) hb1
            have hw1 := blk_lt hk1
            have HK1 := Lib.hid hk1
            clear hk1
            go_wp2_with fail
            have hB2 : Below w.heap.size w (w1.alloc (.cells #[.int .i64 0, .int .i64 0, .int .i64 0, .int .i64 0, .int .i64 0, .int .i64 0] 66)) := hB1.alloc hB1.size _
            have hk3 := blk_keep HK1.out ((Below.refl _ _).alloc (Nat.le_refl _) (.cells #[.int .i64 0, .int .i64 0, .int .i64 0, .int .i64 0, .int .i64 0, .int .i64 0] 66))
            generalize w1.alloc (.cells #[.int .i64 0, .int .i64 0, .int .i64 0, .int .i64 0, .int .i64 0, .int .i64 0] 66) = W0 at hB2 hk3 ⊢
            have HK3 := Lib.hid hk3
            clear hk3
            go_quiet (fail)
            rename_i nq
            have hz : Below W0.heap.size W0 (W0.drewN nq) := below_drewN' _ _
            have HKR := Lib.hid (blk_keep HK3.out hz)
            have hB3 : Below w.heap.size w (W0.drewN nq) := hB2.trans (hz.mono hB2.size)
            obtain ⟨r0, r1, r2, r3', r4, r5⟩ := cells6 HKR.out
            have f0 := free_of HKR.out 0
            have f1 := free_of HKR.out 1
            have f2 := free_of HKR.out 2
            have f3 := free_of HKR.out 3
            have f4 := free_of HKR.out 4
            have f5 := free_of HKR.out 5
            go_wp2
            refine bodyPost_ret (v := .tuple #[.agg #[.int .i64 0, .int .i64 0, .int .i64 0, .int .i64 0, .int .i64 0, .int .i64 0], .int .i64 3]) (by simp [results, Try.results46, go_sem, r0, r1, r2, r3', r4, r5]) rfl ⟨rfl, ?_⟩
            exact below_set6 hB3 (Nat.le_refl _)
end Go.Proofs.Ytacdohlhalnioaa

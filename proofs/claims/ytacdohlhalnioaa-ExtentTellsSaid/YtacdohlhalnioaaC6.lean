/- Contracts: where things are on a volume (the program's), where it is none. -/
import Derived.Test.YtacdohlhalnioaaC5
import Derived.Deep.QuietTactic
import Derived.BigQuiet
set_option linter.unusedVariables false
set_option maxRecDepth 20000
namespace Go.Proofs.Ytacdohlhalnioaa
open Go.RowKit

theorem below_drewN' (w : World) (n : Nat) : Below w.heap.size w (w.drewN n) := ⟨rfl, rfl, rfl, Nat.le_refl _, fun _ _ => rfl⟩
theorem no_head {v : Vol} (h : okV v = false) (h1 : sized v = true) (h2 : planE v.length (inosV v) = 0) : bk v 0 ≠ firstB v.length (inosV v) ∨ (bk v 0 = firstB v.length (inosV v) ∧ okmap (bk v 2) (dataV v) v.length = false) := by
  by_cases h3 : bk v 0 = firstB v.length (inosV v)
  · refine .inr ⟨h3, ?_⟩
    simpa [okV, h1, h2, ← h3] using h
  · exact .inl h3

set_option maxHeartbeats 1000000 in
theorem of_no (A : Option Addr) (c : Nat) (v : Vol) (w : World) (hr : RS w A v) (hv : okV v = false) :
    Calls Try.prog 71 #[.slice A v.length c] w fun e w' => e = .returned (.tuple #[.agg #[.int .i64 0, .int .i64 0, .int .i64 0, .int .i64 0, .int .i64 0, .int .i64 0], .int .i64 3]) ∧ Below w.heap.size w w' := by
  have HV := Lib.hid hv
  clear hv
  have hl := hr.1
  go_enter Try.func71, Try.ntmps71
  go_wp2
  go_loop [11] (fun i => ∃ k : Nat, k ≤ v.length ∧ i = .int .i64 k ∧ Hid (∀ j, j < k → (bk v j).length = 128)) (fun i => v.length - (intOf i).toNat)
  case atStart => exact ⟨0, Nat.zero_le _, rfl, fun j hj => by omega⟩
  case round =>
    obtain ⟨k, hk, rfl, K1⟩ := hrel
    by_cases hlt : k < v.length
    · obtain ⟨bA, oA, rfl, hbA, hc⟩ := hr.open_ (by omega)
      have hck := hc k hlt
      clear hc hr
      by_cases hsk : (bk v k).length = 128
      · go_wp2
        refine ⟨⟨k + 1, by omega, by go_num, ?_⟩, by simp only [intOf]; omega⟩
        intro j hj
        by_cases e : j = k
        · rw [e]; exact hsk
        · exact K1.out j (by omega)
      · have hs1 : ((((bk v k).length : Nat) : Int) == 128) = false := by rw [beq_eq_false_iff_ne]; omega
        have hs2 : ((((bk v k).length : Nat) : Int) != 128) = true := by rw [bne_iff_ne]; omega
        go_wp2
        refine bodyPost_ret (v := .tuple #[.agg #[.int .i64 0, .int .i64 0, .int .i64 0, .int .i64 0, .int .i64 0, .int .i64 0], .int .i64 3]) (by simp [results, Try.results71, go_sem]) rfl ⟨rfl, (Below.refl _ _).alloc (Nat.le_refl _) _⟩
    · obtain rfl : k = v.length := by omega
      by_cases h0 : v.length = 0
      · have h01 : ((v.length : Nat) : Int) = 0 := by omega
        go_wp2
        refine bodyPost_ret (v := .tuple #[.agg #[.int .i64 0, .int .i64 0, .int .i64 0, .int .i64 0, .int .i64 0, .int .i64 0], .int .i64 3]) (by simp [results, Try.results71, go_sem]) rfl ⟨rfl, (Below.refl _ _).alloc (Nat.le_refl _) _⟩
      · obtain ⟨bA, oA, rfl, hbA, hc⟩ := hr.open_ (by omega)
        have h1 := sized_iff.2 K1.out
        have hc0 : w.cell? ⟨bA, oA, none⟩ = some (.string (mk (bk v 0))) := by simpa using hc 0 (by omega)
        have HC := Lib.hid hc
        have s0 := K1.out 0 (by omega)
        have S0 := Lib.hid s0
        have b0 : 8 ≤ (bk v 0).length := by omega
        have hpos : 0 < v.length := by omega
        have hz0 : (((v.length : Nat) : Int) == 0) = false := by rw [beq_eq_false_iff_ne]; omega
        have H1 := Lib.hid h1
        have hi := w2_lt (bk v 0) 6
        rw [show w2 (bk v 0) 6 = inosV v from rfl] at hi
        clear hc hr h0 s0 h1
        by_cases hp : planE v.length (inosV v) = 0
        · have HP := Lib.hid hp
          obtain ⟨a1, a2, a3, a4, a5⟩ := planE_ok hp
          have s2 := K1.out 2 (by omega)
          have S2 := Lib.hid s2
          have hc2 := HC.out 2 (by omega)
          clear hp s2
          go_wp2_with (go_at_call 69; refine (get_ok _ _ (by simp; omega)).mono ?_; rw [get_two (bk v 0) S0.out, show w2 (bk v 0) 6 = inosV v from rfl]; rintro e w' ⟨rfl, rfl⟩)
          refine (plan_ok v.length (inosV v) _ (by omega) (by omega) HP.out).mono ?_
          rintro e w1 ⟨rfl, hb1⟩
          have hB1 : Below w.heap.size w w1 := below_keep ((Below.refl _ _).alloc (Nat.le_refl _) _) (Nat.le_refl _) hb1
          have hk1 := blk_keep (blk_new w _) hb1
          have hw1 := blk_lt hk1
          go_wp2_with fail
          have hB2 : Below w.heap.size w (w1.alloc (.cells #[.int .i64 v.length, .int .i64 (inosV v), .int .i64 1, .int .i64 2, .int .i64 3, .int .i64 (3 + ((inosV v : Nat) + 1 : Int) / 2)] 66)) := hB1.alloc hB1.size _
          have hk2 := blk_new w1 (.cells #[.int .i64 v.length, .int .i64 (inosV v), .int .i64 1, .int .i64 2, .int .i64 3, .int .i64 (3 + ((inosV v : Nat) + 1 : Int) / 2)] 66)
          have hk3 := blk_keep hk1 ((Below.refl _ _).alloc (Nat.le_refl _) (.cells #[.int .i64 v.length, .int .i64 (inosV v), .int .i64 1, .int .i64 2, .int .i64 3, .int .i64 (3 + ((inosV v : Nat) + 1 : Int) / 2)] 66))
          generalize w1.alloc (.cells #[.int .i64 v.length, .int .i64 (inosV v), .int .i64 1, .int .i64 2, .int .i64 3, .int .i64 (3 + ((inosV v : Nat) + 1 : Int) / 2)] 66) = W0 at hB2 hk2 hk3 ⊢
          have i0 : (0 : Int) < (v.length : Nat) := by omega
          have i2 : (2 : Int) < (v.length : Nat) := by omega
          have d2 := cell_keep hc2 hB2
          obtain ⟨g0, g1, g2, g3, g4, g5⟩ := cells6 hk2
          have HK2 := Lib.hid hk2
          have HK3 := Lib.hid hk3
          have hor := no_head HV.out H1.out HP.out
          have HC0 := Lib.hid hc0
          clear hk1 hk2 hk3 hc0 hc2
          have i0' := hpos
          rcases hor with hne | ⟨heq, hmap⟩
          · have hne' : (bk v 0 == firstB v.length (inosV v)) = false := by rw [beq_eq_false_iff_ne]; exact hne
            have hne2 : (bk v 0 != firstB v.length (inosV v)) = true := by rw [bne_iff_ne]; exact hne
            have d0 := cell_keep HC0.out hB2
            clear hne
            refine region_P (fun w' => w'.cell? ⟨bA, oA, none⟩ = some (.string (mk (bk v 0))) ∧ w'.cell? ⟨w1.heap.size, 0, none⟩ = some (.int .i64 v.length) ∧ w'.cell? ⟨w1.heap.size, 1, none⟩ = some (.int .i64 (inosV v)) ∧ w'.cell? ⟨w1.heap.size, 2, none⟩ = some (.int .i64 1) ∧ w'.cell? ⟨w1.heap.size, 3, none⟩ = some (.int .i64 2) ∧ w'.cell? ⟨w1.heap.size, 4, none⟩ = some (.int .i64 3) ∧ w'.cell? ⟨w1.heap.size, 5, none⟩ = some (.int .i64 (3 + ((inosV v : Nat) + 1 : Int) / 2)) ∧ Below W0.heap.size W0 w') [] (by kernel_rfl) ?_ (fun hHeld => ?_)
            · exact ⟨d0, g0, g1, g2, g3, g4, g5, (Below.refl _ _).drew⟩
            refine wpP_take (i := 0) (oi := ?oi1) (v := ?v1) ?hi1 (by kernel_rfl) (by kernel_rfl) (by kernel_rfl) (by kernel_rfl) ?hQ1 ?hy1 (by assumption) ?rest1
            case hi1 => (simp only [List.getElem?_toArray, List.getElem?_cons_succ, List.getElem?_cons_zero]; exact rfl)
            case hQ1 => exact fun _ _ _ h => h
            case hy1 => (refine Or.inl ⟨by kernel_rfl, ?_⟩; intro w hSw; (try dsimp only at hSw); go_simp; try (with_reducible rfl))
            try simp only [Act.put, List.setIfInBounds_toArray, List.set_cons_zero, List.set_cons_succ]
            refine wpP_take (i := 1) (oi := ?oi2) (v := ?v2) ?hi2 (by kernel_rfl) (by kernel_rfl) (by kernel_rfl) (by kernel_rfl) ?hQ2 ?hy2 (by assumption) ?rest2
            case hi2 => (simp only [List.getElem?_toArray, List.getElem?_cons_succ, List.getElem?_cons_zero]; exact rfl)
            case hQ2 => exact fun _ _ _ h => h
            case hy2 => (refine Or.inl ⟨by kernel_rfl, ?_⟩; intro w hSw; (try dsimp only at hSw); go_simp; try (with_reducible rfl))
            try simp only [Act.put, List.setIfInBounds_toArray, List.set_cons_zero, List.set_cons_succ]
            refine wpP_take (i := 2) (oi := ?oi3) (v := ?v3) ?hi3 (by kernel_rfl) (by kernel_rfl) (by kernel_rfl) (by kernel_rfl) ?hQ3 ?hy3 (by assumption) ?rest3
            case hi3 => (simp only [List.getElem?_toArray, List.getElem?_cons_succ, List.getElem?_cons_zero]; exact rfl)
            case hQ3 => exact fun _ _ _ h => h
            case hy3 => (refine Or.inl ⟨by kernel_rfl, ?_⟩; intro w hSw; (try dsimp only at hSw); go_simp; try (with_reducible rfl))
            try simp only [Act.put, List.setIfInBounds_toArray, List.set_cons_zero, List.set_cons_succ]
            refine wpP_take (i := 3) (oi := ?oi4) (v := ?v4) ?hi4 (by kernel_rfl) (by kernel_rfl) (by kernel_rfl) (by kernel_rfl) ?hQ4 ?hy4 (by assumption) ?rest4
            case hi4 => (simp only [List.getElem?_toArray, List.getElem?_cons_succ, List.getElem?_cons_zero]; exact rfl)
            case hQ4 => exact fun _ _ _ h => h
            case hy4 => (refine Or.inl ⟨by kernel_rfl, ?_⟩; intro w hSw; (try dsimp only at hSw); go_simp; try (with_reducible rfl))
            try simp only [Act.put, List.setIfInBounds_toArray, List.set_cons_zero, List.set_cons_succ]
            refine wpP_take (i := 4) (oi := ?oi5) (v := ?v5) ?hi5 (by kernel_rfl) (by kernel_rfl) (by kernel_rfl) (by kernel_rfl) ?hQ5 ?hy5 (by assumption) ?rest5
            case hi5 => (simp only [List.getElem?_toArray, List.getElem?_cons_succ, List.getElem?_cons_zero]; exact rfl)
            case hQ5 => exact fun _ _ _ h => h
            case hy5 => (refine Or.inl ⟨by kernel_rfl, ?_⟩; intro w hSw; (try dsimp only at hSw); go_simp; try (with_reducible rfl))
            try simp only [Act.put, List.setIfInBounds_toArray, List.set_cons_zero, List.set_cons_succ]
            refine wpP_take (i := 5) (oi := ?oi6) (v := ?v6) ?hi6 (by kernel_rfl) (by kernel_rfl) (by kernel_rfl) (by kernel_rfl) ?hQ6 ?hy6 (by assumption) ?rest6
            case hi6 => (simp only [List.getElem?_toArray, List.getElem?_cons_succ, List.getElem?_cons_zero]; exact rfl)
            case hQ6 => exact fun _ _ _ h => h
            case hy6 => (refine Or.inl ⟨by kernel_rfl, ?_⟩; intro w hSw; (try dsimp only at hSw); go_simp; try (with_reducible rfl))
            try simp only [Act.put, List.setIfInBounds_toArray, List.set_cons_zero, List.set_cons_succ]
            refine wpP_take (i := 6) (oi := ?oi7) (v := ?v7) ?hi7 (by kernel_rfl) (by kernel_rfl) (by kernel_rfl) (by kernel_rfl) ?hQ7 ?hy7 (by assumption) ?rest7
            case hi7 => (simp only [List.getElem?_toArray, List.getElem?_cons_succ, List.getElem?_cons_zero]; exact rfl)
            case hQ7 => exact fun _ _ _ h => h
            case hy7 => (refine Or.inl ⟨by kernel_rfl, ?_⟩; intro w hSw; (try dsimp only at hSw); go_simp; try (with_reducible rfl))
            try simp only [Act.put, List.setIfInBounds_toArray, List.set_cons_zero, List.set_cons_succ]
            refine wpP_ready (rs := [7]) (by kernel_rfl) (by simp) ?_
            refine AllP.cons (o := ?o8) ?ho8 (fun K hK => ?_) AllP.nil
            case ho8 => (simp only [List.getElem?_toArray, List.getElem?_cons_succ, List.getElem?_cons_zero]; exact rfl)
            go_simp
            go_at_call 92
            refine (first_ok _ _ _ _ _ _ _ (by omega) (by omega)).mono ?_
            rintro e w3 ⟨rfl, hb3⟩
            have hz : Below W0.heap.size W0 w3 := below_keep (Below.refl _ _).drew (Nat.le_refl _) hb3
            refine hK.out _ _ ?_ (fun hHeld => ?_)
            · exact ⟨cell_keep d0 hz, cell_keep g0 hz, cell_keep g1 hz, cell_keep g2 hz, cell_keep g3 hz, cell_keep g4 hz, cell_keep g5 hz, hz⟩
            clear hK K
            try simp only [Act.put, List.setIfInBounds_toArray, List.set_cons_zero, List.set_cons_succ]
            refine wpP_take (i := 8) (oi := ?oi9) (v := ?v9) ?hi9 (by kernel_rfl) (by kernel_rfl) (by kernel_rfl) (by kernel_rfl) ?hQ9 ?hy9 (by assumption) ?rest9
            case hi9 => (simp only [List.getElem?_toArray, List.getElem?_cons_succ, List.getElem?_cons_zero]; exact rfl)
            case hQ9 => exact fun _ _ _ h => h
            case hy9 => (refine Or.inl ⟨by kernel_rfl, ?_⟩; intro w hSw; (try dsimp only at hSw); go_simp; try (with_reducible rfl))
            try simp only [Act.put, List.setIfInBounds_toArray, List.set_cons_zero, List.set_cons_succ]
            refine wpP_take (i := 9) (oi := ?oi10) (v := ?v10) ?hi10 (by kernel_rfl) (by kernel_rfl) (by kernel_rfl) (by kernel_rfl) ?hQ10 ?hy10 (by assumption) ?rest10
            case hi10 => (simp only [List.getElem?_toArray, List.getElem?_cons_succ, List.getElem?_cons_zero]; exact rfl)
            case hQ10 => exact fun _ _ _ h => h
            case hy10 => (refine Or.inl ⟨by kernel_rfl, ?_⟩; intro w hSw; (try dsimp only at hSw); go_simp; try (with_reducible rfl))
            try simp only [Act.put, List.setIfInBounds_toArray, List.set_cons_zero, List.set_cons_succ]
            refine wpP_take (i := 10) (oi := ?oi11) (v := ?v11) ?hi11 (by kernel_rfl) (by kernel_rfl) (by kernel_rfl) (by kernel_rfl) ?hQ11 ?hy11 (by assumption) ?rest11
            case hi11 => (simp only [List.getElem?_toArray, List.getElem?_cons_succ, List.getElem?_cons_zero]; exact rfl)
            case hQ11 => exact fun _ _ _ h => h
            case hy11 => (refine Or.inl ⟨by kernel_rfl, ?_⟩; intro w hSw; (try dsimp only at hSw); go_simp; try (with_reducible rfl))
            try simp only [Act.put, List.setIfInBounds_toArray, List.set_cons_zero, List.set_cons_succ]
            refine wpP_skip 11 50 (by kernel_rfl) (by kernel_rfl) (by kernel_rfl) (by kernel_rfl) (by kernel_rfl) (fun _ _ _ h => h) (by assumption) ?_
            try simp only [Act.put, List.setIfInBounds_toArray, List.set_cons_zero, List.set_cons_succ]
            refine wpP_skip 12 51 (by kernel_rfl) (by kernel_rfl) (by kernel_rfl) (by kernel_rfl) (by kernel_rfl) (fun _ _ _ h => h) (by assumption) ?_
            try simp only [Act.put, List.setIfInBounds_toArray, List.set_cons_zero, List.set_cons_succ]
            refine wpP_skip 13 52 (by kernel_rfl) (by kernel_rfl) (by kernel_rfl) (by kernel_rfl) (by kernel_rfl) (fun _ _ _ h => h) (by assumption) ?_
            try simp only [Act.put, List.setIfInBounds_toArray, List.set_cons_zero, List.set_cons_succ]
            refine wpP_skip 14 53 (by kernel_rfl) (by kernel_rfl) (by kernel_rfl) (by kernel_rfl) (by kernel_rfl) (fun _ _ _ h => h) (by assumption) ?_
            try simp only [Act.put, List.setIfInBounds_toArray, List.set_cons_zero, List.set_cons_succ]
            refine wpP_skip 15 54 (by kernel_rfl) (by kernel_rfl) (by kernel_rfl) (by kernel_rfl) (by kernel_rfl) (fun _ _ _ h => h) (by assumption) ?_
            try simp only [Act.put, List.setIfInBounds_toArray, List.set_cons_zero, List.set_cons_succ]
            refine wpP_skip 16 55 (by kernel_rfl) (by kernel_rfl) (by kernel_rfl) (by kernel_rfl) (by kernel_rfl) (fun _ _ _ h => h) (by assumption) ?_
            try simp only [Act.put, List.setIfInBounds_toArray, List.set_cons_zero, List.set_cons_succ]
            refine wpP_skip 17 56 (by kernel_rfl) (by kernel_rfl) (by kernel_rfl) (by kernel_rfl) (by kernel_rfl) (fun _ _ _ h => h) (by assumption) ?_
            try simp only [Act.put, List.setIfInBounds_toArray, List.set_cons_zero, List.set_cons_succ]
            refine wpP_skip 18 57 (by kernel_rfl) (by kernel_rfl) (by kernel_rfl) (by kernel_rfl) (by kernel_rfl) (fun _ _ _ h => h) (by assumption) ?_
            try simp only [Act.put, List.setIfInBounds_toArray, List.set_cons_zero, List.set_cons_succ]
            refine wpP_take (i := 19) (oi := ?oi20) (v := ?v20) ?hi20 (by kernel_rfl) (by kernel_rfl) (by kernel_rfl) (by kernel_rfl) ?hQ20 ?hy20 (by assumption) ?rest20
            case hi20 => (simp only [List.getElem?_toArray, List.getElem?_cons_succ, List.getElem?_cons_zero]; exact rfl)
            case hQ20 => exact fun _ _ _ h => h
            case hy20 => (refine Or.inl ⟨by kernel_rfl, ?_⟩; intro w hSw; (try dsimp only at hSw); go_simp; try (with_reducible rfl))
            try simp only [Act.put, List.setIfInBounds_toArray, List.set_cons_zero, List.set_cons_succ]
            refine wpP_done (by kernel_rfl) ?_ _
            all_goals
              have r3 := blk_keep HK3.out hz
              obtain ⟨r0, r1, r2, r3', r4, r5⟩ := cells6 r3
              have f0 := free_of r3 0
              have f1 := free_of r3 1
              have f2 := free_of r3 2
              have f3 := free_of r3 3
              have f4 := free_of r3 4
              have f5 := free_of r3 5
              clear r3
              go_wp2
              refine bodyPost_ret (v := .tuple #[.agg #[.int .i64 0, .int .i64 0, .int .i64 0, .int .i64 0, .int .i64 0, .int .i64 0], .int .i64 3]) (by simp [results, Try.results71, go_sem, r0, r1, r2, r3', r4, r5]) rfl ⟨rfl, ?_⟩
              exact below_set6 (hB2.trans (hz.mono hB2.size)) (Nat.le_refl _)
          · have d0 : W0.cell? ⟨bA, oA, none⟩ = some (.string (mk (firstB v.length (inosV v)))) := by rw [← heq]; exact cell_keep HC0.out hB2
            have HM := Lib.hid hmap
            clear heq hmap
            have hdv : (3 + ((inosV v : Nat) + 1 : Int) / 2) = ((dataV v : Nat) : Int) := by simp only [dataV]; omega
            have hdv2 : dataV v ≤ 1024 := by simp only [dataV]; omega
            have hdv3 : v.length ≤ 1024 := by omega
            have HDV := Lib.hid hdv
            clear hdv
            refine region_P (fun w' => w'.cell? ⟨bA, oA, none⟩ = some (.string (mk (firstB v.length (inosV v)))) ∧ w'.cell? ⟨bA, oA + 2, none⟩ = some (.string (mk (bk v 2))) ∧ w'.cell? ⟨w1.heap.size, 0, none⟩ = some (.int .i64 v.length) ∧ w'.cell? ⟨w1.heap.size, 1, none⟩ = some (.int .i64 (inosV v)) ∧ w'.cell? ⟨w1.heap.size, 2, none⟩ = some (.int .i64 1) ∧ w'.cell? ⟨w1.heap.size, 3, none⟩ = some (.int .i64 2) ∧ w'.cell? ⟨w1.heap.size, 4, none⟩ = some (.int .i64 3) ∧ w'.cell? ⟨w1.heap.size, 5, none⟩ = some (.int .i64 (3 + ((inosV v : Nat) + 1 : Int) / 2)) ∧ Below W0.heap.size W0 w') [] (by kernel_rfl) ?_ (fun hHeld => ?_)
            · exact ⟨d0, d2, g0, g1, g2, g3, g4, g5, (Below.refl _ _).drew⟩
            refine wpP_take (i := 0) (oi := ?oi21) (v := ?v21) ?hi21 (by kernel_rfl) (by kernel_rfl) (by kernel_rfl) (by kernel_rfl) ?hQ21 ?hy21 (by assumption) ?rest21
            case hi21 => (simp only [List.getElem?_toArray, List.getElem?_cons_succ, List.getElem?_cons_zero]; exact rfl)
            case hQ21 => exact fun _ _ _ h => h
            case hy21 => (refine Or.inl ⟨by kernel_rfl, ?_⟩; intro w hSw; (try dsimp only at hSw); go_simp; try (with_reducible rfl))
            try simp only [Act.put, List.setIfInBounds_toArray, List.set_cons_zero, List.set_cons_succ]
            refine wpP_take (i := 1) (oi := ?oi22) (v := ?v22) ?hi22 (by kernel_rfl) (by kernel_rfl) (by kernel_rfl) (by kernel_rfl) ?hQ22 ?hy22 (by assumption) ?rest22
            case hi22 => (simp only [List.getElem?_toArray, List.getElem?_cons_succ, List.getElem?_cons_zero]; exact rfl)
            case hQ22 => exact fun _ _ _ h => h
            case hy22 => (refine Or.inl ⟨by kernel_rfl, ?_⟩; intro w hSw; (try dsimp only at hSw); go_simp; try (with_reducible rfl))
            try simp only [Act.put, List.setIfInBounds_toArray, List.set_cons_zero, List.set_cons_succ]
            refine wpP_take (i := 2) (oi := ?oi23) (v := ?v23) ?hi23 (by kernel_rfl) (by kernel_rfl) (by kernel_rfl) (by kernel_rfl) ?hQ23 ?hy23 (by assumption) ?rest23
            case hi23 => (simp only [List.getElem?_toArray, List.getElem?_cons_succ, List.getElem?_cons_zero]; exact rfl)
            case hQ23 => exact fun _ _ _ h => h
            case hy23 => (refine Or.inl ⟨by kernel_rfl, ?_⟩; intro w hSw; (try dsimp only at hSw); go_simp; try (with_reducible rfl))
            try simp only [Act.put, List.setIfInBounds_toArray, List.set_cons_zero, List.set_cons_succ]
            refine wpP_take (i := 3) (oi := ?oi24) (v := ?v24) ?hi24 (by kernel_rfl) (by kernel_rfl) (by kernel_rfl) (by kernel_rfl) ?hQ24 ?hy24 (by assumption) ?rest24
            case hi24 => (simp only [List.getElem?_toArray, List.getElem?_cons_succ, List.getElem?_cons_zero]; exact rfl)
            case hQ24 => exact fun _ _ _ h => h
            case hy24 => (refine Or.inl ⟨by kernel_rfl, ?_⟩; intro w hSw; (try dsimp only at hSw); go_simp; try (with_reducible rfl))
            try simp only [Act.put, List.setIfInBounds_toArray, List.set_cons_zero, List.set_cons_succ]
            refine wpP_take (i := 4) (oi := ?oi25) (v := ?v25) ?hi25 (by kernel_rfl) (by kernel_rfl) (by kernel_rfl) (by kernel_rfl) ?hQ25 ?hy25 (by assumption) ?rest25
            case hi25 => (simp only [List.getElem?_toArray, List.getElem?_cons_succ, List.getElem?_cons_zero]; exact rfl)
            case hQ25 => exact fun _ _ _ h => h
            case hy25 => (refine Or.inl ⟨by kernel_rfl, ?_⟩; intro w hSw; (try dsimp only at hSw); go_simp; try (with_reducible rfl))
            try simp only [Act.put, List.setIfInBounds_toArray, List.set_cons_zero, List.set_cons_succ]
            refine wpP_take (i := 5) (oi := ?oi26) (v := ?v26) ?hi26 (by kernel_rfl) (by kernel_rfl) (by kernel_rfl) (by kernel_rfl) ?hQ26 ?hy26 (by assumption) ?rest26
            case hi26 => (simp only [List.getElem?_toArray, List.getElem?_cons_succ, List.getElem?_cons_zero]; exact rfl)
            case hQ26 => exact fun _ _ _ h => h
            case hy26 => (refine Or.inl ⟨by kernel_rfl, ?_⟩; intro w hSw; (try dsimp only at hSw); go_simp; try (with_reducible rfl))
            try simp only [Act.put, List.setIfInBounds_toArray, List.set_cons_zero, List.set_cons_succ]
            refine wpP_take (i := 6) (oi := ?oi27) (v := ?v27) ?hi27 (by kernel_rfl) (by kernel_rfl) (by kernel_rfl) (by kernel_rfl) ?hQ27 ?hy27 (by assumption) ?rest27
            case hi27 => (simp only [List.getElem?_toArray, List.getElem?_cons_succ, List.getElem?_cons_zero]; exact rfl)
            case hQ27 => exact fun _ _ _ h => h
            case hy27 => (refine Or.inl ⟨by kernel_rfl, ?_⟩; intro w hSw; (try dsimp only at hSw); go_simp; try (with_reducible rfl))
            try simp only [Act.put, List.setIfInBounds_toArray, List.set_cons_zero, List.set_cons_succ]
            refine wpP_ready (rs := [7]) (by kernel_rfl) (by simp) ?_
            refine AllP.cons (o := ?o28) ?ho28 (fun K hK => ?_) AllP.nil
            case ho28 => (simp only [List.getElem?_toArray, List.getElem?_cons_succ, List.getElem?_cons_zero]; exact rfl)
            go_simp
            go_at_call 92
            refine (first_ok _ _ _ _ _ _ _ (by omega) (by omega)).mono ?_
            rintro e w3 ⟨rfl, hb3⟩
            have hz3 : Below W0.heap.size W0 w3 := below_keep (Below.refl _ _).drew (Nat.le_refl _) hb3
            refine hK.out _ _ ?_ (fun hHeld => ?_)
            · exact ⟨cell_keep d0 hz3, cell_keep d2 hz3, cell_keep g0 hz3, cell_keep g1 hz3, cell_keep g2 hz3, cell_keep g3 hz3, cell_keep g4 hz3, cell_keep g5 hz3, hz3⟩
            clear hK K
            try simp only [Act.put, List.setIfInBounds_toArray, List.set_cons_zero, List.set_cons_succ]
            refine wpP_take (i := 8) (oi := ?oi29) (v := ?v29) ?hi29 (by kernel_rfl) (by kernel_rfl) (by kernel_rfl) (by kernel_rfl) ?hQ29 ?hy29 (by assumption) ?rest29
            case hi29 => (simp only [List.getElem?_toArray, List.getElem?_cons_succ, List.getElem?_cons_zero]; exact rfl)
            case hQ29 => exact fun _ _ _ h => h
            case hy29 => (refine Or.inl ⟨by kernel_rfl, ?_⟩; intro w hSw; (try dsimp only at hSw); go_simp; try (with_reducible rfl))
            try simp only [Act.put, List.setIfInBounds_toArray, List.set_cons_zero, List.set_cons_succ]
            refine wpP_take (i := 9) (oi := ?oi30) (v := ?v30) ?hi30 (by kernel_rfl) (by kernel_rfl) (by kernel_rfl) (by kernel_rfl) ?hQ30 ?hy30 (by assumption) ?rest30
            case hi30 => (simp only [List.getElem?_toArray, List.getElem?_cons_succ, List.getElem?_cons_zero]; exact rfl)
            case hQ30 => exact fun _ _ _ h => h
            case hy30 => (refine Or.inl ⟨by kernel_rfl, ?_⟩; intro w hSw; (try dsimp only at hSw); go_simp; try (with_reducible rfl))
            try simp only [Act.put, List.setIfInBounds_toArray, List.set_cons_zero, List.set_cons_succ]
            refine wpP_take (i := 10) (oi := ?oi31) (v := ?v31) ?hi31 (by kernel_rfl) (by kernel_rfl) (by kernel_rfl) (by kernel_rfl) ?hQ31 ?hy31 (by assumption) ?rest31
            case hi31 => (simp only [List.getElem?_toArray, List.getElem?_cons_succ, List.getElem?_cons_zero]; exact rfl)
            case hQ31 => exact fun _ _ _ h => h
            case hy31 => (refine Or.inl ⟨by kernel_rfl, ?_⟩; intro w hSw; (try dsimp only at hSw); go_simp; try (with_reducible rfl))
            try simp only [Act.put, List.setIfInBounds_toArray, List.set_cons_zero, List.set_cons_succ]
            refine wpP_take (i := 11) (oi := ?oi32) (v := ?v32) ?hi32 (by kernel_rfl) (by kernel_rfl) (by kernel_rfl) (by kernel_rfl) ?hQ32 ?hy32 (by assumption) ?rest32
            case hi32 => (simp only [List.getElem?_toArray, List.getElem?_cons_succ, List.getElem?_cons_zero]; exact rfl)
            case hQ32 => exact fun _ _ _ h => h
            case hy32 => (refine Or.inl ⟨by kernel_rfl, ?_⟩; intro w hSw; (try dsimp only at hSw); go_simp; try (with_reducible rfl))
            try simp only [Act.put, List.setIfInBounds_toArray, List.set_cons_zero, List.set_cons_succ]
            refine wpP_take (i := 12) (oi := ?oi33) (v := ?v33) ?hi33 (by kernel_rfl) (by kernel_rfl) (by kernel_rfl) (by kernel_rfl) ?hQ33 ?hy33 (by assumption) ?rest33
            case hi33 => (simp only [List.getElem?_toArray, List.getElem?_cons_succ, List.getElem?_cons_zero]; exact rfl)
            case hQ33 => exact fun _ _ _ h => h
            case hy33 => (refine Or.inl ⟨by kernel_rfl, ?_⟩; intro w hSw; (try dsimp only at hSw); go_simp; try (with_reducible rfl))
            try simp only [Act.put, List.setIfInBounds_toArray, List.set_cons_zero, List.set_cons_succ]
            refine wpP_take (i := 13) (oi := ?oi34) (v := ?v34) ?hi34 (by kernel_rfl) (by kernel_rfl) (by kernel_rfl) (by kernel_rfl) ?hQ34 ?hy34 (by assumption) ?rest34
            case hi34 => (simp only [List.getElem?_toArray, List.getElem?_cons_succ, List.getElem?_cons_zero]; exact rfl)
            case hQ34 => exact fun _ _ _ h => h
            case hy34 => (refine Or.inl ⟨by kernel_rfl, ?_⟩; intro w hSw; (try dsimp only at hSw); go_simp; try (with_reducible rfl))
            try simp only [Act.put, List.setIfInBounds_toArray, List.set_cons_zero, List.set_cons_succ]
            refine wpP_take (i := 14) (oi := ?oi35) (v := ?v35) ?hi35 (by kernel_rfl) (by kernel_rfl) (by kernel_rfl) (by kernel_rfl) ?hQ35 ?hy35 (by assumption) ?rest35
            case hi35 => (simp only [List.getElem?_toArray, List.getElem?_cons_succ, List.getElem?_cons_zero]; exact rfl)
            case hQ35 => exact fun _ _ _ h => h
            case hy35 => (refine Or.inl ⟨by kernel_rfl, ?_⟩; intro w hSw; (try dsimp only at hSw); go_simp; try (with_reducible rfl))
            try simp only [Act.put, List.setIfInBounds_toArray, List.set_cons_zero, List.set_cons_succ]
            refine wpP_take (i := 15) (oi := ?oi36) (v := ?v36) ?hi36 (by kernel_rfl) (by kernel_rfl) (by kernel_rfl) (by kernel_rfl) ?hQ36 ?hy36 (by assumption) ?rest36
            case hi36 => (simp only [List.getElem?_toArray, List.getElem?_cons_succ, List.getElem?_cons_zero]; exact rfl)
            case hQ36 => exact fun _ _ _ h => h
            case hy36 => (refine Or.inl ⟨by kernel_rfl, ?_⟩; intro w hSw; (try dsimp only at hSw); go_simp; try (with_reducible rfl))
            try simp only [Act.put, List.setIfInBounds_toArray, List.set_cons_zero, List.set_cons_succ]
            refine wpP_take (i := 16) (oi := ?oi37) (v := ?v37) ?hi37 (by kernel_rfl) (by kernel_rfl) (by kernel_rfl) (by kernel_rfl) ?hQ37 ?hy37 (by assumption) ?rest37
            case hi37 => (simp only [List.getElem?_toArray, List.getElem?_cons_succ, List.getElem?_cons_zero]; exact rfl)
            case hQ37 => exact fun _ _ _ h => h
            case hy37 => (refine Or.inl ⟨by kernel_rfl, ?_⟩; intro w hSw; (try dsimp only at hSw); go_simp; try (with_reducible rfl))
            try simp only [Act.put, List.setIfInBounds_toArray, List.set_cons_zero, List.set_cons_succ]
            refine wpP_ready (rs := [17]) (by kernel_rfl) (by simp) ?_
            refine AllP.cons (o := ?o38) ?ho38 (fun K hK => ?_) AllP.nil
            case ho38 => (simp only [List.getElem?_toArray, List.getElem?_cons_succ, List.getElem?_cons_zero]; exact rfl)
            go_simp
            go_at_call 106
            refine (right_ok' _ _ _ _ _ _ _ (dataV v) _ S2.out HDV.out hdv2 hdv3).mono ?_
            rw [HM.out]
            rintro e w4 ⟨rfl, hb4⟩
            have hz : Below W0.heap.size W0 w4 := below_keep hz3 (Nat.le_refl _) hb4
            refine hK.out _ _ ?_ (fun hHeld => ?_)
            · exact ⟨cell_keep d0 hz, cell_keep d2 hz, cell_keep g0 hz, cell_keep g1 hz, cell_keep g2 hz, cell_keep g3 hz, cell_keep g4 hz, cell_keep g5 hz, hz⟩
            clear hK K
            try simp only [Act.put, List.setIfInBounds_toArray, List.set_cons_zero, List.set_cons_succ]
            refine wpP_take (i := 18) (oi := ?oi39) (v := ?v39) ?hi39 (by kernel_rfl) (by kernel_rfl) (by kernel_rfl) (by kernel_rfl) ?hQ39 ?hy39 (by assumption) ?rest39
            case hi39 => (simp only [List.getElem?_toArray, List.getElem?_cons_succ, List.getElem?_cons_zero]; exact rfl)
            case hQ39 => exact fun _ _ _ h => h
            case hy39 => (refine Or.inl ⟨by kernel_rfl, ?_⟩; intro w hSw; (try dsimp only at hSw); go_simp; try (with_reducible rfl))
            try simp only [Act.put, List.setIfInBounds_toArray, List.set_cons_zero, List.set_cons_succ]
            refine wpP_take (i := 19) (oi := ?oi40) (v := ?v40) ?hi40 (by kernel_rfl) (by kernel_rfl) (by kernel_rfl) (by kernel_rfl) ?hQ40 ?hy40 (by assumption) ?rest40
            case hi40 => (simp only [List.getElem?_toArray, List.getElem?_cons_succ, List.getElem?_cons_zero]; exact rfl)
            case hQ40 => exact fun _ _ _ h => h
            case hy40 => (refine Or.inl ⟨by kernel_rfl, ?_⟩; intro w hSw; (try dsimp only at hSw); go_simp; try (with_reducible rfl))
            try simp only [Act.put, List.setIfInBounds_toArray, List.set_cons_zero, List.set_cons_succ]
            refine wpP_done (by kernel_rfl) ?_ _
            all_goals
              have r3 := blk_keep HK3.out hz
              obtain ⟨r0, r1, r2, r3', r4, r5⟩ := cells6 r3
              have f0 := free_of r3 0
              have f1 := free_of r3 1
              have f2 := free_of r3 2
              have f3 := free_of r3 3
              have f4 := free_of r3 4
              have f5 := free_of r3 5
              clear r3
              go_wp2
              refine bodyPost_ret (v := .tuple #[.agg #[.int .i64 0, .int .i64 0, .int .i64 0, .int .i64 0, .int .i64 0, .int .i64 0], .int .i64 3]) (by simp [results, Try.results71, go_sem, r0, r1, r2, r3', r4, r5]) rfl ⟨rfl, ?_⟩
              exact below_set6 (hB2.trans (hz.mono hB2.size)) (Nat.le_refl _)
        · have hc0' := cell_keep hc0 ((Below.refl _ _).alloc (Nat.le_refl _) (.cells #[.int .i64 0, .int .i64 0, .int .i64 0, .int .i64 0, .int .i64 0, .int .i64 0] 66))
          have hbig : v.length ≤ 8796093022208 := hl
          have HP := Lib.hid hp
          go_wp2_with (go_at_call 69; refine (get_ok _ _ (by simp; omega)).mono ?_; rw [get_two (bk v 0) S0.out, show w2 (bk v 0) 6 = inosV v from rfl]; rintro e w' ⟨rfl, rfl⟩)
          refine (plan_no v.length (inosV v) _ (by omega) (by omega) HP.out).mono ?_
          have he : planE v.length (inosV v) = 2 ∨ planE v.length (inosV v) = 10 := by
            rcases planE_no hp with h | h
            · exact .inl h.2
            · exact .inr h.2.2.2.2.2
          clear hp
          have HE := Lib.hid he
          clear he
          rcases HE.out with he | he
          all_goals
            rw [he]
            clear he
            rintro e w1 ⟨rfl, hb1⟩
            have hB1 : Below w.heap.size w w1 := below_keep ((Below.refl _ _).alloc (Nat.le_refl _) _) (Nat.le_refl _) hb1
            have hk1 := blk_keep (blk_new w _) hb1
            have hw1 := blk_lt hk1
            have HK1 := Lib.hid hk1
            clear hk1
            go_wp2_with fail
            have hB2 : Below w.heap.size w (w1.alloc (.cells #[.int .i64 0, .int .i64 0, .int .i64 0, .int .i64 0, .int .i64 0, .int .i64 0] 66)) := hB1.alloc hB1.size _
            have hk3 := blk_keep HK1.out ((Below.refl _ _).alloc (Nat.le_refl _) (.cells #[.int .i64 0, .int .i64 0, .int .i64 0, .int .i64 0, .int .i64 0, .int .i64 0] 66))
            generalize w1.alloc (.cells #[.int .i64 0, .int .i64 0, .int .i64 0, .int .i64 0, .int .i64 0, .int .i64 0] 66) = W0 at hB2 hk3 ⊢
            have HK3 := Lib.hid hk3
            clear hk3
            go_quiet (fail)
            rename_i nq
            have hz : Below W0.heap.size W0 (W0.drewN nq) := below_drewN' _ _
            have r3 := blk_keep HK3.out hz
            obtain ⟨r0, r1, r2, r3', r4, r5⟩ := cells6 r3
            have f0 := free_of r3 0
            have f1 := free_of r3 1
            have f2 := free_of r3 2
            have f3 := free_of r3 3
            have f4 := free_of r3 4
            have f5 := free_of r3 5
            clear r3
            go_wp2
            refine bodyPost_ret (v := .tuple #[.agg #[.int .i64 0, .int .i64 0, .int .i64 0, .int .i64 0, .int .i64 0, .int .i64 0], .int .i64 3]) (by simp [results, Try.results71, go_sem, r0, r1, r2, r3', r4, r5]) rfl ⟨rfl, ?_⟩
            exact below_set6 (hB2.trans (hz.mono hB2.size)) (Nat.le_refl _)
end Go.Proofs.Ytacdohlhalnioaa

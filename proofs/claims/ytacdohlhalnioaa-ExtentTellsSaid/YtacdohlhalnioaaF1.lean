/- Contracts: the document's numbers of two bytes, and its inode of 64 bytes. -/
import Derived.Test.YtacdohlhalnioaaE1
import Derived.BigRegion
set_option linter.unusedVariables false
set_option maxRecDepth 20000
namespace Go.Proofs.Ytacdohlhalnioaa
open Go.RowKit
attribute [local go_sem] Oper.semAt_some

theorem wrap_i64 (n : Nat) (h : n < 4294967296) : IntKind.i64.wrap (n : Int) = (n : Int) := by simp [IntKind.wrap, IntKind.bits, IntKind.signed]; omega
set_option maxHeartbeats 1000000 in
theorem word_ok (s : Blk) (i : Nat) (w : World) (h : i + 1 < s.length) (hl : s.length ≤ 128) :
    Calls Try.prog 122 #[.string (mk s), .int .i64 i] w fun e w' => e = .returned (.int .i64 ((w2 s i : Nat) : Int)) ∧ w.drew = w' := by
  have h1 : (i : Int) < (s.length : Nat) := by omega
  have h2 : (i : Int) + 1 < (s.length : Nat) := by omega
  have hw : IntKind.i64.wrap ((i : Int) + 1) = (i : Int) + 1 := by simp [IntKind.wrap, IntKind.bits, IntKind.signed]; omega
  have ht : ((i : Int) + 1).toNat = i + 1 := by omega
  have hp : (0 : Int) ≤ (i : Int) + 1 := by omega
  have b0 := gb_lt s i
  have b1 := gb_lt s (i + 1)
  have hw2 : (gb s i : Int) + 256 * (gb s (i + 1) : Int) = ((w2 s i : Nat) : Int) := by rw [w2]; omega
  have hwl := w2_lt s i
  obtain ⟨x0, e0⟩ : ∃ x0, gb s i = x0 := ⟨_, rfl⟩
  obtain ⟨x1, e1⟩ : ∃ x1, gb s (i + 1) = x1 := ⟨_, rfl⟩
  obtain ⟨x2, e2⟩ : ∃ x2, w2 s i = x2 := ⟨_, rfl⟩
  rw [e0] at b0
  rw [e1] at b1
  rw [e0, e1, e2] at hw2
  rw [e2] at hwl ⊢
  have q0 : IntKind.i64.wrap (x0 : Int) = x0 := by simp [IntKind.wrap, IntKind.bits, IntKind.signed]; omega
  have q1 : IntKind.i64.wrap (x1 : Int) = x1 := by simp [IntKind.wrap, IntKind.bits, IntKind.signed]; omega
  have q2 : IntKind.i64.wrap (256 * (x1 : Int)) = 256 * x1 := by simp [IntKind.wrap, IntKind.bits, IntKind.signed]; omega
  have q3 : IntKind.i64.wrap (x2 : Int) = x2 := by simp [IntKind.wrap, IntKind.bits, IntKind.signed]; omega
  have E2 := Lib.hid e2
  clear e2
  go_enter Try.func122, Try.ntmps122
  go_wp2
  refine region_P (fun _ => True) [] (by kernel_rfl) ?_ (fun hHeld => ?_)
  · exact trivial
  refine wpP_take (i := 0) (oi := ?oi345001) (v := ?v345001) ?hi345001 (by kernel_rfl) (by kernel_rfl) (by kernel_rfl) (by kernel_rfl) ?hQ345001 ?hy345001 (by assumption) ?rest345001
  case hi345001 => (simp only [List.getElem?_toArray, List.getElem?_cons_succ, List.getElem?_cons_zero]; exact rfl)
  case hQ345001 => exact fun _ _ _ h => h
  case hy345001 => (refine Or.inl ⟨by kernel_rfl, ?_⟩; intro w hSw; (try dsimp only at hSw); go_simp; try (with_reducible rfl))
  try simp only [Act.put, List.setIfInBounds_toArray, List.set_cons_zero, List.set_cons_succ]
  refine wpP_take (i := 1) (oi := ?oi345002) (v := ?v345002) ?hi345002 (by kernel_rfl) (by kernel_rfl) (by kernel_rfl) (by kernel_rfl) ?hQ345002 ?hy345002 (by assumption) ?rest345002
  case hi345002 => (simp only [List.getElem?_toArray, List.getElem?_cons_succ, List.getElem?_cons_zero]; exact rfl)
  case hQ345002 => exact fun _ _ _ h => h
  case hy345002 => (refine Or.inl ⟨by kernel_rfl, ?_⟩; intro w hSw; (try dsimp only at hSw); go_simp; try (with_reducible rfl))
  try simp only [Act.put, List.setIfInBounds_toArray, List.set_cons_zero, List.set_cons_succ]
  refine wpP_take (i := 2) (oi := ?oi345003) (v := ?v345003) ?hi345003 (by kernel_rfl) (by kernel_rfl) (by kernel_rfl) (by kernel_rfl) ?hQ345003 ?hy345003 (by assumption) ?rest345003
  case hi345003 => (simp only [List.getElem?_toArray, List.getElem?_cons_succ, List.getElem?_cons_zero]; exact rfl)
  case hQ345003 => exact fun _ _ _ h => h
  case hy345003 => (refine Or.inl ⟨by kernel_rfl, ?_⟩; intro w hSw; (try dsimp only at hSw); go_simp; try (with_reducible rfl))
  try simp only [Act.put, List.setIfInBounds_toArray, List.set_cons_zero, List.set_cons_succ]
  refine wpP_take (i := 3) (oi := ?oi345004) (v := ?v345004) ?hi345004 (by kernel_rfl) (by kernel_rfl) (by kernel_rfl) (by kernel_rfl) ?hQ345004 ?hy345004 (by assumption) ?rest345004
  case hi345004 => (simp only [List.getElem?_toArray, List.getElem?_cons_succ, List.getElem?_cons_zero]; exact rfl)
  case hQ345004 => exact fun _ _ _ h => h
  case hy345004 => (refine Or.inl ⟨by kernel_rfl, ?_⟩; intro w hSw; (try dsimp only at hSw); go_simp; try (with_reducible rfl))
  try simp only [Act.put, List.setIfInBounds_toArray, List.set_cons_zero, List.set_cons_succ]
  refine wpP_take (i := 4) (oi := ?oi345005) (v := ?v345005) ?hi345005 (by kernel_rfl) (by kernel_rfl) (by kernel_rfl) (by kernel_rfl) ?hQ345005 ?hy345005 (by assumption) ?rest345005
  case hi345005 => (simp only [List.getElem?_toArray, List.getElem?_cons_succ, List.getElem?_cons_zero]; exact rfl)
  case hQ345005 => exact fun _ _ _ h => h
  case hy345005 => (refine Or.inl ⟨by kernel_rfl, ?_⟩; intro w hSw; (try dsimp only at hSw); go_simp; try (with_reducible rfl))
  try simp only [Act.put, List.setIfInBounds_toArray, List.set_cons_zero, List.set_cons_succ]
  refine wpP_take (i := 5) (oi := ?oi345006) (v := ?v345006) ?hi345006 (by kernel_rfl) (by kernel_rfl) (by kernel_rfl) (by kernel_rfl) ?hQ345006 ?hy345006 (by assumption) ?rest345006
  case hi345006 => (simp only [List.getElem?_toArray, List.getElem?_cons_succ, List.getElem?_cons_zero]; exact rfl)
  case hQ345006 => exact fun _ _ _ h => h
  case hy345006 => (refine Or.inl ⟨by kernel_rfl, ?_⟩; intro w hSw; (try dsimp only at hSw); go_simp; try (with_reducible rfl))
  try simp only [Act.put, List.setIfInBounds_toArray, List.set_cons_zero, List.set_cons_succ]
  refine wpP_take (i := 6) (oi := ?oi345007) (v := ?v345007) ?hi345007 (by kernel_rfl) (by kernel_rfl) (by kernel_rfl) (by kernel_rfl) ?hQ345007 ?hy345007 (by assumption) ?rest345007
  case hi345007 => (simp only [List.getElem?_toArray, List.getElem?_cons_succ, List.getElem?_cons_zero]; exact rfl)
  case hQ345007 => exact fun _ _ _ h => h
  case hy345007 => (refine Or.inl ⟨by kernel_rfl, ?_⟩; intro w hSw; (try dsimp only at hSw); go_simp; try (with_reducible rfl))
  try simp only [Act.put, List.setIfInBounds_toArray, List.set_cons_zero, List.set_cons_succ]
  refine wpP_take (i := 7) (oi := ?oi345008) (v := ?v345008) ?hi345008 (by kernel_rfl) (by kernel_rfl) (by kernel_rfl) (by kernel_rfl) ?hQ345008 ?hy345008 (by assumption) ?rest345008
  case hi345008 => (simp only [List.getElem?_toArray, List.getElem?_cons_succ, List.getElem?_cons_zero]; exact rfl)
  case hQ345008 => exact fun _ _ _ h => h
  case hy345008 => (refine Or.inl ⟨by kernel_rfl, ?_⟩; intro w hSw; (try dsimp only at hSw); go_simp; try (with_reducible rfl))
  try simp only [Act.put, List.setIfInBounds_toArray, List.set_cons_zero, List.set_cons_succ]
  refine wpP_take (i := 8) (oi := ?oi345009) (v := ?v345009) ?hi345009 (by kernel_rfl) (by kernel_rfl) (by kernel_rfl) (by kernel_rfl) ?hQ345009 ?hy345009 (by assumption) ?rest345009
  case hi345009 => (simp only [List.getElem?_toArray, List.getElem?_cons_succ, List.getElem?_cons_zero]; exact rfl)
  case hQ345009 => exact fun _ _ _ h => h
  case hy345009 => (refine Or.inl ⟨by kernel_rfl, ?_⟩; intro w hSw; (try dsimp only at hSw); go_simp; try (with_reducible rfl))
  try simp only [Act.put, List.setIfInBounds_toArray, List.set_cons_zero, List.set_cons_succ]
  refine wpP_take (i := 9) (oi := ?oi345010) (v := ?v345010) ?hi345010 (by kernel_rfl) (by kernel_rfl) (by kernel_rfl) (by kernel_rfl) ?hQ345010 ?hy345010 (by assumption) ?rest345010
  case hi345010 => (simp only [List.getElem?_toArray, List.getElem?_cons_succ, List.getElem?_cons_zero]; exact rfl)
  case hQ345010 => exact fun _ _ _ h => h
  case hy345010 => (refine Or.inl ⟨by kernel_rfl, ?_⟩; intro w hSw; (try dsimp only at hSw); go_simp; try (with_reducible rfl))
  try simp only [Act.put, List.setIfInBounds_toArray, List.set_cons_zero, List.set_cons_succ]
  refine wpP_take (i := 10) (oi := ?oi345011) (v := ?v345011) ?hi345011 (by kernel_rfl) (by kernel_rfl) (by kernel_rfl) (by kernel_rfl) ?hQ345011 ?hy345011 (by assumption) ?rest345011
  case hi345011 => (simp only [List.getElem?_toArray, List.getElem?_cons_succ, List.getElem?_cons_zero]; exact rfl)
  case hQ345011 => exact fun _ _ _ h => h
  case hy345011 => (refine Or.inl ⟨by kernel_rfl, ?_⟩; intro w hSw; (try dsimp only at hSw); go_simp; try (with_reducible rfl))
  try simp only [Act.put, List.setIfInBounds_toArray, List.set_cons_zero, List.set_cons_succ]
  refine wpP_take (i := 11) (oi := ?oi345012) (v := ?v345012) ?hi345012 (by kernel_rfl) (by kernel_rfl) (by kernel_rfl) (by kernel_rfl) ?hQ345012 ?hy345012 (by assumption) ?rest345012
  case hi345012 => (simp only [List.getElem?_toArray, List.getElem?_cons_succ, List.getElem?_cons_zero]; exact rfl)
  case hQ345012 => exact fun _ _ _ h => h
  case hy345012 => (refine Or.inl ⟨by kernel_rfl, ?_⟩; intro w hSw; (try dsimp only at hSw); go_simp; try (with_reducible rfl))
  try simp only [Act.put, List.setIfInBounds_toArray, List.set_cons_zero, List.set_cons_succ]
  refine wpP_done (by kernel_rfl) ?_ _
  go_wp2
  go_ret
  exact ⟨rfl, rfl⟩
set_option maxHeartbeats 1000000 in
theorem two_ok (s : Blk) (i : Nat) (w : World) (h : i + 1 < s.length) (hl : s.length ≤ 128) :
    Calls Try.prog 98 #[.string (mk s), .int .i64 i] w fun e w' => e = .returned (.int .i64 ((w2 s i : Nat) : Int)) ∧ w.drew = w' := by
  have h1 : (i : Int) < (s.length : Nat) := by omega
  have h2 : (i : Int) + 1 < (s.length : Nat) := by omega
  have hw : IntKind.i64.wrap ((i : Int) + 1) = (i : Int) + 1 := by simp [IntKind.wrap, IntKind.bits, IntKind.signed]; omega
  have ht : ((i : Int) + 1).toNat = i + 1 := by omega
  have hp : (0 : Int) ≤ (i : Int) + 1 := by omega
  have b0 := gb_lt s i
  have b1 := gb_lt s (i + 1)
  have hw2 : (gb s i : Int) + 256 * (gb s (i + 1) : Int) = ((w2 s i : Nat) : Int) := by rw [w2]; omega
  have hwl := w2_lt s i
  obtain ⟨x0, e0⟩ : ∃ x0, gb s i = x0 := ⟨_, rfl⟩
  obtain ⟨x1, e1⟩ : ∃ x1, gb s (i + 1) = x1 := ⟨_, rfl⟩
  obtain ⟨x2, e2⟩ : ∃ x2, w2 s i = x2 := ⟨_, rfl⟩
  rw [e0] at b0
  rw [e1] at b1
  rw [e0, e1, e2] at hw2
  rw [e2] at hwl ⊢
  have q0 : IntKind.i64.wrap (x0 : Int) = x0 := by simp [IntKind.wrap, IntKind.bits, IntKind.signed]; omega
  have q1 : IntKind.i64.wrap (x1 : Int) = x1 := by simp [IntKind.wrap, IntKind.bits, IntKind.signed]; omega
  have q2 : IntKind.i64.wrap (256 * (x1 : Int)) = 256 * x1 := by simp [IntKind.wrap, IntKind.bits, IntKind.signed]; omega
  have q3 : IntKind.i64.wrap (x2 : Int) = x2 := by simp [IntKind.wrap, IntKind.bits, IntKind.signed]; omega
  have E2 := Lib.hid e2
  clear e2
  go_enter Try.func98, Try.ntmps98
  go_wp2
  refine region_P (fun _ => True) [] (by kernel_rfl) ?_ (fun hHeld => ?_)
  · exact trivial
  refine wpP_take (i := 0) (oi := ?oi345013) (v := ?v345013) ?hi345013 (by kernel_rfl) (by kernel_rfl) (by kernel_rfl) (by kernel_rfl) ?hQ345013 ?hy345013 (by assumption) ?rest345013
  case hi345013 => (simp only [List.getElem?_toArray, List.getElem?_cons_succ, List.getElem?_cons_zero]; exact rfl)
  case hQ345013 => exact fun _ _ _ h => h
  case hy345013 => (refine Or.inl ⟨by kernel_rfl, ?_⟩; intro w hSw; (try dsimp only at hSw); go_simp; try (with_reducible rfl))
  try simp only [Act.put, List.setIfInBounds_toArray, List.set_cons_zero, List.set_cons_succ]
  refine wpP_take (i := 1) (oi := ?oi345014) (v := ?v345014) ?hi345014 (by kernel_rfl) (by kernel_rfl) (by kernel_rfl) (by kernel_rfl) ?hQ345014 ?hy345014 (by assumption) ?rest345014
  case hi345014 => (simp only [List.getElem?_toArray, List.getElem?_cons_succ, List.getElem?_cons_zero]; exact rfl)
  case hQ345014 => exact fun _ _ _ h => h
  case hy345014 => (refine Or.inl ⟨by kernel_rfl, ?_⟩; intro w hSw; (try dsimp only at hSw); go_simp; try (with_reducible rfl))
  try simp only [Act.put, List.setIfInBounds_toArray, List.set_cons_zero, List.set_cons_succ]
  refine wpP_take (i := 2) (oi := ?oi345015) (v := ?v345015) ?hi345015 (by kernel_rfl) (by kernel_rfl) (by kernel_rfl) (by kernel_rfl) ?hQ345015 ?hy345015 (by assumption) ?rest345015
  case hi345015 => (simp only [List.getElem?_toArray, List.getElem?_cons_succ, List.getElem?_cons_zero]; exact rfl)
  case hQ345015 => exact fun _ _ _ h => h
  case hy345015 => (refine Or.inl ⟨by kernel_rfl, ?_⟩; intro w hSw; (try dsimp only at hSw); go_simp; try (with_reducible rfl))
  try simp only [Act.put, List.setIfInBounds_toArray, List.set_cons_zero, List.set_cons_succ]
  refine wpP_take (i := 3) (oi := ?oi345016) (v := ?v345016) ?hi345016 (by kernel_rfl) (by kernel_rfl) (by kernel_rfl) (by kernel_rfl) ?hQ345016 ?hy345016 (by assumption) ?rest345016
  case hi345016 => (simp only [List.getElem?_toArray, List.getElem?_cons_succ, List.getElem?_cons_zero]; exact rfl)
  case hQ345016 => exact fun _ _ _ h => h
  case hy345016 => (refine Or.inl ⟨by kernel_rfl, ?_⟩; intro w hSw; (try dsimp only at hSw); go_simp; try (with_reducible rfl))
  try simp only [Act.put, List.setIfInBounds_toArray, List.set_cons_zero, List.set_cons_succ]
  refine wpP_take (i := 4) (oi := ?oi345017) (v := ?v345017) ?hi345017 (by kernel_rfl) (by kernel_rfl) (by kernel_rfl) (by kernel_rfl) ?hQ345017 ?hy345017 (by assumption) ?rest345017
  case hi345017 => (simp only [List.getElem?_toArray, List.getElem?_cons_succ, List.getElem?_cons_zero]; exact rfl)
  case hQ345017 => exact fun _ _ _ h => h
  case hy345017 => (refine Or.inl ⟨by kernel_rfl, ?_⟩; intro w hSw; (try dsimp only at hSw); go_simp; try (with_reducible rfl))
  try simp only [Act.put, List.setIfInBounds_toArray, List.set_cons_zero, List.set_cons_succ]
  refine wpP_take (i := 5) (oi := ?oi345018) (v := ?v345018) ?hi345018 (by kernel_rfl) (by kernel_rfl) (by kernel_rfl) (by kernel_rfl) ?hQ345018 ?hy345018 (by assumption) ?rest345018
  case hi345018 => (simp only [List.getElem?_toArray, List.getElem?_cons_succ, List.getElem?_cons_zero]; exact rfl)
  case hQ345018 => exact fun _ _ _ h => h
  case hy345018 => (refine Or.inl ⟨by kernel_rfl, ?_⟩; intro w hSw; (try dsimp only at hSw); go_simp; try (with_reducible rfl))
  try simp only [Act.put, List.setIfInBounds_toArray, List.set_cons_zero, List.set_cons_succ]
  refine wpP_take (i := 6) (oi := ?oi345019) (v := ?v345019) ?hi345019 (by kernel_rfl) (by kernel_rfl) (by kernel_rfl) (by kernel_rfl) ?hQ345019 ?hy345019 (by assumption) ?rest345019
  case hi345019 => (simp only [List.getElem?_toArray, List.getElem?_cons_succ, List.getElem?_cons_zero]; exact rfl)
  case hQ345019 => exact fun _ _ _ h => h
  case hy345019 => (refine Or.inl ⟨by kernel_rfl, ?_⟩; intro w hSw; (try dsimp only at hSw); go_simp; try (with_reducible rfl))
  try simp only [Act.put, List.setIfInBounds_toArray, List.set_cons_zero, List.set_cons_succ]
  refine wpP_take (i := 7) (oi := ?oi345020) (v := ?v345020) ?hi345020 (by kernel_rfl) (by kernel_rfl) (by kernel_rfl) (by kernel_rfl) ?hQ345020 ?hy345020 (by assumption) ?rest345020
  case hi345020 => (simp only [List.getElem?_toArray, List.getElem?_cons_succ, List.getElem?_cons_zero]; exact rfl)
  case hQ345020 => exact fun _ _ _ h => h
  case hy345020 => (refine Or.inl ⟨by kernel_rfl, ?_⟩; intro w hSw; (try dsimp only at hSw); go_simp; try (with_reducible rfl))
  try simp only [Act.put, List.setIfInBounds_toArray, List.set_cons_zero, List.set_cons_succ]
  refine wpP_take (i := 8) (oi := ?oi345021) (v := ?v345021) ?hi345021 (by kernel_rfl) (by kernel_rfl) (by kernel_rfl) (by kernel_rfl) ?hQ345021 ?hy345021 (by assumption) ?rest345021
  case hi345021 => (simp only [List.getElem?_toArray, List.getElem?_cons_succ, List.getElem?_cons_zero]; exact rfl)
  case hQ345021 => exact fun _ _ _ h => h
  case hy345021 => (refine Or.inl ⟨by kernel_rfl, ?_⟩; intro w hSw; (try dsimp only at hSw); go_simp; try (with_reducible rfl))
  try simp only [Act.put, List.setIfInBounds_toArray, List.set_cons_zero, List.set_cons_succ]
  refine wpP_take (i := 9) (oi := ?oi345022) (v := ?v345022) ?hi345022 (by kernel_rfl) (by kernel_rfl) (by kernel_rfl) (by kernel_rfl) ?hQ345022 ?hy345022 (by assumption) ?rest345022
  case hi345022 => (simp only [List.getElem?_toArray, List.getElem?_cons_succ, List.getElem?_cons_zero]; exact rfl)
  case hQ345022 => exact fun _ _ _ h => h
  case hy345022 => (refine Or.inl ⟨by kernel_rfl, ?_⟩; intro w hSw; (try dsimp only at hSw); go_simp; try (with_reducible rfl))
  try simp only [Act.put, List.setIfInBounds_toArray, List.set_cons_zero, List.set_cons_succ]
  refine wpP_take (i := 10) (oi := ?oi345023) (v := ?v345023) ?hi345023 (by kernel_rfl) (by kernel_rfl) (by kernel_rfl) (by kernel_rfl) ?hQ345023 ?hy345023 (by assumption) ?rest345023
  case hi345023 => (simp only [List.getElem?_toArray, List.getElem?_cons_succ, List.getElem?_cons_zero]; exact rfl)
  case hQ345023 => exact fun _ _ _ h => h
  case hy345023 => (refine Or.inl ⟨by kernel_rfl, ?_⟩; intro w hSw; (try dsimp only at hSw); go_simp; try (with_reducible rfl))
  try simp only [Act.put, List.setIfInBounds_toArray, List.set_cons_zero, List.set_cons_succ]
  refine wpP_take (i := 11) (oi := ?oi345024) (v := ?v345024) ?hi345024 (by kernel_rfl) (by kernel_rfl) (by kernel_rfl) (by kernel_rfl) ?hQ345024 ?hy345024 (by assumption) ?rest345024
  case hi345024 => (simp only [List.getElem?_toArray, List.getElem?_cons_succ, List.getElem?_cons_zero]; exact rfl)
  case hQ345024 => exact fun _ _ _ h => h
  case hy345024 => (refine Or.inl ⟨by kernel_rfl, ?_⟩; intro w hSw; (try dsimp only at hSw); go_simp; try (with_reducible rfl))
  try simp only [Act.put, List.setIfInBounds_toArray, List.set_cons_zero, List.set_cons_succ]
  refine wpP_done (by kernel_rfl) ?_ _
  go_wp2
  go_ret
  exact ⟨rfl, rfl⟩
end Go.Proofs.Ytacdohlhalnioaa
